/- What the rows of this claim use, out of the texts of this work (RF, OU, RX). No condition beyond those that each statement names. -/
import Derived.Test.YtenbkljgmgdegaaQwRP
import Derived.Test.YtenbkljgmgdegaaQwOV
import Derived.Test.YtenbkljgmgdegaaQwOH
import Derived.Test.YtenbkljgmgdegaaQwOF
section
namespace Go.Proofs.Ytenbkljgmgdegaa.PO
open Go.RowKit Go.Proofs.YtenbkljgmgdegaaW.PrintWords Go.Proofs.YtenbkljgmgdegaaW.PrintLast Go.Proofs.YtenbkljgmgdegaaW.PrintMore Go.Proofs.Ytenbkljgmgdegaa.XW
open Go.Proofs.Ytenbkljgmgdegaa.XRange Go.Proofs.Ytenbkljgmgdegaa.XMap Go.Proofs.Ytenbkljgmgdegaa.XSeq
set_option linter.unusedVariables false
set_option linter.unusedSimpArgs false
theorem tkNum_f (b : List Int) (hB : isB b) (hb : b.length ≤ 140737488355300) (most p : Int) (bad : Bool) (k : Nat) (hk : 60 ≤ k) : tkNum k most b p (!bad) = some ((numT b most p bad).1, (numT b most p bad).2.1, !(numT b most p bad).2.2) := by
 unfold tkNum numT
 rw [refTakeNumber_f b hB hb p k hk, Option.bind_some]
 cases bad with
 | true => rfl
 | false =>
   by_cases h0 : (takeS b p).2.2 = 0
   · have := takeS_ok hB h0
     by_cases h1 : (takeS b p).1 > most
     · simp [h0, h1]
     · simp [h0, h1, this.2.2.1]
   · simp [h0]
theorem refTakeText32_f (b : List Int) (hB : isB b) (hb : b.length ≤ 140737488355300) (p : Int) (k : Nat) (hk : 60 ≤ k) : pannierref02_TakeText.f k b p 32 = some (text32 b p) := by
 unfold pannierref02_TakeText.f text32
 rw [refTakeNumber_f b hB hb p k hk, Option.bind_some]
 by_cases h : (takeS b p).2.2 = 0
 case neg => rw [if_neg h, if_neg h]
 have ho := takeS_ok hB h
 rw [if_pos h, if_pos h, if_neg (by decide), u_id (u := 32) (by omega) (by omega)]
 by_cases h1 : (takeS b p).1 > 32
 · rw [if_pos h1, if_pos h1]
 rw [if_neg h1, if_neg h1, w_id (u := (b.length : Int) - (takeS b p).2.1) (by omega), u_id (by omega) (by omega)]
 by_cases h2 : (takeS b p).1 > (b.length : Int) - (takeS b p).2.1
 · rw [if_pos h2, if_pos h2]
 rw [if_neg h2, if_neg h2, if_pos (by omega), w_id (u := (takeS b p).1) (by omega), w_id (by omega), if_pos (by omega), if_pos (by omega)]
theorem tkText32_f (b : List Int) (hB : isB b) (hb : b.length ≤ 140737488355300) (p : Int) (bad : Bool) (k : Nat) (hk : 60 ≤ k) : tkText k 32 b p (!bad) = some ((texR b p bad).1, (texR b p bad).2.1, !(texR b p bad).2.2) := by
 unfold tkText texR
 rw [refTakeText32_f b hB hb p k hk, Option.bind_some]
 cases bad with
 | true => rfl
 | false => by_cases h0 : (text32 b p).2.2 = 0 <;> simp [h0]
theorem tkText24_f (b : List Int) (hB : isB b) (hb : b.length ≤ 140737488355300) (p : Int) (bad : Bool) (k : Nat) (hk : 60 ≤ k) : tkText k 24 b p (!bad) = some ((texD b p bad).1, (texD b p bad).2.1, !(texD b p bad).2.2) := by
 unfold tkText texD
 rw [refTakeText_f b hB hb p k hk, Option.bind_some]
 cases bad with
 | true => rfl
 | false => by_cases h0 : (textT b p).2.2 = 0 <;> simp [h0]
theorem tkDot_f (b : List Int) (hB : isB b) (hb : b.length ≤ 140737488355300) (p : Int) (bad : Bool) (k : Nat) (hk : 60 ≤ k) : tkDot k b p (!bad) = some ((dotT b p bad).1.f0, (dotT b p bad).1.f1, (dotT b p bad).2.1, !(dotT b p bad).2.2) := by
 unfold tkDot
 rw [tkText24_f b hB hb p bad k hk, Option.bind_some, tkNum_f b hB hb _ _ _ k hk, Option.bind_some]
 rfl
theorem numT_range (b : List Int) (hB : isB b) (most p : Int) (bad : Bool) (h0 : 0 ≤ most) : 0 ≤ (numT b most p bad).1 ∧ (numT b most p bad).1 ≤ most := by
 unfold numT
 split
 · exact ⟨Int.le_refl _, h0⟩
 · split
   · rename_i q
     have := takeS_ok hB q
     split
     · exact ⟨Int.le_refl _, h0⟩
     · exact ⟨this.2.2.1, by show (takeS b p).1 ≤ most; omega⟩
   · exact ⟨Int.le_refl _, h0⟩
theorem texD_size (b : List Int) (hB : isB b) (p : Int) (bad : Bool) : (texD b p bad).1.size ≤ 24 := by
 unfold texD
 split
 · exact Nat.zero_le _
 · split
   · rename_i q
     exact (text_is hB q).2.2.1
   · exact Nat.zero_le _
theorem seenT_sizes (b : List Int) (hB : isB b) : ∀ (c : Nat) (p : Int) (bad : Bool) (v : List S34), sizes 1000 v → sizes 1000 (seenT b c p bad v).1
 | 0, p, bad, v, h => h
 | c + 1, p, true, v, h => by rw [seenT_bad]; exact h
 | c + 1, p, false, v, h => by
   rw [seenT_s]
   refine seenT_sizes b hB c _ _ _ (fun x hx => ?_)
   rcases List.mem_append.1 hx with hx | hx
   · exact h x hx
   · rw [List.mem_singleton.1 hx]
     have := texD_size b hB p false
     show (texD b p false).1.size ≤ 1000
     omega
structure RQ (w wq : World) (G g N : Nat) (A : Option Addr) (c : Nat) (l : List Int) (p : Int) (b : Bool) (cs : Array Value) : Prop where
 rd : wq.heap[g]? = some (.cells #[.slice A l.length c, .int .i64 p, .bool (!b)] 122 (0, 0))
 ob : wq.heap[N]? = some (.cells cs 36 (0, 0))
 gb : wq.heap[G]? = some (.cells #[.string ⟨#[]⟩, .int .i64 0, .slice none 0 0, .string ⟨#[]⟩, .int .i64 0, .string ⟨#[]⟩, .int .i64 0, .slice none 0 0] 36 (0, 0))
 ft : Kd.F (Kd.int .u8) wq (fun k => k < g) A l.length l
 bl : Below w.heap.size w wq
 le : l.length ≤ c
 lg : G < g
 ln : g < N
 lw : w.heap.size ≤ G
section
variable {w wq w1 : World} {G g N : Nat} {A : Option Addr} {c : Nat} {l : List Int} {p p' : Int} {b b' : Bool} {cs : Array Value}
theorem RQ.rdAt (h : RQ w wq G g N A c l p b cs) : RdAt 122 wq g A c l p (!b) := ⟨h.rd, h.le, Kd.F_mono h.ft (fun k hk => by have : k < g := hk; omega)⟩
theorem RQ.keeps (h : RQ w wq G g N A c l p b cs) (hk : Keeps (fun k => g ≤ k) wq w1) (h1 : w1.heap[g]? = some (.cells #[.slice A l.length c, .int .i64 p', .bool (!b')] 122 (0, 0))) {cs' : Array Value} (h2 : w1.heap[N]? = some (.cells cs' 36 (0, 0))) : RQ w w1 G g N A c l p' b' cs' :=
 ⟨h1, h2, (hk.block G (blk_lt h.gb) (by have := h.lg; omega)).trans h.gb, Kd.F_step h.ft (fun k hk' hlt => hk.block k hlt (by have h3 : k < g := hk'; omega)),
  below_keeps h.bl (M := fun k => g ≤ k) (fun k hk => by have := h.lw; have := h.lg; have h3 : g ≤ k := hk; omega) h.bl.size hk, h.le, h.lg, h.ln, h.lw⟩
theorem RQ.grown (h : RQ w wq G g N A c l p b cs) {row : Option Nat} (hg : wq.grownBy w1 row) (hr : ∀ k, row = some k → N < k) : RQ w w1 G g N A c l p b cs :=
 h.keeps (keeps_weak (keeps_grown hg) (fun k hk => by have := hr k hk.symm; have := h.ln; omega)) (blk_grown h.rd hg (fun e => by have := hr g e.symm; have := h.ln; omega)) (blk_grown h.ob hg (fun e => by have := hr N e.symm; omega))
theorem RQ.after (h : RQ w wq G g N A c l p b cs) (hs : RdAt 122 w1 g A c l p' (!b')) (hk : Keeps (fun k => k = g) wq w1) : RQ w w1 G g N A c l p' b' cs :=
 h.keeps (keeps_weak hk (fun k h => by subst h; exact Nat.le_refl _)) hs.blk ((hk.block N (blk_lt h.ob) (by have := h.ln; omega)).trans h.ob)
theorem RQ.below (h : RQ w wq G g N A c l p b cs) (hb : Below wq.heap.size wq w1) : RQ w w1 G g N A c l p b cs :=
 h.keeps (keeps_weak (Keeps.of_below hb (M := fun _ => False)) (fun _ f => f.elim)) (blk_below h.rd hb) (blk_below h.ob hb)
theorem RQ.setN (h : RQ w wq G g N A c l p b cs) (i : Nat) (u : Value) : RQ w (wq.setCell ⟨N, i, none⟩ u) G g N A c l p b (cs.setIfInBounds i u) :=
 h.keeps (Keeps.setCell (M := fun k => g ≤ k) (Keeps.refl _ wq) (p := ⟨N, i, none⟩) (.inl (by have := h.ln; show g ≤ N; omega)) u) (blk_far h.rd (show g ≠ N by have := h.ln; omega) u) (blk_set h.ob i u)
theorem RQ.setp (h : RQ w wq G g N A c l p b cs) (a' : Int) : RQ w (wq.setCell ⟨g, 1, none⟩ (.int .i64 a')) G g N A c l a' b cs :=
 h.keeps (Keeps.setCell (M := fun k => g ≤ k) (Keeps.refl _ wq) (p := ⟨g, 1, none⟩) (.inl (Nat.le_refl _)) _) (blk_set h.rd 1 _) (blk_far h.ob (show N ≠ g by have := h.ln; omega) _)
end
set_option maxHeartbeats 8000000 in
set_option maxRecDepth 100000 in
theorem read44 (w : World) (s : ByteArray) (hs : s.size ≤ 140737488351232) :
 Calls Try.prog 44 #[.string s] w fun e w' => ∃ v2 v7, e = .returned (.tuple #[.agg #[.string (refO (bytesOf s)).1.f0.f0, .int .i64 (refO (bytesOf s)).1.f0.f1, v2, .string (refO (bytesOf s)).1.f2, .int .i64 (refO (bytesOf s)).1.f3, .string (refO (bytesOf s)).1.f4, .int .i64 (refO (bytesOf s)).1.f5, v7], .int .i64 (refO (bytesOf s)).2]) ∧
  Kd.R k34 34 w' w.heap.size (fun _ => True) v2 (refO (bytesOf s)).1.f1 ∧ Kd.R k34 34 w' w.heap.size (fun _ => True) v7 (refO (bytesOf s)).1.f6 ∧ Below w.heap.size w w' := by
 go_enter Try.func44, Try.ntmps44
 go_wp2_with fail
 obtain ⟨w0, hw0⟩ : ∃ w0, w.alloc (.cells #[.string ⟨#[]⟩, .int .i64 0, .slice none 0 0, .string ⟨#[]⟩, .int .i64 0, .string ⟨#[]⟩, .int .i64 0, .slice none 0 0] 36) = w0 := ⟨_, rfl⟩
 obtain ⟨G, hG⟩ : ∃ G, w.heap.size = G := ⟨_, rfl⟩
 have hb0 : Below w.heap.size w w0 := by rw [← hw0]; exact (Below.refl _ w).alloc (Nat.le_refl _) _
 have hbk0 : w0.heap[G]? = some (.cells #[.string ⟨#[]⟩, .int .i64 0, .slice none 0 0, .string ⟨#[]⟩, .int .i64 0, .string ⟨#[]⟩, .int .i64 0, .slice none 0 0] 36 (0, 0)) := by rw [← hw0, ← hG]; exact World.alloc_heap_new w _
 rw [hw0, hG, Lib.run_convert_string_bytes _ 9 63 5 s Try.underlying9 Try.underlying63 Try.underlying5]
 obtain ⟨l, hl⟩ : ∃ l, bytesOf s = l := ⟨_, rfl⟩
 have hsl : s.size = l.length := by rw [← hl]; exact (bytesOf_length s).symm
 have hv := Kd.conv_V (W := w0) (e := 5) (base := 0) (ok := fun _ => True) s (fun _ _ => trivial) (by omega) (grownCap_ge w0 _ _ _)
 have hb1 := Kd.conv_below (W := w0) (w0 := w0) (base := w0.heap.size) 5 s (Below.refl _ _) (Nat.le_refl _)
 obtain ⟨w1, hw1⟩ : ∃ w1, Lib.bytesWorld w0 5 s = w1 := ⟨_, rfl⟩
 obtain ⟨A, hA⟩ : ∃ A, some (⟨w0.heap.size, 0, none⟩ : Addr) = A := ⟨_, rfl⟩
 obtain ⟨c, hcc⟩ : ∃ c, grownCap w0 s.size 0 5 = c := ⟨_, rfl⟩
 rw [hw1, hA, hcc, hl, hsl] at hv
 rw [hw1] at hb1
 rw [hw1, hA, hcc, hsl]
 have hlc : l.length ≤ c := by rw [← hcc, ← hsl]; exact grownCap_ge w0 _ _ _
 have hF := Kd.V_F hv
 clear hv hw1 hA hcc hw0
 have hB : isB l := by rw [← hl]; exact bytes_B s
 have hlm : l.length ≤ 140737488355300 := by omega
 have HB0 := Aside0.mk (hb0.trans (hb1.mono hb0.size))
 have HG0 := Aside0.mk (blk_below hbk0 hb1)
 have HF := Aside0.mk hF
 clear hF hbk0 hb1 hb0
 obtain ⟨w2, hw2⟩ : ∃ w2, w1.alloc (.cells #[.slice A l.length c, .int .i64 0, .bool true] 122) = w2 := ⟨_, rfl⟩
 obtain ⟨g, hg⟩ : ∃ g, w1.heap.size = g := ⟨_, rfl⟩
 have hb2 : Below w1.heap.size w1 w2 := by rw [← hw2]; exact (Below.refl _ w1).alloc (Nat.le_refl _) _
 have HS2 := Aside0.mk (show RdAt 122 w2 g A c l 0 true from by
  rw [← hw2, ← hg]
  exact ⟨World.alloc_heap_new w1 _, hlc, Kd.F_alloc (Kd.F_mono (Kd.F_bound HF.out) (fun k hk => by have := hk.2; omega)) _⟩)
 have HF2 := Aside0.mk (show Kd.F (Kd.int .u8) w2 (fun k => k < g) A l.length l from by rw [← hw2, ← hg]; exact Kd.F_alloc (Kd.F_mono (Kd.F_bound HF.out) (fun k hk => hk.2)) _)
 have HB2 := Aside0.mk (HB0.out.trans (hb2.mono HB0.out.size))
 have HG2 := Aside0.mk (blk_below HG0.out hb2)
 have HGG := Aside0.mk (show G < g from by rw [← hg]; exact blk_lt HG0.out)
 have HWG := Aside0.mk (show w.heap.size ≤ g from by rw [← hg]; exact HB0.out.size)
 have HGW := Aside0.mk (show w.heap.size ≤ G from by omega)
 clear hb2 HB0 HG0 HF
 go_wp2_with fail
 try rw [hw2]
 try rw [hg]
 clear hw2 hg
 refine (taker_dot 60 g A c l 0 true _ _ _ _ _ HS2.out (tkDot_f l hB hlm 0 false 60 (by omega))).mono ?_
 rintro e w3 ⟨rfl, hs3, hk3⟩
 obtain ⟨⟨d, p1, b1⟩, hd⟩ : ∃ x, dotT l 0 false = x := ⟨_, rfl⟩
 rw [hd] at hs3 ⊢
 dsimp only at hs3 ⊢
 have HD := Aside0.mk hd
 have HS3 := Aside0.mk hs3
 have HG3 := Aside0.mk ((hk3.block G (blk_lt HG2.out) (by have := HGG.out; omega)).trans HG2.out)
 have HB3 := Aside0.mk (below_keeps HB2.out (M := fun k => k = g) (fun k hk => by subst hk; exact HWG.out) HB2.out.size hk3)
 have HF3 := Aside0.mk (Kd.F_step HF2.out (fun k hk hlt => hk3.block k hlt (by have h3 : k < g := hk; omega)))
 clear hs3 hk3 hd HS2 HG2 HB2 HF2
 go_wp2_with fail
 obtain ⟨w4, hw4⟩ : ∃ w4, w3.alloc (.cells #[.string d.f0, .int .i64 d.f1, .slice none 0 0, .string ⟨#[]⟩, .int .i64 0, .string ⟨#[]⟩, .int .i64 0, .slice none 0 0] 36) = w4 := ⟨_, rfl⟩
 obtain ⟨N, hN⟩ : ∃ N, w3.heap.size = N := ⟨_, rfl⟩
 have hb4 : Below w3.heap.size w3 w4 := by rw [← hw4]; exact (Below.refl _ w3).alloc (Nat.le_refl _) _
 have HN4 := Aside0.mk (show w4.heap[N]? = some (.cells #[.string d.f0, .int .i64 d.f1, .slice none 0 0, .string ⟨#[]⟩, .int .i64 0, .string ⟨#[]⟩, .int .i64 0, .slice none 0 0] 36 (0, 0)) from by rw [← hw4, ← hN]; exact World.alloc_heap_new w3 _)
 try rw [hw4]
 try rw [hN]
 have HNg := Aside0.mk (show g < N from by rw [← hN]; exact blk_lt HS3.out.blk)
 have HS4 := Aside0.mk (HS3.out.keep (Keeps.of_below hb4 |> fun h => keeps_weak h (fun _ f => f)))
 have HG4 := Aside0.mk (blk_below HG3.out hb4)
 have HB4 := Aside0.mk (HB3.out.trans (hb4.mono HB3.out.size))
 have HF4 := Aside0.mk (Kd.F_below HF3.out hb4)
 clear hb4 hw4 hN HS3 HG3 HB3 HF3
 refine start_ (n := 16) (ds := []) (S := fun w' => w'.cell? ⟨g, 0, none⟩ = some (.slice A l.length c) ∧ w'.cell? ⟨g, 1, none⟩ = some (.int .i64 p1)) _ (by kernel_rfl) rfl rfl ⟨(blk_cell (blk_drew HS4.out.blk) 0).trans rfl, (blk_cell (blk_drew HS4.out.blk) 1).trans rfl⟩ (fun hH => ?_)
 refine XReg.pu 0 20 (h := ?_)
 refine XReg.pu 1 21 (h := ?_)
 refine XReg.pu 2 22 (h := ?_)
 refine XReg.tk 3 23 (h := ?_)
 refine XReg.pu 4 24 (h := ?_)
 refine XReg.pu 5 25 (h := ?_)
 refine XReg.pu 6 26 (h := ?_)
 refine XReg.tk 7 27 (h := ?_)
 refine XReg.one (i := 8) (some 28) rfl rfl (by kernel_rfl) (by decide) (fun Kc hKc => ?_)
 refine goes_ Try.func76 (by kernel_rfl) rfl #[.slice A l.length c, .int .i64 p1] (by rfl) rfl rfl (by (try simp only [List.map_toArray, List.map_cons, List.map_nil]); first | done | rfl) ?_
 obtain ⟨⟨V, p2, ve⟩, hV⟩ : ∃ x, vecS l p1 = x := ⟨_, rfl⟩
 refine (pannierref07_Take.calls (l.length + 401) A c l p1 V p2 ve _ (Kd.C_drew (Kd.F_now HS4.out.foot)) HS4.out.le (by rw [refTake_f l hB hlm p1 _ (by omega), hV])).mono ?_
 rintro e w5 ⟨vv, rfl, hr5, hb5⟩
 refine ⟨_, rfl, ?_⟩
 have hb5' : Below w4.heap.size w4 w5 := (below_drew1 (Below.refl _ w4)).trans hb5
 have HV := Aside0.mk hV
 have HS5 := Aside0.mk (HS4.out.keep (Keeps.of_below hb5'))
 have HG5 := Aside0.mk (blk_below HG4.out hb5')
 have HN5 := Aside0.mk (blk_below HN4.out hb5')
 have HB5 := Aside0.mk (HB4.out.trans (hb5'.mono HB4.out.size))
 have HR5 := Aside0.mk (show Kd.R k34 34 w5 (N + 1) (fun _ => True) vv V from Kd.R_lower hr5 (by have := blk_lt HN4.out; exact this))
 have HFT := Aside0.mk (Kd.F_below HF4.out hb5')
 refine hKc.out _ _ ⟨(blk_cell HS5.out.blk 0).trans rfl, (blk_cell HS5.out.blk 1).trans rfl⟩ (fun hH2 => ?_)
 clear hKc Kc hH hr5 hb5 hb5' hV HS4 HG4 HN4 HB4 HF4
 refine XReg.pu 9 19 (h := ?_)
 refine XReg.pu 10 29 (h := ?_)
 refine XReg.pu 11 30 (h := ?_)
 refine XReg.pu 12 31 (h := ?_)
 refine XReg.pu 13 6 (h := ?_)
 refine XReg.pu 14 7 (h := ?_)
 refine XReg.pu 15 8 (h := ?_)
 refine done_ (by kernel_rfl) ?_
 have c2 : w5.cell? ⟨g, 2, none⟩ = some (.bool (!b1)) := (blk_cell HS5.out.blk 2).trans rfl
 clear hH2
 by_cases hbad : b1 = true ∨ ve ≠ 0
 · have z0 : refO l = (z36, 80) := by
    unfold refO
    rw [HD.out]
    dsimp only
    rw [HV.out]
    rw [if_pos hbad]
   have Z0 := Aside0.mk z0
   clear z0
   obtain ⟨e0, e1, e2, e3, e4, e5, e6, e7⟩ := cells8 HG5.out
   have f0 := blk_frozen HG5.out 0
   have f1 := blk_frozen HG5.out 1
   have f2 := blk_frozen HG5.out 2
   have f3 := blk_frozen HG5.out 3
   have f4 := blk_frozen HG5.out 4
   have f5 := blk_frozen HG5.out 5
   have f6 := blk_frozen HG5.out 6
   have f7 := blk_frozen HG5.out 7
   cases b1 with
   | true =>
     go_wp2
     have h8 := set8 HG5.out (.string ⟨#[]⟩) (.int .i64 0) (.slice none 0 0) (.string ⟨#[]⟩) (.int .i64 0) (.string ⟨#[]⟩) (.int .i64 0) (.slice none 0 0)
     obtain ⟨k0, k1, k2, k3, k4, k5, k6, k7⟩ := cells8 h8
     have hk := below_keeps HB5.out (M := fun k => k = G) (fun k hk => by subst hk; exact HGW.out) HB5.out.size (keeps8 w5 G (.string ⟨#[]⟩) (.int .i64 0) (.slice none 0 0) (.string ⟨#[]⟩) (.int .i64 0) (.string ⟨#[]⟩) (.int .i64 0) (.slice none 0 0))
     try rw [hl]
     rw [Z0.out]
     try rw [hG] at hk
     try rw [hG]
     exact bodyPost_ret (v := .tuple #[.agg #[.string ⟨#[]⟩, .int .i64 0, .slice none 0 0, .string ⟨#[]⟩, .int .i64 0, .string ⟨#[]⟩, .int .i64 0, .slice none 0 0], .int .i64 80]) (by simp [results, Try.f44, go_sem, k0, k1, k2, k3, k4, k5, k6, k7]) rfl ⟨.slice none 0 0, .slice none 0 0, rfl, Kd.R_nil _ _ _ _ _, Kd.R_nil _ _ _ _ _, hk⟩
   | false =>
     have hve : (ve != 0) = true := by rcases hbad with h | h; cases h; simpa using h
     go_wp2
     have h8 := set8 HG5.out (.string ⟨#[]⟩) (.int .i64 0) (.slice none 0 0) (.string ⟨#[]⟩) (.int .i64 0) (.string ⟨#[]⟩) (.int .i64 0) (.slice none 0 0)
     obtain ⟨k0, k1, k2, k3, k4, k5, k6, k7⟩ := cells8 h8
     have hk := below_keeps HB5.out (M := fun k => k = G) (fun k hk => by subst hk; exact HGW.out) HB5.out.size (keeps8 w5 G (.string ⟨#[]⟩) (.int .i64 0) (.slice none 0 0) (.string ⟨#[]⟩) (.int .i64 0) (.string ⟨#[]⟩) (.int .i64 0) (.slice none 0 0))
     try rw [hl]
     rw [Z0.out]
     try rw [hG] at hk
     try rw [hG]
     exact bodyPost_ret (v := .tuple #[.agg #[.string ⟨#[]⟩, .int .i64 0, .slice none 0 0, .string ⟨#[]⟩, .int .i64 0, .string ⟨#[]⟩, .int .i64 0, .slice none 0 0], .int .i64 80]) (by simp [results, Try.f44, go_sem, k0, k1, k2, k3, k4, k5, k6, k7]) rfl ⟨.slice none 0 0, .slice none 0 0, rfl, Kd.R_nil _ _ _ _ _, Kd.R_nil _ _ _ _ _, hk⟩
 · have q1 : b1 = false := by cases b1 with | false => rfl | true => exact absurd (Or.inl rfl) hbad
   have q2 : ve = 0 := Classical.byContradiction (fun h => hbad (Or.inr h))
   subst q1
   subst q2
   have HBAD := Aside0.mk hbad
   clear hbad
   have HT5 := Aside0.mk (show RQ w w5 G g N A c l p1 false #[.string d.f0, .int .i64 d.f1, .slice none 0 0, .string ⟨#[]⟩, .int .i64 0, .string ⟨#[]⟩, .int .i64 0, .slice none 0 0] from
    ⟨HS5.out.blk, HN5.out, HG5.out, HFT.out, HB5.out, hlc, HGG.out, HNg.out, by have := HGW.out; exact this⟩)
   obtain ⟨Av, cv, rfl⟩ := Kd.R_slice HR5.out
   have e2 : w5.cell? ⟨N, 2, none⟩ = some (.slice none 0 0) := (blk_cell HN5.out 2).trans rfl
   have c1 : w5.cell? ⟨g, 1, none⟩ = some (.int .i64 p1) := (blk_cell HS5.out.blk 1).trans rfl
   have f2 := blk_frozen HN5.out 2
   have f1 := blk_frozen HS5.out.blk 1
   clear HS5 HN5 HG5 HB5
   go_wp2_with fail
   obtain ⟨w6, hw6⟩ : ∃ w6, (w5.setCell ⟨N, 2, none⟩ (.slice Av V.length cv)).setCell ⟨g, 1, none⟩ (.int .i64 p2) = w6 := ⟨_, rfl⟩
   rw [hw6]
   have HT6 := Aside0.mk (show RQ w w6 G g N A c l p2 false #[.string d.f0, .int .i64 d.f1, .slice Av V.length cv, .string ⟨#[]⟩, .int .i64 0, .string ⟨#[]⟩, .int .i64 0, .slice none 0 0] from by
    rw [← hw6]
    have h := (HT5.out.setN 2 (.slice Av V.length cv)).setp p2
    simp only [List.setIfInBounds_toArray, List.set_cons_zero, List.set_cons_succ] at h
    exact h)
   have HK6 := Aside0.mk (show Keeps (fun k => k = g ∨ k = N) w5 w6 from by
    rw [← hw6]
    exact Keeps.setCell (M := fun k => k = g ∨ k = N) (Keeps.setCell (M := fun k => k = g ∨ k = N) (Keeps.refl _ w5) (p := ⟨N, 2, none⟩) (.inl (.inr rfl)) _) (p := ⟨g, 1, none⟩) (.inl (.inl rfl)) _)
   have HML := Aside0.mk (show ∀ k, (k = g ∨ k = N) → k < N + 1 from fun k hk => by have := HNg.out; rcases hk with rfl | rfl <;> omega)
   have HML1 := Aside0.mk (show ∀ k, k = g → k < N + 1 from fun k hk => HML.out k (.inl hk))
   have HR6 := Aside0.mk (R_apart HR5.out HK6.out HML.out)
   clear e2 c1 f2 f1 c2 hw6 HT5 HR5 HK6 HFT HWG HGW
   obtain ⟨⟨sc, p3, b3⟩, hC⟩ : ∃ x, texR l p2 false = x := ⟨_, rfl⟩
   refine (taker_text 60 g 32 A c l p2 (!false) sc p3 (!b3) _ HT6.out.rdAt (by have h := tkText32_f l hB hlm p2 false 60 (by omega); rw [hC] at h; exact h)).mono ?_
   rintro e w7 ⟨rfl, hs7, hk7⟩
   have HT7 := Aside0.mk (HT6.out.after hs7 hk7)
   have HR7 := Aside0.mk (R_apart HR6.out hk7 HML1.out)
   have HC := Aside0.mk hC
   have e3 : w7.cell? ⟨N, 3, none⟩ = some (.string ⟨#[]⟩) := (blk_cell HT7.out.ob 3).trans rfl
   have f3 := blk_frozen HT7.out.ob 3
   clear hs7 hk7 HT6 HR6 hC
   go_wp2_with fail
   obtain ⟨w7s, hw7s⟩ : ∃ w7s, w7.setCell ⟨N, 3, none⟩ (.string sc) = w7s := ⟨_, rfl⟩
   rw [hw7s]
   have HT7s := Aside0.mk (show RQ w w7s G g N A c l p3 b3 #[.string d.f0, .int .i64 d.f1, .slice Av V.length cv, .string sc, .int .i64 0, .string ⟨#[]⟩, .int .i64 0, .slice none 0 0] from by
    rw [← hw7s]
    have h := HT7.out.setN 3 (.string sc)
    simp only [List.setIfInBounds_toArray, List.set_cons_zero, List.set_cons_succ] at h
    exact h)
   have HR7s := Aside0.mk (R_apart HR7.out (show Keeps (fun k => k = g ∨ k = N) w7 w7s from by
    rw [← hw7s]
    exact Keeps.setCell (M := fun k => k = g ∨ k = N) (Keeps.refl _ w7) (p := ⟨N, 3, none⟩) (.inl (.inr rfl)) _) HML.out)
   clear e3 f3 hw7s HT7 HR7
   obtain ⟨⟨si, p4, b4⟩, hI⟩ : ∃ x, texR l p3 b3 = x := ⟨_, rfl⟩
   refine (taker_text 60 g 32 A c l p3 (!b3) si p4 (!b4) _ HT7s.out.rdAt (by have h := tkText32_f l hB hlm p3 b3 60 (by omega); rw [hI] at h; exact h)).mono ?_
   rintro e w8 ⟨rfl, hs8, hk8⟩
   have HT8 := Aside0.mk (HT7s.out.after hs8 hk8)
   have HR8 := Aside0.mk (R_apart HR7s.out hk8 HML1.out)
   have HI := Aside0.mk hI
   have e5 : w8.cell? ⟨N, 5, none⟩ = some (.string ⟨#[]⟩) := (blk_cell HT8.out.ob 5).trans rfl
   have f5 := blk_frozen HT8.out.ob 5
   clear hs8 hk8 HT7s HR7s hI
   go_wp2_with fail
   obtain ⟨w8s, hw8s⟩ : ∃ w8s, w8.setCell ⟨N, 5, none⟩ (.string si) = w8s := ⟨_, rfl⟩
   rw [hw8s]
   have HT8s := Aside0.mk (show RQ w w8s G g N A c l p4 b4 #[.string d.f0, .int .i64 d.f1, .slice Av V.length cv, .string sc, .int .i64 0, .string si, .int .i64 0, .slice none 0 0] from by
    rw [← hw8s]
    have h := HT8.out.setN 5 (.string si)
    simp only [List.setIfInBounds_toArray, List.set_cons_zero, List.set_cons_succ] at h
    exact h)
   have HR8s := Aside0.mk (R_apart HR8.out (show Keeps (fun k => k = g ∨ k = N) w8 w8s from by
    rw [← hw8s]
    exact Keeps.setCell (M := fun k => k = g ∨ k = N) (Keeps.refl _ w8) (p := ⟨N, 5, none⟩) (.inl (.inr rfl)) _) HML.out)
   clear e5 f5 hw8s HT8 HR8
   obtain ⟨⟨kd, p5, b5⟩, hK⟩ : ∃ x, numT l 3 p4 b4 = x := ⟨_, rfl⟩
   refine (taker_number 60 g 3 (by omega) A c l p4 (!b4) kd p5 (!b5) _ HT8s.out.rdAt (by have h := tkNum_f l hB hlm 3 p4 b4 60 (by omega); rw [hK] at h; exact h)).mono ?_
   rintro e w9 ⟨rfl, hs9, hk9⟩
   have HT9 := Aside0.mk (HT8s.out.after hs9 hk9)
   have HR9 := Aside0.mk (R_apart HR8s.out hk9 HML1.out)
   have HK := Aside0.mk hK
   have HRGK := Aside0.mk (show 0 ≤ kd ∧ kd ≤ 3 from by have h := numT_range l hB 3 p4 b4 (by omega); rw [hK] at h; exact h)
   have e4 : w9.cell? ⟨N, 4, none⟩ = some (.int .i64 0) := (blk_cell HT9.out.ob 4).trans rfl
   have f4 := blk_frozen HT9.out.ob 4
   clear hs9 hk9 HT8s HR8s hK
   go_wp2_with fail
   obtain ⟨w9s, hw9s⟩ : ∃ w9s, w9.setCell ⟨N, 4, none⟩ (.int .i64 kd) = w9s := ⟨_, rfl⟩
   rw [hw9s]
   have HT9s := Aside0.mk (show RQ w w9s G g N A c l p5 b5 #[.string d.f0, .int .i64 d.f1, .slice Av V.length cv, .string sc, .int .i64 kd, .string si, .int .i64 0, .slice none 0 0] from by
    rw [← hw9s]
    have h := HT9.out.setN 4 (.int .i64 kd)
    simp only [List.setIfInBounds_toArray, List.set_cons_zero, List.set_cons_succ] at h
    exact h)
   have HR9s := Aside0.mk (R_apart HR9.out (show Keeps (fun k => k = g ∨ k = N) w9 w9s from by
    rw [← hw9s]
    exact Keeps.setCell (M := fun k => k = g ∨ k = N) (Keeps.refl _ w9) (p := ⟨N, 4, none⟩) (.inl (.inr rfl)) _) HML.out)
   clear e4 f4 hw9s HT9 HR9
   obtain ⟨⟨q, p6, b6⟩, hQ⟩ : ∃ x, numT l 9999 p5 b5 = x := ⟨_, rfl⟩
   refine (taker_number 60 g 9999 (by omega) A c l p5 (!b5) q p6 (!b6) _ HT9s.out.rdAt (by have h := tkNum_f l hB hlm 9999 p5 b5 60 (by omega); rw [hQ] at h; exact h)).mono ?_
   rintro e wa ⟨rfl, hsa, hka⟩
   have HTa := Aside0.mk (HT9s.out.after hsa hka)
   have HRa := Aside0.mk (R_apart HR9s.out hka HML1.out)
   have HQ := Aside0.mk hQ
   have HRGQ := Aside0.mk (show 0 ≤ q ∧ q ≤ 9999 from by have h := numT_range l hB 9999 p5 b5 (by omega); rw [hQ] at h; exact h)
   have e6 : wa.cell? ⟨N, 6, none⟩ = some (.int .i64 0) := (blk_cell HTa.out.ob 6).trans rfl
   have f6 := blk_frozen HTa.out.ob 6
   clear hsa hka HT9s HR9s hQ
   go_wp2_with fail
   obtain ⟨was, hwas⟩ : ∃ was, wa.setCell ⟨N, 6, none⟩ (.int .i64 q) = was := ⟨_, rfl⟩
   rw [hwas]
   have HTas := Aside0.mk (show RQ w was G g N A c l p6 b6 #[.string d.f0, .int .i64 d.f1, .slice Av V.length cv, .string sc, .int .i64 kd, .string si, .int .i64 q, .slice none 0 0] from by
    rw [← hwas]
    have h := HTa.out.setN 6 (.int .i64 q)
    simp only [List.setIfInBounds_toArray, List.set_cons_zero, List.set_cons_succ] at h
    exact h)
   have HRas := Aside0.mk (R_apart HRa.out (show Keeps (fun k => k = g ∨ k = N) wa was from by
    rw [← hwas]
    exact Keeps.setCell (M := fun k => k = g ∨ k = N) (Keeps.refl _ wa) (p := ⟨N, 6, none⟩) (.inl (.inr rfl)) _) HML.out)
   clear e6 f6 hwas HTa HRa
   obtain ⟨⟨m, p7, b7⟩, hM⟩ : ∃ x, numT l 128 p6 b6 = x := ⟨_, rfl⟩
   refine (taker_number 60 g 128 (by omega) A c l p6 (!b6) m p7 (!b7) _ HTas.out.rdAt (by have h := tkNum_f l hB hlm 128 p6 b6 60 (by omega); rw [hM] at h; exact h)).mono ?_
   rintro e wd ⟨rfl, hsd, hkd⟩
   have HTd := Aside0.mk (HTas.out.after hsd hkd)
   have HRd := Aside0.mk (R_apart HRas.out hkd HML1.out)
   have HM := Aside0.mk hM
   have HRGM := Aside0.mk (show 0 ≤ m ∧ m ≤ 128 from by have h := numT_range l hB 128 p6 b6 (by omega); rw [hM] at h; exact h)
   clear hsd hkd HTas HRas hM
   obtain ⟨M, rfl⟩ : ∃ M : Nat, m = M := ⟨m.toNat, by have := HRGM.out; omega⟩
   have hml : M ≤ 128 := by have := HRGM.out.2; omega
   go_wp2
   go_loopw [10] (fun v10 wr => ∃ i : Nat, v10 = .int .i64 i ∧ i ≤ M ∧ Aside0 (∃ (p : Int) (b : Bool) (sn : List S34) (A7 : Option Addr) (c7 : Nat),
    RQ w wr G g N A c l p b #[.string d.f0, .int .i64 d.f1, .slice Av V.length cv, .string sc, .int .i64 kd, .string si, .int .i64 q, .slice A7 i c7] ∧ sn.length = i ∧ seenT l M p7 b7 [] = seenT l (M - i) p b sn ∧
    Kd.R k34 34 wr (N + 1) (fun k => some k ≠ (Value.slice A7 i c7).ownBlock) (.slice Av V.length cv) V ∧ Kd.R k34 34 wr (N + 1) (fun k => some k ≠ (Value.slice Av V.length cv).ownBlock) (.slice A7 i c7) sn)) (fun v10 _ => M - (intOf v10).toNat)
   case atStart => exact ⟨0, rfl, by omega, ⟨p7, b7, [], none, 0, HTd.out, rfl, rfl, Kd.R_mono HRd.out (fun k _ => by simp [Value.ownBlock]), Kd.R_nil _ _ _ _ _⟩⟩
   case round =>
    clear HTd HRd
    obtain ⟨i, rfl, hile, HI0⟩ := hrel
    obtain ⟨p, b, sn, A7, c7, ht, hsn, hse, hrv, hr7⟩ := HI0.out
    have HT := Aside0.mk ht
    have HSN := Aside0.mk hsn
    have HSE := Aside0.mk hse
    have HRV := Aside0.mk hrv
    have HR7 := Aside0.mk hr7
    have c2 : wr.cell? ⟨g, 2, none⟩ = some (.bool (!b)) := (blk_cell ht.rd 2).trans rfl
    clear ht hsn hse hrv hr7 HI0
    by_cases hlt : i < M ∧ b = false
    · obtain ⟨hlt, rfl⟩ := hlt
      go_wp2
      refine start_ (n := 8) (ds := [7]) (S := fun w' => w'.cell? ⟨N, 7, none⟩ = some (.slice A7 i c7)) _ (by kernel_rfl) rfl rfl ((blk_cell (blk_drew HT.out.ob) 7).trans rfl) (fun hH => ?_)
      refine XReg.pu 0 73 (h := ?_)
      refine XReg.tk 1 74 (h := ?_)
      refine XReg.pu 2 75 (h := ?_)
      have hbd : Below wr.heap.size wr wr.drew := below_drew1 (Below.refl _ wr)
      have HTd := Aside0.mk (HT.out.below hbd)
      obtain ⟨⟨dd, pp, bb⟩, hdd⟩ : ∃ x, dotT l p false = x := ⟨_, rfl⟩
      refine XReg.one (i := 3) (some 76) rfl rfl (by kernel_rfl) (by decide) (fun Kc hKc => ?_)
      refine goes_ Try.func99 (by kernel_rfl) rfl #[.pointer (some ⟨g, 0, none⟩)] (by rfl) rfl rfl (by (try simp only [List.map_toArray, List.map_cons, List.map_nil]); first | done | rfl) ?_
      refine (taker_dot 60 g A c l p true dd.f0 dd.f1 pp (!bb) _ HTd.out.rdAt (by have h := tkDot_f l hB hlm p false 60 (by omega); rw [hdd] at h; exact h)).mono ?_
      rintro e wf ⟨rfl, hsf, hkf⟩
      refine ⟨_, rfl, ?_⟩
      have HTf := Aside0.mk (HTd.out.after hsf hkf)
      have hkf' : Keeps (fun k => k = g) wr wf := (Keeps.of_below hbd).trans hkf
      have HRVf := Aside0.mk (R_apart HRV.out hkf' HML1.out)
      have HR7f := Aside0.mk (R_apart HR7.out hkf' HML1.out)
      refine hKc.out _ _ ((blk_cell HTf.out.ob 7).trans rfl) (fun hH2 => ?_)
      clear hKc Kc hH hsf hkf hkf' hbd HTd HT HRV HR7
      refine XReg.one (i := 4) (some 77) rfl rfl (by kernel_rfl) (by decide) (fun Kc hKc => ?_)
      go_simp
      refine hKc.out _ _ ((blk_cell (blk_alloc HTf.out.ob _) 7).trans rfl) (fun hH3 => ?_)
      clear hKc Kc hH2 hH3
      have hsnl := HSN.out
      refine XReg.one (i := 5) (some 78) rfl rfl (by kernel_rfl) (by decide) (fun Kc hKc => ?_)
      refine Kd.R_append_step k34 (w0 := wf) (N + 1) (by rfl) (.tmp 74) (.tmp 77) 23 34 _ 24 rfl Try.underlying23 info34 rfl (by decide) (by omega) _ sn dd [.string dd.f0, .int .i64 dd.f1] (fun k => some k ≠ (Value.slice Av V.length cv).ownBlock) (fun _ => False) rfl rfl (k34_mkM _ _ _ dd) (fun _ h => h.elim)
       (fun k hk e => by have := Kd.R_lt HRVf.out k e.symm; omega) HR7f.out (Below.refl _ _) (blk_lt HTf.out.ob) (by omega) (fun v1 wg hr1 _ hg1 hat1 => ?_)
      have HTg := Aside0.mk (HTf.out.grown hg1 (fun k hk => ((Kd.R_bound HR7f.out).1 k hk).2.1))
      have HRVg := Aside0.mk (show Kd.R k34 34 wg (N + 1) (fun k => some k ≠ v1.ownBlock) (.slice Av V.length cv) V from
       Kd.R_mono (Kd.R_grown (Kd.R_bound HRVf.out) hg1 (fun k hk => hk.1)) (fun k hk => by
        rcases hat1 with h | ⟨b, h, hlt⟩
        · rw [h]; exact hk.1
        · rw [h]; intro e; cases e; have := hk.2.2.1; omega))
      obtain ⟨A1, d1, rfl⟩ := Kd.R_slice hr1
      have hln : (sn ++ [dd]).length = i + 1 := by simp [hsnl]
      rw [hln] at hr1 HRVg
      have HR7g := Aside0.mk hr1
      refine hKc.out _ _ ((blk_cell HTg.out.ob 7).trans rfl) (fun hH4 => ?_)
      clear hKc Kc hr1 hg1 hat1 HTf HRVf HR7f
      have e7 : wg.cell? ⟨N, 7, none⟩ = some (.slice A7 i c7) := (blk_cell HTg.out.ob 7).trans rfl
      have f7 := blk_frozen HTg.out.ob 7
      refine XReg.pu 6 79 (h := ?_)
      refine XReg.last (i := 7) none rfl rfl (by kernel_rfl) (by decide) (fun Kc hKc => ?_)
      refine skip_ (w1 := ?_) (by rfl) rfl ?_ ?_
      rotate_left
      · go_simp
        rfl
      refine hKc.out _ _ ?_
      clear hKc Kc
      refine done_ (by kernel_rfl) ?_
      clear hH4 e7 f7
      rw [hln]
      obtain ⟨wh, hwh⟩ : ∃ wh, wg.setCell ⟨N, 7, none⟩ (.slice A1 (i + 1) d1) = wh := ⟨_, rfl⟩
      rw [hwh]
      have HTh := Aside0.mk (show RQ w wh G g N A c l pp bb #[.string d.f0, .int .i64 d.f1, .slice Av V.length cv, .string sc, .int .i64 kd, .string si, .int .i64 q, .slice A1 (i + 1) d1] from by
       rw [← hwh]
       have h := HTg.out.setN 7 (.slice A1 (i + 1) d1)
       simp only [List.setIfInBounds_toArray, List.set_cons_zero, List.set_cons_succ] at h
       exact h)
      have hkh : Keeps (fun k => k = g ∨ k = N) wg wh := by
       rw [← hwh]
       exact Keeps.setCell (M := fun k => k = g ∨ k = N) (Keeps.refl _ wg) (p := ⟨N, 7, none⟩) (.inl (.inr rfl)) _
      have HRVh := Aside0.mk (R_apart HRVg.out hkh HML.out)
      have HR7h := Aside0.mk (R_apart HR7g.out hkh HML.out)
      have HSEh := Aside0.mk (show seenT l M p7 b7 [] = seenT l (M - (i + 1)) pp bb (sn ++ [dd]) from by
       rw [HSE.out, show M - i = (M - (i + 1)) + 1 by omega, seenT_s, hdd])
      have HLNh := Aside0.mk hln
      clear hkh hwh HTg HRVg HR7g hln hdd HSE HSN
      go_wp2
      go_round
      case rel => exact ⟨i + 1, by go_num, by omega, ⟨pp, bb, sn ++ [dd], A1, d1, HTh.out, HLNh.out, HSEh.out, HRVh.out, HR7h.out⟩⟩
      case measure => simp [intOf]; omega
    · have hcase : (i < M ∧ b = true) ∨ ¬ i < M := by
       by_cases h1 : i < M
       · exact .inl ⟨h1, by cases b with | true => rfl | false => exact absurd ⟨h1, rfl⟩ hlt⟩
       · exact .inr h1
      have hzz : seenT l M p7 b7 [] = (sn, p, b) := by
       rw [HSE.out]
       rcases hcase with ⟨_, h⟩ | h
       · rw [h, seenT_bad]
       · rw [show M - i = 0 by omega]; rfl
      have zz : refO l = if (b = true ∨ rightO ⟨d, V, sc, kd, si, q, sn⟩ = false ∨ p ≠ (l.length : Int)) then (z36, 80) else (⟨d, V, sc, kd, si, q, sn⟩, 0) := by
       unfold refO
       rw [HD.out]
       dsimp only
       rw [HV.out]
       dsimp only
       rw [if_neg HBAD.out, HC.out]
       dsimp only
       rw [HI.out]
       dsimp only
       rw [HK.out]
       dsimp only
       rw [HQ.out]
       dsimp only
       rw [HM.out]
       dsimp only
       rw [Int.toNat_natCast, hzz]
      have ZZ := Aside0.mk zz
      have HZS := Aside0.mk (show sizes 1000 sn from by
       have h := seenT_sizes l hB M p7 b7 [] (fun x hx => by cases hx)
       rw [hzz] at h
       exact h)
      have HZV := Aside0.mk (show sizes 1000 V from by
       have h := vec_is_at hB (show (vecS l p1).2.2 = 0 by rw [HV.out])
       rw [HV.out] at h
       intro x hx
       have := (right_fine h.1 x hx).1
       show x.f0.size ≤ 1000
       omega)
      have HZD := Aside0.mk (show d.f0.size ≤ 1000 from by
       have h := texD_size l hB 0 false
       have h2 : (dotT l 0 false).1.f0 = d.f0 := by rw [HD.out]
       have h3 : (texD l 0 false).1 = d.f0 := h2
       rw [h3] at h
       omega)
      have hsn := HSN.out
      clear zz hzz HSE HSN hlt
      subst hsn
      have HGd := Aside0.mk HT.out.gb
      have HBd := Aside0.mk HT.out.bl
      have HGW := Aside0.mk HT.out.lw
      obtain ⟨n0, n1, n2, n3, n4, n5, n6, n7⟩ := cells8 HT.out.ob
      obtain ⟨br, hbr⟩ : ∃ br, rightO ⟨d, V, sc, kd, si, q, sn⟩ = br := ⟨_, rfl⟩
      have HBR := Aside0.mk hbr
      clear hbr
      rcases hcase with ⟨h1, hbt⟩ | h1
      all_goals
       go_wp2_with fail
       refine (refRightO_calls ⟨d, V, sc, kd, si, q, sn⟩ Av cv A7 c7 _ (Kd.R_reads' HRV.out).2.1 (Kd.R_reads' HRV.out).2.2 (Kd.R_reads' HR7.out).2.1 (Kd.R_reads' HR7.out).2.2 1000 (by omega) HZD.out HZV.out HZS.out).mono ?_
       rw [HBR.out]
       rintro e wz ⟨rfl, hbz⟩
       have HTz := Aside0.mk (HT.out.below hbz)
       have HRVz := Aside0.mk (Kd.R_below HRV.out hbz)
       have HR7z := Aside0.mk (Kd.R_below HR7.out hbz)
       have c1 : wz.cell? ⟨g, 1, none⟩ = some (.int .i64 p) := (blk_cell HTz.out.rd 1).trans rfl
       have c2z : wz.cell? ⟨g, 2, none⟩ = some (.bool (!b)) := (blk_cell HTz.out.rd 2).trans rfl
       clear hbz n0 n1 n2 n3 n4 n5 n6 n7 c2 HGd HBd HT HRV HR7
       obtain ⟨n0, n1, n2, n3, n4, n5, n6, n7⟩ := cells8 HTz.out.ob
       have HGd := Aside0.mk HTz.out.gb
       have HBd := Aside0.mk HTz.out.bl
       obtain ⟨e0, e1, e2, e3, e4, e5, e6, e7⟩ := cells8 HGd.out
       have f0 := blk_frozen HGd.out 0
       have f1 := blk_frozen HGd.out 1
       have f2 := blk_frozen HGd.out 2
       have f3 := blk_frozen HGd.out 3
       have f4 := blk_frozen HGd.out 4
       have f5 := blk_frozen HGd.out 5
       have f6 := blk_frozen HGd.out 6
       have f7 := blk_frozen HGd.out 7
       by_cases hbp : b = true ∨ br = false ∨ p ≠ (l.length : Int)
       · have Z0 := Aside0.mk (show refO l = (z36, 80) from by rw [ZZ.out, HBR.out, if_pos hbp])
         have hcz : b = true ∨ (b = false ∧ br = false) ∨ (b = false ∧ br = true ∧ (p != (s.size : Int)) = true ∧ (p != (l.length : Int)) = true) := by
          cases b with
          | true => exact .inl rfl
          | false =>
            cases br with
            | false => exact .inr (.inl ⟨rfl, rfl⟩)
            | true =>
              rcases hbp with h | h | h
              · cases h
              · cases h
              · exact .inr (.inr ⟨rfl, rfl, by rw [hsl]; simpa using h, by simpa using h⟩)
         clear hbp
         rcases hcz with hq | ⟨hq, hq2⟩ | ⟨hq, hq2, hps, hps'⟩
         all_goals
          try rw [hq] at c2z
          try rw [hq2]
          go_wp2
          have h8 := set8 HGd.out (.string ⟨#[]⟩) (.int .i64 0) (.slice none 0 0) (.string ⟨#[]⟩) (.int .i64 0) (.string ⟨#[]⟩) (.int .i64 0) (.slice none 0 0)
          obtain ⟨k0, k1, k2, k3, k4, k5, k6, k7⟩ := cells8 h8
          have hk := below_keeps HBd.out (M := fun k => k = G) (fun k hk => by subst hk; exact HGW.out) HBd.out.size (keeps8 _ G (.string ⟨#[]⟩) (.int .i64 0) (.slice none 0 0) (.string ⟨#[]⟩) (.int .i64 0) (.string ⟨#[]⟩) (.int .i64 0) (.slice none 0 0))
          try rw [hl]
          rw [Z0.out]
          try rw [hG] at hk
          try rw [hG]
          exact bodyPost_ret (v := .tuple #[.agg #[.string ⟨#[]⟩, .int .i64 0, .slice none 0 0, .string ⟨#[]⟩, .int .i64 0, .string ⟨#[]⟩, .int .i64 0, .slice none 0 0], .int .i64 80]) (by simp [results, Try.f44, go_sem, k0, k1, k2, k3, k4, k5, k6, k7]) rfl ⟨.slice none 0 0, .slice none 0 0, rfl, Kd.R_nil _ _ _ _ _, Kd.R_nil _ _ _ _ _, hk⟩
       · have hb0 : b = false := by cases b with | false => rfl | true => exact absurd (Or.inl rfl) hbp
         have hr0 : br = true := by cases br with | true => rfl | false => exact absurd (Or.inr (Or.inl rfl)) hbp
         have hpl : p = (l.length : Int) := Classical.byContradiction (fun h => hbp (Or.inr (Or.inr h)))
         have hps : (p != (s.size : Int)) = false := by rw [hsl, hpl]; simp
         have Z0 := Aside0.mk (show refO l = (⟨d, V, sc, kd, si, q, sn⟩, 0) from by rw [ZZ.out, HBR.out, if_neg hbp])
         clear hbp
         rw [hb0] at c2z
         rw [hr0]
         go_wp2
         have h8 := set8 HGd.out (.string d.f0) (.int .i64 d.f1) (.slice Av V.length cv) (.string sc) (.int .i64 kd) (.string si) (.int .i64 q) (.slice A7 sn.length c7)
         obtain ⟨k0, k1, k2, k3, k4, k5, k6, k7⟩ := cells8 h8
         have hkG := keeps8 wz G (.string d.f0) (.int .i64 d.f1) (.slice Av V.length cv) (.string sc) (.int .i64 kd) (.string si) (.int .i64 q) (.slice A7 sn.length c7)
         have hk := below_keeps HBd.out (M := fun k => k = G) (fun k hk => by subst hk; exact HGW.out) HBd.out.size hkG
         have hlo : ∀ k, k = G → k < N + 1 := fun k hk => by have := HGG.out; have := HNg.out; omega
         have hGN : w.heap.size ≤ N + 1 := by have := HGG.out; have := HNg.out; have := HGW.out; omega
         have rv := Kd.R_lower (Kd.R_mono (R_apart HRVz.out hkG hlo) (ok' := fun _ => True) (fun _ _ => trivial)) hGN
         have r7 := Kd.R_lower (Kd.R_mono (R_apart HR7z.out hkG hlo) (ok' := fun _ => True) (fun _ _ => trivial)) hGN
         try rw [hl]
         rw [Z0.out]
         try rw [hG] at hk rv r7
         try rw [hG]
         exact bodyPost_ret (v := .tuple #[.agg #[.string d.f0, .int .i64 d.f1, .slice Av V.length cv, .string sc, .int .i64 kd, .string si, .int .i64 q, .slice A7 sn.length c7], .int .i64 0]) (by simp [results, Try.f44, go_sem, k0, k1, k2, k3, k4, k5, k6, k7]) rfl ⟨.slice Av V.length cv, .slice A7 sn.length c7, rfl, rv, r7, hk⟩
end Go.Proofs.Ytenbkljgmgdegaa.PO
end
section
namespace Go.Proofs.Ytenbkljgmgdegaa.PO
open Go.RowKit Go.Proofs.YtenbkljgmgdegaaW.PrintWords Go.Proofs.YtenbkljgmgdegaaW.PrintLast Go.Proofs.YtenbkljgmgdegaaW.PrintMore Go.Proofs.Ytenbkljgmgdegaa.XW
set_option linter.unusedVariables false
set_option linter.unusedSimpArgs false
def sameO (x y : S36) : Bool := rightO x && rightO y && decide (x = y)
theorem sameO_of {x y : S36} (hx : rightO x = true) (hy : rightO y = true) : sameO x y = decide (x = y) := by unfold sameO; rw [hx, hy]; rfl
set_option maxHeartbeats 8000000 in
set_option maxRecDepth 100000 in
theorem sameO_calls (x y : S36) (A2 : Option Addr) (c2 : Nat) (A7 : Option Addr) (c7 : Nat) (B2 : Option Addr) (d2 : Nat) (B7 : Option Addr) (d7 : Nat) (w : World) (l2 : x.f1.length ≤ c2) (g2 : Kd.C k34 w A2 x.f1.length x.f1) (l7 : x.f6.length ≤ c7) (g7 : Kd.C k34 w A7 x.f6.length x.f6)
 (m2 : y.f1.length ≤ d2) (h2 : Kd.C k34 w B2 y.f1.length y.f1) (m7 : y.f6.length ≤ d7) (h7 : Kd.C k34 w B7 y.f6.length y.f6) :
 Calls Try.prog 30 #[.agg #[.string x.f0.f0, .int .i64 x.f0.f1, .slice A2 x.f1.length c2, .string x.f2, .int .i64 x.f3, .string x.f4, .int .i64 x.f5, .slice A7 x.f6.length c7], .agg #[.string y.f0.f0, .int .i64 y.f0.f1, .slice B2 y.f1.length d2, .string y.f2, .int .i64 y.f3, .string y.f4, .int .i64 y.f5, .slice B7 y.f6.length d7]] w
  fun e w' => e = .returned (.bool (sameO x y)) ∧ Below w.heap.size w w' := by
 have HL2 := Aside0.mk l2
 have HL7 := Aside0.mk l7
 have HM2 := Aside0.mk m2
 have HM7 := Aside0.mk m7
 have HG2 := Aside0.mk g2
 have HG7 := Aside0.mk g7
 have HH2 := Aside0.mk h2
 have HH7 := Aside0.mk h7
 have hE := equalO_f x y g2.2.1 g7.2.1 (x.f1.length + x.f6.length + 1) (by omega) (by omega)
 have HE := Aside0.mk hE
 obtain ⟨N, hN⟩ : ∃ N, w.heap.size = N := ⟨_, rfl⟩
 clear l2 l7 m2 m7 g2 g7 h2 h7 hE
 go_enter Try.func30, Try.ntmps30
 go_wp2_with fail
 obtain ⟨w1, hw1⟩ : ∃ w1, (w.alloc (.cells #[.string x.f0.f0, .int .i64 x.f0.f1, .slice A2 x.f1.length c2, .string x.f2, .int .i64 x.f3, .string x.f4, .int .i64 x.f5, .slice A7 x.f6.length c7] 36)).alloc (.cells #[.string y.f0.f0, .int .i64 y.f0.f1, .slice B2 y.f1.length d2, .string y.f2, .int .i64 y.f3, .string y.f4, .int .i64 y.f5, .slice B7 y.f6.length d7] 36) = w1 := ⟨_, rfl⟩
 have hb1 : Below w.heap.size w w1 := by rw [← hw1]; exact ((Below.refl _ w).alloc (Nat.le_refl _) _).alloc (by simp) _
 have k1 : w1.heap[N]? = some (.cells #[.string x.f0.f0, .int .i64 x.f0.f1, .slice A2 x.f1.length c2, .string x.f2, .int .i64 x.f3, .string x.f4, .int .i64 x.f5, .slice A7 x.f6.length c7] 36 (0, 0)) := by rw [← hw1, ← hN]; exact blk_alloc (World.alloc_heap_new w _) _
 have k2 : w1.heap[N + 1]? = some (.cells #[.string y.f0.f0, .int .i64 y.f0.f1, .slice B2 y.f1.length d2, .string y.f2, .int .i64 y.f3, .string y.f4, .int .i64 y.f5, .slice B7 y.f6.length d7] 36 (0, 0)) := by
  rw [← hw1, ← hN]; have := World.alloc_heap_new (w.alloc (.cells #[.string x.f0.f0, .int .i64 x.f0.f1, .slice A2 x.f1.length c2, .string x.f2, .int .i64 x.f3, .string x.f4, .int .i64 x.f5, .slice A7 x.f6.length c7] 36)) (.cells #[.string y.f0.f0, .int .i64 y.f0.f1, .slice B2 y.f1.length d2, .string y.f2, .int .i64 y.f3, .string y.f4, .int .i64 y.f5, .slice B7 y.f6.length d7] 36); rwa [World.size_alloc] at this
 first | rw [hw1] | (rw [hN] at hw1; rw [hw1]) | skip
 have HB1 := Aside0.mk hb1
 have K1 := Aside0.mk k1
 have K2 := Aside0.mk k2
 clear hw1 hb1 k1 k2
 refine (orderRight_calls x A2 c2 A7 c7 w1 HL2.out (Kd.C_below HG2.out HB1.out) HL7.out (Kd.C_below HG7.out HB1.out)).mono ?_
 rintro e w2 ⟨rfl, hb2⟩
 have HB2 := Aside0.mk (show Below w.heap.size w w2 from HB1.out.trans (hb2.mono HB1.out.size))
 have K12 := Aside0.mk (blk_below K1.out hb2)
 have K22 := Aside0.mk (blk_below K2.out hb2)
 clear hb2 K1 K2 HB1
 obtain ⟨b1, hb1⟩ : ∃ b, rightO x = b := ⟨_, rfl⟩
 have HO1 := Aside0.mk hb1
 rw [hb1]
 clear hb1
 cases b1 with
 | false =>
   go_wp2
   go_ret
   exact ⟨by unfold sameO; rw [HO1.out]; rfl, by first | exact HB2.out | (rw [← hN]; exact HB2.out)⟩
 | true =>
   have f0 := (blk_cell K22.out 0).trans rfl
   have f1 := (blk_cell K22.out 1).trans rfl
   have f2 := (blk_cell K22.out 2).trans rfl
   have f3 := (blk_cell K22.out 3).trans rfl
   have f4 := (blk_cell K22.out 4).trans rfl
   have f5 := (blk_cell K22.out 5).trans rfl
   have f6 := (blk_cell K22.out 6).trans rfl
   have f7 := (blk_cell K22.out 7).trans rfl
   go_wp2_with fail
   refine (orderRight_calls y B2 d2 B7 d7 w2 HM2.out (Kd.C_below HH2.out HB2.out) HM7.out (Kd.C_below HH7.out HB2.out)).mono ?_
   rintro e w3 ⟨rfl, hb3⟩
   have HB3 := Aside0.mk (show Below w.heap.size w w3 from HB2.out.trans (hb3.mono HB2.out.size))
   have K13 := Aside0.mk (blk_below K12.out hb3)
   have K23 := Aside0.mk (blk_below K22.out hb3)
   clear hb3 K12 K22 HB2 f0 f1 f2 f3 f4 f5 f6 f7
   obtain ⟨b2, hb2⟩ : ∃ b, rightO y = b := ⟨_, rfl⟩
   have HO2 := Aside0.mk hb2
   rw [hb2]
   clear hb2
   cases b2 with
   | false =>
     go_wp2
     go_ret
     exact ⟨by unfold sameO; rw [HO1.out, HO2.out]; rfl, by first | exact HB3.out | (rw [← hN]; exact HB3.out)⟩
   | true =>
     have e0 := (blk_cell K13.out 0).trans rfl
     have e1 := (blk_cell K13.out 1).trans rfl
     have e2 := (blk_cell K13.out 2).trans rfl
     have e3 := (blk_cell K13.out 3).trans rfl
     have e4 := (blk_cell K13.out 4).trans rfl
     have e5 := (blk_cell K13.out 5).trans rfl
     have e6 := (blk_cell K13.out 6).trans rfl
     have e7 := (blk_cell K13.out 7).trans rfl
     have f0 := (blk_cell K23.out 0).trans rfl
     have f1 := (blk_cell K23.out 1).trans rfl
     have f2 := (blk_cell K23.out 2).trans rfl
     have f3 := (blk_cell K23.out 3).trans rfl
     have f4 := (blk_cell K23.out 4).trans rfl
     have f5 := (blk_cell K23.out 5).trans rfl
     have f6 := (blk_cell K23.out 6).trans rfl
     have f7 := (blk_cell K23.out 7).trans rfl
     go_wp2_with fail
     refine (order_equal.calls (x.f1.length + x.f6.length + 1) x.f0.f0 x.f0.f1 A2 c2 x.f1 x.f2 x.f3 x.f4 x.f5 A7 c7 x.f6 y.f0.f0 y.f0.f1 B2 d2 y.f1 y.f2 y.f3 y.f4 y.f5 B7 d7 y.f6 _ w3 (Kd.C_below HG2.out HB3.out) HL2.out (Kd.C_below HG7.out HB3.out) HL7.out (Kd.C_below HH2.out HB3.out) HM2.out (Kd.C_below HH7.out HB3.out) HM7.out HE.out).mono ?_
     rintro e w4 ⟨rfl, hb4⟩
     have HB4 := Aside0.mk (show Below w.heap.size w w4 from by first | exact HB3.out.trans (hb4.mono HB3.out.size) | exact HB3.out.trans (hb4.below.mono HB3.out.size))
     clear hb4 e0 e1 e2 e3 e4 e5 e6 e7 f0 f1 f2 f3 f4 f5 f6 f7
     have HS := Aside0.mk (sameO_of HO1.out HO2.out)
     go_wp2
     go_ret
     exact ⟨by rw [HS.out]; rfl, by first | exact HB4.out | (rw [← hN]; exact HB4.out)⟩
end Go.Proofs.Ytenbkljgmgdegaa.PO
end
section
namespace Go.Proofs.Ytenbkljgmgdegaa.PO
open Go.RowKit Go.Proofs.YtenbkljgmgdegaaW.PrintWords Go.Proofs.YtenbkljgmgdegaaW.PrintLast Go.Proofs.YtenbkljgmgdegaaW.PrintMore Go.Proofs.Ytenbkljgmgdegaa.XW
open Go.Proofs.Ytenbkljgmgdegaa.XRange Go.Proofs.Ytenbkljgmgdegaa.XMap Go.Proofs.Ytenbkljgmgdegaa.XSeq
set_option linter.unusedVariables false
set_option linter.unusedSimpArgs false
def numsL (x : S36) : Nat → List Int
 | 0 => []
 | 1 => encN x.f3
 | 2 => encN x.f3 ++ encN x.f5
 | _ => encN x.f3 ++ encN x.f5 ++ encN (x.f6.length : Int)
theorem numsL_len (x : S36) (i : Nat) : (numsL x i).length ≤ 30 := by
 have h3 := encN_len x.f3
 have h5 := encN_len x.f5
 have h6 := encN_len (x.f6.length : Int)
 unfold numsL
 split
 · simp
 · omega
 all_goals simp only [List.length_append]; omega
set_option maxHeartbeats 8000000 in
set_option maxRecDepth 100000 in
theorem layO_calls (x : S36) (A2 : Option Addr) (c2 : Nat) (A7 : Option Addr) (c7 : Nat) (w : World) (l2 : x.f1.length ≤ c2) (g2 : Kd.C k34 w A2 x.f1.length x.f1) (l7 : x.f6.length ≤ c7) (g7 : Kd.C k34 w A7 x.f6.length x.f6) :
 Calls Try.prog 41 #[.agg #[.string x.f0.f0, .int .i64 x.f0.f1, .slice A2 x.f1.length c2, .string x.f2, .int .i64 x.f3, .string x.f4, .int .i64 x.f5, .slice A7 x.f6.length c7]] w
  fun e w' => e = .returned (.tuple #[.string (layF x).1, .int .i64 (layF x).2]) ∧ Below w.heap.size w w' := by
 have HG2 := Aside0.mk g2
 have HG7 := Aside0.mk g7
 have HL2 := Aside0.mk l2
 have HL7 := Aside0.mk l7
 clear l2 g2 l7 g7
 obtain ⟨N, hN⟩ : ∃ N, w.heap.size = N := ⟨_, rfl⟩
 go_enter Try.func41, Try.ntmps41
 obtain ⟨w0, hw0⟩ : ∃ w0, w.alloc (.cells #[.string x.f0.f0, .int .i64 x.f0.f1, .slice A2 x.f1.length c2, .string x.f2, .int .i64 x.f3, .string x.f4, .int .i64 x.f5, .slice A7 x.f6.length c7] 36) = w0 := ⟨_, rfl⟩
 have hb0 : Below w.heap.size w w0 := by rw [← hw0]; exact (Below.refl _ w).alloc (Nat.le_refl _) _
 have kx : w0.heap[N]? = some (.cells #[.string x.f0.f0, .int .i64 x.f0.f1, .slice A2 x.f1.length c2, .string x.f2, .int .i64 x.f3, .string x.f4, .int .i64 x.f5, .slice A7 x.f6.length c7] 36 (0, 0)) := by rw [← hw0, ← hN]; exact World.alloc_heap_new w _
 have KX := Aside0.mk kx
 have HB := Aside0.mk hb0
 clear kx hb0
 obtain ⟨n0, n1, n2, n3, n4, n5, n6, n7⟩ := cells8 KX.out
 obtain ⟨br, hbr⟩ : ∃ b, rightO x = b := ⟨_, rfl⟩
 have HBR := Aside0.mk hbr
 clear hbr
 go_wp2_with fail
 refine (order_Right.calls (x.f6.length + x.f1.length + 5) x.f0.f0 x.f0.f1 A2 c2 x.f1 x.f2 x.f3 x.f4 x.f5 A7 c7 x.f6 br _ (Kd.C_below HG2.out HB.out) HL2.out (Kd.C_below HG7.out HB.out) HL7.out (by
  rw [← HBR.out]
  exact orderRight_f x HG2.out.2.1 HG7.out.2.1 _ (by omega))).mono ?_
 rintro e w1 ⟨rfl, hb1⟩
 have KX1 := Aside0.mk (blk_below KX.out hb1)
 have HB1 := Aside0.mk (HB.out.trans (hb1.mono HB.out.size))
 clear n0 n1 n2 n3 n4 n5 n6 n7 hb1 KX HB hw0
 cases br with
 | false =>
   have hlf : layF x = (⟨#[]⟩, 2) := by unfold layF; rw [if_neg (by rw [HBR.out]; simp)]
   go_wp2
   go_ret2
   rw [hlf]
   exact ⟨rfl, by first | exact HB1.out | (rw [← hN]; exact HB1.out)⟩
 | true =>
   have hlf : layF x = (strOfNums (layO x), 0) := by unfold layF; rw [if_pos HBR.out]
   have HLF := Aside0.mk hlf
   clear hlf
   obtain ⟨r1, r2, r3, r4, r5, r6, r7, r8, r9⟩ := rightO_all HBR.out
   have hd := dotOk_32 r1
   have H1 := Aside0.mk (layDot_f [] x.f0 (by omega) (by omega) (by omega) (by simp) 200 (by omega))
   rw [List.nil_append] at H1
   go_wp2
   refine start_ (n := 11) (ds := []) (S := fun w' => w'.cell? ⟨N, 0, none⟩ = some (.string x.f0.f0) ∧ w'.cell? ⟨N, 1, none⟩ = some (.int .i64 x.f0.f1) ∧ w'.cell? ⟨N, 2, none⟩ = some (.slice A2 x.f1.length c2)) _ (by kernel_rfl) rfl rfl
    ⟨(blk_cell (blk_drew KX1.out) 0).trans rfl, (blk_cell (blk_drew KX1.out) 1).trans rfl, (blk_cell (blk_drew KX1.out) 2).trans rfl⟩ (fun hH => ?_)
   refine XReg.pu 0 14 (h := ?_)
   refine XReg.tk 1 15 (h := ?_)
   refine XReg.pu 3 17 (h := ?_)
   refine XReg.tk 4 18 (h := ?_)
   have HD0 := Aside0.mk (show Below w1.heap.size w1 w1.drew from below_drew1 (Below.refl _ w1))
   refine XReg.one (i := 2) (some 16) rfl rfl (by kernel_rfl) (by decide) (fun Kc hKc => ?_)
   refine goes_ Try.func94 (by kernel_rfl) rfl #[.slice none 0 0, .agg #[.string x.f0.f0, .int .i64 x.f0.f1]] (by rfl) rfl rfl (by (try simp only [List.map_toArray, List.map_cons, List.map_nil]); first | done | rfl) ?_
   refine (order_layDot.calls 200 none 0 [] x.f0.f0 x.f0.f1 (textB x.f0.f0 ++ encN x.f0.f1) _ (Kd.C_nil _ _) (by simp) H1.out).mono ?_
   rintro e wa ⟨va, rfl, hra, hba⟩
   refine ⟨_, rfl, ?_⟩
   have HDa := Aside0.mk (show Below w1.heap.size w1 wa from HD0.out.trans (hba.mono HD0.out.size))
   obtain ⟨Aa, ca, rfl, la, Ca⟩ := Kd.R_reads hra
   have HLa := Aside0.mk la
   have HCa := Aside0.mk Ca
   refine hKc.out _ _ ⟨(blk_cell (blk_below KX1.out HDa.out) 0).trans rfl, (blk_cell (blk_below KX1.out HDa.out) 1).trans rfl, (blk_cell (blk_below KX1.out HDa.out) 2).trans rfl⟩ (fun hH2 => ?_)
   clear hKc Kc hH hra hba HD0 H1 la Ca
   obtain ⟨b1, hb1⟩ : ∃ b, textB x.f0.f0 ++ encN x.f0.f1 = b := ⟨_, rfl⟩
   have hl1 : b1.length ≤ 100 := by
    have t0 := textB_len x.f0.f0
    have n0 := encN_len x.f0.f1
    rw [← hb1, List.length_append]
    omega
   rw [hb1] at HLa HCa ⊢
   have H2 := Aside0.mk (show vector_Lay.f (x.f1.length + 201) b1 x.f1 = some (b1 ++ (layS [] x.f1).1, 0) from by
    rw [lay_f b1 (by omega) x.f1 HG2.out.2.1 _ (by omega)]
    unfold layS
    rw [if_pos r2, if_pos r2]
    show some (layL _ _, (0 : Int)) = some (_ ++ layL _ _, 0)
    rw [lay_app x.f1 (b1 ++ encN (x.f1.length : Int)), lay_app x.f1 ([] ++ encN (x.f1.length : Int))]
    simp)
   refine XReg.one (i := 5) (some 19) rfl rfl (by kernel_rfl) (by decide) (fun Kc hKc => ?_)
   refine goes_ Try.func80 (by kernel_rfl) rfl #[.slice Aa b1.length ca, .slice A2 x.f1.length c2] (by rfl) rfl rfl (by (try simp only [List.map_toArray, List.map_cons, List.map_nil]); first | done | rfl) ?_
   refine (vector_Lay.calls (x.f1.length + 201) Aa ca b1 A2 c2 x.f1 (b1 ++ (layS [] x.f1).1) 0 _ HCa.out HLa.out (Kd.C_below HG2.out (HB1.out.trans (HDa.out.mono HB1.out.size))) HL2.out H2.out).mono ?_
   rintro e wb ⟨vb, rfl, hrb, hbb⟩
   refine ⟨_, rfl, ?_⟩
   have HDb := Aside0.mk (show Below w1.heap.size w1 wb from HDa.out.trans (hbb.mono HDa.out.size))
   refine hKc.out _ _ ⟨(blk_cell (blk_below KX1.out HDb.out) 0).trans rfl, (blk_cell (blk_below KX1.out HDb.out) 1).trans rfl, (blk_cell (blk_below KX1.out HDb.out) 2).trans rfl⟩ (fun hH3 => ?_)
   refine XReg.pu 6 13 (h := ?_)
   refine XReg.pu 7 20 (h := ?_)
   refine XReg.pu 8 21 (h := ?_)
   refine XReg.pu 9 4 (h := ?_)
   refine XReg.pu 10 5 (h := ?_)
   refine done_ (by kernel_rfl) ?_
   clear hKc Kc hH2 hH3 HCa HLa H2 HDa
   obtain ⟨b2, hb2⟩ : ∃ b, b1 ++ (layS [] x.f1).1 = b := ⟨_, rfl⟩
   rw [hb2] at hrb
   have hl2 : b2.length ≤ 4000 := by
    have := layS_len x.f1 r2
    rw [← hb2, List.length_append]
    omega
   obtain ⟨Ab, cb, rfl, lb, Cb⟩ := Kd.R_reads hrb
   have KX2 := Aside0.mk (blk_below KX1.out HDb.out)
   have HB2 := Aside0.mk (HB1.out.trans (HDb.out.mono HB1.out.size))
   have HLb := Aside0.mk lb
   have HCb := Aside0.mk Cb
   have H3 := Aside0.mk (wtext32_f b2 x.f2 r3 (by omega) 200 (by omega))
   obtain ⟨b3, hb3⟩ : ∃ b, textS b2 x.f2 = b := ⟨_, rfl⟩
   have hl3 : b3.length ≤ 5000 := by have := textS_len b2 x.f2; rw [← hb3]; omega
   have H4 := Aside0.mk (wtext32_f b3 x.f4 r4 (by omega) 200 (by omega))
   rw [hb3] at H3
   clear hrb hbb lb Cb HDb KX1 HB1
   go_wp2
   refine start_ (n := 8) (ds := []) (S := fun w' => w'.cell? ⟨N, 3, none⟩ = some (.string x.f2) ∧ w'.cell? ⟨N, 5, none⟩ = some (.string x.f4)) _ (by kernel_rfl) rfl rfl
    ⟨(blk_cell (blk_drew KX2.out) 3).trans rfl, (blk_cell (blk_drew KX2.out) 5).trans rfl⟩ (fun hH => ?_)
   refine XReg.pu 0 22 (h := ?_)
   refine XReg.pu 1 23 (h := ?_)
   refine XReg.tk 2 24 (h := ?_)
   refine XReg.pu 4 26 (h := ?_)
   refine XReg.tk 5 27 (h := ?_)
   have HD0 := Aside0.mk (show Below wb.heap.size wb wb.drew from below_drew1 (Below.refl _ wb))
   refine XReg.one (i := 3) (some 25) rfl rfl (by kernel_rfl) (by decide) (fun Kc hKc => ?_)
   refine goes_ Try.func78 (by kernel_rfl) rfl #[.slice Ab b2.length cb, .string x.f2] (by rfl) rfl rfl (by (try simp only [List.map_toArray, List.map_cons, List.map_nil]); first | done | rfl) ?_
   refine (wire_Text.calls 200 Ab cb b2 x.f2 b3 _ (Kd.C_drew HCb.out) HLb.out H3.out).mono ?_
   rintro e wc ⟨vc, rfl, hrc, hbc⟩
   refine ⟨_, rfl, ?_⟩
   have HDc := Aside0.mk (show Below wb.heap.size wb wc from HD0.out.trans (hbc.mono HD0.out.size))
   obtain ⟨Ac, cc, rfl, lc, Cc⟩ := Kd.R_reads hrc
   have HLc := Aside0.mk lc
   have HCc := Aside0.mk Cc
   refine hKc.out _ _ ⟨(blk_cell (blk_below KX2.out HDc.out) 3).trans rfl, (blk_cell (blk_below KX2.out HDc.out) 5).trans rfl⟩ (fun hH2 => ?_)
   clear hKc Kc hH hrc hbc HD0 H3 lc Cc HCb HLb
   refine XReg.one (i := 6) (some 28) rfl rfl (by kernel_rfl) (by decide) (fun Kc hKc => ?_)
   refine goes_ Try.func78 (by kernel_rfl) rfl #[.slice Ac b3.length cc, .string x.f4] (by rfl) rfl rfl (by (try simp only [List.map_toArray, List.map_cons, List.map_nil]); first | done | rfl) ?_
   refine (wire_Text.calls 200 Ac cc b3 x.f4 (textS b3 x.f4) _ HCc.out HLc.out H4.out).mono ?_
   rintro e wd ⟨vd, rfl, hrd, hbd⟩
   refine ⟨_, rfl, ?_⟩
   have HDd := Aside0.mk (show Below wb.heap.size wb wd from HDc.out.trans (hbd.mono HDc.out.size))
   refine hKc.out _ _ ⟨(blk_cell (blk_below KX2.out HDd.out) 3).trans rfl, (blk_cell (blk_below KX2.out HDd.out) 5).trans rfl⟩ (fun hH3 => ?_)
   refine XReg.pu 7 4 (h := ?_)
   refine done_ (by kernel_rfl) ?_
   have HSC := Aside0.mk (show w.heap.size ≤ wc.heap.size from Nat.le_trans HB2.out.size HDc.out.size)
   clear hKc Kc hH2 hH3 HCc HLc H4 HDc
   have KX3 := Aside0.mk (blk_below KX2.out HDd.out)
   have HB3 := Aside0.mk (HB2.out.trans (HDd.out.mono HB2.out.size))
   obtain ⟨b4, hb4⟩ : ∃ b, textS b3 x.f4 = b := ⟨_, rfl⟩
   have HQ4 := Aside0.mk hb4
   have HQ3 := Aside0.mk hb3
   have HQ2 := Aside0.mk hb2
   have HQ1 := Aside0.mk hb1
   have hl4 : b4.length ≤ 6000 := by have := textS_len b3 x.f4; rw [← hb4]; omega
   rw [hb4] at hrd
   have HV4 := Aside0.mk (Kd.R_lower (base' := w.heap.size) hrd HSC.out)
   clear hrd hbd hb4
   obtain ⟨n0, n1, n2, n3, n4, n5, n6, n7⟩ := cells8 KX3.out
   go_wp2_with fail
   obtain ⟨we, hwe⟩ : ∃ we, wd.alloc (.cells #[.int .i64 x.f3, .int .i64 x.f5, .int .i64 (x.f6.length : Int)] 2) = we := ⟨_, rfl⟩
   obtain ⟨M, hM⟩ : ∃ M, wd.heap.size = M := ⟨_, rfl⟩
   rw [hwe]
   rw [hM]
   have KA := Aside0.mk (show we.heap[M]? = some (.cells #[.int .i64 x.f3, .int .i64 x.f5, .int .i64 (x.f6.length : Int)] 2 (0, 0)) from by rw [← hwe, ← hM]; exact World.alloc_heap_new wd _)
   have hbe : Below wd.heap.size wd we := by rw [← hwe]; exact (Below.refl _ wd).alloc (Nat.le_refl _) _
   have KX4 := Aside0.mk (blk_below KX3.out hbe)
   have HB4 := Aside0.mk (HB3.out.trans (hbe.mono HB3.out.size))
   have HV5 := Aside0.mk (Kd.R_below HV4.out hbe)
   have HWe := Aside0.mk (Below.refl we.heap.size we)
   have HL4 := Aside0.mk hl4
   have HR := Aside0.mk (show (1 ≤ x.f3 ∧ x.f3 ≤ 3) ∧ (0 ≤ x.f5 ∧ x.f5 ≤ 9999) ∧ x.f6.length ≤ 128 from ⟨r7, ⟨r8, r9⟩, r5⟩)
   clear hbe hwe hM HV4 KX3 HB3 n0 n1 n2 n3 n4 n5 n6 n7 hl4
   go_loopw [4, 38] (fun v4 v38 wr => ∃ (i : Nat) (L : List Int), v38 = .int .i64 i ∧ i ≤ 3 ∧ Aside0 (L = b4 ++ numsL x i) ∧ Aside0 (Kd.R (Kd.int .u8) 5 wr w.heap.size (fun _ => True) v4 L) ∧ Aside0 (Below we.heap.size we wr)) (fun _ v38 _ => 3 - (intOf v38).toNat)
   case atStart => exact ⟨0, b4, rfl, by omega, ⟨by simp [numsL]⟩, HV5, HWe⟩
   case round =>
    clear HV5 HWe
    obtain ⟨i, L, rfl, hi3, HQL, HVr, HBr⟩ := hrel
    by_cases h3 : i < 3
    · obtain ⟨At, ct, rfl, lt, Ct⟩ := Kd.R_reads HVr.out
      have HCt := Aside0.mk Ct
      have HLt := Aside0.mk lt
      have hr := HR.out
      obtain ⟨n, hn0, hn1, hcell, hnext⟩ : ∃ n : Int, 0 ≤ n ∧ n < 10000 ∧ wr.cell? ⟨M, i, none⟩ = some (.int .i64 n) ∧ numsL x (i + 1) = numsL x i ++ encN n := by
       have m0 : wr.cell? ⟨M, 0, none⟩ = some (.int .i64 x.f3) := (blk_cell (blk_below KA.out HBr.out) 0).trans rfl
       have m1 : wr.cell? ⟨M, 1, none⟩ = some (.int .i64 x.f5) := (blk_cell (blk_below KA.out HBr.out) 1).trans rfl
       have m2 : wr.cell? ⟨M, 2, none⟩ = some (.int .i64 (x.f6.length : Int)) := (blk_cell (blk_below KA.out HBr.out) 2).trans rfl
       have hc : i = 0 ∨ i = 1 ∨ i = 2 := by omega
       rcases hc with rfl | rfl | rfl
       · exact ⟨x.f3, by omega, by omega, m0, rfl⟩
       · exact ⟨x.f5, by omega, by omega, m1, rfl⟩
       · exact ⟨(x.f6.length : Int), by omega, by omega, m2, rfl⟩
      have HNX := Aside0.mk hnext
      have HT := Aside0.mk (show wire_Number.f 200 L (IntKind.u64.wrap n) = some (L ++ encN n) from by
       have h4 := HL4.out
       have h5 := numsL_len x i
       have h6 := HQL.out
       rw [u_id hn0 (by omega)]
       exact number_f n hn0 (by omega) _ (by rw [h6, List.length_append]; omega) 200 (by omega))
      have hb3 : 0 ≤ (i : Int) ∧ (i : Int) < 3 := by omega
      have q1 : decide ((i : Int) < 3) = true := by simp; omega
      clear Ct lt hr hn0 hn1 hnext
      go_wp2_with fail
      refine (wire_Number.calls 200 At ct L _ _ _ HCt.out HLt.out HT.out).mono ?_
      rintro e ws ⟨vs, rfl, hrs, hbs⟩
      have HVs := Aside0.mk (Kd.R_lower (base' := w.heap.size) hrs (Nat.le_trans HB4.out.size HBr.out.size))
      have HBs := Aside0.mk (HBr.out.trans (hbs.mono HBr.out.size))
      clear hrs hbs hcell
      go_wp2
      go_round
      case measure => simp [intOf]; omega
      case rel => exact ⟨i + 1, _, by go_num, by omega, ⟨by rw [HNX.out, HQL.out, List.append_assoc]⟩, HVs, HBs⟩
    · have hi : i = 3 := by omega
      subst hi
      rw [show ((3 : Nat) : Int) = 3 from rfl]
      clear hi3
      have HRr := Aside0.mk (HB4.out.trans (HBr.out.mono HB4.out.size))
      have KXr := Aside0.mk (blk_below KX4.out HBr.out)
      have e7 : wr.cell? ⟨N, 7, none⟩ = some (.slice A7 x.f6.length c7) := (blk_cell KXr.out 7).trans rfl
      have q1 : decide ((3 : Int) < 3) = false := by decide
      have HWr := Aside0.mk (Below.refl wr.heap.size wr)
      have hl5 : L.length ≤ 7000 := by
       have h4 := HL4.out
       have h5 := numsL_len x 3
       rw [HQL.out, List.length_append]
       omega
      have HL5 := Aside0.mk hl5
      have HF6 := Aside0.mk r6
      clear hl5
      go_wp2
      clear e7 q1
      go_loopw [4, 50] (fun v4 v50 wt => ∃ (i : Nat) (T : List Int), v50 = .int .i64 i ∧ i ≤ x.f6.length ∧ Aside0 (T ++ layL [] (x.f6.drop i) = L ++ layL [] x.f6) ∧ Aside0 (T.length ≤ 7000 + 60 * i) ∧ Aside0 (Kd.R (Kd.int .u8) 5 wt w.heap.size (fun _ => True) v4 T) ∧ Aside0 (Below wr.heap.size wr wt)) (fun _ v50 _ => x.f6.length - (intOf v50).toNat)
      case atStart => exact ⟨0, L, rfl, by omega, ⟨rfl⟩, ⟨by have := HL5.out; omega⟩, HVr, HWr⟩
      case round =>
       clear HVr HWr
       obtain ⟨i, T, rfl, hi6, HQT, HLT, HVt, HBt⟩ := hrel
       obtain ⟨At, ct, rfl, lt, Ct⟩ := Kd.R_reads HVt.out
       have HCt := Aside0.mk Ct
       have HLt := Aside0.mk lt
       clear Ct lt
       by_cases h6 : i < x.f6.length
       · obtain ⟨ad, had, f0, f1⟩ := at_T34 (Kd.C_below HG7.out (HRr.out.trans (HBt.out.mono HRr.out.size))) (i : Int) (by omega) (by omega)
         obtain ⟨d, hd⟩ : ∃ d, rd_T34 x.f6 (i : Int) = d := ⟨_, rfl⟩
         rw [hd] at f0 f1
         simp only [Int.toNat_natCast] at f0 f1
         subst had
         have hb3 : 0 ≤ (i : Int) ∧ (i : Int) < (x.f6.length : Int) := by omega
         have q1 : decide ((i : Int) < (x.f6.length : Int)) = true := by simp; omega
         have hdr := rd_drop x.f6 i h6
         rw [hd] at hdr
         have HDR := Aside0.mk hdr
         have hfd := HF6.out d (by rw [← hd]; unfold rd_T34; rw [Int.toNat_natCast, List.getD_eq_getElem?_getD, List.getElem?_eq_getElem h6]; exact List.getElem_mem h6)
         have HFD := Aside0.mk hfd
         clear hdr hfd hd
         go_wp2_with fail
         obtain ⟨wa, hwa⟩ : ∃ wa, wr.alloc (.cells #[.string d.f0, .int .i64 d.f1] 34) = wa := ⟨_, rfl⟩
         have HBa := Aside0.mk (show Below wr.heap.size wr wa from by rw [← hwa]; exact (Below.refl _ wr).alloc (Nat.le_refl _) _)
         rw [hwa]
         have HCa := Aside0.mk (Kd.C_below HCt.out HBa.out)
         have HBb := Aside0.mk (HBt.out.trans (HBa.out.mono HBt.out.size))
         clear hwa f0 f1
         refine (order_layDot.calls 200 At ct T d.f0 d.f1 _ _ HCa.out HLt.out (layDot_f T d HFD.out.1 HFD.out.2.1 HFD.out.2.2 (by have := HLT.out; have := HR.out; omega) 200 (by omega))).mono ?_
         rintro e ws ⟨vs, rfl, hrs, hbs⟩
         have HVs := Aside0.mk (Kd.R_lower (base' := w.heap.size) hrs (Nat.le_trans HRr.out.size (HBb.out.size)))
         have HBs := Aside0.mk (HBb.out.trans (hbs.mono HBb.out.size))
         clear hrs hbs
         go_wp2
         go_round
         case measure => simp [intOf]; omega
         case rel => exact ⟨i + 1, _, by go_num, by omega, ⟨by
          have h := HQT.out
          rw [HDR.out, layL, lay_app] at h
          rw [← h]
          simp [textS, textB]⟩, ⟨by
          have h1 := textB_len d.f0
          have h2 := encN_len d.f1
          have h3 := HLT.out
          have h4 := HFD.out.1
          rw [List.length_append, List.length_append]
          omega⟩, HVs, HBs⟩
       · have hi : i = x.f6.length := by omega
         subst hi
         have q1 : decide ((x.f6.length : Int) < (x.f6.length : Int)) = false := by simp
         have hcv := own_string (P := Try.prog) Try.underlying63 Try.underlying5 Try.underlying9 (Kd.own_of_R HVt.out)
         have hT : T = layO x := by
          have h := HQT.out
          rw [List.drop_length, HQL.out, ← HQ4.out] at h
          rw [← HQ3.out, ← HQ2.out, ← HQ1.out] at h
          unfold layO
          simpa [textS, textB, layL, numsL, List.append_assoc] using h
         have HT := Aside0.mk hT
         clear hT
         go_wp2
         go_ret2
         rw [HLF.out, HT.out]
         exact ⟨rfl, by first | exact HRr.out.trans (HBt.out.mono HRr.out.size) | (rw [← hN]; exact HRr.out.trans (HBt.out.mono HRr.out.size))⟩
end Go.Proofs.Ytenbkljgmgdegaa.PO
end
