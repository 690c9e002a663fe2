/- What the rows of this claim use, out of the texts of this work (OR). No condition beyond those that each statement names. -/
import Derived.Test.YtenbkljgmgdegaaQiOX
import Derived.Test.YtenbkljgmgdegaaQiOW
namespace Go.Proofs.Ytenbkljgmgdegaa.PO
open Go.RowKit Go.Proofs.YtenbkljgmgdegaaW.PrintWords Go.Proofs.YtenbkljgmgdegaaW.PrintLast Go.Proofs.YtenbkljgmgdegaaW.PrintMore Go.Proofs.Ytenbkljgmgdegaa.XW
open Go.Proofs.Ytenbkljgmgdegaa.XRange Go.Proofs.Ytenbkljgmgdegaa.XMap Go.Proofs.Ytenbkljgmgdegaa.XSeq
set_option linter.unusedVariables false
set_option linter.unusedSimpArgs false
structure RefAt (w0 : World) (G : Nat → Prop) (w : World) (g : Nat) (vl vk vw : Value) (a : AP) : Prop where
  blk : w.heap[g]? = some (.cells #[vl, vk, vw] 29 (0, 0))
  rl : Kd.R (kAt w0) 36 w 0 (fun k => G k ∧ some k ≠ vw.ownBlock) vl a.L
  rk : Kd.R k34 34 w 0 G vk a.K
  rq : Kd.R (kAt w0) 36 w 0 (fun k => G k ∧ some k ≠ vl.ownBlock) vw a.Q
section
variable {w0 w w1 : World} {G G' : Nat → Prop} {g : Nat} {vl vk vw : Value} {a : AP}
theorem kAt_E : ∀ q, q ∈ (36 : Nat) :: (kAt w0).E → q ≠ 29 := by intro q hq; simp [kAt] at hq; omega
theorem k34_E29 : ∀ q, q ∈ (34 : Nat) :: k34.E → q ≠ 29 := by intro q hq; have := k34_E q hq; omega
theorem k34_E36 : ∀ q, q ∈ (34 : Nat) :: k34.E → q ≠ 36 := by intro q hq; have := k34_E q hq; omega
theorem RefAt.move (h : RefAt w0 G w g vl vk vw a) (hm : ∀ k, (k = g ∨ G k) → k < w.heap.size → w1.heap[k]? = w.heap[k]?) : RefAt w0 G w1 g vl vk vw a :=
  ⟨(hm g (.inl rfl) (blk_lt h.blk)).trans h.blk, Kd.R_step h.rl (fun k hk hlt => hm k (.inr hk.1) hlt), Kd.R_step h.rk (fun k hk hlt => hm k (.inr hk) hlt), Kd.R_step h.rq (fun k hk hlt => hm k (.inr hk.1) hlt)⟩
theorem RefAt.gmono (h : RefAt w0 G w g vl vk vw a) (hg : ∀ k, G k → G' k) : RefAt w0 G' w g vl vk vw a :=
  ⟨h.blk, Kd.R_mono h.rl (fun k hk => ⟨hg k hk.1, hk.2⟩), Kd.R_mono h.rk hg, Kd.R_mono h.rq (fun k hk => ⟨hg k hk.1, hk.2⟩)⟩
theorem RefAt.gbound (h : RefAt w0 G w g vl vk vw a) : RefAt w0 (fun k => G k ∧ k < w.heap.size) w g vl vk vw a :=
  ⟨h.blk, Kd.R_mono (Kd.R_bound h.rl) (fun k hk => ⟨⟨hk.1.1, hk.2.2.1⟩, hk.1.2⟩), Kd.R_mono (Kd.R_bound h.rk) (fun k hk => ⟨hk.1, hk.2.2.1⟩), Kd.R_mono (Kd.R_bound h.rq) (fun k hk => ⟨⟨hk.1.1, hk.2.2.1⟩, hk.1.2⟩)⟩
theorem RefAt.below (h : RefAt w0 G w g vl vk vw a) (hb : Below w.heap.size w w1) : RefAt w0 G w1 g vl vk vw a := h.move (fun k _ hlt => hb.block k hlt)
theorem RefAt.ne_l (h : RefAt w0 G w g vl vk vw a) : some g ≠ vl.ownBlock := Kd.R_ne h.rl h.blk (by decide)
theorem RefAt.ne_q (h : RefAt w0 G w g vl vk vw a) : some g ≠ vw.ownBlock := Kd.R_ne h.rq h.blk (by decide)
theorem RefAt.known (h : RefAt w0 G w g vl vk vw a) {v0 : Value} {K' : List S34} (hr : Kd.R k34 34 w 0 G v0 K') : RefAt w0 G (w.setCell ⟨g, 1, none⟩ v0) g vl v0 vw { a with K := K' } :=
  ⟨blk_set h.blk 1 v0, Kd.R_mono (Kd.R_far (Kd.R_types h.rl h.blk kAt_E) (fun k hk => hk.2) v0) (fun k hk => hk.1), Kd.R_mono (Kd.R_far (Kd.R_types hr h.blk k34_E29) (fun k hk => hk.2) v0) (fun k hk => hk.1),
    Kd.R_mono (Kd.R_far (Kd.R_types h.rq h.blk kAt_E) (fun k hk => hk.2) v0) (fun k hk => hk.1)⟩
theorem RefAt.waits (h : RefAt w0 G w g vl vk vw a) {v0 : Value} {Q' : List S36} (hr : Kd.R (kAt w0) 36 w 0 (fun k => G k ∧ some k ≠ vl.ownBlock) v0 Q') (hne : ∀ k, v0.ownBlock = some k → some k ≠ vl.ownBlock) : RefAt w0 G (w.setCell ⟨g, 2, none⟩ v0) g vl vk v0 { a with Q := Q' } := by
  have hl := Kd.R_types h.rl h.blk kAt_E
  refine ⟨blk_set h.blk 2 v0, ?_, Kd.R_mono (Kd.R_far (Kd.R_types h.rk h.blk k34_E29) (fun k hk => hk.2) v0) (fun k hk => hk.1), Kd.R_mono (Kd.R_far (Kd.R_types hr h.blk kAt_E) (fun k hk => hk.2) v0) (fun k hk => hk.1)⟩
  have h1 := Kd.R_far (p := ⟨g, 2, none⟩) hl (fun k hk => hk.2) v0
  obtain ⟨ho, inner, hown, hrep⟩ := h1
  refine ⟨fun k hk => ⟨(ho k hk).1.1, fun e => hne k e.symm hk.symm⟩, inner, hown, hrep.imp_ (fun _ _ hp => hp)⟩
theorem RefAt.grewL (h : RefAt w0 G w g vl vk vw a) (hg : w.grownBy w1 vl.ownBlock) {v1 : Value} {L' : List S36} (hr : Kd.R (kAt w0) 36 w1 0 (fun k => G k ∧ some k ≠ vw.ownBlock) v1 L')
    (hat : v1.ownBlock = vl.ownBlock ∨ ∃ b, v1.ownBlock = some b ∧ w.heap.size ≤ b) : RefAt w0 G (w1.setCell ⟨g, 0, none⟩ v1) g v1 vk vw { a with L := L' } := by
  have hblk := blk_grown h.blk hg h.ne_l
  refine ⟨blk_set hblk 0 v1, Kd.R_mono (Kd.R_far (Kd.R_types hr hblk kAt_E) (fun k hk => hk.2) v1) (fun k hk => hk.1), ?_, ?_⟩
  · exact Kd.R_mono (Kd.R_far (Kd.R_types (Kd.R_over' h.rk (Kd.R_typed h.rl) k34_E36 hg) hblk k34_E29) (fun k hk => hk.2) v1) (fun k hk => hk.1)
  · have h1 := Kd.R_types (Kd.R_grown (Kd.R_bound h.rq) hg (fun k hk => hk.1.2)) hblk kAt_E
    refine Kd.R_mono (Kd.R_far h1 (fun k hk => hk.2) v1) (fun k hk => ?_)
    obtain ⟨⟨h2, _, h3, _⟩, _⟩ := hk
    refine ⟨h2.1, ?_⟩
    rcases hat with hat | ⟨b, hb, hlt⟩
    · rw [hat]; exact h2.2
    · rw [hb]; intro e; cases e; omega
theorem RefAt.grewQ (h : RefAt w0 G w g vl vk vw a) (hg : w.grownBy w1 vw.ownBlock) {v1 : Value} {Q' : List S36} (hr : Kd.R (kAt w0) 36 w1 0 (fun k => G k ∧ some k ≠ vl.ownBlock) v1 Q')
    (hat : v1.ownBlock = vw.ownBlock ∨ ∃ b, v1.ownBlock = some b ∧ w.heap.size ≤ b) : RefAt w0 G (w1.setCell ⟨g, 2, none⟩ v1) g vl vk v1 { a with Q := Q' } := by
  have hblk := blk_grown h.blk hg h.ne_q
  refine ⟨blk_set hblk 2 v1, ?_, ?_, Kd.R_mono (Kd.R_far (Kd.R_types hr hblk kAt_E) (fun k hk => hk.2) v1) (fun k hk => hk.1)⟩
  · have h1 := Kd.R_types (Kd.R_grown (Kd.R_bound h.rl) hg (fun k hk => hk.1.2)) hblk kAt_E
    refine Kd.R_mono (Kd.R_far h1 (fun k hk => hk.2) v1) (fun k hk => ?_)
    obtain ⟨⟨h2, _, h3, _⟩, _⟩ := hk
    refine ⟨h2.1, ?_⟩
    rcases hat with hat | ⟨b, hb, hlt⟩
    · rw [hat]; exact h2.2
    · rw [hb]; intro e; cases e; omega
  · exact Kd.R_mono (Kd.R_far (Kd.R_types (Kd.R_over' h.rk (Kd.R_typed h.rq) k34_E36 hg) hblk k34_E29) (fun k hk => hk.2) v1) (fun k hk => hk.1)
end
theorem OpAt0.below {w0 w w1 : World} {p : Addr} {x : S36} {A2 A7 : Option Addr} {c2 c7 : Nat} (h : OpAt0 w0 w p x A2 c2 A7 c7) (hb : Below w.heap.size w w1) : OpAt0 w0 w1 p x A2 c2 A7 c7 := by
  have st : ∀ {q : Addr} {u : Value}, w.cell? q = some u → w1.cell? q = some u := fun hq => (hb.cell (World.block_lt_of_cell? w _ hq)).trans hq
  exact ⟨st h.e0, st h.e1, st h.e2, st h.e3, st h.e4, st h.e5, st h.e6, st h.e7, h.l2, h.g2, h.l7, h.g7⟩
set_option maxHeartbeats 8000000 in
set_option maxRecDepth 100000 in
theorem refCan (w0 : World) (G : Nat → Prop) (g : Nat) (vl vk vw : Value) (a : AP) (x : S36) (A2 : Option Addr) (c2 : Nat) (A7 : Option Addr) (c7 : Nat) (w : World) (hp : RefAt w0 G w g vl vk vw a) (hK : rightS a.K = true) (hx : rightO x = true)
    (l2 : x.f1.length ≤ c2) (g2 : Kd.C k34 w A2 x.f1.length x.f1) :
    Calls Try.prog 58 #[.pointer (some ⟨g, 0, none⟩), .agg #[.string x.f0.f0, .int .i64 x.f0.f1, .slice A2 x.f1.length c2, .string x.f2, .int .i64 x.f3, .string x.f4, .int .i64 x.f5, .slice A7 x.f6.length c7]] w fun e w' => e = .returned (.bool (leqS x.f1 a.K)) ∧ Below w.heap.size w w' := by
  obtain ⟨Ak, ck, rfl, hck, hCk⟩ := Kd.R_reads hp.rk
  have hxp := rightO_parts hx
  have HL := Aside0.mk (show pannierref07_Leq.f 1000 x.f1 a.K = some (leqS x.f1 a.K) from refLeq_f x.f1 a.K 64 (by omega) hxp.2.2.2.1 (rightS_le hK).1 (right_sizes hxp.2.1) (right_sizes hK) 1000 (by have := (rightS_le hK).1; omega))
  have HP := Aside0.mk hp
  have HCK := Aside0.mk hCk
  have HCL := Aside0.mk hck
  have HG2 := Aside0.mk g2
  have HL2 := Aside0.mk l2
  obtain ⟨N, hN⟩ : ∃ N, w.heap.size = N := ⟨_, rfl⟩
  clear hp hCk hck g2 l2 hK hx hxp
  go_enter Try.func58, Try.ntmps58
  go_wp2
  obtain ⟨w1, hw1⟩ : ∃ w1, w.alloc (.cells #[.string x.f0.f0, .int .i64 x.f0.f1, .slice A2 x.f1.length c2, .string x.f2, .int .i64 x.f3, .string x.f4, .int .i64 x.f5, .slice A7 x.f6.length c7] 36) = w1 := ⟨_, rfl⟩
  have hb1 : Below w.heap.size w w1 := by rw [← hw1]; exact (Below.refl _ w).alloc (Nat.le_refl _) _
  have hbk : w1.heap[N]? = some (.cells #[.string x.f0.f0, .int .i64 x.f0.f1, .slice A2 x.f1.length c2, .string x.f2, .int .i64 x.f3, .string x.f4, .int .i64 x.f5, .slice A7 x.f6.length c7] 36 (0, 0)) := by rw [← hw1, ← hN]; exact World.alloc_heap_new w _
  first | rw [hw1] | (rw [hN] at hw1; rw [hw1]) | skip
  try rw [hN]
  have HB1 := Aside0.mk hb1
  have HP1 := Aside0.mk (HP.out.below hb1)
  have BK := Aside0.mk hbk
  clear hw1 hb1 hbk
  refine start_ (n := 8) (ds := []) (S := fun w' => w'.cell? ⟨N, 2, none⟩ = some (.slice A2 x.f1.length c2) ∧ w'.cell? ⟨g, 1, none⟩ = some (.slice Ak a.K.length ck)) _ (by kernel_rfl) rfl rfl ⟨(blk_cell (blk_drew BK.out) 2).trans rfl, (blk_cell (blk_drew HP1.out.blk) 1).trans rfl⟩ (fun hH => ?_)
  refine XReg.pu 0 5 (h := ?_)
  refine XReg.tk 1 6 (h := ?_)
  refine XReg.pu 2 7 (h := ?_)
  refine XReg.pu 3 8 (h := ?_)
  refine XReg.pu 4 9 (h := ?_)
  refine XReg.tk 5 10 (h := ?_)
  refine XReg.one (i := 6) (some 11) rfl rfl (by kernel_rfl) (by decide) (fun Kc hKc => ?_)
  refine goes_ Try.func24 (by kernel_rfl) rfl #[.slice A2 x.f1.length c2, .slice Ak a.K.length ck] (by rfl) rfl rfl (by (try simp only [List.map_toArray, List.map_cons, List.map_nil]); first | done | rfl) ?_
  refine (pannierref07_Leq.calls 1000 A2 c2 x.f1 Ak ck a.K _ _ (Kd.C_drew (Kd.C_below HG2.out HB1.out)) HL2.out (Kd.C_drew (Kd.C_below HCK.out HB1.out)) HCL.out HL.out).mono ?_
  rintro e w2 ⟨rfl, hb2⟩
  refine ⟨_, rfl, ?_⟩
  have hb2' : Below w1.heap.size w1 w2 := ⟨hb2.os, hb2.tape, hb2.output, hb2.size, hb2.block⟩
  have HB2 := Aside0.mk (show Below w.heap.size w w2 from HB1.out.trans (hb2'.mono HB1.out.size))
  refine hKc.out _ _ ⟨(blk_cell (blk_below BK.out hb2') 2).trans rfl, (blk_cell (blk_below HP1.out.blk hb2') 1).trans rfl⟩ (fun hH2 => ?_)
  clear hKc Kc hH hb2 hb2'
  refine XReg.pu 7 4 (h := ?_)
  refine done_ (by kernel_rfl) ?_
  clear hH2
  go_wp2
  go_ret
  exact ⟨rfl, by first | exact HB2.out | (rw [← hN]; exact HB2.out)⟩
set_option maxHeartbeats 8000000 in
set_option maxRecDepth 100000 in
theorem refHand (w0 : World) (G : Nat → Prop) (g : Nat) (vl vk vw : Value) (a : AP) (x : S36) (A2 : Option Addr) (c2 : Nat) (A7 : Option Addr) (c7 : Nat) (w : World) (hp : RefAt w0 G w g vl vk vw a) (hK : rightS a.K = true) (hx : rightO x = true)
    (hk0 : k36.K w0 x [.string x.f0.f0, .int .i64 x.f0.f1, .slice A2 x.f1.length c2, .string x.f2, .int .i64 x.f3, .string x.f4, .int .i64 x.f5, .slice A7 x.f6.length c7]) (hL : a.L.length ≤ 1000000000000) (hG : ∀ j, w.heap.size ≤ j → G j) :
    Calls Try.prog 59 #[.pointer (some ⟨g, 0, none⟩), .agg #[.string x.f0.f0, .int .i64 x.f0.f1, .slice A2 x.f1.length c2, .string x.f2, .int .i64 x.f3, .string x.f4, .int .i64 x.f5, .slice A7 x.f6.length c7]] w fun e w' => (∃ v, e = .returned v) ∧ ∃ vl' vk', RefAt w0 G w' g vl' vk' vw (handA a x) ∧
      Keeps (fun k => k = g ∨ some k = vl.ownBlock) w w' ∧ (vl'.ownBlock = vl.ownBlock ∨ ∃ b, vl'.ownBlock = some b ∧ w.heap.size ≤ b) := by
  obtain ⟨Ak, ck, rfl, hck, hCk⟩ := Kd.R_reads hp.rk
  have hxp := rightO_parts hx
  obtain ⟨K', hK'⟩ : ∃ K', (withK a.K x).1 = K' := ⟨_, rfl⟩
  obtain ⟨e', he'⟩ : ∃ e', (withK a.K x).2 = e' := ⟨_, rfl⟩
  have HF := Aside0.mk (show pannierref07_With.f 1000 a.K x.f0.f0 x.f0.f1 = some (K', e') from by
    rw [refWith_f a.K (by have := (rightS_le hK).1; omega) 64 (by omega) (right_sizes hK) x.f0.f0 (dot_size (d := x.f0.f1) hxp.1) x.f0.f1 1000 (by have := (rightS_le hK).1; omega), ← hK', ← he']; rfl)
  have HHA := Aside0.mk (show handA a x = { { a with K := K' } with L := a.L ++ [x] } from by unfold handA; rw [hK'])
  have HP := Aside0.mk hp
  have HCK := Aside0.mk hCk
  have HCL := Aside0.mk hck
  have HK0 := Aside0.mk hk0
  have HLL := Aside0.mk hL
  have HGG := Aside0.mk hG
  have HG := Aside0.mk (blk_lt hp.blk)
  clear hp hCk hck hK hx hxp hk0 hL hG hK' he'
  obtain ⟨N, hN⟩ : ∃ N, w.heap.size = N := ⟨_, rfl⟩
  go_enter Try.func59, Try.ntmps59
  go_wp2
  obtain ⟨w1, hw1⟩ : ∃ w1, w.alloc (.cells #[.string x.f0.f0, .int .i64 x.f0.f1, .slice A2 x.f1.length c2, .string x.f2, .int .i64 x.f3, .string x.f4, .int .i64 x.f5, .slice A7 x.f6.length c7] 36) = w1 := ⟨_, rfl⟩
  have hb1 : Below w.heap.size w w1 := by rw [← hw1]; exact (Below.refl _ w).alloc (Nat.le_refl _) _
  have hbk : w1.heap[N]? = some (.cells #[.string x.f0.f0, .int .i64 x.f0.f1, .slice A2 x.f1.length c2, .string x.f2, .int .i64 x.f3, .string x.f4, .int .i64 x.f5, .slice A7 x.f6.length c7] 36 (0, 0)) := by rw [← hw1, ← hN]; exact World.alloc_heap_new w _
  first | rw [hw1] | (rw [hN] at hw1; rw [hw1]) | skip
  try rw [hN]
  have HB1 := Aside0.mk hb1
  have HP1 := Aside0.mk (HP.out.below hb1)
  have BK := Aside0.mk hbk
  have NG := Aside0.mk (show N ≠ g from by have := HG.out; omega)
  clear hw1 hb1 hbk
  refine start_ (n := 14) (ds := [13]) (S := fun w' => w'.cell? ⟨g, 1, none⟩ = some (.slice Ak a.K.length ck) ∧ w'.cell? ⟨N, 0, none⟩ = some (.string x.f0.f0) ∧ w'.cell? ⟨N, 1, none⟩ = some (.int .i64 x.f0.f1)) _ (by kernel_rfl) rfl rfl
    ⟨(blk_cell (blk_drew HP1.out.blk) 1).trans rfl, (blk_cell (blk_drew BK.out) 0).trans rfl, (blk_cell (blk_drew BK.out) 1).trans rfl⟩ (fun hH => ?_)
  refine XReg.pu 0 5 (h := ?_)
  refine XReg.pu 1 6 (h := ?_)
  refine XReg.pu 2 7 (h := ?_)
  refine XReg.pu 3 8 (h := ?_)
  refine XReg.tk 4 9 (h := ?_)
  refine XReg.pu 5 10 (h := ?_)
  refine XReg.tk 6 11 (h := ?_)
  refine XReg.one (i := 7) (some 12) rfl rfl (by kernel_rfl) (by decide) (fun Kc hKc => ?_)
  refine goes_ Try.func25 (by kernel_rfl) rfl #[.slice Ak a.K.length ck, .agg #[.string x.f0.f0, .int .i64 x.f0.f1]] (by rfl) rfl rfl (by (try simp only [List.map_toArray, List.map_cons, List.map_nil]); first | done | rfl) ?_
  refine (pannierref07_With.calls 1000 Ak ck a.K x.f0.f0 x.f0.f1 K' e' _ (Kd.C_drew (Kd.C_below HCK.out HB1.out)) HCL.out HF.out).mono ?_
  rintro e w2 ⟨v0, rfl, hR, hb⟩
  refine ⟨_, rfl, ?_⟩
  obtain ⟨Av, cv, rfl⟩ := Kd.R_slice hR
  have HR := Aside0.mk hR
  have HB2 := Aside0.mk (show Below w1.heap.size w1 w2 from ⟨hb.os, hb.tape, hb.output, hb.size, hb.block⟩)
  clear hR hb
  refine hKc.out _ _ ⟨(blk_cell (blk_below HP1.out.blk HB2.out) 1).trans rfl, (blk_cell (blk_below BK.out HB2.out) 0).trans rfl, (blk_cell (blk_below BK.out HB2.out) 1).trans rfl⟩ (fun hH2 => ?_)
  clear hKc Kc hH
  have c1 : w2.cell? ⟨g, 1, none⟩ = some (.slice Ak a.K.length ck) := hH2.1
  have f1 := blk_frozen (blk_below HP1.out.blk HB2.out) 1
  refine XReg.pu 8 4 (h := ?_)
  refine XReg.pu 9 13 (h := ?_)
  refine XReg.pu 10 14 (h := ?_)
  refine XReg.pu 11 15 (h := ?_)
  refine XReg.pu 12 16 (h := ?_)
  refine XReg.last (i := 13) none rfl rfl (by kernel_rfl) (by decide) (fun Kc hKc => ?_)
  refine skip_ (w1 := ?_) (by rfl) rfl ?_ ?_
  rotate_left
  · go_simp
    rfl
  refine hKc.out _ _ ?_
  clear hKc Kc
  refine done_ (by kernel_rfl) ?_
  obtain ⟨w3, hw3⟩ : ∃ w3, w2.setCell ⟨g, 1, none⟩ (.slice Av K'.length cv) = w3 := ⟨_, rfl⟩
  have HP3 := Aside0.mk (show RefAt w0 G w3 g vl (.slice Av K'.length cv) vw { a with K := K' } from by
    rw [← hw3]
    exact (HP1.out.below HB2.out).known (Kd.R_lower (Kd.R_mono (Kd.R_bound HR.out) (fun k hk => HGG.out k (Nat.le_trans HB1.out.size hk.2.1))) (Nat.zero_le _)))
  have HK3 := Aside0.mk (show Keeps (fun k => k = g) w w3 from by
    rw [← hw3]
    exact Keeps.setCell (M := fun k => k = g) ((Keeps.of_below HB1.out).trans (Keeps.of_below HB2.out)) (p := ⟨g, 1, none⟩) (.inl rfl) _)
  have BK3 := Aside0.mk (show w3.heap[N]? = some (.cells #[.string x.f0.f0, .int .i64 x.f0.f1, .slice A2 x.f1.length c2, .string x.f2, .int .i64 x.f3, .string x.f4, .int .i64 x.f5, .slice A7 x.f6.length c7] 36 (0, 0)) from by
    rw [← hw3]; exact (far_cells _ N NG.out).trans (blk_below BK.out HB2.out))
  rw [hw3]
  clear hw3 hH2 c1 f1
  go_wp2
  obtain ⟨Al, cl, rfl⟩ := Kd.R_slice HP3.out.rl
  refine start_ (n := 11) (ds := [10]) (S := fun w' => w'.cell? ⟨g, 0, none⟩ = some (.slice Al a.L.length cl) ∧ w'.cell? ⟨N, 0, none⟩ = some (.string x.f0.f0) ∧ w'.cell? ⟨N, 1, none⟩ = some (.int .i64 x.f0.f1) ∧ w'.cell? ⟨N, 2, none⟩ = some (.slice A2 x.f1.length c2) ∧
      w'.cell? ⟨N, 3, none⟩ = some (.string x.f2) ∧ w'.cell? ⟨N, 4, none⟩ = some (.int .i64 x.f3) ∧ w'.cell? ⟨N, 5, none⟩ = some (.string x.f4) ∧ w'.cell? ⟨N, 6, none⟩ = some (.int .i64 x.f5) ∧ w'.cell? ⟨N, 7, none⟩ = some (.slice A7 x.f6.length c7)) _ (by kernel_rfl) rfl rfl
    ⟨(blk_cell (blk_drew HP3.out.blk) 0).trans rfl, (blk_cell (blk_drew BK3.out) 0).trans rfl, (blk_cell (blk_drew BK3.out) 1).trans rfl, (blk_cell (blk_drew BK3.out) 2).trans rfl, (blk_cell (blk_drew BK3.out) 3).trans rfl, (blk_cell (blk_drew BK3.out) 4).trans rfl, (blk_cell (blk_drew BK3.out) 5).trans rfl, (blk_cell (blk_drew BK3.out) 6).trans rfl, (blk_cell (blk_drew BK3.out) 7).trans rfl⟩ (fun hH => ?_)
  refine XReg.pu 0 17 (h := ?_)
  refine XReg.pu 1 18 (h := ?_)
  refine XReg.pu 2 19 (h := ?_)
  refine XReg.pu 3 20 (h := ?_)
  refine XReg.tk 4 21 (h := ?_)
  refine XReg.tk 5 22 (h := ?_)
  refine XReg.one (i := 6) (some 23) rfl rfl (by kernel_rfl) (by decide) (fun Kc hKc => ?_)
  go_simp
  refine hKc.out _ _ ⟨(blk_cell (blk_alloc (blk_drew HP3.out.blk) _) 0).trans rfl, (blk_cell (blk_alloc (blk_drew BK3.out) _) 0).trans rfl, (blk_cell (blk_alloc (blk_drew BK3.out) _) 1).trans rfl, (blk_cell (blk_alloc (blk_drew BK3.out) _) 2).trans rfl, (blk_cell (blk_alloc (blk_drew BK3.out) _) 3).trans rfl, (blk_cell (blk_alloc (blk_drew BK3.out) _) 4).trans rfl, (blk_cell (blk_alloc (blk_drew BK3.out) _) 5).trans rfl, (blk_cell (blk_alloc (blk_drew BK3.out) _) 6).trans rfl, (blk_cell (blk_alloc (blk_drew BK3.out) _) 7).trans rfl⟩ (fun hH2 => ?_)
  clear hKc Kc hH hH2
  refine XReg.one (i := 7) (some 24) rfl rfl (by kernel_rfl) (by decide) (fun Kc hKc => ?_)
  obtain ⟨cs, hcs⟩ : ∃ cs : List Value, cs = [.string x.f0.f0, .int .i64 x.f0.f1, .slice A2 x.f1.length c2, .string x.f2, .int .i64 x.f3, .string x.f4, .int .i64 x.f5, .slice A7 x.f6.length c7] := ⟨_, rfl⟩
  have hcw : (Obj.cells #[.string x.f0.f0, .int .i64 x.f0.f1, .slice A2 x.f1.length c2, .string x.f2, .int .i64 x.f3, .string x.f4, .int .i64 x.f5, .slice A7 x.f6.length c7] 36 (0, 0)) = .cells cs.toArray 36 (0, 0) := by rw [hcs]
  have h8 : cs.length = 8 := by rw [hcs]; rfl
  have HKx := Aside0.mk (show k36.K w0 x cs from by rw [hcs]; exact HK0.out)
  rw [hcw]
  have hba : Below w3.heap.size w3 (w3.alloc (.cells cs.toArray 36 (0, 0))).drew := below_drew1 ((Below.refl _ w3).alloc (Nat.le_refl _) _)
  have HPa := HP3.out.below hba
  refine Kd.R_append_rows_step (kAt w0) (Rr := fun y c => y = x ∧ c = cs) (w0 := (w3.alloc (.cells cs.toArray 36 (0, 0))).drew) 0 (by rfl) (.tmp 21) (.tmp 23) 22 36 _ 120 rfl Try.underlying22 info36 rfl (by show 0 < 8; omega) (by omega) _ a.L [x] (some ⟨w3.heap.size, 0, none⟩) 1 1
    (fun k => G k ∧ some k ≠ vw.ownBlock) (fun _ => False) rfl rfl HPa.rl (lit_row h8) (fun y c hyc => by obtain ⟨rfl, rfl⟩ := hyc; exact HKx.out) (fun _ h => h.elim) (fun k hk => ⟨HGG.out k (Nat.le_trans HK3.out.size (Nat.le_trans hba.size hk)), fun e => by have := Kd.R_lt HPa.rq k e.symm; omega⟩) (Below.refl _ _)
    (Nat.zero_le _) (by have := HLL.out; simp; omega) (fun v1 w4 hr4 _ hg4 hat4 => ?_)
  have hPl := HPa.grewL hg4 hr4 hat4
  have hk4 : Keeps (fun k => k = g ∨ some k = (Value.slice Al a.L.length cl).ownBlock) w (w4.setCell ⟨g, 0, none⟩ v1) := by
    refine Keeps.setCell (M := fun k => k = g ∨ some k = (Value.slice Al a.L.length cl).ownBlock) (p := ⟨g, 0, none⟩) ?_ (.inl (.inl rfl)) _
    refine Keeps.trans (keeps_weak HK3.out (fun k hk => .inl hk)) ?_
    refine Keeps.trans (B := (w3.alloc (.cells cs.toArray 36 (0, 0))).drew) (((Keeps.refl _ w3).alloc _).drew) ?_
    exact keeps_weak (keeps_grown hg4) (fun k hk => .inr hk)
  have hfr : v1.ownBlock = (Value.slice Al a.L.length cl).ownBlock ∨ ∃ b, v1.ownBlock = some b ∧ w.heap.size ≤ b := by
    rcases hat4 with h | ⟨b, hb, hlt⟩
    · exact .inl h
    · exact .inr ⟨b, hb, Nat.le_trans HK3.out.size (Nat.le_trans hba.size hlt)⟩
  have HPl := Aside0.mk hPl
  have HK4 := Aside0.mk hk4
  have HFR := Aside0.mk hfr
  have hbk : w4.heap[g]? = some (.cells #[.slice Al a.L.length cl, .slice Av K'.length cv, vw] 29 (0, 0)) := blk_grown HPa.blk hg4 HPa.ne_l
  have hbn : w4.heap[N]? = some (.cells cs.toArray 36 (0, 0)) := by
    refine blk_grown (blk_drew (blk_alloc (by rw [← hcw]; exact BK3.out) _)) hg4 ?_
    intro e
    have := Kd.R_lt HP.out.rl N e.symm
    omega
  rw [hcs] at hbn
  obtain ⟨Aw, cw, rfl⟩ := Kd.R_slice hr4
  refine hKc.out _ _ ⟨?_, (blk_cell hbn 0).trans rfl, (blk_cell hbn 1).trans rfl, (blk_cell hbn 2).trans rfl, (blk_cell hbn 3).trans rfl, (blk_cell hbn 4).trans rfl, (blk_cell hbn 5).trans rfl, (blk_cell hbn 6).trans rfl, (blk_cell hbn 7).trans rfl⟩ (fun hH2 => ?_)
  · exact (blk_cell hbk 0).trans rfl
  clear hKc Kc hPl hk4 hfr HPa hr4
  have c0 : w4.cell? ⟨g, 0, none⟩ = some (.slice Al a.L.length cl) := (blk_cell hbk 0).trans rfl
  have f0 := blk_frozen hbk 0
  refine XReg.pu 8 25 (h := ?_)
  refine XReg.pu 9 26 (h := ?_)
  refine XReg.last (i := 10) none rfl rfl (by kernel_rfl) (by decide) (fun Kc hKc => ?_)
  refine skip_ (w1 := ?_) (by rfl) rfl ?_ ?_
  rotate_left
  · go_simp
    rfl
  refine hKc.out _ _ ?_
  clear hKc Kc
  refine done_ (by kernel_rfl) ?_
  go_wp2
  go_end0
  have e1 : (a.L ++ [x]).length = a.L.length + 1 := by simp
  have h1 := HPl.out
  have h2 := HK4.out
  have h3 := HFR.out
  rw [e1] at h1 h2 h3
  rw [HHA.out]
  rw [hN] at h3
  exact ⟨⟨_, rfl⟩, _, ⟨_, h1⟩, h2, h3⟩
def nextA (a : AP) : Int := match a.Q.findIdx? (canS a.K) with | none => -1 | some i => i
theorem find_step (p : S36 → Bool) (Q : List S36) (i : Nat) (h : i < Q.length) (hp : p (rd_T36 Q (i : Int)) = false) : ((Q.drop i).findIdx? p).map (· + i) = ((Q.drop (i + 1)).findIdx? p).map (· + (i + 1)) := by
  rw [rd_drop36 Q i h, List.findIdx?_cons, hp]
  simp only [Bool.false_eq_true, if_false, Option.map_map]
  congr 1
  funext k
  show k + 1 + i = k + (i + 1)
  omega
theorem find_hit (p : S36 → Bool) (Q : List S36) (i : Nat) (h : i < Q.length) (hp : p (rd_T36 Q (i : Int)) = true) : ((Q.drop i).findIdx? p).map (· + i) = some i := by
  rw [rd_drop36 Q i h, List.findIdx?_cons, hp]
  simp
set_option maxHeartbeats 8000000 in
set_option maxRecDepth 100000 in
theorem refNext (w0 : World) (G : Nat → Prop) (g : Nat) (vl vk vw : Value) (a : AP) (w : World) (hp : RefAt w0 G w g vl vk vw a) (hi : InvA a) (hW : Below w0.heap.size w0 w) :
    Calls Try.prog 60 #[.pointer (some ⟨g, 0, none⟩)] w fun e w' => e = .returned (.int .i64 (nextA a)) ∧ Below w.heap.size w w' := by
  have hQ : a.Q.length ≤ 256 := hi.waits
  obtain ⟨Ak, ck, rfl, hck, hCk⟩ := Kd.R_reads hp.rk
  obtain ⟨Aw, cw, rfl, hcw, hCw⟩ := Kd.R_reads hp.rq
  have hKl := (rightS_le hi.known).1
  have HP := Aside0.mk hp
  have HI := Aside0.mk hi
  have HW := Aside0.mk hW
  have HCK := Aside0.mk hCk
  have HCL := Aside0.mk hck
  have HCW := Aside0.mk hCw
  have HCWL := Aside0.mk hcw
  have HB0 := Aside0.mk (Below.refl w.heap.size w)
  have HKL := Aside0.mk hKl
  clear hp hi hW hCk hck hCw hcw hKl
  go_enter Try.func60, Try.ntmps60
  go_wp2
  go_loopw [3] (fun v3 wr => ∃ i : Nat, v3 = .int .i64 i ∧ i ≤ a.Q.length ∧ Aside0 (a.Q.findIdx? (canS a.K) = ((a.Q.drop i).findIdx? (canS a.K)).map (· + i)) ∧ Aside0 (Below w.heap.size w wr)) (fun v3 _ => a.Q.length - (intOf v3).toNat)
  case atStart => exact ⟨0, rfl, by omega, ⟨by simp⟩, HB0⟩
  case round =>
    clear HB0
    obtain ⟨i, rfl, hile, HF, HB⟩ := hrel
    have HPr := Aside0.mk (HP.out.below HB.out)
    have cq : wr.cell? ⟨g, 2, none⟩ = some (.slice Aw a.Q.length cw) := (blk_cell HPr.out.blk 2).trans rfl
    by_cases hlt : i < a.Q.length
    · obtain ⟨ad, A2, c2, A7, c7, rfl, hop⟩ := opAt0 (Kd.C_below HCW.out HB.out) i hlt
      obtain ⟨x, hx⟩ : ∃ x, rd_T36 a.Q (i : Int) = x := ⟨_, rfl⟩
      have hxr : rightO x = true := HI.out.right x (List.mem_append_right _ (by rw [← hx]; exact rd_mem36 _ _ hlt))
      have hxp := rightO_parts hxr
      obtain ⟨K', hK'⟩ : ∃ K', (withK a.K x).1 = K' := ⟨_, rfl⟩
      obtain ⟨e', he'⟩ : ∃ e', (withK a.K x).2 = e' := ⟨_, rfl⟩
      have HWi := Aside0.mk (show pannierref07_With.f 1000 a.K x.f0.f0 x.f0.f1 = some (K', e') from by
        rw [refWith_f a.K (by have := HKL.out; omega) 64 (by omega) (right_sizes HI.out.known) x.f0.f0 (dot_size (d := x.f0.f1) hxp.1) x.f0.f1 1000 (by have := HKL.out; omega), ← hK', ← he']; rfl)
      rw [hx] at hop
      have hst := find_step (canS a.K) a.Q i hlt
      have hht := find_hit (canS a.K) a.Q i hlt
      rw [hx] at hst hht
      have HST := Aside0.mk hst
      have HHT := Aside0.mk hht
      have HOP := Aside0.mk hop
      have HXR := Aside0.mk hxr
      have HE := Aside0.mk he'
      have hb3 : 0 ≤ (i : Int) ∧ (i : Int) < (a.Q.length : Int) := by omega
      clear hx hxr hxp hK' he' hop hst hht
      go_wp2
      refine start_ (n := 18) (ds := []) (S := fun w' => (w'.cell? ⟨g, 1, none⟩ = some (.slice Ak a.K.length ck) ∧ w'.cell? ⟨g, 2, none⟩ = some (.slice (some ad) a.Q.length cw)) ∧ w'.cell? (ad.add (i * 8)) = some (.string x.f0.f0) ∧ w'.cell? ⟨(ad.add (i * 8)).block, (ad.add (i * 8)).off + 1, none⟩ = some (.int .i64 x.f0.f1)) _ (by kernel_rfl) rfl rfl
        ⟨⟨(blk_cell (blk_drew HPr.out.blk) 1).trans rfl, (blk_cell (blk_drew HPr.out.blk) 2).trans rfl⟩, HOP.out.e0, HOP.out.e1⟩ (fun hH => ?_)
      refine XReg.pu 0 16 (h := ?_)
      refine XReg.pu 1 17 (h := ?_)
      refine XReg.pu 2 18 (h := ?_)
      refine XReg.tk 3 19 (hy := by (intro w' hS_; obtain ⟨⟨s0, s1⟩, s2, s3⟩ := hS_; go_simp; with_reducible rfl)) (h := ?_)
      refine XReg.pu 4 20 (h := ?_)
      refine XReg.pu 5 21 (h := ?_)
      refine XReg.pu 6 22 (h := ?_)
      refine XReg.tk 7 23 (hy := by (intro w' hS_; obtain ⟨⟨s0, s1⟩, s2, s3⟩ := hS_; go_simp; with_reducible rfl)) (h := ?_)
      refine XReg.pu 8 24 (h := ?_)
      refine XReg.pu 9 25 (h := ?_)
      refine XReg.pu 10 26 (h := ?_)
      refine XReg.tk 11 27 (hy := by (intro w' hS_; obtain ⟨⟨s0, s1⟩, s2, s3⟩ := hS_; go_simp; with_reducible rfl)) (h := ?_)
      refine XReg.one (i := 12) (some 28) rfl rfl (by kernel_rfl) (by decide) (fun Kc hKc => ?_)
      refine goes_ Try.func25 (by kernel_rfl) rfl #[.slice Ak a.K.length ck, .agg #[.string x.f0.f0, .int .i64 x.f0.f1]] (by rfl) rfl rfl (by (try simp only [List.map_toArray, List.map_cons, List.map_nil]); first | done | rfl) ?_
      refine (pannierref07_With.calls 1000 Ak ck a.K x.f0.f0 x.f0.f1 K' e' _ (Kd.C_drew (Kd.C_below HCK.out HB.out)) HCL.out HWi.out).mono ?_
      rintro e w2 ⟨v0, rfl, hR, hb⟩
      refine ⟨_, rfl, ?_⟩
      obtain ⟨Av, cv, rfl⟩ := Kd.R_slice hR
      have hb2 : Below wr.heap.size wr w2 := ⟨hb.os, hb.tape, hb.output, hb.size, hb.block⟩
      have HB2 := Aside0.mk (show Below w.heap.size w w2 from HB.out.trans (hb2.mono HB.out.size))
      have HP2 := Aside0.mk (HPr.out.below hb2)
      have hop2 := HOP.out.below hb2
      refine hKc.out _ _ ⟨⟨(blk_cell HP2.out.blk 1).trans rfl, (blk_cell HP2.out.blk 2).trans rfl⟩, hop2.e0, hop2.e1⟩ (fun hH2 => ?_)
      have HOP2 := Aside0.mk hop2
      clear hKc Kc hH hb hb2 hR hop2 cq HPr
      refine XReg.pu 13 15 (h := ?_)
      refine XReg.pu 14 29 (h := ?_)
      refine XReg.pu 15 30 (h := ?_)
      refine XReg.pu 16 4 (h := ?_)
      refine XReg.pu 17 5 (h := ?_)
      refine done_ (by kernel_rfl) ?_
      clear hH2
      have hib : i < 256 := by omega
      by_cases h0 : e' = 0
      · subst h0
        obtain ⟨e0, e1, e2, e3, e4, e5, e6, e7, l2, g2, l7, g7⟩ := HOP2.out
        have HG2 := Aside0.mk g2
        have HL2 := Aside0.mk l2
        have cq : w2.cell? ⟨g, 2, none⟩ = some (.slice (some ad) a.Q.length cw) := (blk_cell HP2.out.blk 2).trans rfl
        clear g2 g7 l2 l7
        go_wp2_with fail
        refine (refCan w0 G g vl _ _ a x A2 c2 A7 c7 w2 HP2.out HI.out.known HXR.out HL2.out (Kd.C_below HG2.out (HW.out.trans (HB2.out.mono HW.out.size)))).mono ?_
        rintro e w3 ⟨rfl, hb3'⟩
        have HB3 := Aside0.mk (show Below w.heap.size w w3 from HB2.out.trans (hb3'.mono HB2.out.size))
        clear hb3' e0 e1 e2 e3 e4 e5 e6 e7 cq
        obtain ⟨bl, hbl⟩ : ∃ b, leqS x.f1 a.K = b := ⟨_, rfl⟩
        have hcan : canS a.K x = bl := by unfold canS; rw [HE.out, hbl]; simp
        rw [hbl]
        have HC := Aside0.mk hcan
        clear hbl hcan
        cases bl with
        | true =>
          have HN := Aside0.mk (show nextA a = (i : Int) from by unfold nextA; rw [HF.out, HHT.out HC.out])
          go_wp2
          go_ret
          exact ⟨by rw [HN.out]; rfl, HB3.out⟩
        | false =>
          go_wp2
          go_round
          case rel => exact ⟨i + 1, by go_num, by omega, ⟨by rw [HF.out, HST.out HC.out]⟩, HB3⟩
          case measure => simp [intOf]; omega
      · have hne : (e' == 0) = false := by simp [h0]
        have hcan : canS a.K x = false := by unfold canS; rw [HE.out]; simp [h0]
        have HC := Aside0.mk hcan
        clear hcan h0
        go_wp2
        go_round
        case rel => exact ⟨i + 1, by go_num, by omega, ⟨by rw [HF.out, HST.out HC.out]⟩, HB2⟩
        case measure => simp [intOf]; omega
    · rw [List.drop_eq_nil_of_le (by omega)] at HF
      have HN := Aside0.mk (show nextA a = -1 from by unfold nextA; rw [HF.out]; rfl)
      go_wp2
      go_ret
      exact ⟨by rw [HN.out]; rfl, HB.out⟩
end Go.Proofs.Ytenbkljgmgdegaa.PO
