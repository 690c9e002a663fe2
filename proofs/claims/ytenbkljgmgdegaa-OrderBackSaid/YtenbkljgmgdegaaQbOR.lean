/- What the rows of this claim use, out of the texts of this work (OR). No condition beyond those that each statement names. -/
import Derived.Test.YtenbkljgmgdegaaQbOX
import Derived.Test.YtenbkljgmgdegaaQbOT
import Derived.Test.YtenbkljgmgdegaaQbOA
import Derived.Test.YtenbkljgmgdegaaQbPOx0
import Derived.Test.YtenbkljgmgdegaaQbPOx9
import Derived.Test.YtenbkljgmgdegaaQbPOx1
namespace Go.Proofs.Ytenbkljgmgdegaa.PO
open Go.RowKit Go.Proofs.YtenbkljgmgdegaaW.PrintWords Go.Proofs.YtenbkljgmgdegaaW.PrintLast Go.Proofs.YtenbkljgmgdegaaW.PrintMore Go.Proofs.Ytenbkljgmgdegaa.XW
open Go.Proofs.Ytenbkljgmgdegaa.XRange Go.Proofs.Ytenbkljgmgdegaa.XMap Go.Proofs.Ytenbkljgmgdegaa.XSeq
set_option linter.unusedVariables false
set_option linter.unusedSimpArgs false
structure RefAt (w0 : World) (G : Nat → Prop) (w : World) (g : Nat) (vl vk vw : Value) (a : AP) : Prop where
  blk : w.heap[g]? = some (.cells #[vl, vk, vw] 29 (0, 0))
  rl : Kd.R (kAt w0) 36 w 0 (fun k => G k ∧ some k ≠ vw.ownBlock) vl a.L
  rk : Kd.R k34 34 w 0 G vk a.K
  rq : Kd.R (kAt w0) 36 w 0 (fun k => G k ∧ some k ≠ vl.ownBlock) vw a.Q
section
variable {w0 w w1 : World} {G G' : Nat → Prop} {g : Nat} {vl vk vw : Value} {a : AP}
theorem kAt_E : ∀ q, q ∈ (36 : Nat) :: (kAt w0).E → q ≠ 29 := by intro q hq; simp [kAt] at hq; omega
theorem k34_E29 : ∀ q, q ∈ (34 : Nat) :: k34.E → q ≠ 29 := by intro q hq; have := k34_E q hq; omega
theorem k34_E36 : ∀ q, q ∈ (34 : Nat) :: k34.E → q ≠ 36 := by intro q hq; have := k34_E q hq; omega
theorem RefAt.move (h : RefAt w0 G w g vl vk vw a) (hm : ∀ k, (k = g ∨ G k) → k < w.heap.size → w1.heap[k]? = w.heap[k]?) : RefAt w0 G w1 g vl vk vw a :=
  ⟨(hm g (.inl rfl) (blk_lt h.blk)).trans h.blk, Kd.R_step h.rl (fun k hk hlt => hm k (.inr hk.1) hlt), Kd.R_step h.rk (fun k hk hlt => hm k (.inr hk) hlt), Kd.R_step h.rq (fun k hk hlt => hm k (.inr hk.1) hlt)⟩
theorem RefAt.gmono (h : RefAt w0 G w g vl vk vw a) (hg : ∀ k, G k → G' k) : RefAt w0 G' w g vl vk vw a :=
  ⟨h.blk, Kd.R_mono h.rl (fun k hk => ⟨hg k hk.1, hk.2⟩), Kd.R_mono h.rk hg, Kd.R_mono h.rq (fun k hk => ⟨hg k hk.1, hk.2⟩)⟩
theorem RefAt.gbound (h : RefAt w0 G w g vl vk vw a) : RefAt w0 (fun k => G k ∧ k < w.heap.size) w g vl vk vw a :=
  ⟨h.blk, Kd.R_mono (Kd.R_bound h.rl) (fun k hk => ⟨⟨hk.1.1, hk.2.2.1⟩, hk.1.2⟩), Kd.R_mono (Kd.R_bound h.rk) (fun k hk => ⟨hk.1, hk.2.2.1⟩), Kd.R_mono (Kd.R_bound h.rq) (fun k hk => ⟨⟨hk.1.1, hk.2.2.1⟩, hk.1.2⟩)⟩
theorem RefAt.below (h : RefAt w0 G w g vl vk vw a) (hb : Below w.heap.size w w1) : RefAt w0 G w1 g vl vk vw a := h.move (fun k _ hlt => hb.block k hlt)
theorem RefAt.ne_l (h : RefAt w0 G w g vl vk vw a) : some g ≠ vl.ownBlock := Kd.R_ne h.rl h.blk (by decide)
theorem RefAt.ne_q (h : RefAt w0 G w g vl vk vw a) : some g ≠ vw.ownBlock := Kd.R_ne h.rq h.blk (by decide)
theorem RefAt.known (h : RefAt w0 G w g vl vk vw a) {v0 : Value} {K' : List S34} (hr : Kd.R k34 34 w 0 G v0 K') : RefAt w0 G (w.setCell ⟨g, 1, none⟩ v0) g vl v0 vw { a with K := K' } :=
  ⟨blk_set h.blk 1 v0, Kd.R_mono (Kd.R_far (Kd.R_types h.rl h.blk kAt_E) (fun k hk => hk.2) v0) (fun k hk => hk.1), Kd.R_mono (Kd.R_far (Kd.R_types hr h.blk k34_E29) (fun k hk => hk.2) v0) (fun k hk => hk.1),
    Kd.R_mono (Kd.R_far (Kd.R_types h.rq h.blk kAt_E) (fun k hk => hk.2) v0) (fun k hk => hk.1)⟩
theorem RefAt.waits (h : RefAt w0 G w g vl vk vw a) {v0 : Value} {Q' : List S36} (hr : Kd.R (kAt w0) 36 w 0 (fun k => G k ∧ some k ≠ vl.ownBlock) v0 Q') (hne : ∀ k, v0.ownBlock = some k → some k ≠ vl.ownBlock) : RefAt w0 G (w.setCell ⟨g, 2, none⟩ v0) g vl vk v0 { a with Q := Q' } := by
  have hl := Kd.R_types h.rl h.blk kAt_E
  refine ⟨blk_set h.blk 2 v0, ?_, Kd.R_mono (Kd.R_far (Kd.R_types h.rk h.blk k34_E29) (fun k hk => hk.2) v0) (fun k hk => hk.1), Kd.R_mono (Kd.R_far (Kd.R_types hr h.blk kAt_E) (fun k hk => hk.2) v0) (fun k hk => hk.1)⟩
  have h1 := Kd.R_far (p := ⟨g, 2, none⟩) hl (fun k hk => hk.2) v0
  obtain ⟨ho, inner, hown, hrep⟩ := h1
  refine ⟨fun k hk => ⟨(ho k hk).1.1, fun e => hne k e.symm hk.symm⟩, inner, hown, hrep.imp_ (fun _ _ hp => hp)⟩
theorem RefAt.grewL (h : RefAt w0 G w g vl vk vw a) (hg : w.grownBy w1 vl.ownBlock) {v1 : Value} {L' : List S36} (hr : Kd.R (kAt w0) 36 w1 0 (fun k => G k ∧ some k ≠ vw.ownBlock) v1 L')
    (hat : v1.ownBlock = vl.ownBlock ∨ ∃ b, v1.ownBlock = some b ∧ w.heap.size ≤ b) : RefAt w0 G (w1.setCell ⟨g, 0, none⟩ v1) g v1 vk vw { a with L := L' } := by
  have hblk := blk_grown h.blk hg h.ne_l
  refine ⟨blk_set hblk 0 v1, Kd.R_mono (Kd.R_far (Kd.R_types hr hblk kAt_E) (fun k hk => hk.2) v1) (fun k hk => hk.1), ?_, ?_⟩
  · exact Kd.R_mono (Kd.R_far (Kd.R_types (Kd.R_over' h.rk (Kd.R_typed h.rl) k34_E36 hg) hblk k34_E29) (fun k hk => hk.2) v1) (fun k hk => hk.1)
  · have h1 := Kd.R_types (Kd.R_grown (Kd.R_bound h.rq) hg (fun k hk => hk.1.2)) hblk kAt_E
    refine Kd.R_mono (Kd.R_far h1 (fun k hk => hk.2) v1) (fun k hk => ?_)
    obtain ⟨⟨h2, _, h3, _⟩, _⟩ := hk
    refine ⟨h2.1, ?_⟩
    rcases hat with hat | ⟨b, hb, hlt⟩
    · rw [hat]; exact h2.2
    · rw [hb]; intro e; cases e; omega
theorem RefAt.grewQ (h : RefAt w0 G w g vl vk vw a) (hg : w.grownBy w1 vw.ownBlock) {v1 : Value} {Q' : List S36} (hr : Kd.R (kAt w0) 36 w1 0 (fun k => G k ∧ some k ≠ vl.ownBlock) v1 Q')
    (hat : v1.ownBlock = vw.ownBlock ∨ ∃ b, v1.ownBlock = some b ∧ w.heap.size ≤ b) : RefAt w0 G (w1.setCell ⟨g, 2, none⟩ v1) g vl vk v1 { a with Q := Q' } := by
  have hblk := blk_grown h.blk hg h.ne_q
  refine ⟨blk_set hblk 2 v1, ?_, ?_, Kd.R_mono (Kd.R_far (Kd.R_types hr hblk kAt_E) (fun k hk => hk.2) v1) (fun k hk => hk.1)⟩
  · have h1 := Kd.R_types (Kd.R_grown (Kd.R_bound h.rl) hg (fun k hk => hk.1.2)) hblk kAt_E
    refine Kd.R_mono (Kd.R_far h1 (fun k hk => hk.2) v1) (fun k hk => ?_)
    obtain ⟨⟨h2, _, h3, _⟩, _⟩ := hk
    refine ⟨h2.1, ?_⟩
    rcases hat with hat | ⟨b, hb, hlt⟩
    · rw [hat]; exact h2.2
    · rw [hb]; intro e; cases e; omega
  · exact Kd.R_mono (Kd.R_far (Kd.R_types (Kd.R_over' h.rk (Kd.R_typed h.rq) k34_E36 hg) hblk k34_E29) (fun k hk => hk.2) v1) (fun k hk => hk.1)
end
theorem OpAt0.below {w0 w w1 : World} {p : Addr} {x : S36} {A2 A7 : Option Addr} {c2 c7 : Nat} (h : OpAt0 w0 w p x A2 c2 A7 c7) (hb : Below w.heap.size w w1) : OpAt0 w0 w1 p x A2 c2 A7 c7 := by
  have st : ∀ {q : Addr} {u : Value}, w.cell? q = some u → w1.cell? q = some u := fun hq => (hb.cell (World.block_lt_of_cell? w _ hq)).trans hq
  exact ⟨st h.e0, st h.e1, st h.e2, st h.e3, st h.e4, st h.e5, st h.e6, st h.e7, h.l2, h.g2, h.l7, h.g7⟩
end Go.Proofs.Ytenbkljgmgdegaa.PO
