/- What the rows of this claim use, out of the texts of this work (OP). No condition beyond those that each statement names. -/
import Derived.Test.YtenbkljgmgdegaaQiOZ
namespace Go.Proofs.Ytenbkljgmgdegaa.PO
open Go.RowKit Go.Proofs.YtenbkljgmgdegaaW.PrintWords Go.Proofs.YtenbkljgmgdegaaW.PrintLast Go.Proofs.YtenbkljgmgdegaaW.PrintMore Go.Proofs.Ytenbkljgmgdegaa.XW
open Go.Proofs.Ytenbkljgmgdegaa.XRange Go.Proofs.Ytenbkljgmgdegaa.XMap Go.Proofs.Ytenbkljgmgdegaa.XSeq
set_option linter.unusedVariables false
set_option linter.unusedSimpArgs false
theorem refS_new (w0 w : World) : RefS w0 (fun k => k = w.heap.size) w.heap.size ⟨[], [], []⟩ (w.alloc (.cells #[.slice none 0 0, .slice none 0 0, .slice none 0 0] 29)) :=
  ⟨⟨_, _, _, ⟨World.alloc_heap_new w _, Kd.R_nil _ _ _ _ _, Kd.R_nil _ _ _ _ _, Kd.R_nil _ _ _ _ _⟩⟩, rfl, fun k hk => by subst hk; simp, invA_new⟩
structure Two (w0 : World) (g q : Nat) (a b : AP) (w : World) (S R : Nat → Prop) : Prop where
  p : PoolS S g a w
  r : RefS w0 R q b w
  s0 : ∀ k, S k → w0.heap.size ≤ k
  r0 : ∀ k, R k → w0.heap.size ≤ k
  ap : ∀ k, S k → ¬ R k
section
variable {w0 w w' : World} {g q : Nat} {a b a' b' : AP} {S R S' R' : Nat → Prop}
theorem Two.below (h : Two w0 g q a b w S R) (hb : Below w.heap.size w w') : Two w0 g q a b w' S R := ⟨h.p.below hb, h.r.below hb, h.s0, h.r0, h.ap⟩
theorem Two.poolStep (h : Two w0 g q a b w S R) (hW : Below w0.heap.size w0 w) (hp : PoolS S' g a' w') (hs : ∀ k, S' k → S k ∨ w.heap.size ≤ k) (hk : Keeps S w w') : Two w0 g q a' b w' S' R :=
  ⟨hp, h.r.keeps hk (fun k hR hS => h.ap k hS hR), fun k hk => by rcases hs k hk with h1 | h1; exact h.s0 k h1; exact Nat.le_trans hW.size h1, h.r0,
    fun k hk hR => by rcases hs k hk with h1 | h1; exact h.ap k h1 hR; exact absurd (h.r.2.2.1 k hR) (by omega)⟩
theorem Two.refStep (h : Two w0 g q a b w S R) (hW : Below w0.heap.size w0 w) (hp : RefS w0 R' q b' w') (hs : ∀ k, R' k → R k ∨ w.heap.size ≤ k) (hk : Keeps R w w') : Two w0 g q a b' w' S R' :=
  ⟨h.p.keeps hk (fun k hS hR => h.ap k hS hR), hp, h.s0, fun k hk => by rcases hs k hk with h1 | h1; exact h.r0 k h1; exact Nat.le_trans hW.size h1,
    fun k hS hk => by rcases hs k hk with h1 | h1; exact h.ap k hS h1; exact absurd (h.p.lt k hS) (by omega)⟩
end
theorem opAt_then {w0 w : World} {A : Option Addr} {n : Nat} {xs : List S36} (h : Kd.C k36 w0 A n xs) (hb : Below w0.heap.size w0 w) (i : Nat) (h1 : i < n) : ∃ ad A2 c2 A7 c7, A = some ad ∧ OpAt w (ad.add (i * 8)) (rd_T36 xs i) A2 c2 A7 c7 ∧
    Kd.C k34 w0 A2 (rd_T36 xs i).f1.length (rd_T36 xs i).f1 ∧ Kd.C k34 w0 A7 (rd_T36 xs i).f6.length (rd_T36 xs i).f6 := by
  obtain ⟨ad, A2, c2, A7, c7, e, h⟩ := opAt h i h1
  exact ⟨ad, A2, c2, A7, c7, e, h.below hb, h.g2, h.g7⟩
end Go.Proofs.Ytenbkljgmgdegaa.PO
