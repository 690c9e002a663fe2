/- What the rows of this claim use, out of the texts of this work (OX). No condition beyond those that each statement names. -/
import Derived.Test.YtenbkljgmgdegaaQoOT
namespace Go.Proofs.Ytenbkljgmgdegaa.PO
open Go.RowKit Go.Proofs.YtenbkljgmgdegaaW.PrintWords Go.Proofs.YtenbkljgmgdegaaW.PrintLast Go.Proofs.YtenbkljgmgdegaaW.PrintMore Go.Proofs.Ytenbkljgmgdegaa.XW
open Go.Proofs.Ytenbkljgmgdegaa.XRange Go.Proofs.Ytenbkljgmgdegaa.XMap Go.Proofs.Ytenbkljgmgdegaa.XSeq
set_option linter.unusedVariables false
set_option linter.unusedSimpArgs false
def kAt (w0 : World) : Kd S36 where
  sz := 8
  E := []
  K := fun _ x cs => k36.K w0 x cs
  M := fun _ _ _ x cs => k36.K w0 x cs
  K_len := k36.K_len
  K_one := k36.K_one
  K_below := fun _ h => h
  K_of_M := fun h => h
  M_mono := fun _ h => h
  M_bound := fun h => h
  M_move := fun _ h => h
  M_lower := fun _ h => h
theorem kAt_C {w0 w : World} {A : Option Addr} {n : Nat} {xs : List S36} (h : Kd.C (kAt w0) w A n xs) (hb : Below w0.heap.size w0 w) : Kd.C k36 w A n xs :=
  ReadsRow.imp_ h (Below.refl _ _) (fun _ _ hp => k36.K_below hb hp)
theorem kAt_of {w0 : World} {x : S36} {A2 A7 : Option Addr} {c2 c7 : Nat} (l2 : x.f1.length ≤ c2) (g2 : Kd.C k34 w0 A2 x.f1.length x.f1) (l7 : x.f6.length ≤ c7) (g7 : Kd.C k34 w0 A7 x.f6.length x.f6) :
    k36.K w0 x [.string x.f0.f0, .int .i64 x.f0.f1, .slice A2 x.f1.length c2, .string x.f2, .int .i64 x.f3, .string x.f4, .int .i64 x.f5, .slice A7 x.f6.length c7] := k36_mk w0 x l2 g2 l7 g7
theorem OpAt.below {w w1 : World} {p : Addr} {x : S36} {A2 A7 : Option Addr} {c2 c7 : Nat} (h : OpAt w p x A2 c2 A7 c7) (hb : Below w.heap.size w w1) : OpAt w1 p x A2 c2 A7 c7 := by
  have st : ∀ {q : Addr} {u : Value}, w.cell? q = some u → w1.cell? q = some u := fun hq => (hb.cell (World.block_lt_of_cell? w _ hq)).trans hq
  exact ⟨st h.e0, st h.e1, st h.e2, st h.e3, st h.e4, st h.e5, st h.e6, st h.e7, h.l2, Kd.C_below h.g2 hb, h.l7, Kd.C_below h.g7 hb⟩
theorem lit_row2 {w : World} {x y : S36} {cs ds : List Value} (h8 : cs.length = 8) (h8' : ds.length = 8) : ReadsRow (fun z c => (z = x ∧ c = cs) ∨ (z = y ∧ c = ds)) 8 (w.alloc (.cells (cs ++ ds).toArray 36)) (some ⟨w.heap.size, 0, none⟩) 2 [x, y] :=
  ⟨rfl, by decide, fun _ => ⟨_, rfl, fun j p hj => by
    cases j with
    | zero =>
      simp only [List.getElem?_cons_zero, Option.some.injEq] at hj
      subst hj
      refine ⟨cs, h8, .inl ⟨rfl, rfl⟩, fun i u hu => ?_⟩
      have hi : i < 8 := by have := (List.getElem?_eq_some_iff.1 hu).1; omega
      have h0 := (blk_cell (World.alloc_heap_new w (.cells (cs ++ ds).toArray 36)) i).trans ((show (cs ++ ds).toArray[i]? = cs[i]? from by rw [List.getElem?_toArray, List.getElem?_append_left (by omega)]).trans hu)
      rw [addr0, show 0 * 8 + i = i from by omega]
      exact h0
    | succ j =>
      cases j with
      | zero =>
        simp only [List.getElem?_cons_succ, List.getElem?_cons_zero, Option.some.injEq] at hj
        subst hj
        refine ⟨ds, h8', .inr ⟨rfl, rfl⟩, fun i u hu => ?_⟩
        have h0 := (blk_cell (World.alloc_heap_new w (.cells (cs ++ ds).toArray 36)) (8 + i)).trans ((show (cs ++ ds).toArray[8 + i]? = ds[i]? from by rw [List.getElem?_toArray, List.getElem?_append_right (by omega), h8, Nat.add_sub_cancel_left]).trans hu)
        rw [addr0, show (0 + 1) * 8 + i = 8 + i from by omega]
        exact h0
      | succ j => simp at hj⟩⟩
end Go.Proofs.Ytenbkljgmgdegaa.PO
