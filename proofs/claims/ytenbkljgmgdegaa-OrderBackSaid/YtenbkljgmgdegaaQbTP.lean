/- What the rows of this claim use, out of the texts of this work (TP). No condition beyond those that each statement names. -/
import Derived.Test.YtenbkljgmgdegaaQbPOx9
import Derived.Test.YtenbkljgmgdegaaQbO0
import Derived.Test.YtenbkljgmgdegaaQbPOx6
import Derived.Test.YtenbkljgmgdegaaQbX
namespace Go.Proofs.Ytenbkljgmgdegaa.PO
open Go.RowKit Go.Proofs.YtenbkljgmgdegaaW.PrintWords Go.Proofs.YtenbkljgmgdegaaW.PrintLast Go.Proofs.YtenbkljgmgdegaaW.PrintMore
open Go.Proofs.Ytenbkljgmgdegaa.XRange Go.Proofs.Ytenbkljgmgdegaa.XMap
set_option linter.unusedVariables false
set_option linter.unusedSimpArgs false
section
variable {P : Program} {md : Region.Mode} {ops : Array Oper} {Q : Exit → Act → World → Prop} {S : World → Prop} {ds : List Nat}
theorem puL {i : Nat} {oi : Oper} {v : Value} {fuel : Nat} {l : Array Bool} {a : Act} {w : World} (N : Option Tmp) (hi : ops[i]? = some oi) (hN : oi.dst = N) (hc : (Region.noSelect ops && Region.free md ops l i && (Region.ready md ops l).contains i) = true)
    (hQ : ∀ c a w, Q (.panic c) (a.put oi.dst v) w → Q (.panic c) a w) (hw : Region.wanted oi (yielded ops a.tmps) = true) (hy : ∀ w, (execOp a.eval oi).run P w = .ok (.value v) w) {a' : Act} (ha : a.put N v = a')
    (h : wpAnyLast P md ops Q S ds fuel (l.setIfInBounds i true) a' w) : wpAnyLast P md ops Q S ds (fuel + 1) l a w :=
  pure_ _ hi hN (by simp only [Bool.and_eq_true] at hc; have h3 := hc.2; simp [anyB, hc.1.1, hc.1.2]; simpa using h3) hQ (.inl ⟨hw, hy⟩) ha h
theorem tkL {i : Nat} {oi : Oper} {v : Value} {fuel : Nat} {l : Array Bool} {a : Act} {w : World} (N : Option Tmp) (hi : ops[i]? = some oi) (hN : oi.dst = N) (hc : (Region.noSelect ops && Region.free md ops l i && (Region.ready md ops l).contains i && Region.closedB md ops l && Region.lastB md ops l ds i) = true)
    (hQ : ∀ c a w, Q (.panic c) (a.put oi.dst v) w → Q (.panic c) a w) (hw : Region.wanted oi (yielded ops a.tmps) = true) (hS : S w) (hy : ∀ w, S w → (execOp a.eval oi).run P w = .ok (.value v) w) {a' : Act} (ha : a.put N v = a')
    (h : wpAnyLast P md ops Q S ds fuel (l.setIfInBounds i true) a' w) : wpAnyLast P md ops Q S ds (fuel + 1) l a w :=
  take_ _ hi hN (by simp only [Bool.and_eq_true] at hc; have h3 := hc.1.1.2; simp [takeB, hc.1.1.1.1, hc.1.1.1.2, hc.1.2, hc.2]; simpa using h3) hQ (.inl ⟨hw, hy⟩) hS ha h
theorem oneL {i : Nat} {oi : Oper} {fuel : Nat} {l : Array Bool} {a : Act} {w : World} (N : Option Tmp) (hi : ops[i]? = some oi) (hN : oi.dst = N) (hc : (Region.ready md ops l == [i]) = true) (hd : i ∉ ds)
    (h : ∀ K : Act → World → Prop, Shut (∀ a' w', S w' → (S w' → wpAnyLast P md ops Q S ds fuel (l.setIfInBounds i true) a' w') → K a' w') → if Region.wanted oi (yielded ops a.tmps) = true then Oper.wp P oi a w K Q else K (a.put N undef) w) :
    wpAnyLast P md ops Q S ds (fuel + 1) l a w := one_ _ hi hN (by simp only [readyB, hc, Bool.true_and, beq_self_eq_true]) hd h
theorem lastL {i : Nat} {oi : Oper} {fuel : Nat} {l : Array Bool} {a : Act} {w : World} (N : Option Tmp) (hi : ops[i]? = some oi) (hN : oi.dst = N) (hc : (Region.ready md ops l == [i]) = true) (hd : i ∈ ds)
    (h : ∀ K : Act → World → Prop, Shut (∀ a' w', wpAnyLast P md ops Q S ds fuel (l.setIfInBounds i true) a' w' → K a' w') → if Region.wanted oi (yielded ops a.tmps) = true then Oper.wp P oi a w K Q else K (a.put N undef) w) :
    wpAnyLast P md ops Q S ds (fuel + 1) l a w := last_ _ hi hN (by simp only [readyB, hc, Bool.true_and, beq_self_eq_true]) hd h
end
def opV (p : S36 × List Value) : Value := .agg p.2.toArray
def dotV (d : S34) : Value := .agg #[.string d.f0, .int .i64 d.f1]
structure PoolAt (G : Nat → Prop) (w : World) (base g : Nat) (vl vk vw : Value) (m : Nat) (L : List S36) (K : List S34) (Q : List S36) (D : List (S34 × (S36 × List Value))) : Prop where
  blk : w.heap[g]? = some (.cells #[vl, vk, vw, .map (some m)] 73 (0, 0))
  hb : base ≤ g
  rl : k36.R 36 w base (fun k => G k ∧ some k ≠ vw.ownBlock) vl L
  rk : k34.R 34 w base G vk K
  rq : k36.R 36 w base (fun k => G k ∧ some k ≠ vl.ownBlock) vw Q
  mp : MapAt w m dotV opV D
  hm : base ≤ m
  vals : ∀ p ∈ D, k36.M w base G p.2.1 p.2.2
theorem info36 : (Try.prog.info? 36).map (fun i => (i.zero, i.size, i.bytes)) = some (some (.agg #[(.string ⟨#[]⟩), (.int .i64 0), .slice none 0 0, (.string ⟨#[]⟩), (.int .i64 0), (.string ⟨#[]⟩), (.int .i64 0), .slice none 0 0]), 8, 120) := by kernel_rfl
theorem k36_E : ∀ q, q ∈ (36 : Nat) :: k36.E → q = 36 ∨ q = 34 := by decide
theorem k36_E' : ∀ q, q ∈ k36.E → q = 34 := by decide
theorem k34_E : ∀ q, q ∈ (34 : Nat) :: k34.E → q = 34 := by decide
theorem keeps_grown {w w1 : World} {row : Option Nat} (h : w.grownBy w1 row) : Keeps (fun k => some k = row) w w1 := ⟨h.os, h.tape, h.output, h.size, fun k hk hne => h.block k hk hne⟩
theorem keeps_weak {M M' : Nat → Prop} {A B : World} (h : Keeps M A B) (hm : ∀ k, M k → M' k) : Keeps M' A B := ⟨h.os, h.tape, h.output, h.size, fun k hk hne => h.block k hk (fun e => hne (hm k e))⟩
theorem M_row {w : World} {base base' : Nat} {ok ok' : Nat → Prop} {x : S36} {cs : List Value} {v : Value} {xs : List S36} (h : k36.M w base ok x cs) (hv : k36.R 36 w base' ok' v xs) : k36.M w base (fun k => ok k ∧ some k ≠ v.ownBlock) x cs :=
  k36.M_mono (fun k hk => ⟨hk.1, fun hb => by
    obtain ⟨_, _, _, q, hq, cells, hc⟩ := hk
    obtain ⟨cells', hc'⟩ := Kd.R_typed hv k hb.symm
    rw [hc] at hc'
    simp only [Option.some.injEq, Obj.cells.injEq] at hc'
    have h1 := hc'.2.1
    have h2 := k36_E' q hq
    rw [h2] at h1
    exact absurd h1 (by decide)⟩) (k36.M_bound h)
section
variable {G : Nat → Prop} {w w1 : World} {base g : Nat} {vl vk vw : Value} {m : Nat} {L : List S36} {K : List S34} {Q : List S36} {D : List (S34 × (S36 × List Value))}
theorem PoolAt.step (h : PoolAt G w base g vl vk vw m L K Q D) (hm : ∀ k, k < w.heap.size → w1.heap[k]? = w.heap[k]?) : PoolAt G w1 base g vl vk vw m L K Q D :=
  ⟨(hm g (blk_lt h.blk)).trans h.blk, h.hb, Kd.R_step h.rl (fun k _ hk => hm k hk), Kd.R_step h.rk (fun k _ hk => hm k hk), Kd.R_step h.rq (fun k _ hk => hm k hk), h.mp.step (hm m h.mp.lt), h.hm, fun p hp => Kd.M_step (h.vals p hp) (fun k _ hk => hm k hk)⟩
theorem PoolAt.below (h : PoolAt G w base g vl vk vw m L K Q D) (hb : Below w.heap.size w w1) : PoolAt G w1 base g vl vk vw m L K Q D := h.step (fun k hk => hb.block k hk)
theorem PoolAt.keeps (h : PoolAt G w base g vl vk vw m L K Q D) (hb : Keeps (fun _ => False) w w1) : PoolAt G w1 base g vl vk vw m L K Q D := h.step (fun k hk => hb.block k hk (fun f => f))
theorem PoolAt.ne_l (h : PoolAt G w base g vl vk vw m L K Q D) : some g ≠ vl.ownBlock := fun e => by
  obtain ⟨cells, hc⟩ := Kd.R_typed h.rl g e.symm
  have := h.blk
  rw [hc] at this
  simp only [Option.some.injEq, Obj.cells.injEq] at this
  exact absurd this.2.1 (by decide)
theorem PoolAt.ne_q (h : PoolAt G w base g vl vk vw m L K Q D) : some g ≠ vw.ownBlock := fun e => by
  obtain ⟨cells, hc⟩ := Kd.R_typed h.rq g e.symm
  have := h.blk
  rw [hc] at this
  simp only [Option.some.injEq, Obj.cells.injEq] at this
  exact absurd this.2.1 (by decide)
theorem PoolAt.m_g (h : PoolAt G w base g vl vk vw m L K Q D) : m ≠ g := fun e => by
  obtain ⟨es, cl, hm, _⟩ := h.mp.at_
  rw [e, h.blk] at hm
  cases hm
theorem PoolAt.m_l (h : PoolAt G w base g vl vk vw m L K Q D) : some m ≠ vl.ownBlock := fun e => by
  obtain ⟨es, cl, hm, _⟩ := h.mp.at_
  obtain ⟨cells, hc⟩ := Kd.R_typed h.rl m e.symm
  rw [hc] at hm
  cases hm
theorem PoolAt.m_q (h : PoolAt G w base g vl vk vw m L K Q D) : some m ≠ vw.ownBlock := fun e => by
  obtain ⟨es, cl, hm, _⟩ := h.mp.at_
  obtain ⟨cells, hc⟩ := Kd.R_typed h.rq m e.symm
  rw [hc] at hm
  cases hm
theorem far_cells {w : World} {p : Addr} (u : Value) (k : Nat) (h : k ≠ p.block) : (w.setCell p u).heap[k]? = w.heap[k]? := Below.heap_setCell w p u k h
theorem PoolAt.known (h : PoolAt G w base g vl vk vw m L K Q D) {v0 : Value} {K' : List S34} (hr : k34.R 34 w base G v0 K') : PoolAt G (w.setCell ⟨g, 1, none⟩ v0) base g vl v0 vw m L K' Q D :=
  ⟨blk_set h.blk 1 v0, h.hb, Kd.R_mono (Kd.R_far (Kd.R_types h.rl h.blk (fun q hq => by have := k36_E q hq; omega)) (fun k hk => hk.2) v0) (fun k hk => hk.1),
    Kd.R_mono (Kd.R_far (Kd.R_types hr h.blk (fun q hq => by have := k34_E q hq; omega)) (fun k hk => hk.2) v0) (fun k hk => hk.1),
    Kd.R_mono (Kd.R_far (Kd.R_types h.rq h.blk (fun q hq => by have := k36_E q hq; omega)) (fun k hk => hk.2) v0) (fun k hk => hk.1),
    h.mp.step (far_cells v0 m h.m_g), h.hm, fun p hp => k36.M_mono (fun k hk => hk.1) (Kd.M_far (Kd.M_types (h.vals p hp) h.blk (fun q hq => by have := k36_E' q hq; omega)) (fun k hk => hk.2) v0)⟩
theorem PoolAt.grewL (h : PoolAt G w base g vl vk vw m L K Q D) (hg : w.grownBy w1 vl.ownBlock) {v1 : Value} {L' : List S36} (hr : k36.R 36 w1 base (fun k => G k ∧ some k ≠ vw.ownBlock) v1 L')
    (hat : v1.ownBlock = vl.ownBlock ∨ ∃ b, v1.ownBlock = some b ∧ w.heap.size ≤ b) : PoolAt G (w1.setCell ⟨g, 0, none⟩ v1) base g v1 vk vw m L' K Q D := by
  have hblk := blk_grown h.blk hg h.ne_l
  refine ⟨blk_set hblk 0 v1, h.hb, Kd.R_mono (Kd.R_far (Kd.R_types hr hblk (fun q hq => by have := k36_E q hq; omega)) (fun k hk => hk.2) v1) (fun k hk => hk.1), ?_, ?_, ?_, h.hm, fun p hp => ?_⟩
  · exact Kd.R_mono (Kd.R_far (Kd.R_types (Kd.R_over' h.rk (Kd.R_typed h.rl) (fun q hq => by have := k34_E q hq; omega) hg) hblk (fun q hq => by have := k34_E q hq; omega)) (fun k hk => hk.2) v1) (fun k hk => hk.1)
  · have h1 := Kd.R_types (Kd.R_grown (Kd.R_bound h.rq) hg (fun k hk => hk.1.2)) hblk (fun q hq => by have := k36_E q hq; omega)
    refine Kd.R_mono (Kd.R_far h1 (fun k hk => hk.2) v1) (fun k hk => ?_)
    obtain ⟨⟨h2, _, h3, _⟩, _⟩ := hk
    refine ⟨h2.1, ?_⟩
    rcases hat with hat | ⟨b, hb, hlt⟩
    · rw [hat]; exact h2.2
    · rw [hb]; intro e; cases e; omega
  · exact h.mp.step ((far_cells v1 m h.m_g).trans (hg.block m h.mp.lt h.m_l))
  · have h1 := Kd.M_grown (M_row (h.vals p hp) h.rl) hg (fun k hk => hk.2)
    exact k36.M_mono (fun k hk => hk.1.1) (Kd.M_far (Kd.M_types h1 hblk (fun q hq => by have := k36_E' q hq; omega)) (fun k hk => hk.2) v1)
end
theorem lit_row {w : World} {x : S36} {cs : List Value} (h8 : cs.length = 8) : ReadsRow (fun y c => y = x ∧ c = cs) 8 (w.alloc (.cells cs.toArray 36)) (some ⟨w.heap.size, 0, none⟩) 1 [x] :=
  ⟨rfl, by decide, fun _ => ⟨_, rfl, fun j p hj => by
    cases j with
    | zero =>
      simp only [List.getElem?_cons_zero, Option.some.injEq] at hj
      subst hj
      refine ⟨cs, h8, ⟨rfl, rfl⟩, fun i u hu => ?_⟩
      have h0 := (blk_cell (World.alloc_heap_new w (.cells cs.toArray 36)) i).trans (by simpa using hu)
      have h1 : (⟨w.heap.size, 0, none⟩ : Addr).add (0 * 8 + i) = ⟨w.heap.size, i, none⟩ := by
        cases i with
        | zero => rfl
        | succ i => simp [Addr.add]
      rw [h1]
      exact h0
    | succ j => simp at hj⟩⟩
set_option maxHeartbeats 8000000 in
set_option maxRecDepth 100000 in
theorem hand_calls (G : Nat → Prop) (k base g : Nat) (vl vk vw : Value) (m : Nat) (L : List S36) (K : List S34) (Q : List S36) (D : List (S34 × (S36 × List Value))) (x : S36) (cs : List Value) (K' : List S34) (e : Int) (w : World)
    (hp : PoolAt G w base g vl vk vw m L K Q D) (hM : k36.M w base G x cs) (hf : vector_With.f k K x.f0.f0 x.f0.f1 = some (K', e)) (hL : L.length ≤ 1000000000000) (hG : ∀ j, w.heap.size ≤ j → G j) :
    Calls Try.prog 54 #[.pointer (some ⟨g, 0, none⟩), .agg cs.toArray] w fun e w' => (∃ v, e = .returned v) ∧ ∃ vl' vk', PoolAt G w' base g vl' vk' vw m (L ++ [x]) K' Q D ∧
      Keeps (fun k => k = g ∨ some k = vl.ownBlock) w w' ∧ (vl'.ownBlock = vl.ownBlock ∨ ∃ b, vl'.ownBlock = some b ∧ w.heap.size ≤ b) := by
  obtain ⟨v2, v7, rfl, r2, r7⟩ := k36_openM hM
  obtain ⟨Ak, ck, rfl, hck, hCk⟩ := Kd.R_reads hp.rk
  have HP := Aside0.mk hp
  have HM := Aside0.mk hM
  have HF := Aside0.mk hf
  have HCK := Aside0.mk hCk
  have HCL := Aside0.mk hck
  have HG := Aside0.mk (blk_lt hp.blk)
  have HLL := Aside0.mk hL
  have HGG := Aside0.mk hG
  clear hp hM hf hCk hck r2 r7 hL hG
  go_enter Try.func54, Try.ntmps54
  go_wp2
  obtain ⟨N, hN⟩ : ∃ N, w.heap.size = N := ⟨_, rfl⟩
  obtain ⟨w1, hw1⟩ : ∃ w1, w.alloc (.cells #[.string x.f0.f0, .int .i64 x.f0.f1, v2, .string x.f2, .int .i64 x.f3, .string x.f4, .int .i64 x.f5, v7] 36) = w1 := ⟨_, rfl⟩
  first | rw [hw1] | (rw [hN] at hw1; rw [hw1]) | skip
  rw [hN]
  have HB := Aside0.mk (show Below N w w1 from by rw [← hw1, ← hN]; exact (Below.refl _ w).alloc (Nat.le_refl _) _)
  have BK := Aside0.mk (show w1.heap[N]? = some (.cells #[.string x.f0.f0, .int .i64 x.f0.f1, v2, .string x.f2, .int .i64 x.f3, .string x.f4, .int .i64 x.f5, v7] 36 (0, 0)) from by rw [← hw1, ← hN]; exact World.alloc_heap_new w _)
  have HS := Aside0.mk (show N + 1 = w1.heap.size from by rw [← hw1, ← hN]; simp)
  refine start_ (n := 14) (ds := [13]) (S := fun w' => w'.cell? ⟨g, 1, none⟩ = some (.slice Ak K.length ck) ∧ w'.cell? ⟨N, 0, none⟩ = some (.string x.f0.f0) ∧ w'.cell? ⟨N, 1, none⟩ = some (.int .i64 x.f0.f1)) _ (by kernel_rfl) rfl rfl
    ⟨(blk_cell (blk_drew (blk_below HP.out.blk (by rw [hN]; exact HB.out))) 1).trans rfl, (blk_cell BK.out 0).trans rfl, (blk_cell BK.out 1).trans rfl⟩ (fun hH => ?_)
  refine XReg.pu 0 5 (h := ?_)
  refine XReg.pu 1 6 (h := ?_)
  refine XReg.pu 2 7 (h := ?_)
  refine XReg.pu 3 8 (h := ?_)
  refine XReg.tk 4 9 (h := ?_)
  refine XReg.pu 5 10 (h := ?_)
  refine XReg.tk 6 11 (h := ?_)
  have hsz : w1.drew.heap.size = w1.heap.size := rfl
  refine oneL (i := 7) (some 12) rfl rfl (by kernel_rfl) (by decide) (fun Kc hKc => ?_)
  refine goes_ Try.func108 (by kernel_rfl) rfl #[.slice Ak K.length ck, .agg #[.string x.f0.f0, .int .i64 x.f0.f1]] (by rfl) rfl rfl (by (try simp only [List.map_toArray, List.map_cons, List.map_nil]); first | done | rfl) ?_
  refine (vector_With.calls k Ak ck K x.f0.f0 x.f0.f1 K' e _ (Kd.C_drew (Kd.C_below HCK.out (by rw [hN]; exact HB.out))) HCL.out HF.out).mono ?_
  rintro e' w2 ⟨v0, rfl, hR, hb⟩
  refine ⟨_, rfl, ?_⟩
  obtain ⟨Av, cv, rfl⟩ := Kd.R_slice hR
  have HR := Aside0.mk hR
  have HB2 := Aside0.mk (show Below w1.heap.size w1 w2 from ⟨hb.os, hb.tape, hb.output, hb.size, hb.block⟩)
  clear hR hb
  refine hKc.out _ _ ⟨(blk_cell (blk_below (blk_below HP.out.blk (by rw [hN]; exact HB.out)) HB2.out) 1).trans rfl, (blk_cell (blk_below BK.out HB2.out) 0).trans rfl, (blk_cell (blk_below BK.out HB2.out) 1).trans rfl⟩ (fun hH2 => ?_)
  clear hKc Kc hH
  have c1 : w2.cell? ⟨g, 1, none⟩ = some (.slice Ak K.length ck) := hH2.1
  have f1 := blk_frozen (blk_below (blk_below HP.out.blk (by rw [hN]; exact HB.out)) HB2.out) 1
  refine XReg.pu 8 4 (h := ?_)
  refine XReg.pu 9 13 (h := ?_)
  refine XReg.pu 10 14 (h := ?_)
  refine XReg.pu 11 15 (h := ?_)
  refine XReg.pu 12 16 (h := ?_)
  refine lastL (i := 13) none rfl rfl (by kernel_rfl) (by decide) (fun Kc hKc => ?_)
  refine skip_ (w1 := ?_) (by rfl) rfl ?_ ?_
  rotate_left
  · go_simp
    rfl
  refine hKc.out _ _ ?_
  clear hKc Kc
  refine done_ (by kernel_rfl) ?_
  obtain ⟨w3, hw3⟩ : ∃ w3, w2.setCell ⟨g, 1, none⟩ (.slice Av K'.length cv) = w3 := ⟨_, rfl⟩
  have hBw : Below w.heap.size w w1 := by rw [hN]; exact HB.out
  have HP3 := Aside0.mk (show PoolAt G w3 base g vl (.slice Av K'.length cv) vw m L K' Q D from by
    rw [← hw3]
    exact ((HP.out.below hBw).below HB2.out).known (Kd.R_lower (Kd.R_mono (Kd.R_bound HR.out) (fun k hk => HGG.out k (Nat.le_trans hBw.size hk.2.1))) (by have := HP.out.hb; have := HG.out; have := HS.out; show base ≤ w1.heap.size; omega)))
  have HK3 := Aside0.mk (show Keeps (fun k => k = g) w w3 from by
    rw [← hw3]
    exact Keeps.setCell (M := fun k => k = g) ((Keeps.of_below hBw).trans (Keeps.of_below HB2.out)) (p := ⟨g, 1, none⟩) (.inl rfl) _)
  have BK3 := Aside0.mk (show w3.heap[N]? = some (.cells #[.string x.f0.f0, .int .i64 x.f0.f1, v2, .string x.f2, .int .i64 x.f3, .string x.f4, .int .i64 x.f5, v7] 36 (0, 0)) from by
    rw [← hw3]; exact (far_cells _ N (by show N ≠ g; have := HG.out; omega)).trans (blk_below BK.out HB2.out))
  rw [hw3]
  clear hw3 hH2 c1 f1 hBw
  go_wp2
  obtain ⟨Al, cl, rfl⟩ := Kd.R_slice HP3.out.rl
  refine start_ (n := 11) (ds := [10]) (S := fun w' => w'.cell? ⟨g, 0, none⟩ = some (.slice Al L.length cl) ∧ w'.cell? ⟨N, 0, none⟩ = some (.string x.f0.f0) ∧ w'.cell? ⟨N, 1, none⟩ = some (.int .i64 x.f0.f1) ∧ w'.cell? ⟨N, 2, none⟩ = some v2 ∧
      w'.cell? ⟨N, 3, none⟩ = some (.string x.f2) ∧ w'.cell? ⟨N, 4, none⟩ = some (.int .i64 x.f3) ∧ w'.cell? ⟨N, 5, none⟩ = some (.string x.f4) ∧ w'.cell? ⟨N, 6, none⟩ = some (.int .i64 x.f5) ∧ w'.cell? ⟨N, 7, none⟩ = some v7) _ (by kernel_rfl) rfl rfl
    ⟨(blk_cell (blk_drew HP3.out.blk) 0).trans rfl, (blk_cell BK3.out 0).trans rfl, (blk_cell BK3.out 1).trans rfl, (blk_cell BK3.out 2).trans rfl, (blk_cell BK3.out 3).trans rfl, (blk_cell BK3.out 4).trans rfl, (blk_cell BK3.out 5).trans rfl, (blk_cell BK3.out 6).trans rfl, (blk_cell BK3.out 7).trans rfl⟩ (fun hH => ?_)
  refine XReg.pu 0 17 (h := ?_)
  refine XReg.pu 1 18 (h := ?_)
  refine XReg.pu 2 19 (h := ?_)
  refine XReg.pu 3 20 (h := ?_)
  refine XReg.tk 4 21 (h := ?_)
  refine XReg.tk 5 22 (h := ?_)
  refine oneL (i := 6) (some 23) rfl rfl (by kernel_rfl) (by decide) (fun Kc hKc => ?_)
  go_simp
  refine hKc.out _ _ ⟨(blk_cell (blk_alloc (blk_drew HP3.out.blk) _) 0).trans rfl, (blk_cell (blk_alloc (blk_drew BK3.out) _) 0).trans rfl, (blk_cell (blk_alloc (blk_drew BK3.out) _) 1).trans rfl, (blk_cell (blk_alloc (blk_drew BK3.out) _) 2).trans rfl, (blk_cell (blk_alloc (blk_drew BK3.out) _) 3).trans rfl, (blk_cell (blk_alloc (blk_drew BK3.out) _) 4).trans rfl, (blk_cell (blk_alloc (blk_drew BK3.out) _) 5).trans rfl, (blk_cell (blk_alloc (blk_drew BK3.out) _) 6).trans rfl, (blk_cell (blk_alloc (blk_drew BK3.out) _) 7).trans rfl⟩ (fun hH2 => ?_)
  clear hKc Kc hH hH2
  refine oneL (i := 7) (some 24) rfl rfl (by kernel_rfl) (by decide) (fun Kc hKc => ?_)
  obtain ⟨cs, hcs⟩ : ∃ cs, cs = [.string x.f0.f0, .int .i64 x.f0.f1, v2, .string x.f2, .int .i64 x.f3, .string x.f4, .int .i64 x.f5, v7] := ⟨_, rfl⟩
  have hcw : (Obj.cells #[.string x.f0.f0, .int .i64 x.f0.f1, v2, .string x.f2, .int .i64 x.f3, .string x.f4, .int .i64 x.f5, v7] 36 (0, 0)) = .cells cs.toArray 36 (0, 0) := by rw [hcs]
  have h8 : cs.length = 8 := by rw [hcs]; rfl
  have HM3 : k36.M w3 base G x cs := by
    rw [hcs]
    exact k36.M_mono (fun _ h => h.1) (Kd.M_step (Kd.M_types HM.out HP.out.blk (fun q hq => by have := k36_E' q hq; omega)) (fun k hk hlt => HK3.out.block k hlt hk.2))
  rw [hcw]
  have HPa := HP3.out.step (w1 := (w3.alloc (.cells cs.toArray 36 (0, 0))).drew) (fun k hk => Below.heap_alloc w3 _ k hk)
  have HMa : k36.M (w3.alloc (.cells cs.toArray 36 (0, 0))).drew base G x cs := Kd.M_step HM3 (fun k _ hk => Below.heap_alloc w3 _ k hk)
  have HMb := M_row (M_row HMa HPa.rl) HPa.rq
  refine Kd.R_append_rows_step k36 (Rr := fun y c => y = x ∧ c = cs) (w0 := (w3.alloc (.cells cs.toArray 36 (0, 0))).drew) base (by rfl) (.tmp 21) (.tmp 23) 22 36 _ 120 rfl Try.underlying22 info36 rfl (by decide) (by omega) _ L [x] (some ⟨w3.heap.size, 0, none⟩) 1 1
    (fun k => G k ∧ some k ≠ vw.ownBlock) (fun k => (G k ∧ some k ≠ (Value.slice Al L.length cl).ownBlock) ∧ some k ≠ vw.ownBlock) rfl rfl HPa.rl (lit_row h8) (fun y c hyc => by obtain ⟨rfl, rfl⟩ := hyc; exact HMb) (fun k hk => ⟨⟨hk.1.1, hk.2⟩, hk.1.2⟩) (fun k hk => ⟨HGG.out k (Nat.le_trans HK3.out.size (Nat.le_trans (by show w3.heap.size ≤ (w3.alloc (.cells cs.toArray 36 (0, 0))).heap.size; simp) hk)), fun e => by have := Kd.R_lt HPa.rq k e.symm; omega⟩) (Below.refl _ _)
    (Nat.le_trans HPa.hb (Nat.le_of_lt (blk_lt HPa.blk))) (by have := HLL.out; simp; omega) (fun v1 w4 hr4 _ hg4 hat4 => ?_)
  have hPl := HPa.grewL hg4 hr4 hat4
  have hk4 : Keeps (fun k => k = g ∨ some k = (Value.slice Al L.length cl).ownBlock) w (w4.setCell ⟨g, 0, none⟩ v1) := by
    refine Keeps.setCell (M := fun k => k = g ∨ some k = (Value.slice Al L.length cl).ownBlock) (p := ⟨g, 0, none⟩) ?_ (.inl (.inl rfl)) _
    refine Keeps.trans (keeps_weak HK3.out (fun k hk => .inl hk)) ?_
    refine Keeps.trans (B := (w3.alloc (.cells cs.toArray 36 (0, 0))).drew) (((Keeps.refl _ w3).alloc _).drew) ?_
    exact keeps_weak (keeps_grown hg4) (fun k hk => .inr hk)
  have hfr : v1.ownBlock = (Value.slice Al L.length cl).ownBlock ∨ ∃ b, v1.ownBlock = some b ∧ w.heap.size ≤ b := by
    rcases hat4 with h | ⟨b, hb, hlt⟩
    · exact .inl h
    · exact .inr ⟨b, hb, Nat.le_trans HK3.out.size (Nat.le_trans (by show w3.heap.size ≤ (w3.alloc (.cells cs.toArray 36 (0, 0))).heap.size; simp) hlt)⟩
  have HPl := Aside0.mk hPl
  have HK4 := Aside0.mk hk4
  have HFR := Aside0.mk hfr
  have hbk : w4.heap[g]? = some (.cells #[.slice Al L.length cl, .slice Av K'.length cv, vw, .map (some m)] 73 (0, 0)) := blk_grown HPa.blk hg4 HPa.ne_l
  have hbn : w4.heap[N]? = some (.cells cs.toArray 36 (0, 0)) := by
    refine blk_grown (blk_drew (blk_alloc (by rw [← hcw]; exact BK3.out) _)) hg4 ?_
    intro e
    have := blk_lt HP.out.blk
    obtain ⟨cells, hc⟩ := Kd.R_typed HP.out.rl N (by exact e.symm)
    have := (Array.getElem?_eq_some_iff.1 hc).1
    omega
  rw [hcs] at hbn
  obtain ⟨Aw, cw, rfl⟩ := Kd.R_slice hr4
  refine hKc.out _ _ ⟨?_, (blk_cell hbn 0).trans rfl, (blk_cell hbn 1).trans rfl, (blk_cell hbn 2).trans rfl, (blk_cell hbn 3).trans rfl, (blk_cell hbn 4).trans rfl, (blk_cell hbn 5).trans rfl, (blk_cell hbn 6).trans rfl, (blk_cell hbn 7).trans rfl⟩ (fun hH2 => ?_)
  · exact (blk_cell hbk 0).trans rfl
  clear hKc Kc hPl hk4 hfr HPa HMa HMb hr4 HM3
  have c0 : w4.cell? ⟨g, 0, none⟩ = some (.slice Al L.length cl) := (blk_cell hbk 0).trans rfl
  have f0 := blk_frozen hbk 0
  refine XReg.pu 8 25 (h := ?_)
  refine XReg.pu 9 26 (h := ?_)
  refine lastL (i := 10) none rfl rfl (by kernel_rfl) (by decide) (fun Kc hKc => ?_)
  refine skip_ (w1 := ?_) (by rfl) rfl ?_ ?_
  rotate_left
  · go_simp
    rfl
  refine hKc.out _ _ ?_
  clear hKc Kc
  refine done_ (by kernel_rfl) ?_
  go_wp2
  go_end0
  have e1 : (L ++ [x]).length = L.length + 1 := by simp
  have h1 := HPl.out
  have h2 := HK4.out
  have h3 := HFR.out
  rw [e1] at h1 h2 h3
  rw [hN] at h3
  exact ⟨⟨_, rfl⟩, _, ⟨_, h1⟩, h2, h3⟩
end Go.Proofs.Ytenbkljgmgdegaa.PO
