/- What the rows of this claim use, out of the texts of this work (TP, TD, TS). No condition beyond those that each statement names. -/
import Derived.Laws.CopyRow
import Derived.Laws.Tables
import Derived.Test.YtenbkljgmgdegaaQwPOx9
import Derived.Test.YtenbkljgmgdegaaQwOH
import Derived.Test.YtenbkljgmgdegaaQwX
section
namespace Go.Proofs.Ytenbkljgmgdegaa.PO
open Go.RowKit Go.Proofs.YtenbkljgmgdegaaW.PrintWords Go.Proofs.YtenbkljgmgdegaaW.PrintLast Go.Proofs.YtenbkljgmgdegaaW.PrintMore
open Go.Proofs.Ytenbkljgmgdegaa.XRange Go.Proofs.Ytenbkljgmgdegaa.XMap
set_option linter.unusedVariables false
set_option linter.unusedSimpArgs false
section
variable {P : Program} {md : Region.Mode} {ops : Array Oper} {Q : Exit → Act → World → Prop} {S : World → Prop} {ds : List Nat}
theorem tkL {i : Nat} {oi : Oper} {v : Value} {fuel : Nat} {l : Array Bool} {a : Act} {w : World} (N : Option Tmp) (hi : ops[i]? = some oi) (hN : oi.dst = N) (hc : (Region.noSelect ops && Region.free md ops l i && (Region.ready md ops l).contains i && Region.closedB md ops l && Region.lastB md ops l ds i) = true)
 (hQ : ∀ c a w, Q (.panic c) (a.put oi.dst v) w → Q (.panic c) a w) (hw : Region.wanted oi (yielded ops a.tmps) = true) (hS : S w) (hy : ∀ w, S w → (execOp a.eval oi).run P w = .ok (.value v) w) {a' : Act} (ha : a.put N v = a')
 (h : wpAnyLast P md ops Q S ds fuel (l.setIfInBounds i true) a' w) : wpAnyLast P md ops Q S ds (fuel + 1) l a w :=
 take_ _ hi hN (by simp only [Bool.and_eq_true] at hc; have h3 := hc.1.1.2; simp [takeB, hc.1.1.1.1, hc.1.1.1.2, hc.1.2, hc.2]; simpa using h3) hQ (.inl ⟨hw, hy⟩) hS ha h
theorem oneL {i : Nat} {oi : Oper} {fuel : Nat} {l : Array Bool} {a : Act} {w : World} (N : Option Tmp) (hi : ops[i]? = some oi) (hN : oi.dst = N) (hc : (Region.ready md ops l == [i]) = true) (hd : i ∉ ds)
 (h : ∀ K : Act → World → Prop, Shut (∀ a' w', S w' → (S w' → wpAnyLast P md ops Q S ds fuel (l.setIfInBounds i true) a' w') → K a' w') → if Region.wanted oi (yielded ops a.tmps) = true then Oper.wp P oi a w K Q else K (a.put N undef) w) :
 wpAnyLast P md ops Q S ds (fuel + 1) l a w := one_ _ hi hN (by simp only [readyB, hc, Bool.true_and, beq_self_eq_true]) hd h
theorem lastL {i : Nat} {oi : Oper} {fuel : Nat} {l : Array Bool} {a : Act} {w : World} (N : Option Tmp) (hi : ops[i]? = some oi) (hN : oi.dst = N) (hc : (Region.ready md ops l == [i]) = true) (hd : i ∈ ds)
 (h : ∀ K : Act → World → Prop, Shut (∀ a' w', wpAnyLast P md ops Q S ds fuel (l.setIfInBounds i true) a' w' → K a' w') → if Region.wanted oi (yielded ops a.tmps) = true then Oper.wp P oi a w K Q else K (a.put N undef) w) :
 wpAnyLast P md ops Q S ds (fuel + 1) l a w := last_ _ hi hN (by simp only [readyB, hc, Bool.true_and, beq_self_eq_true]) hd h
end
def opV (p : S36 × List Value) : Value := .agg p.2.toArray
def dotV (d : S34) : Value := .agg #[.string d.f0, .int .i64 d.f1]
structure PoolAt (G : Nat → Prop) (w : World) (base g : Nat) (vl vk vw : Value) (m : Nat) (L : List S36) (K : List S34) (Q : List S36) (D : List (S34 × (S36 × List Value))) : Prop where
 blk : w.heap[g]? = some (.cells #[vl, vk, vw, .map (some m)] 73 (0, 0))
 hb : base ≤ g
 rl : k36.R 36 w base (fun k => G k ∧ some k ≠ vw.ownBlock) vl L
 rk : k34.R 34 w base G vk K
 rq : k36.R 36 w base (fun k => G k ∧ some k ≠ vl.ownBlock) vw Q
 mp : MapAt w m dotV opV D
 hm : base ≤ m
 vals : ∀ p ∈ D, k36.M w base G p.2.1 p.2.2
theorem info36 : (Try.prog.info? 36).map (fun i => (i.zero, i.size, i.bytes)) = some (some (.agg #[(.string ⟨#[]⟩), (.int .i64 0), .slice none 0 0, (.string ⟨#[]⟩), (.int .i64 0), (.string ⟨#[]⟩), (.int .i64 0), .slice none 0 0]), 8, 120) := by kernel_rfl
theorem k36_E : ∀ q, q ∈ (36 : Nat) :: k36.E → q = 36 ∨ q = 34 := by decide
theorem k36_E' : ∀ q, q ∈ k36.E → q = 34 := by decide
theorem k34_E : ∀ q, q ∈ (34 : Nat) :: k34.E → q = 34 := by decide
theorem keeps_grown {w w1 : World} {row : Option Nat} (h : w.grownBy w1 row) : Keeps (fun k => some k = row) w w1 := ⟨h.os, h.tape, h.output, h.size, fun k hk hne => h.block k hk hne⟩
theorem keeps_weak {M M' : Nat → Prop} {A B : World} (h : Keeps M A B) (hm : ∀ k, M k → M' k) : Keeps M' A B := ⟨h.os, h.tape, h.output, h.size, fun k hk hne => h.block k hk (fun e => hne (hm k e))⟩
theorem M_row {w : World} {base base' : Nat} {ok ok' : Nat → Prop} {x : S36} {cs : List Value} {v : Value} {xs : List S36} (h : k36.M w base ok x cs) (hv : k36.R 36 w base' ok' v xs) : k36.M w base (fun k => ok k ∧ some k ≠ v.ownBlock) x cs :=
 k36.M_mono (fun k hk => ⟨hk.1, fun hb => by
  obtain ⟨_, _, _, q, hq, cells, hc⟩ := hk
  obtain ⟨cells', hc'⟩ := Kd.R_typed hv k hb.symm
  rw [hc] at hc'
  simp only [Option.some.injEq, Obj.cells.injEq] at hc'
  have h1 := hc'.2.1
  have h2 := k36_E' q hq
  rw [h2] at h1
  exact absurd h1 (by decide)⟩) (k36.M_bound h)
section
variable {G : Nat → Prop} {w w1 : World} {base g : Nat} {vl vk vw : Value} {m : Nat} {L : List S36} {K : List S34} {Q : List S36} {D : List (S34 × (S36 × List Value))}
theorem PoolAt.step (h : PoolAt G w base g vl vk vw m L K Q D) (hm : ∀ k, k < w.heap.size → w1.heap[k]? = w.heap[k]?) : PoolAt G w1 base g vl vk vw m L K Q D :=
 ⟨(hm g (blk_lt h.blk)).trans h.blk, h.hb, Kd.R_step h.rl (fun k _ hk => hm k hk), Kd.R_step h.rk (fun k _ hk => hm k hk), Kd.R_step h.rq (fun k _ hk => hm k hk), h.mp.step (hm m h.mp.lt), h.hm, fun p hp => Kd.M_step (h.vals p hp) (fun k _ hk => hm k hk)⟩
theorem PoolAt.below (h : PoolAt G w base g vl vk vw m L K Q D) (hb : Below w.heap.size w w1) : PoolAt G w1 base g vl vk vw m L K Q D := h.step (fun k hk => hb.block k hk)
theorem PoolAt.keeps (h : PoolAt G w base g vl vk vw m L K Q D) (hb : Keeps (fun _ => False) w w1) : PoolAt G w1 base g vl vk vw m L K Q D := h.step (fun k hk => hb.block k hk (fun f => f))
theorem PoolAt.ne_l (h : PoolAt G w base g vl vk vw m L K Q D) : some g ≠ vl.ownBlock := fun e => by
 obtain ⟨cells, hc⟩ := Kd.R_typed h.rl g e.symm
 have := h.blk
 rw [hc] at this
 simp only [Option.some.injEq, Obj.cells.injEq] at this
 exact absurd this.2.1 (by decide)
theorem PoolAt.ne_q (h : PoolAt G w base g vl vk vw m L K Q D) : some g ≠ vw.ownBlock := fun e => by
 obtain ⟨cells, hc⟩ := Kd.R_typed h.rq g e.symm
 have := h.blk
 rw [hc] at this
 simp only [Option.some.injEq, Obj.cells.injEq] at this
 exact absurd this.2.1 (by decide)
theorem PoolAt.m_g (h : PoolAt G w base g vl vk vw m L K Q D) : m ≠ g := fun e => by
 obtain ⟨es, cl, hm, _⟩ := h.mp.at_
 rw [e, h.blk] at hm
 cases hm
theorem PoolAt.m_l (h : PoolAt G w base g vl vk vw m L K Q D) : some m ≠ vl.ownBlock := fun e => by
 obtain ⟨es, cl, hm, _⟩ := h.mp.at_
 obtain ⟨cells, hc⟩ := Kd.R_typed h.rl m e.symm
 rw [hc] at hm
 cases hm
theorem PoolAt.m_q (h : PoolAt G w base g vl vk vw m L K Q D) : some m ≠ vw.ownBlock := fun e => by
 obtain ⟨es, cl, hm, _⟩ := h.mp.at_
 obtain ⟨cells, hc⟩ := Kd.R_typed h.rq m e.symm
 rw [hc] at hm
 cases hm
theorem far_cells {w : World} {p : Addr} (u : Value) (k : Nat) (h : k ≠ p.block) : (w.setCell p u).heap[k]? = w.heap[k]? := Below.heap_setCell w p u k h
theorem PoolAt.known (h : PoolAt G w base g vl vk vw m L K Q D) {v0 : Value} {K' : List S34} (hr : k34.R 34 w base G v0 K') : PoolAt G (w.setCell ⟨g, 1, none⟩ v0) base g vl v0 vw m L K' Q D :=
 ⟨blk_set h.blk 1 v0, h.hb, Kd.R_mono (Kd.R_far (Kd.R_types h.rl h.blk (fun q hq => by have := k36_E q hq; omega)) (fun k hk => hk.2) v0) (fun k hk => hk.1),
  Kd.R_mono (Kd.R_far (Kd.R_types hr h.blk (fun q hq => by have := k34_E q hq; omega)) (fun k hk => hk.2) v0) (fun k hk => hk.1),
  Kd.R_mono (Kd.R_far (Kd.R_types h.rq h.blk (fun q hq => by have := k36_E q hq; omega)) (fun k hk => hk.2) v0) (fun k hk => hk.1),
  h.mp.step (far_cells v0 m h.m_g), h.hm, fun p hp => k36.M_mono (fun k hk => hk.1) (Kd.M_far (Kd.M_types (h.vals p hp) h.blk (fun q hq => by have := k36_E' q hq; omega)) (fun k hk => hk.2) v0)⟩
theorem PoolAt.grewL (h : PoolAt G w base g vl vk vw m L K Q D) (hg : w.grownBy w1 vl.ownBlock) {v1 : Value} {L' : List S36} (hr : k36.R 36 w1 base (fun k => G k ∧ some k ≠ vw.ownBlock) v1 L')
 (hat : v1.ownBlock = vl.ownBlock ∨ ∃ b, v1.ownBlock = some b ∧ w.heap.size ≤ b) : PoolAt G (w1.setCell ⟨g, 0, none⟩ v1) base g v1 vk vw m L' K Q D := by
 have hblk := blk_grown h.blk hg h.ne_l
 refine ⟨blk_set hblk 0 v1, h.hb, Kd.R_mono (Kd.R_far (Kd.R_types hr hblk (fun q hq => by have := k36_E q hq; omega)) (fun k hk => hk.2) v1) (fun k hk => hk.1), ?_, ?_, ?_, h.hm, fun p hp => ?_⟩
 · exact Kd.R_mono (Kd.R_far (Kd.R_types (Kd.R_over' h.rk (Kd.R_typed h.rl) (fun q hq => by have := k34_E q hq; omega) hg) hblk (fun q hq => by have := k34_E q hq; omega)) (fun k hk => hk.2) v1) (fun k hk => hk.1)
 · have h1 := Kd.R_types (Kd.R_grown (Kd.R_bound h.rq) hg (fun k hk => hk.1.2)) hblk (fun q hq => by have := k36_E q hq; omega)
   refine Kd.R_mono (Kd.R_far h1 (fun k hk => hk.2) v1) (fun k hk => ?_)
   obtain ⟨⟨h2, _, h3, _⟩, _⟩ := hk
   refine ⟨h2.1, ?_⟩
   rcases hat with hat | ⟨b, hb, hlt⟩
   · rw [hat]; exact h2.2
   · rw [hb]; intro e; cases e; omega
 · exact h.mp.step ((far_cells v1 m h.m_g).trans (hg.block m h.mp.lt h.m_l))
 · have h1 := Kd.M_grown (M_row (h.vals p hp) h.rl) hg (fun k hk => hk.2)
   exact k36.M_mono (fun k hk => hk.1.1) (Kd.M_far (Kd.M_types h1 hblk (fun q hq => by have := k36_E' q hq; omega)) (fun k hk => hk.2) v1)
end
theorem lit_row {w : World} {x : S36} {cs : List Value} (h8 : cs.length = 8) : ReadsRow (fun y c => y = x ∧ c = cs) 8 (w.alloc (.cells cs.toArray 36)) (some ⟨w.heap.size, 0, none⟩) 1 [x] :=
 ⟨rfl, by decide, fun _ => ⟨_, rfl, fun j p hj => by
  cases j with
  | zero =>
    simp only [List.getElem?_cons_zero, Option.some.injEq] at hj
    subst hj
    refine ⟨cs, h8, ⟨rfl, rfl⟩, fun i u hu => ?_⟩
    have h0 := (blk_cell (World.alloc_heap_new w (.cells cs.toArray 36)) i).trans (by simpa using hu)
    have h1 : (⟨w.heap.size, 0, none⟩ : Addr).add (0 * 8 + i) = ⟨w.heap.size, i, none⟩ := by
     cases i with
     | zero => rfl
     | succ i => simp [Addr.add]
    rw [h1]
    exact h0
  | succ j => simp at hj⟩⟩
set_option maxHeartbeats 8000000 in
set_option maxRecDepth 100000 in
theorem hand_calls (G : Nat → Prop) (k base g : Nat) (vl vk vw : Value) (m : Nat) (L : List S36) (K : List S34) (Q : List S36) (D : List (S34 × (S36 × List Value))) (x : S36) (cs : List Value) (K' : List S34) (e : Int) (w : World)
 (hp : PoolAt G w base g vl vk vw m L K Q D) (hM : k36.M w base G x cs) (hf : vector_With.f k K x.f0.f0 x.f0.f1 = some (K', e)) (hL : L.length ≤ 1000000000000) (hG : ∀ j, w.heap.size ≤ j → G j) :
 Calls Try.prog 54 #[.pointer (some ⟨g, 0, none⟩), .agg cs.toArray] w fun e w' => (∃ v, e = .returned v) ∧ ∃ vl' vk', PoolAt G w' base g vl' vk' vw m (L ++ [x]) K' Q D ∧
  Keeps (fun k => k = g ∨ some k = vl.ownBlock) w w' ∧ (vl'.ownBlock = vl.ownBlock ∨ ∃ b, vl'.ownBlock = some b ∧ w.heap.size ≤ b) := by
 obtain ⟨v2, v7, rfl, r2, r7⟩ := k36_openM hM
 obtain ⟨Ak, ck, rfl, hck, hCk⟩ := Kd.R_reads hp.rk
 have HP := Aside0.mk hp
 have HM := Aside0.mk hM
 have HF := Aside0.mk hf
 have HCK := Aside0.mk hCk
 have HCL := Aside0.mk hck
 have HG := Aside0.mk (blk_lt hp.blk)
 have HLL := Aside0.mk hL
 have HGG := Aside0.mk hG
 clear hp hM hf hCk hck r2 r7 hL hG
 go_enter Try.func54, Try.ntmps54
 go_wp2
 obtain ⟨N, hN⟩ : ∃ N, w.heap.size = N := ⟨_, rfl⟩
 obtain ⟨w1, hw1⟩ : ∃ w1, w.alloc (.cells #[.string x.f0.f0, .int .i64 x.f0.f1, v2, .string x.f2, .int .i64 x.f3, .string x.f4, .int .i64 x.f5, v7] 36) = w1 := ⟨_, rfl⟩
 first | rw [hw1] | (rw [hN] at hw1; rw [hw1]) | skip
 rw [hN]
 have HB := Aside0.mk (show Below N w w1 from by rw [← hw1, ← hN]; exact (Below.refl _ w).alloc (Nat.le_refl _) _)
 have BK := Aside0.mk (show w1.heap[N]? = some (.cells #[.string x.f0.f0, .int .i64 x.f0.f1, v2, .string x.f2, .int .i64 x.f3, .string x.f4, .int .i64 x.f5, v7] 36 (0, 0)) from by rw [← hw1, ← hN]; exact World.alloc_heap_new w _)
 have HS := Aside0.mk (show N + 1 = w1.heap.size from by rw [← hw1, ← hN]; simp)
 refine start_ (n := 14) (ds := [13]) (S := fun w' => w'.cell? ⟨g, 1, none⟩ = some (.slice Ak K.length ck) ∧ w'.cell? ⟨N, 0, none⟩ = some (.string x.f0.f0) ∧ w'.cell? ⟨N, 1, none⟩ = some (.int .i64 x.f0.f1)) _ (by kernel_rfl) rfl rfl
  ⟨(blk_cell (blk_drew (blk_below HP.out.blk (by rw [hN]; exact HB.out))) 1).trans rfl, (blk_cell BK.out 0).trans rfl, (blk_cell BK.out 1).trans rfl⟩ (fun hH => ?_)
 refine XReg.pu 0 5 (h := ?_)
 refine XReg.pu 1 6 (h := ?_)
 refine XReg.pu 2 7 (h := ?_)
 refine XReg.pu 3 8 (h := ?_)
 refine XReg.tk 4 9 (h := ?_)
 refine XReg.pu 5 10 (h := ?_)
 refine XReg.tk 6 11 (h := ?_)
 have hsz : w1.drew.heap.size = w1.heap.size := rfl
 refine oneL (i := 7) (some 12) rfl rfl (by kernel_rfl) (by decide) (fun Kc hKc => ?_)
 refine goes_ Try.func108 (by kernel_rfl) rfl #[.slice Ak K.length ck, .agg #[.string x.f0.f0, .int .i64 x.f0.f1]] (by rfl) rfl rfl (by (try simp only [List.map_toArray, List.map_cons, List.map_nil]); first | done | rfl) ?_
 refine (vector_With.calls k Ak ck K x.f0.f0 x.f0.f1 K' e _ (Kd.C_drew (Kd.C_below HCK.out (by rw [hN]; exact HB.out))) HCL.out HF.out).mono ?_
 rintro e' w2 ⟨v0, rfl, hR, hb⟩
 refine ⟨_, rfl, ?_⟩
 obtain ⟨Av, cv, rfl⟩ := Kd.R_slice hR
 have HR := Aside0.mk hR
 have HB2 := Aside0.mk (show Below w1.heap.size w1 w2 from ⟨hb.os, hb.tape, hb.output, hb.size, hb.block⟩)
 clear hR hb
 refine hKc.out _ _ ⟨(blk_cell (blk_below (blk_below HP.out.blk (by rw [hN]; exact HB.out)) HB2.out) 1).trans rfl, (blk_cell (blk_below BK.out HB2.out) 0).trans rfl, (blk_cell (blk_below BK.out HB2.out) 1).trans rfl⟩ (fun hH2 => ?_)
 clear hKc Kc hH
 have c1 : w2.cell? ⟨g, 1, none⟩ = some (.slice Ak K.length ck) := hH2.1
 have f1 := blk_frozen (blk_below (blk_below HP.out.blk (by rw [hN]; exact HB.out)) HB2.out) 1
 refine XReg.pu 8 4 (h := ?_)
 refine XReg.pu 9 13 (h := ?_)
 refine XReg.pu 10 14 (h := ?_)
 refine XReg.pu 11 15 (h := ?_)
 refine XReg.pu 12 16 (h := ?_)
 refine lastL (i := 13) none rfl rfl (by kernel_rfl) (by decide) (fun Kc hKc => ?_)
 refine skip_ (w1 := ?_) (by rfl) rfl ?_ ?_
 rotate_left
 · go_simp
   rfl
 refine hKc.out _ _ ?_
 clear hKc Kc
 refine done_ (by kernel_rfl) ?_
 obtain ⟨w3, hw3⟩ : ∃ w3, w2.setCell ⟨g, 1, none⟩ (.slice Av K'.length cv) = w3 := ⟨_, rfl⟩
 have hBw : Below w.heap.size w w1 := by rw [hN]; exact HB.out
 have HP3 := Aside0.mk (show PoolAt G w3 base g vl (.slice Av K'.length cv) vw m L K' Q D from by
  rw [← hw3]
  exact ((HP.out.below hBw).below HB2.out).known (Kd.R_lower (Kd.R_mono (Kd.R_bound HR.out) (fun k hk => HGG.out k (Nat.le_trans hBw.size hk.2.1))) (by have := HP.out.hb; have := HG.out; have := HS.out; show base ≤ w1.heap.size; omega)))
 have HK3 := Aside0.mk (show Keeps (fun k => k = g) w w3 from by
  rw [← hw3]
  exact Keeps.setCell (M := fun k => k = g) ((Keeps.of_below hBw).trans (Keeps.of_below HB2.out)) (p := ⟨g, 1, none⟩) (.inl rfl) _)
 have BK3 := Aside0.mk (show w3.heap[N]? = some (.cells #[.string x.f0.f0, .int .i64 x.f0.f1, v2, .string x.f2, .int .i64 x.f3, .string x.f4, .int .i64 x.f5, v7] 36 (0, 0)) from by
  rw [← hw3]; exact (far_cells _ N (by show N ≠ g; have := HG.out; omega)).trans (blk_below BK.out HB2.out))
 rw [hw3]
 clear hw3 hH2 c1 f1 hBw
 go_wp2
 obtain ⟨Al, cl, rfl⟩ := Kd.R_slice HP3.out.rl
 refine start_ (n := 11) (ds := [10]) (S := fun w' => w'.cell? ⟨g, 0, none⟩ = some (.slice Al L.length cl) ∧ w'.cell? ⟨N, 0, none⟩ = some (.string x.f0.f0) ∧ w'.cell? ⟨N, 1, none⟩ = some (.int .i64 x.f0.f1) ∧ w'.cell? ⟨N, 2, none⟩ = some v2 ∧
  w'.cell? ⟨N, 3, none⟩ = some (.string x.f2) ∧ w'.cell? ⟨N, 4, none⟩ = some (.int .i64 x.f3) ∧ w'.cell? ⟨N, 5, none⟩ = some (.string x.f4) ∧ w'.cell? ⟨N, 6, none⟩ = some (.int .i64 x.f5) ∧ w'.cell? ⟨N, 7, none⟩ = some v7) _ (by kernel_rfl) rfl rfl
  ⟨(blk_cell (blk_drew HP3.out.blk) 0).trans rfl, (blk_cell BK3.out 0).trans rfl, (blk_cell BK3.out 1).trans rfl, (blk_cell BK3.out 2).trans rfl, (blk_cell BK3.out 3).trans rfl, (blk_cell BK3.out 4).trans rfl, (blk_cell BK3.out 5).trans rfl, (blk_cell BK3.out 6).trans rfl, (blk_cell BK3.out 7).trans rfl⟩ (fun hH => ?_)
 refine XReg.pu 0 17 (h := ?_)
 refine XReg.pu 1 18 (h := ?_)
 refine XReg.pu 2 19 (h := ?_)
 refine XReg.pu 3 20 (h := ?_)
 refine XReg.tk 4 21 (h := ?_)
 refine XReg.tk 5 22 (h := ?_)
 refine oneL (i := 6) (some 23) rfl rfl (by kernel_rfl) (by decide) (fun Kc hKc => ?_)
 go_simp
 refine hKc.out _ _ ⟨(blk_cell (blk_alloc (blk_drew HP3.out.blk) _) 0).trans rfl, (blk_cell (blk_alloc (blk_drew BK3.out) _) 0).trans rfl, (blk_cell (blk_alloc (blk_drew BK3.out) _) 1).trans rfl, (blk_cell (blk_alloc (blk_drew BK3.out) _) 2).trans rfl, (blk_cell (blk_alloc (blk_drew BK3.out) _) 3).trans rfl, (blk_cell (blk_alloc (blk_drew BK3.out) _) 4).trans rfl, (blk_cell (blk_alloc (blk_drew BK3.out) _) 5).trans rfl, (blk_cell (blk_alloc (blk_drew BK3.out) _) 6).trans rfl, (blk_cell (blk_alloc (blk_drew BK3.out) _) 7).trans rfl⟩ (fun hH2 => ?_)
 clear hKc Kc hH hH2
 refine oneL (i := 7) (some 24) rfl rfl (by kernel_rfl) (by decide) (fun Kc hKc => ?_)
 obtain ⟨cs, hcs⟩ : ∃ cs, cs = [.string x.f0.f0, .int .i64 x.f0.f1, v2, .string x.f2, .int .i64 x.f3, .string x.f4, .int .i64 x.f5, v7] := ⟨_, rfl⟩
 have hcw : (Obj.cells #[.string x.f0.f0, .int .i64 x.f0.f1, v2, .string x.f2, .int .i64 x.f3, .string x.f4, .int .i64 x.f5, v7] 36 (0, 0)) = .cells cs.toArray 36 (0, 0) := by rw [hcs]
 have h8 : cs.length = 8 := by rw [hcs]; rfl
 have HM3 : k36.M w3 base G x cs := by
  rw [hcs]
  exact k36.M_mono (fun _ h => h.1) (Kd.M_step (Kd.M_types HM.out HP.out.blk (fun q hq => by have := k36_E' q hq; omega)) (fun k hk hlt => HK3.out.block k hlt hk.2))
 rw [hcw]
 have HPa := HP3.out.step (w1 := (w3.alloc (.cells cs.toArray 36 (0, 0))).drew) (fun k hk => Below.heap_alloc w3 _ k hk)
 have HMa : k36.M (w3.alloc (.cells cs.toArray 36 (0, 0))).drew base G x cs := Kd.M_step HM3 (fun k _ hk => Below.heap_alloc w3 _ k hk)
 have HMb := M_row (M_row HMa HPa.rl) HPa.rq
 refine Kd.R_append_rows_step k36 (Rr := fun y c => y = x ∧ c = cs) (w0 := (w3.alloc (.cells cs.toArray 36 (0, 0))).drew) base (by rfl) (.tmp 21) (.tmp 23) 22 36 _ 120 rfl Try.underlying22 info36 rfl (by decide) (by omega) _ L [x] (some ⟨w3.heap.size, 0, none⟩) 1 1
  (fun k => G k ∧ some k ≠ vw.ownBlock) (fun k => (G k ∧ some k ≠ (Value.slice Al L.length cl).ownBlock) ∧ some k ≠ vw.ownBlock) rfl rfl HPa.rl (lit_row h8) (fun y c hyc => by obtain ⟨rfl, rfl⟩ := hyc; exact HMb) (fun k hk => ⟨⟨hk.1.1, hk.2⟩, hk.1.2⟩) (fun k hk => ⟨HGG.out k (Nat.le_trans HK3.out.size (Nat.le_trans (by show w3.heap.size ≤ (w3.alloc (.cells cs.toArray 36 (0, 0))).heap.size; simp) hk)), fun e => by have := Kd.R_lt HPa.rq k e.symm; omega⟩) (Below.refl _ _)
  (Nat.le_trans HPa.hb (Nat.le_of_lt (blk_lt HPa.blk))) (by have := HLL.out; simp; omega) (fun v1 w4 hr4 _ hg4 hat4 => ?_)
 have hPl := HPa.grewL hg4 hr4 hat4
 have hk4 : Keeps (fun k => k = g ∨ some k = (Value.slice Al L.length cl).ownBlock) w (w4.setCell ⟨g, 0, none⟩ v1) := by
  refine Keeps.setCell (M := fun k => k = g ∨ some k = (Value.slice Al L.length cl).ownBlock) (p := ⟨g, 0, none⟩) ?_ (.inl (.inl rfl)) _
  refine Keeps.trans (keeps_weak HK3.out (fun k hk => .inl hk)) ?_
  refine Keeps.trans (B := (w3.alloc (.cells cs.toArray 36 (0, 0))).drew) (((Keeps.refl _ w3).alloc _).drew) ?_
  exact keeps_weak (keeps_grown hg4) (fun k hk => .inr hk)
 have hfr : v1.ownBlock = (Value.slice Al L.length cl).ownBlock ∨ ∃ b, v1.ownBlock = some b ∧ w.heap.size ≤ b := by
  rcases hat4 with h | ⟨b, hb, hlt⟩
  · exact .inl h
  · exact .inr ⟨b, hb, Nat.le_trans HK3.out.size (Nat.le_trans (by show w3.heap.size ≤ (w3.alloc (.cells cs.toArray 36 (0, 0))).heap.size; simp) hlt)⟩
 have HPl := Aside0.mk hPl
 have HK4 := Aside0.mk hk4
 have HFR := Aside0.mk hfr
 have hbk : w4.heap[g]? = some (.cells #[.slice Al L.length cl, .slice Av K'.length cv, vw, .map (some m)] 73 (0, 0)) := blk_grown HPa.blk hg4 HPa.ne_l
 have hbn : w4.heap[N]? = some (.cells cs.toArray 36 (0, 0)) := by
  refine blk_grown (blk_drew (blk_alloc (by rw [← hcw]; exact BK3.out) _)) hg4 ?_
  intro e
  have := blk_lt HP.out.blk
  obtain ⟨cells, hc⟩ := Kd.R_typed HP.out.rl N (by exact e.symm)
  have := (Array.getElem?_eq_some_iff.1 hc).1
  omega
 rw [hcs] at hbn
 obtain ⟨Aw, cw, rfl⟩ := Kd.R_slice hr4
 refine hKc.out _ _ ⟨?_, (blk_cell hbn 0).trans rfl, (blk_cell hbn 1).trans rfl, (blk_cell hbn 2).trans rfl, (blk_cell hbn 3).trans rfl, (blk_cell hbn 4).trans rfl, (blk_cell hbn 5).trans rfl, (blk_cell hbn 6).trans rfl, (blk_cell hbn 7).trans rfl⟩ (fun hH2 => ?_)
 · exact (blk_cell hbk 0).trans rfl
 clear hKc Kc hPl hk4 hfr HPa HMa HMb hr4 HM3
 have c0 : w4.cell? ⟨g, 0, none⟩ = some (.slice Al L.length cl) := (blk_cell hbk 0).trans rfl
 have f0 := blk_frozen hbk 0
 refine XReg.pu 8 25 (h := ?_)
 refine XReg.pu 9 26 (h := ?_)
 refine lastL (i := 10) none rfl rfl (by kernel_rfl) (by decide) (fun Kc hKc => ?_)
 refine skip_ (w1 := ?_) (by rfl) rfl ?_ ?_
 rotate_left
 · go_simp
   rfl
 refine hKc.out _ _ ?_
 clear hKc Kc
 refine done_ (by kernel_rfl) ?_
 go_wp2
 go_end0
 have e1 : (L ++ [x]).length = L.length + 1 := by simp
 have h1 := HPl.out
 have h2 := HK4.out
 have h3 := HFR.out
 rw [e1] at h1 h2 h3
 rw [hN] at h3
 exact ⟨⟨_, rfl⟩, _, ⟨_, h1⟩, h2, h3⟩
end Go.Proofs.Ytenbkljgmgdegaa.PO
end
section
namespace Go.Proofs.Ytenbkljgmgdegaa.PO
open Go.RowKit Go.Proofs.YtenbkljgmgdegaaW.PrintWords Go.Proofs.YtenbkljgmgdegaaW.PrintLast Go.Proofs.YtenbkljgmgdegaaW.PrintMore
open Go.Proofs.Ytenbkljgmgdegaa.XRange Go.Proofs.Ytenbkljgmgdegaa.XMap
set_option linter.unusedVariables false
set_option linter.unusedSimpArgs false
def z8 : List Value := [.string ⟨#[]⟩, .int .i64 0, .slice none 0 0, .string ⟨#[]⟩, .int .i64 0, .string ⟨#[]⟩, .int .i64 0, .slice none 0 0]
theorem clear_tail {W : World} {base g n c : Nat} {ok : Nat → Prop} {xs : List S36} (HO : k36.R 36 W base ok (.slice (some ⟨g, 0, none⟩) n c) xs) (hc : n < c) (ty : TypeId) (c2 : Nat) :
 ∃ w1, (Builtin.clear_ #[22] ty #[.slice (some ⟨g, n * 8, none⟩) 1 c2]).run Try.prog W = .ok (.tuple #[]) w1 ∧ k36.R 36 w1 base ok (.slice (some ⟨g, 0, none⟩) n c) xs ∧ W.grownBy w1 (some g) := by
 obtain ⟨hok, inner, hown, hr⟩ := HO
 obtain ⟨hl, hown⟩ := hown
 rcases hown with ⟨hv, _⟩ | ⟨g', cap', cur, hv, hb, hh, h3, h4, h5, h6⟩
 · cases hv
 injection hv with ha hn hcc
 injection ha with ha
 injection ha with hg
 subst hg
 subst hcc
 subst hn
 have hsz : (k36).sz = 8 := rfl
 rw [hsz] at h5 h6 hl
 have hst := run_storeCells_at (P := Try.prog) g (xs.length * 8) 36 z8 0 cur W hh (by simp [z8]; omega) (by unfold z8; decide)
 have hu := Try.underlying22
 have hz : ∀ w, (zeroValue 36).run Try.prog w = .ok (.agg #[.string ⟨#[]⟩, .int .i64 0, .slice none 0 0, .string ⟨#[]⟩, .int .i64 0, .string ⟨#[]⟩, .int .i64 0, .slice none 0 0]) w := by
  intro w
  obtain ⟨i0, hi, hzz⟩ := Option.map_eq_some_iff.1 info36
  simp only [Prod.mk.injEq] at hzz
  simp [zeroValue, typeInfo, hi, hzz.1]
 have hzc : (Builtin.zeroCells (Value.agg #[.string ⟨#[]⟩, .int .i64 0, .slice none 0 0, .string ⟨#[]⟩, .int .i64 0, .string ⟨#[]⟩, .int .i64 0, .slice none 0 0]).cells 1).toList = z8 := by
  simp only [Builtin.zeroCells, Array.toList_map, Array.toList_range]
  rfl
 refine ⟨W.setRow g (cur.toList.take (xs.length * 8 + 0) ++ z8 ++ cur.toList.drop (xs.length * 8 + 0 + 8)).toArray, ?_, ⟨hok, inner, ?_, ?_⟩, ?_⟩
 · unfold Builtin.clear_
   simp only [List.getElem?_toArray, List.getElem?_cons_zero, Sem.run_bind, run_underlying hu]
   simp [run_underlying hu, hz, hzc, hst]; rfl
 · refine ⟨by rw [hsz]; exact hl, .inr ⟨g, c, _, rfl, hb, setRow_heap W g cur _ 36 (0, 0) hh, h3, h4, ?_, ?_⟩⟩
   · rw [hsz]
     have : cur.toList.length = cur.size := by simp
     simp only [z8, List.size_toArray, List.length_append, List.length_take, List.length_drop, List.length_cons, List.length_nil, this]
     omega
   · rw [hsz, ← h6]
     have : cur.toList.length = cur.size := by simp
     simp only [Nat.add_zero, List.append_assoc]
     rw [List.take_append_of_le_length (by rw [List.length_take, this]; omega), List.take_take, Nat.min_self]
 · exact hr.imp_ (fun y cs hm => Kd.M_step hm (fun k hk hlt => setRow_other _ _ _ _ (fun e => hk.2 (by rw [e]; rfl))))
 · exact ⟨rfl, rfl, rfl, by simp, fun k hk hne => setRow_other _ _ _ _ (fun e => hne (by rw [e]))⟩
set_option maxHeartbeats 8000000 in
set_option maxRecDepth 100000 in
theorem delete_calls {w : World} {base g n c i : Nat} {ok : Nat → Prop} {xs : List S36} (HO : k36.R 36 w base ok (.slice (some ⟨g, 0, none⟩) n c) xs) (hi : i < n) (hn : n ≤ 1000000) :
 Calls Try.prog 110 #[.slice (some ⟨g, 0, none⟩) n c, .int .i64 i, .int .i64 (i + 1)] w fun e w' =>
  e = .returned (.slice (some ⟨g, 0, none⟩) (n - 1) c) ∧ k36.R 36 w' base ok (.slice (some ⟨g, 0, none⟩) (n - 1) c) (xs.eraseIdx i) ∧ w.grownBy w' (some g) := by
 have hnx := (Kd.R_reads' HO).1
 have hnc := (Kd.R_reads' HO).2.1
 have h5 : ((i : Int) == i + 1) = false := by simp; omega
 have H := Aside0.mk HO
 have hic : i ≤ c := by omega
 have hi1 : i + 1 ≤ n := hi
 clear HO
 go_enter Try.func110, Try.ntmps110
 go_wp2
 refine start_ (n := 8) (ds := []) (S := fun _ => True) _ (by kernel_rfl) rfl rfl trivial (fun hH => ?_)
 refine XReg.pu 0 20 (h := ?_)
 refine XReg.pu 1 21 (h := ?_)
 refine XReg.pu 2 22 (h := ?_)
 refine XReg.pu 3 23 (h := ?_)
 refine XReg.pu 4 24 (h := ?_)
 have hb3 : 0 ≤ (i : Int) + 1 ∧ (i : Int) + 1 ≤ (xs.length : Int) := by omega
 refine XReg.pu 5 25 (h := ?_)
 refine oneL (i := 6) (some 26) rfl rfl (by kernel_rfl) (by decide) (fun Kc hKc => ?_)
 refine Kd.R_delete_step k36 (w0 := w.drew) base (by rfl) (.tmp 22) (.tmp 25) 22 36 rfl Try.underlying22 rfl (g := g) (n := n) (c := c) (k := i) (m := xs.length - (i + 1)) (c2 := c - (i + 1)) (A := if c = i + 1 then some ⟨g, 0, none⟩ else some ⟨g, (i + 1) * 8, none⟩) (xs := xs) (ok := ok) rfl rfl ?_ (by omega)
  (Kd.R_drew H.out) hi (Below.refl _ _) (Nat.le_trans (Kd.R_base H.out g rfl) (Nat.le_of_lt (Kd.R_lt H.out g rfl))) (fun w1 h1 _ hg1 => ?_)
 · by_cases hce : c = i + 1
   · rw [if_pos hce, if_pos hce]
   · rw [if_neg hce, if_neg hce]; simp [Addr.add, show k36.sz = 8 from rfl]
 refine hKc.out _ _ trivial (fun hH2 => ?_)
 clear hKc Kc hH hH2
 have H1 := Aside0.mk h1
 have HG1 := Aside0.mk hg1
 clear h1 hg1
 refine XReg.pu 7 0 (h := ?_)
 refine done_ (by kernel_rfl) ?_
 obtain ⟨w2, hr2, hR2, hg2⟩ := clear_tail H1.out (by omega) 0 (c - (n - 1))
 have hd1 : xs.length - (xs.length - 1) = 1 := by omega
 subst hnx
 have hr3 : (Builtin.clear_ #[22] 0 #[.slice (some ⟨g, (xs.length - 1) * 8, none⟩) (xs.length - (xs.length - 1)) (c - (xs.length - 1))]).run Try.prog w1 = .ok (.tuple #[]) w2 := by rw [hd1]; exact hr2
 clear hr2
 have HR2 := Aside0.mk hR2
 have HG2 := Aside0.mk hg2
 clear hR2 hg2 hd1
 generalize (if c = i + 1 then some (⟨g, 0, none⟩ : Addr) else some ⟨g, (i + 1) * 8, none⟩) = Aa
 go_wp2
 go_ret
 exact ⟨rfl, HR2.out, World.grownBy.trans (b := w1) ⟨HG1.out.os, HG1.out.tape, HG1.out.output, HG1.out.size, HG1.out.block⟩ HG2.out⟩
end Go.Proofs.Ytenbkljgmgdegaa.PO
end
section
namespace Go.Proofs.Ytenbkljgmgdegaa.PO
open Go.RowKit Go.Proofs.YtenbkljgmgdegaaW.PrintWords Go.Proofs.YtenbkljgmgdegaaW.PrintLast Go.Proofs.YtenbkljgmgdegaaW.PrintMore
open Go.Proofs.Ytenbkljgmgdegaa.XRange Go.Proofs.Ytenbkljgmgdegaa.XMap Go.Proofs.Ytenbkljgmgdegaa.XSeq
set_option linter.unusedVariables false
set_option linter.unusedSimpArgs false
structure PSt where
 L : List S36
 K : List S34
 Q : List S36
 D : List (S34 × (S36 × List Value))
def firstR (k : Nat) (K : List S34) : List S36 → Nat → Option (Option Nat)
 | [], _ => some none
 | x :: r, i => (vector_With.f k K x.f0.f0 x.f0.f1).bind fun t => if t.2 = 0 then (vector_Leq.f k x.f1 K).bind fun b => if b = true then some (some i) else firstR k K r (i + 1) else firstR k K r (i + 1)
def takeQ (s : PSt) (i : Nat) : PSt := { s with Q := s.Q.eraseIdx i }
def handS (k : Nat) (s : PSt) (x : S36) : Option PSt := if s.L.length ≤ 1000000000000 then (vector_With.f k s.K x.f0.f0 x.f0.f1).bind fun t => some { s with L := s.L ++ [x], K := t.1 } else none
def drain (k : Nat) : Nat → PSt × Int → Option (PSt × Int)
 | 0, _ => none
 | f + 1, (s, n) => if s.Q.length ≤ 1000000 ∧ 0 ≤ n ∧ n ≤ 1000000 then (firstR k s.K s.Q 0).bind fun o => match o with
   | none => some (s, n)
   | some i => (handS k (takeQ s i) (s.Q.getD i z36)).bind fun s1 => drain k f (s1, n + 1) else none
def PoolIn (G : Nat → Prop) (n1 : Nat) (F : Nat → Prop) (base g m : Nat) (s : PSt) (w : World) : Prop :=
 ∃ vl vk vw, PoolAt G w base g vl vk vw m s.L s.K s.Q s.D ∧ F g ∧ (∀ k, vl.ownBlock = some k → F k ∨ n1 ≤ k) ∧ (∀ k, vw.ownBlock = some k → F k ∨ n1 ≤ k)
def JS (G : Nat → Prop) (w1 : World) (F : Nat → Prop) (base g m N8 : Nat) (s : PSt × Int) (w : World) : Prop :=
 Keeps (fun k => F k ∨ k = N8) w1 w ∧ PoolIn G w1.heap.size F base g m s.1 w ∧ w.heap[N8]? = some (.cells #[.int .i64 s.2] 3 (0, 0))
def YS (G : Nat → Prop) (k : Nat) (sf : PSt × Int) (w1 : World) (F : Nat → Prop) (base g m N8 : Nat) (s : PSt × Int) (p : S36 × List Value) (w : World) : Prop :=
 ∃ i f, firstR k s.1.K s.1.Q 0 = some (some i) ∧ p.1 = s.1.Q.getD i z36 ∧ drain k (f + 1) s = some sf ∧ JS G w1 F base g m N8 (takeQ s.1 i, s.2) w ∧ k36.M w base G p.1 p.2
def stepS (k : Nat) (s : PSt × Int) (p : S36 × List Value) : PSt × Int :=
 match firstR k s.1.K s.1.Q 0 with
 | some (some i) => (((handS k (takeQ s.1 i) p.1).getD s.1), s.2 + 1)
 | _ => s
def encOp (p : S36 × List Value) : Array Value := #[.agg p.2.toArray]
theorem PoolAt.no_loop {G : Nat → Prop} {w : World} {base g : Nat} {vl vk vw : Value} {m : Nat} {L : List S36} {K : List S34} {Q : List S36} {D : List (S34 × (S36 × List Value))} (h : PoolAt G w base g vl vk vw m L K Q D) :
 ∀ k, (k = g ∨ k = m ∨ some k = vl.ownBlock ∨ some k = vw.ownBlock) → ¬ Loopy w k := by
 have nc : ∀ k cs t, w.heap[k]? = some (.cells cs t (0, 0)) → ¬ Loopy w k := fun k cs t hc hl => by
  rcases hl with ⟨d, h⟩ | ⟨d, h⟩ <;> (rw [hc] at h; cases h)
 intro k hk
 rcases hk with rfl | rfl | hk | hk
 · exact nc _ _ _ h.blk
 · obtain ⟨es, cl, hm, _⟩ := h.mp.at_
   rintro (⟨d, h⟩ | ⟨d, h⟩) <;> (rw [hm] at h; cases h)
 · obtain ⟨cells, hc⟩ := Kd.R_typed h.rl k hk.symm
   exact nc _ _ _ hc
 · obtain ⟨cells, hc⟩ := Kd.R_typed h.rq k hk.symm
   exact nc _ _ _ hc
section
variable {G : Nat → Prop} {w w1 : World} {base g : Nat} {vl vk vw : Value} {m : Nat} {L : List S36} {K : List S34} {Q : List S36} {D : List (S34 × (S36 × List Value))}
theorem PoolAt.grewQ (h : PoolAt G w base g vl vk vw m L K Q D) (hg : w.grownBy w1 vw.ownBlock) {v1 : Value} {Q' : List S36} (hr : k36.R 36 w1 base (fun k => G k ∧ some k ≠ vl.ownBlock) v1 Q')
 (hat : v1.ownBlock = vw.ownBlock ∨ ∃ b, v1.ownBlock = some b ∧ w.heap.size ≤ b) : PoolAt G (w1.setCell ⟨g, 2, none⟩ v1) base g vl vk v1 m L K Q' D := by
 have hblk := blk_grown h.blk hg h.ne_q
 refine ⟨blk_set hblk 2 v1, h.hb, ?_, ?_, Kd.R_mono (Kd.R_far (Kd.R_types hr hblk (fun q hq => by have := k36_E q hq; omega)) (fun k hk => hk.2) v1) (fun k hk => hk.1), ?_, h.hm, fun p hp => ?_⟩
 · have h1 := Kd.R_types (Kd.R_grown (Kd.R_bound h.rl) hg (fun k hk => hk.1.2)) hblk (fun q hq => by have := k36_E q hq; omega)
   refine Kd.R_mono (Kd.R_far h1 (fun k hk => hk.2) v1) (fun k hk => ?_)
   obtain ⟨⟨h2, _, h3, _⟩, _⟩ := hk
   refine ⟨h2.1, ?_⟩
   rcases hat with hat | ⟨b, hb, hlt⟩
   · rw [hat]; exact h2.2
   · rw [hb]; intro e; cases e; omega
 · exact Kd.R_mono (Kd.R_far (Kd.R_types (Kd.R_over' h.rk (Kd.R_typed h.rq) (fun q hq => by have := k34_E q hq; omega) hg) hblk (fun q hq => by have := k34_E q hq; omega)) (fun k hk => hk.2) v1) (fun k hk => hk.1)
 · exact h.mp.step ((far_cells v1 m h.m_g).trans (hg.block m h.mp.lt h.m_q))
 · have h1 := Kd.M_grown (M_row (h.vals p hp) h.rq) hg (fun k hk => hk.2)
   exact k36.M_mono (fun k hk => hk.1.1) (Kd.M_far (Kd.M_types h1 hblk (fun q hq => by have := k36_E' q hq; omega)) (fun k hk => hk.2) v1)
end
theorem keeps_in {M M' : Nat → Prop} {A B C : World} (h : Keeps M A B) (h' : Keeps M' B C) (hm : ∀ k, M' k → M k ∨ A.heap.size ≤ k) : Keeps M A C :=
 ⟨h'.os.trans h.os, h'.tape.trans h.tape, h'.output.trans h.output, Nat.le_trans h.size h'.size, fun k hk hne => (h'.block k (Nat.lt_of_lt_of_le hk h.size) (fun e => by rcases hm k e with h1 | h1; exact hne h1; omega)).trans (h.block k hk hne)⟩
theorem typed_ne {w : World} {a b : Nat} {ca cb : Array Value} {ta tb : TypeId} (ha : w.heap[a]? = some (.cells ca ta (0, 0))) (hb : w.heap[b]? = some (.cells cb tb (0, 0))) (h : ta ≠ tb) : a ≠ b := by
 rintro rfl
 rw [ha] at hb
 simp only [Option.some.injEq, Obj.cells.injEq] at hb
 exact h hb.2.1
theorem JS.keeps {G : Nat → Prop} {w1 : World} {F : Nat → Prop} {base g m N8 : Nat} {s : PSt × Int} {w w' : World} (h : JS G w1 F base g m N8 s w) (hk : Keeps (fun _ => False) w w') : JS G w1 F base g m N8 s w' := by
 obtain ⟨h1, ⟨vl, vk, vw, hp, h2, h3, h4⟩, h5⟩ := h
 exact ⟨h1.trans (keeps_weak hk (fun _ f => f.elim)), ⟨vl, vk, vw, hp.keeps hk, h2, h3, h4⟩, (hk.block N8 (blk_lt h5) (fun f => f)).trans h5⟩
def lenQ (w : World) (g : Nat) : Nat := match w.cell? ⟨g, 2, none⟩ with | some (.slice _ n _) => n | _ => 0
theorem lenQ_of {G : Nat → Prop} {w1 : World} {F : Nat → Prop} {base g m N8 : Nat} {s : PSt × Int} {w : World} (h : JS G w1 F base g m N8 s w) : lenQ w g = s.1.Q.length := by
 obtain ⟨_, ⟨vl, vk, vw, hp, _⟩, _⟩ := h
 obtain ⟨A, c, rfl⟩ := Kd.R_slice hp.rq
 unfold lenQ
 rw [(blk_cell hp.blk 2).trans rfl]
 rfl
set_option maxHeartbeats 8000000 in
set_option maxRecDepth 100000 in
theorem ready1_seq (G : Nat → Prop) (n k : Nat) (w1 : World) (F : Nat → Prop) (base g m N8 B : Nat) (s0 sf : PSt × Int) (f0 : Nat) (hB : w1.heap[B]? = some (.cells #[.pointer (some ⟨g, 0, none⟩)] 25 (0, 0))) (hBF : ¬ F B) (hB8 : B ≠ N8) (hd : drain k f0 s0 = some sf) :
 SeqS n Try.prog 109 #[.pointer (some ⟨B, 0, none⟩)] encOp (JS G w1 F base g m N8) (YS G k sf w1 F base g m N8) (stepS k) (fun s => s = sf) s0 := by
 intro l Lp W hLp hY h0 hL0
 have HLP := Aside0.mk hLp
 have HY := Aside0.mk hY
 have H0 := Aside0.mk h0
 have HL0 := Aside0.mk hL0
 have HD := Aside0.mk hd
 have HB := Aside0.mk hB
 have HBF := Aside0.mk hBF
 have HB8 := Aside0.mk hB8
 clear hLp hY h0 hL0 hd hB hBF hB8
 refine callsIn_of_wp Try.func109 rfl trivial ?_ rfl
 simp only [Try.ntmps109, List.size_toArray, List.length_cons, List.length_nil, Nat.reduceAdd, Nat.reduceSub, Array.replicate_succ, Array.replicate_zero, List.push_toArray, List.append_toArray, List.nil_append, List.cons_append, Array.size_append]
 gi_wp2
 refine wpIn_wide.2 (wp_scope_straight ((wpIn_wide (n := n)).1 ?_))
 refine wpIn_seq (wpIn_label ?_)
 show Code.wpIn _ _ _ _ _ _ _
 refine wpIn_block ?_
 gi_loopw [] (fun wr => ∃ s f, Aside0 (JS G w1 F base g m N8 s wr) ∧ Aside0 (drain k f s = some sf) ∧ Aside0 (Lp wr)) (fun wr => lenQ wr g)
 case atStart => exact ⟨s0, f0, ⟨H0.out⟩, ⟨HD.out⟩, ⟨HL0.out⟩⟩
 case round =>
  rename World => wo
  obtain ⟨⟨st, nn⟩, f, HJ, HDR, HL⟩ := hrel
  obtain ⟨hk, ⟨vl, vk, vw, hp, hFg, hFl, hFw⟩, hn⟩ := HJ.out
  have hdr := HDR.out
  cases f with
  | zero => exact absurd hdr (by simp [drain])
  | succ f =>
    unfold drain at hdr
    have hqn : st.Q.length ≤ 1000000 ∧ 0 ≤ nn ∧ nn ≤ 1000000 := by
     by_cases h : st.Q.length ≤ 1000000 ∧ 0 ≤ nn ∧ nn ≤ 1000000
     · exact h
     · rw [if_neg h] at hdr; cases hdr
    rw [if_pos hqn] at hdr
    have hql := hqn.1
    clear hqn
    obtain ⟨o, ho, hdr⟩ := Option.bind_eq_some_iff.mp hdr
    obtain ⟨Aw, cw, rfl⟩ := Kd.R_slice hp.rq
    obtain ⟨Ak, ck, rfl⟩ := Kd.R_slice hp.rk
    have hBk := (hk.block B (blk_lt HB.out) (by rintro (h | h); exact HBF.out h; exact HB8.out h)).trans HB.out
    have cB : wo.cell? ⟨B, 0, none⟩ = some (.pointer (some ⟨g, 0, none⟩)) := (blk_cell hBk 0).trans rfl
    have cG : wo.cell? ⟨g, 2, none⟩ = some (.slice Aw st.Q.length cw) := (blk_cell hp.blk 2).trans rfl
    have HP := Aside0.mk hp
    have HDR' := Aside0.mk hdr
    have HO := Aside0.mk ho
    have HKK := Aside0.mk hk
    have HFG := Aside0.mk hFg
    have HFL := Aside0.mk hFl
    have HFW := Aside0.mk hFw
    have HN := Aside0.mk hn
    have HBK := Aside0.mk hBk
    have HQL := Aside0.mk hql
    clear hp hdr ho hk hFg hFl hFw hn hBk hql
    gi_wp2
    gi_loopw [12] (fun v12 w2 => ∃ i : Nat, v12 = .int .i64 i ∧ i ≤ st.Q.length ∧ Aside0 (firstR k st.K (st.Q.drop i) i = some o) ∧ Aside0 (Keeps (fun _ => False) wo w2)) (fun v12 _ => st.Q.length - (intOf v12).toNat)
    case atStart => exact ⟨0, rfl, by omega, ⟨HO.out⟩, ⟨Keeps.refl _ _⟩⟩
    case round =>
     obtain ⟨i, rfl, hile, HFi, HK2⟩ := hrel
     have hp2 := HP.out.keeps HK2.out
     have hBk := (HK2.out.block B (blk_lt HBK.out) (fun f => f)).trans HBK.out
     by_cases hlt : i < st.Q.length
     · obtain ⟨gq, cq, hvq, _, _, _⟩ := Kd.R_form hp2.rq (by omega)
       injection hvq with ha _ hc
       subst ha
       subst hc
       obtain ⟨cs, hcs8, hM, hcell, hfr⟩ := Kd.R_elem hp2.rq z36 (i : Int) (by omega) (by omega)
       simp only [Int.toNat_natCast, show k36.sz = 8 from rfl] at hM hcell
       obtain ⟨x, hx⟩ : ∃ x, st.Q.getD i z36 = x := ⟨_, rfl⟩
       rw [hx] at hM
       obtain ⟨v2, v7, rfl, r2, r7⟩ := k36_openM hM
       obtain ⟨A2, c2, rfl, hc2, hC2⟩ := Kd.R_reads r2
       obtain ⟨A7, c7, rfl, hc7, hC7⟩ := Kd.R_reads r7
       have e0 : wr.cell? ⟨gq, i * 8, none⟩ = some (.string x.f0.f0) := hcell 0 _ rfl
       have e1 : wr.cell? ⟨gq, i * 8 + 1, none⟩ = some (.int .i64 x.f0.f1) := hcell 1 _ rfl
       have e2 : wr.cell? ⟨gq, i * 8 + 2, none⟩ = some (.slice A2 x.f1.length c2) := hcell 2 _ rfl
       have e3 : wr.cell? ⟨gq, i * 8 + 3, none⟩ = some (.string x.f2) := hcell 3 _ rfl
       have e4 : wr.cell? ⟨gq, i * 8 + 4, none⟩ = some (.int .i64 x.f3) := hcell 4 _ rfl
       have e5 : wr.cell? ⟨gq, i * 8 + 5, none⟩ = some (.string x.f4) := hcell 5 _ rfl
       have e6 : wr.cell? ⟨gq, i * 8 + 6, none⟩ = some (.int .i64 x.f5) := hcell 6 _ rfl
       have e7 : wr.cell? ⟨gq, i * 8 + 7, none⟩ = some (.slice A7 x.f6.length c7) := hcell 7 _ rfl
       have HX := Aside0.mk hx
       have HP2 := Aside0.mk hp2
       have HBk := Aside0.mk hBk
       have HMx := Aside0.mk hM
       have HC2 := Aside0.mk hC2
       have HCL2 := Aside0.mk hc2
       have ht1 : decide ((i : Int) < (st.Q.length : Int)) = true := by simp; omega
       have hgx : st.Q[i] = x := by rw [← hx, List.getD_eq_getElem?_getD, List.getElem?_eq_getElem hlt]; rfl
       have hf := HFi.out
       rw [List.drop_eq_getElem_cons hlt, hgx] at hf
       unfold firstR at hf
       obtain ⟨⟨K', e⟩, hW, hf⟩ := Option.bind_eq_some_iff.mp hf
       have HW := Aside0.mk hW
       have HF2 := Aside0.mk hf
       clear hW hf hgx
       clear hx hp2 hBk hM hcell hfr r2 r7 hC2 hC7 hc2 hc7
       gi_wp2
       obtain ⟨N, hN⟩ : ∃ N, wr.heap.size = N := ⟨_, rfl⟩
       obtain ⟨w3, hw3⟩ : ∃ w3, wr.alloc (.cells #[.string x.f0.f0, .int .i64 x.f0.f1, .slice A2 x.f1.length c2, .string x.f2, .int .i64 x.f3, .string x.f4, .int .i64 x.f5, .slice A7 x.f6.length c7] 36) = w3 := ⟨_, rfl⟩
       rw [hw3, hN]
       have HB3 := Aside0.mk (show Below N wr w3 from by rw [← hw3, ← hN]; exact (Below.refl _ wr).alloc (Nat.le_refl _) _)
       have BK3 := Aside0.mk (show w3.heap[N]? = some (.cells #[.string x.f0.f0, .int .i64 x.f0.f1, .slice A2 x.f1.length c2, .string x.f2, .int .i64 x.f3, .string x.f4, .int .i64 x.f5, .slice A7 x.f6.length c7] 36 (0, 0)) from by rw [← hw3, ← hN]; exact World.alloc_heap_new wr _)
       have HP3 := Aside0.mk (HP2.out.below (w1 := w3) (by rw [hN]; exact HB3.out))
       have HBb3 := Aside0.mk (blk_below (w1 := w3) HBk.out (by rw [hN]; exact HB3.out))
       have HK3 := Aside0.mk (HK2.out.trans (Keeps.of_below (B := w3) (by rw [hN]; exact HB3.out)))
       have HW3 := Aside0.mk (show Keeps (fun _ => False) wr w3 from Keeps.of_below (by rw [hN]; exact HB3.out))
       clear e0 e1 e2 e3 e4 e5 e6 e7 hw3 ht1
       refine wpIn_wide.2 ?_
       refine start_ (n := 12) (ds := []) (S := fun w' => w'.cell? ⟨B, 0, none⟩ = some (.pointer (some ⟨g, 0, none⟩)) ∧ w'.cell? ⟨g, 1, none⟩ = some (.slice Ak st.K.length ck) ∧ w'.cell? ⟨N, 0, none⟩ = some (.string x.f0.f0) ∧ w'.cell? ⟨N, 1, none⟩ = some (.int .i64 x.f0.f1)) _ (by kernel_rfl) rfl rfl
        ⟨(blk_cell (blk_drew HBb3.out) 0).trans rfl, (blk_cell (blk_drew HP3.out.blk) 1).trans rfl, (blk_cell (blk_drew BK3.out) 0).trans rfl, (blk_cell (blk_drew BK3.out) 1).trans rfl⟩ (fun hH => ?_)
       refine XReg.tk 0 18 (h := ?_)
       refine XReg.pu 1 19 (h := ?_)
       refine XReg.pu 2 20 (h := ?_)
       refine XReg.tk 3 21 (h := ?_)
       refine XReg.pu 4 22 (h := ?_)
       refine XReg.tk 5 23 (h := ?_)
       refine oneL (i := 6) (some 24) rfl rfl (by kernel_rfl) (by decide) (fun Kc hKc => ?_)
       refine goes_ Try.func108 (by kernel_rfl) rfl #[.slice Ak st.K.length ck, .agg #[.string x.f0.f0, .int .i64 x.f0.f1]] (by rfl) rfl rfl (by (try simp only [List.map_toArray, List.map_cons, List.map_nil]); first | done | rfl) ?_
       have hrk := Kd.R_reads' HP3.out.rk
       refine (vector_With.calls k Ak ck st.K x.f0.f0 x.f0.f1 K' e _ (Kd.C_drew hrk.2.2) hrk.2.1 HW.out).mono ?_
       rintro e' w4 ⟨v0, rfl, hR, hb⟩
       obtain ⟨Av, cv, rfl⟩ := Kd.R_slice hR
       refine ⟨_, rfl, ?_⟩
       have HB4 := Aside0.mk (show Below w3.heap.size w3 w4 from ⟨hb.os, hb.tape, hb.output, hb.size, hb.block⟩)
       clear hR hb hrk
       refine hKc.out _ _ ⟨(blk_cell (blk_below HBb3.out HB4.out) 0).trans rfl, (blk_cell (blk_below HP3.out.blk HB4.out) 1).trans rfl, (blk_cell (blk_below BK3.out HB4.out) 0).trans rfl, (blk_cell (blk_below BK3.out HB4.out) 1).trans rfl⟩ (fun hH2 => ?_)
       clear hKc Kc hH
       refine XReg.pu 7 17 (h := ?_)
       refine XReg.pu 8 25 (h := ?_)
       refine XReg.pu 9 26 (h := ?_)
       refine XReg.pu 10 5 (h := ?_)
       refine XReg.pu 11 6 (h := ?_)
       refine done_ (by kernel_rfl) ?_
       have HP4 := Aside0.mk (HP3.out.below HB4.out)
       have BK4 := Aside0.mk (blk_below BK3.out HB4.out)
       have HBb4 := Aside0.mk (blk_below HBb3.out HB4.out)
       have HK4 := Aside0.mk (HK3.out.trans (Keeps.of_below HB4.out))
       have HW4 := Aside0.mk (HW3.out.trans (Keeps.of_below HB4.out))
       have HC4 := Aside0.mk (Kd.C_below (Kd.C_below HC2.out (w1 := w3) (by rw [hN]; exact HB3.out)) HB4.out)
       clear HP3 BK3 HBb3 HK3 HB4 HB3 hH2
       gi_wp2
       refine wpIn_wide.2 ?_
       have hw64 : wrap64 ((i : Int) + 1) = ((i + 1 : Nat) : Int) := by have := HQL.out; unfold wrap64; omega
       by_cases he : e = 0
       · have q : (e != 0) = false := by simp [he]
         have hf := HF2.out
         simp only [he, if_true] at hf
         obtain ⟨b, hL, hf⟩ := Option.bind_eq_some_iff.mp hf
         have HLq := Aside0.mk hL
         have HF3 := Aside0.mk hf
         clear hf hL HF2
         refine start_ (n := 12) (ds := []) (S := fun w' => w'.cell? ⟨B, 0, none⟩ = some (.pointer (some ⟨g, 0, none⟩)) ∧ w'.cell? ⟨g, 1, none⟩ = some (.slice Ak st.K.length ck) ∧ w'.cell? ⟨N, 2, none⟩ = some (.slice A2 x.f1.length c2)) _ (by kernel_rfl) rfl rfl
          ⟨(blk_cell (blk_drew HBb4.out) 0).trans rfl, (blk_cell (blk_drew HP4.out.blk) 1).trans rfl, (blk_cell (blk_drew BK4.out) 2).trans rfl⟩ (fun hH => ?_)
         refine XReg.pu 0 27 (h := ?_)
         refine XReg.pu 1 28 (h := ?_)
         refine XReg.pu 2 29 (h := ?_)
         refine XReg.pu 3 30 (h := ?_)
         refine XReg.tk 4 31 (h := ?_)
         refine XReg.tk 5 32 (h := ?_)
         refine XReg.pu 6 33 (h := ?_)
         refine XReg.pu 7 34 (h := ?_)
         refine XReg.tk 8 35 (h := ?_)
         refine oneL (i := 9) (some 36) rfl rfl (by kernel_rfl) (by decide) (fun Kc hKc => ?_)
         refine goes_ Try.func52 (by kernel_rfl) rfl #[.slice A2 x.f1.length c2, .slice Ak st.K.length ck] (by rfl) rfl rfl (by (try simp only [List.map_toArray, List.map_cons, List.map_nil]); first | done | rfl) ?_
         have hrk := Kd.R_reads' HP4.out.rk
         refine (vector_Leq.calls k A2 c2 x.f1 Ak ck st.K b _ (Kd.C_drew HC4.out) HCL2.out (Kd.C_drew hrk.2.2) hrk.2.1 HLq.out).mono ?_
         rintro e' w5 ⟨rfl, hb⟩
         refine ⟨_, rfl, ?_⟩
         have HB5 := Aside0.mk (show Below w4.heap.size w4 w5 from ⟨hb.os, hb.tape, hb.output, hb.size, hb.block⟩)
         clear hb hrk
         refine hKc.out _ _ ⟨(blk_cell (blk_below HBb4.out HB5.out) 0).trans rfl, (blk_cell (blk_below HP4.out.blk HB5.out) 1).trans rfl, (blk_cell (blk_below BK4.out HB5.out) 2).trans rfl⟩ (fun hH2 => ?_)
         clear hKc Kc hH
         refine XReg.pu 10 37 (h := ?_)
         refine XReg.pu 11 38 (h := ?_)
         refine done_ (by kernel_rfl) ?_
         have HP5 := Aside0.mk (HP4.out.below HB5.out)
         have BK5 := Aside0.mk (blk_below BK4.out HB5.out)
         have HBb5 := Aside0.mk (blk_below HBb4.out HB5.out)
         have HK5 := Aside0.mk (HK4.out.trans (Keeps.of_below HB5.out))
         have HW5 := Aside0.mk (HW4.out.trans (Keeps.of_below HB5.out))
         clear HP4 BK4 HBb4 HK4 HB5 hH2
         cases b with
         | false =>
           gi_wp2
           have hf := HF3.out
           simp only [Bool.false_eq_true, if_false] at hf
           refine ⟨⟨i + 1, by rw [hw64], by omega, ⟨hf⟩, ⟨HK5.out⟩⟩, ?_⟩
           rw [hw64]
           simp only [intOf, Int.toNat_natCast]
           omega
         | true =>
           gi_wp2
           have hoi : o = some i := by have := HF3.out; simp only [if_true, Option.some.injEq] at this; exact this.symm
           subst hoi
           obtain ⟨cellsq, hcq⟩ := Kd.R_typed HP5.out.rq gq rfl
           have NgB := Aside0.mk (typed_ne HBb5.out hcq (by decide))
           have NgN := Aside0.mk (show N ≠ gq from fun e => by
            have h1 := Kd.R_lt HP2.out.rq gq rfl
            omega)
           have NgG := Aside0.mk (typed_ne HP5.out.blk hcq (by decide))
           have NBG := Aside0.mk (typed_ne HBb5.out HP5.out.blk (by decide))
           have NNG := Aside0.mk (typed_ne BK5.out HP5.out.blk (by decide))
           refine wpIn_wide.2 ?_
           refine start_ (n := 12) (ds := [11]) (S := fun w' => w'.cell? ⟨B, 0, none⟩ = some (.pointer (some ⟨g, 0, none⟩)) ∧ w'.cell? ⟨g, 2, none⟩ = some (.slice (some ⟨gq, 0, none⟩) st.Q.length cw)) _ (by kernel_rfl) rfl rfl
            ⟨(blk_cell (blk_drew (blk_drew HBb5.out)) 0).trans rfl, (blk_cell (blk_drew HP5.out.blk) 2).trans rfl⟩ (fun hH => ?_)
           refine XReg.tk 0 39 (h := ?_)
           refine XReg.tk 1 40 (h := ?_)
           refine XReg.pu 2 41 (h := ?_)
           refine XReg.pu 3 42 (h := ?_)
           refine XReg.tk 4 43 (h := ?_)
           refine XReg.pu 5 44 (h := ?_)
           refine XReg.pu 6 45 (h := ?_)
           refine XReg.pu 7 46 (h := ?_)
           refine oneL (i := 8) (some 47) rfl rfl (by kernel_rfl) (by decide) (fun Kc hKc => ?_)
           refine goes_ Try.func110 (by kernel_rfl) rfl #[.slice (some ⟨gq, 0, none⟩) st.Q.length cw, .int .i64 i, .int .i64 (wrap64 ((i : Int) + 1))] (by rfl) rfl rfl (by (try simp only [List.map_toArray, List.map_cons, List.map_nil]); first | done | rfl) ?_
           have hw1 : wrap64 ((i : Int) + 1) = (i : Int) + 1 := by have := HQL.out; unfold wrap64; omega
           rw [hw1]
           refine (delete_calls (i := i) (Kd.R_drew HP5.out.rq) hlt HQL.out).mono ?_
           rintro e' w6 ⟨rfl, hR6, hg6⟩
           refine ⟨_, rfl, ?_⟩
           have HG6 := Aside0.mk (show w5.grownBy w6 (some gq) from ⟨hg6.os, hg6.tape, hg6.output, hg6.size, hg6.block⟩)
           have HR6 := Aside0.mk hR6
           clear hR6 hg6 hw1 hcq
           have HBb6 := Aside0.mk (blk_grown HBb5.out HG6.out (fun e => NgB.out (Option.some.inj e)))
           have BK6 := Aside0.mk (blk_grown BK5.out HG6.out (fun e => NgN.out (Option.some.inj e)))
           have HGk6 := Aside0.mk (blk_grown HP5.out.blk HG6.out (fun e => NgG.out (Option.some.inj e)))
           refine hKc.out _ _ ⟨(blk_cell HBb6.out 0).trans rfl, (blk_cell HGk6.out 2).trans rfl⟩ (fun hH2 => ?_)
           clear hKc Kc hH
           refine XReg.pu 9 48 (h := ?_)
           refine XReg.pu 10 49 (h := ?_)
           have c2' : w6.cell? ⟨g, 2, none⟩ = some (.slice (some ⟨gq, 0, none⟩) st.Q.length cw) := (blk_cell HGk6.out 2).trans rfl
           have f2' := blk_frozen HGk6.out 2
           refine lastL (i := 11) none rfl rfl (by kernel_rfl) (by decide) (fun Kc hKc => ?_)
           refine skip_ (w1 := ?_) (by rfl) rfl ?_ ?_
           rotate_left
           · go_simp
             rfl
           refine hKc.out _ _ ?_
           clear hKc Kc c2' f2' hH2
           refine done_ (by kernel_rfl) ?_
           obtain ⟨w7, hw7⟩ : ∃ w7, w6.setCell ⟨g, 2, none⟩ (.slice (some ⟨gq, 0, none⟩) (st.Q.length - 1) cw) = w7 := ⟨_, rfl⟩
           have HP7 := Aside0.mk (show PoolAt G w7 base g vl (.slice Ak st.K.length ck) (.slice (some ⟨gq, 0, none⟩) (st.Q.length - 1) cw) m st.L st.K (st.Q.eraseIdx i) st.D from by
            rw [← hw7]; exact HP5.out.grewQ HG6.out HR6.out (.inl rfl))
           have HK67 := Aside0.mk (show Keeps (fun k => k = g ∨ k = gq) wo w7 from by
            rw [← hw7]
            refine Keeps.setCell (M := fun k => k = g ∨ k = gq) (p := ⟨g, 2, none⟩) ?_ (.inl (.inl rfl)) _
            exact (keeps_weak HK5.out (fun _ f => f.elim)).trans (keeps_weak (keeps_grown HG6.out) (fun k hk => .inr (Option.some.inj hk))))
           have BK7 := Aside0.mk (show w7.heap[N]? = some (.cells #[.string x.f0.f0, .int .i64 x.f0.f1, .slice A2 x.f1.length c2, .string x.f2, .int .i64 x.f3, .string x.f4, .int .i64 x.f5, .slice A7 x.f6.length c7] 36 (0, 0)) from by
            rw [← hw7]; exact (far_cells _ N NNG.out).trans BK6.out)
           rw [hw7]
           have HKr := Aside0.mk (show Keeps (fun k => k = g ∨ k = gq) wr w7 from by
            rw [← hw7]
            refine Keeps.setCell (M := fun k => k = g ∨ k = gq) (p := ⟨g, 2, none⟩) ?_ (.inl (.inl rfl)) _
            exact (keeps_weak HW5.out (fun _ f => f.elim)).trans (keeps_weak (keeps_grown HG6.out) (fun k hk => .inr (Option.some.inj hk))))
           clear hw7
           have hM7 : k36.M w7 base G x [.string x.f0.f0, .int .i64 x.f0.f1, .slice A2 x.f1.length c2, .string x.f2, .int .i64 x.f3, .string x.f4, .int .i64 x.f5, .slice A7 x.f6.length c7] :=
            k36.M_mono (fun _ h => h.1.1.1) (Kd.M_step (Kd.M_types HMx.out HP2.out.blk (fun q hq => by have := k36_E' q hq; omega)) (fun k hk hlt => HKr.out.block k hlt (by rintro (h | h); exact hk.2 h; exact hk.1.2 h)))
           have hnin : ¬ (N8 = g ∨ N8 = gq) := by
            rintro (h | h)
            · exact typed_ne HN.out HP.out.blk (by decide) h
            · obtain ⟨cells, hc⟩ := Kd.R_typed HP.out.rq gq rfl
              exact typed_ne HN.out hc (by decide) h
           have hYS : YS G k sf w1 F base g m N8 (st, nn) (x, [.string x.f0.f0, .int .i64 x.f0.f1, .slice A2 x.f1.length c2, .string x.f2, .int .i64 x.f3, .string x.f4, .int .i64 x.f5, .slice A7 x.f6.length c7]) w7 := by
            refine ⟨i, f, HO.out, HX.out.symm, HDR.out, ⟨keeps_in HKK.out HK67.out ?_, ⟨_, _, _, HP7.out, HFG.out, HFL.out, HFW.out⟩, (HK67.out.block N8 (blk_lt HN.out) hnin).trans HN.out⟩, hM7⟩
            rintro k (rfl | rfl)
            · exact .inl (.inl HFG.out)
            · exact (HFW.out _ rfl).imp .inl id
           have hL7 : Lp w7 := HLP.out _ _ HL.out (KeepsLoops.of_keeps HK67.out (fun k hk => HP.out.no_loop k (hk.imp id (fun h => .inr (.inr (by rw [h]; rfl))))))
           have e0 : w7.cell? ⟨N, 0, none⟩ = some (.string x.f0.f0) := (blk_cell BK7.out 0).trans rfl
           have e1 : w7.cell? ⟨N, 1, none⟩ = some (.int .i64 x.f0.f1) := (blk_cell BK7.out 1).trans rfl
           have e2 : w7.cell? ⟨N, 2, none⟩ = some (.slice A2 x.f1.length c2) := (blk_cell BK7.out 2).trans rfl
           have e3 : w7.cell? ⟨N, 3, none⟩ = some (.string x.f2) := (blk_cell BK7.out 3).trans rfl
           have e4 : w7.cell? ⟨N, 4, none⟩ = some (.int .i64 x.f3) := (blk_cell BK7.out 4).trans rfl
           have e5 : w7.cell? ⟨N, 5, none⟩ = some (.string x.f4) := (blk_cell BK7.out 5).trans rfl
           have e6 : w7.cell? ⟨N, 6, none⟩ = some (.int .i64 x.f5) := (blk_cell BK7.out 6).trans rfl
           have e7 : w7.cell? ⟨N, 7, none⟩ = some (.slice A7 x.f6.length c7) := (blk_cell BK7.out 7).trans rfl
           obtain ⟨fn, tmps, asg, bdy, hyy, hR⟩ := HY.out _ _ w7 hYS hL7
           simp only [encOp] at hyy
           clear hM7 hnin hYS hL7
           gi_wp2
           refine ⟨(fun h => by cases h), hR.mono ?_⟩
           rintro e' W8 ⟨rfl, hJ8, hL8⟩
           obtain ⟨s1, hs1, hd1⟩ := Option.bind_eq_some_iff.mp HDR'.out
           have hst : stepS k (st, nn) (x, [.string x.f0.f0, .int .i64 x.f0.f1, .slice A2 x.f1.length c2, .string x.f2, .int .i64 x.f3, .string x.f4, .int .i64 x.f5, .slice A7 x.f6.length c7]) = (s1, nn + 1) := by
            unfold stepS
            rw [HO.out]
            simp only
            rw [HX.out] at hs1
            rw [hs1]
            rfl
           rw [hst] at hJ8
           have hq1 : s1.Q = st.Q.eraseIdx i := by
            unfold handS at hs1
            split at hs1
            · obtain ⟨t, _, hs1⟩ := Option.bind_eq_some_iff.mp hs1
              simp only [Option.some.injEq] at hs1
              rw [← hs1]
              rfl
            · cases hs1
           have HJ8 := Aside0.mk hJ8
           have HL8 := Aside0.mk hL8
           have HD1 := Aside0.mk hd1
           have hm1 : lenQ W8 g < lenQ wo g := by
            rw [lenQ_of hJ8, lenQ_of HJ.out]
            show s1.Q.length < st.Q.length
            rw [hq1, List.length_eraseIdx_of_lt hlt]
            omega
           have HM1 := Aside0.mk hm1
           clear hJ8 hL8 hd1 hst hs1 hq1 hm1
           gi_wp2
           exact ⟨⟨_, _, HJ8, HD1, HL8⟩, HM1.out⟩
       · have q : (e != 0) = true := by simp [he]
         have hf := HF2.out
         simp only [he, if_false] at hf
         have HF3 := Aside0.mk hf
         clear hf he HF2
         refine start_ (n := 12) (ds := []) (S := fun w' => True) _ (by kernel_rfl) rfl rfl trivial (fun hH => ?_)
         refine XReg.pu 0 27 (h := ?_)
         refine XReg.pu 1 28 (h := ?_)
         refine XReg.pu 2 29 (h := ?_)
         refine XReg.pn 3 30 (h := ?_)
         refine XReg.pn 4 31 (h := ?_)
         refine XReg.pn 5 32 (h := ?_)
         refine XReg.pn 6 33 (h := ?_)
         refine XReg.pn 7 34 (h := ?_)
         refine XReg.pn 8 35 (h := ?_)
         refine XReg.pn 9 36 (h := ?_)
         refine XReg.pn 10 37 (h := ?_)
         refine XReg.pu 11 38 (h := ?_)
         refine done_ (by kernel_rfl) ?_
         gi_wp2
         refine ⟨⟨i + 1, by rw [hw64], by omega, HF3, ⟨HK4.out.drew⟩⟩, ?_⟩
         rw [hw64]
         simp only [intOf, Int.toNat_natCast]
         omega
     · have hi : i = st.Q.length := by omega
       subst hi
       have ho : o = none := by
        have := HFi.out
        rw [List.drop_length] at this
        simp only [firstR, Option.some.injEq] at this
        exact this.symm
       subst ho
       have hsf : (st, nn) = sf := by
        have := HDR'.out
        simpa using this
       have ht1 : decide ((st.Q.length : Int) < (st.Q.length : Int)) = false := by simp
       gi_wp2
       refine bodyPost_ret (results_none rfl _ _ _) rfl ?_
       exact ⟨⟨_, rfl⟩, _, hsf, HJ.out.keeps HK2.out, HLP.out _ _ HL.out (KeepsLoops.of_keeps HK2.out (fun _ f => f.elim))⟩
end Go.Proofs.Ytenbkljgmgdegaa.PO
end
