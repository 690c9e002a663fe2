/- What the rows of this claim use, out of the texts of this work (OR, OY, OZ, RE, RP). No condition beyond those that each statement names. -/
import Derived.Test.YtenbkljgmgdegaaQjRD
import Derived.Test.YtenbkljgmgdegaaQjOH
import Derived.Test.YtenbkljgmgdegaaQjPOx0
import Derived.Test.YtenbkljgmgdegaaQjPOx7
import Derived.Test.YtenbkljgmgdegaaQjPOx10
import Derived.Test.YtenbkljgmgdegaaQjX
section
namespace Go.Proofs.Ytenbkljgmgdegaa.PO
open Go.RowKit Go.Proofs.YtenbkljgmgdegaaW.PrintWords Go.Proofs.YtenbkljgmgdegaaW.PrintLast Go.Proofs.YtenbkljgmgdegaaW.PrintMore Go.Proofs.Ytenbkljgmgdegaa.XW
open Go.Proofs.Ytenbkljgmgdegaa.XRange Go.Proofs.Ytenbkljgmgdegaa.XMap Go.Proofs.Ytenbkljgmgdegaa.XSeq
set_option linter.unusedVariables false
set_option linter.unusedSimpArgs false
structure RefAt (w0 : World) (G : Nat → Prop) (w : World) (g : Nat) (vl vk vw : Value) (a : AP) : Prop where
 blk : w.heap[g]? = some (.cells #[vl, vk, vw] 29 (0, 0))
 rl : Kd.R (kAt w0) 36 w 0 (fun k => G k ∧ some k ≠ vw.ownBlock) vl a.L
 rk : Kd.R k34 34 w 0 G vk a.K
 rq : Kd.R (kAt w0) 36 w 0 (fun k => G k ∧ some k ≠ vl.ownBlock) vw a.Q
section
variable {w0 w w1 : World} {G G' : Nat → Prop} {g : Nat} {vl vk vw : Value} {a : AP}
theorem kAt_E : ∀ q, q ∈ (36 : Nat) :: (kAt w0).E → q ≠ 29 := by intro q hq; simp [kAt] at hq; omega
theorem k34_E29 : ∀ q, q ∈ (34 : Nat) :: k34.E → q ≠ 29 := by intro q hq; have := k34_E q hq; omega
theorem RefAt.move (h : RefAt w0 G w g vl vk vw a) (hm : ∀ k, (k = g ∨ G k) → k < w.heap.size → w1.heap[k]? = w.heap[k]?) : RefAt w0 G w1 g vl vk vw a :=
 ⟨(hm g (.inl rfl) (blk_lt h.blk)).trans h.blk, Kd.R_step h.rl (fun k hk hlt => hm k (.inr hk.1) hlt), Kd.R_step h.rk (fun k hk hlt => hm k (.inr hk) hlt), Kd.R_step h.rq (fun k hk hlt => hm k (.inr hk.1) hlt)⟩
theorem RefAt.below (h : RefAt w0 G w g vl vk vw a) (hb : Below w.heap.size w w1) : RefAt w0 G w1 g vl vk vw a := h.move (fun k _ hlt => hb.block k hlt)
theorem RefAt.known (h : RefAt w0 G w g vl vk vw a) {v0 : Value} {K' : List S34} (hr : Kd.R k34 34 w 0 G v0 K') : RefAt w0 G (w.setCell ⟨g, 1, none⟩ v0) g vl v0 vw { a with K := K' } :=
 ⟨blk_set h.blk 1 v0, Kd.R_mono (Kd.R_far (Kd.R_types h.rl h.blk kAt_E) (fun k hk => hk.2) v0) (fun k hk => hk.1), Kd.R_mono (Kd.R_far (Kd.R_types hr h.blk k34_E29) (fun k hk => hk.2) v0) (fun k hk => hk.1),
  Kd.R_mono (Kd.R_far (Kd.R_types h.rq h.blk kAt_E) (fun k hk => hk.2) v0) (fun k hk => hk.1)⟩
theorem RefAt.waits (h : RefAt w0 G w g vl vk vw a) {v0 : Value} {Q' : List S36} (hr : Kd.R (kAt w0) 36 w 0 (fun k => G k ∧ some k ≠ vl.ownBlock) v0 Q') (hne : ∀ k, v0.ownBlock = some k → some k ≠ vl.ownBlock) : RefAt w0 G (w.setCell ⟨g, 2, none⟩ v0) g vl vk v0 { a with Q := Q' } := by
 have hl := Kd.R_types h.rl h.blk kAt_E
 refine ⟨blk_set h.blk 2 v0, ?_, Kd.R_mono (Kd.R_far (Kd.R_types h.rk h.blk k34_E29) (fun k hk => hk.2) v0) (fun k hk => hk.1), Kd.R_mono (Kd.R_far (Kd.R_types hr h.blk kAt_E) (fun k hk => hk.2) v0) (fun k hk => hk.1)⟩
 have h1 := Kd.R_far (p := ⟨g, 2, none⟩) hl (fun k hk => hk.2) v0
 obtain ⟨ho, inner, hown, hrep⟩ := h1
 refine ⟨fun k hk => ⟨(ho k hk).1.1, fun e => hne k e.symm hk.symm⟩, inner, hown, hrep.imp_ (fun _ _ hp => hp)⟩
end
theorem OpAt0.below {w0 w w1 : World} {p : Addr} {x : S36} {A2 A7 : Option Addr} {c2 c7 : Nat} (h : OpAt0 w0 w p x A2 c2 A7 c7) (hb : Below w.heap.size w w1) : OpAt0 w0 w1 p x A2 c2 A7 c7 := by
 have st : ∀ {q : Addr} {u : Value}, w.cell? q = some u → w1.cell? q = some u := fun hq => (hb.cell (World.block_lt_of_cell? w _ hq)).trans hq
 exact ⟨st h.e0, st h.e1, st h.e2, st h.e3, st h.e4, st h.e5, st h.e6, st h.e7, h.l2, h.g2, h.l7, h.g7⟩
end Go.Proofs.Ytenbkljgmgdegaa.PO
end
section
namespace Go.Proofs.Ytenbkljgmgdegaa.PO
open Go.RowKit Go.Proofs.YtenbkljgmgdegaaW.PrintWords Go.Proofs.YtenbkljgmgdegaaW.PrintLast Go.Proofs.YtenbkljgmgdegaaW.PrintMore Go.Proofs.Ytenbkljgmgdegaa.XW
set_option linter.unusedVariables false
set_option linter.unusedSimpArgs false
theorem ahead_f (a b : S34) : pannierref08_ahead.f a.f0 a.f1 b.f0 b.f1 = some (lessD a b) := by
 unfold pannierref08_ahead.f lessD
 cases h : Op.bytesLess a.f0.toList b.f0.toList
 · by_cases e : a.f0.toList = b.f0.toList
   · simp [e]
   · simp [e]
 · simp
end Go.Proofs.Ytenbkljgmgdegaa.PO
end
section
namespace Go.Proofs.Ytenbkljgmgdegaa.PO
open Go.RowKit Go.Proofs.YtenbkljgmgdegaaW.PrintWords Go.Proofs.YtenbkljgmgdegaaW.PrintLast Go.Proofs.YtenbkljgmgdegaaW.PrintMore Go.Proofs.Ytenbkljgmgdegaa.XW
open Go.Proofs.Ytenbkljgmgdegaa.XRange Go.Proofs.Ytenbkljgmgdegaa.XMap Go.Proofs.Ytenbkljgmgdegaa.XSeq
set_option linter.unusedVariables false
set_option linter.unusedSimpArgs false
def RefS (w0 : World) (S : Nat → Prop) (g : Nat) (a : AP) (w : World) : Prop := (∃ vl vk vw, RefAt w0 S w g vl vk vw a) ∧ S g ∧ (∀ k, S k → k < w.heap.size) ∧ InvA a
theorem RefS.keeps {w0 : World} {S M : Nat → Prop} {g : Nat} {a : AP} {w w1 : World} (h : RefS w0 S g a w) (hk : Keeps M w w1) (hd : ∀ k, S k → ¬ M k) : RefS w0 S g a w1 := by
 obtain ⟨⟨vl, vk, vw, h1⟩, h2, h3, h4⟩ := h
 exact ⟨⟨vl, vk, vw, h1.move (fun k hkS hlt => hk.block k hlt (hd k (by rcases hkS with rfl | h; exact h2; exact h)))⟩, h2, fun k hS => Nat.lt_of_lt_of_le (h3 k hS) hk.size, h4⟩
theorem RefS.below {w0 : World} {S : Nat → Prop} {g : Nat} {a : AP} {w w1 : World} (h : RefS w0 S g a w) (hb : Below w.heap.size w w1) : RefS w0 S g a w1 := h.keeps (Keeps.of_below hb) (fun _ _ f => f)
end Go.Proofs.Ytenbkljgmgdegaa.PO
end
section
namespace Go.Proofs.Ytenbkljgmgdegaa.PO
open Go.RowKit Go.Proofs.YtenbkljgmgdegaaW.PrintWords Go.Proofs.YtenbkljgmgdegaaW.PrintLast Go.Proofs.YtenbkljgmgdegaaW.PrintMore Go.Proofs.Ytenbkljgmgdegaa.XW
open Go.Proofs.Ytenbkljgmgdegaa.XRange Go.Proofs.Ytenbkljgmgdegaa.XMap Go.Proofs.Ytenbkljgmgdegaa.XSeq
set_option linter.unusedVariables false
set_option linter.unusedSimpArgs false
theorem rdNum_f (b : List Int) (hB : isB b) (hb : b.length ≤ 140737488355300) (p : Int) (bad : Bool) (k : Nat) (hk : 20 ≤ k) : rdNum k b p bad = some (numR b p bad) := by
 unfold rdNum numR
 rw [takeNumber_f b hB hb p k hk, Option.bind_some]
 cases bad with
 | true => rfl
 | false =>
   by_cases h0 : (takeS b p).2.2 = 0
   · have := takeS_ok hB h0
     by_cases h1 : (takeS b p).1 > 4611686018427387904
     · simp [h0, h1]
     · simp [h0, h1, this.2.2.1]
   · simp [h0]
theorem rdText_f (b : List Int) (hB : isB b) (hb : b.length ≤ 140737488355300) (p : Int) (bad : Bool) (k : Nat) (hk : 20 ≤ k) : rdText k b p bad = some (texR b p bad) := by
 unfold rdText texR
 rw [takeText32_f b hB hb p k hk, Option.bind_some]
 cases bad with
 | true => rfl
 | false =>
   by_cases h0 : (text32 b p).2.2 = 0
   · simp [h0]
   · simp [h0]
theorem rdDot_f (b : List Int) (hB : isB b) (hb : b.length ≤ 140737488355300) (p : Int) (bad : Bool) (k : Nat) (hk : 20 ≤ k) : rdDot k b p bad = some ((dotR b p bad).1.f0, (dotR b p bad).1.f1, (dotR b p bad).2.1, (dotR b p bad).2.2) := by
 unfold rdDot
 rw [rdText_f b hB hb p bad k hk, Option.bind_some, rdNum_f b hB hb _ _ k hk, Option.bind_some]
 rfl
theorem set8 {w : World} {G : Nat} {a0 a1 a2 a3 a4 a5 a6 a7 : Value} (h : w.heap[G]? = some (.cells #[a0, a1, a2, a3, a4, a5, a6, a7] 36 (0, 0))) (u0 u1 u2 u3 u4 u5 u6 u7 : Value) :
 ((((((((w.setCell ⟨G, 0, none⟩ u0).setCell ⟨G, 1, none⟩ u1).setCell ⟨G, 2, none⟩ u2).setCell ⟨G, 3, none⟩ u3).setCell ⟨G, 4, none⟩ u4).setCell ⟨G, 5, none⟩ u5).setCell ⟨G, 6, none⟩ u6).setCell ⟨G, 7, none⟩ u7).heap[G]? = some (.cells #[u0, u1, u2, u3, u4, u5, u6, u7] 36 (0, 0)) := by
 have h0 := blk_set h 0 u0
 simp only [List.setIfInBounds_toArray, List.set_cons_zero, List.set_cons_succ] at h0
 have h1 := blk_set h0 1 u1
 simp only [List.setIfInBounds_toArray, List.set_cons_zero, List.set_cons_succ] at h1
 have h2 := blk_set h1 2 u2
 simp only [List.setIfInBounds_toArray, List.set_cons_zero, List.set_cons_succ] at h2
 have h3 := blk_set h2 3 u3
 simp only [List.setIfInBounds_toArray, List.set_cons_zero, List.set_cons_succ] at h3
 have h4 := blk_set h3 4 u4
 simp only [List.setIfInBounds_toArray, List.set_cons_zero, List.set_cons_succ] at h4
 have h5 := blk_set h4 5 u5
 simp only [List.setIfInBounds_toArray, List.set_cons_zero, List.set_cons_succ] at h5
 have h6 := blk_set h5 6 u6
 simp only [List.setIfInBounds_toArray, List.set_cons_zero, List.set_cons_succ] at h6
 have h7 := blk_set h6 7 u7
 simp only [List.setIfInBounds_toArray, List.set_cons_zero, List.set_cons_succ] at h7
 exact h7
theorem keeps8 (w : World) (G : Nat) (u0 u1 u2 u3 u4 u5 u6 u7 : Value) :
 Keeps (fun k => k = G) w ((((((((w.setCell ⟨G, 0, none⟩ u0).setCell ⟨G, 1, none⟩ u1).setCell ⟨G, 2, none⟩ u2).setCell ⟨G, 3, none⟩ u3).setCell ⟨G, 4, none⟩ u4).setCell ⟨G, 5, none⟩ u5).setCell ⟨G, 6, none⟩ u6).setCell ⟨G, 7, none⟩ u7) := by
 have k0 := Keeps.setCell (M := fun k => k = G) (Keeps.refl _ w) (p := ⟨G, 0, none⟩) (.inl rfl) u0
 have k1 := Keeps.setCell (M := fun k => k = G) k0 (p := ⟨G, 1, none⟩) (.inl rfl) u1
 have k2 := Keeps.setCell (M := fun k => k = G) k1 (p := ⟨G, 2, none⟩) (.inl rfl) u2
 have k3 := Keeps.setCell (M := fun k => k = G) k2 (p := ⟨G, 3, none⟩) (.inl rfl) u3
 have k4 := Keeps.setCell (M := fun k => k = G) k3 (p := ⟨G, 4, none⟩) (.inl rfl) u4
 have k5 := Keeps.setCell (M := fun k => k = G) k4 (p := ⟨G, 5, none⟩) (.inl rfl) u5
 have k6 := Keeps.setCell (M := fun k => k = G) k5 (p := ⟨G, 6, none⟩) (.inl rfl) u6
 have k7 := Keeps.setCell (M := fun k => k = G) k6 (p := ⟨G, 7, none⟩) (.inl rfl) u7
 exact k7
structure RS (w wq : World) (G g N : Nat) (A : Option Addr) (c : Nat) (l : List Int) (p : Int) (b : Bool) (cs : Array Value) : Prop where
 rd : wq.heap[g]? = some (.cells #[.slice A l.length c, .int .i64 p, .bool b] 117 (0, 0))
 ob : wq.heap[N]? = some (.cells cs 36 (0, 0))
 gb : wq.heap[G]? = some (.cells #[.string ⟨#[]⟩, .int .i64 0, .slice none 0 0, .string ⟨#[]⟩, .int .i64 0, .string ⟨#[]⟩, .int .i64 0, .slice none 0 0] 36 (0, 0))
 ft : Kd.F (Kd.int .u8) wq (fun k => k < g) A l.length l
 bl : Below w.heap.size w wq
 le : l.length ≤ c
 lg : G < g
 ln : g < N
 lw : w.heap.size ≤ G
section
variable {w wq w1 : World} {G g N : Nat} {A : Option Addr} {c : Nat} {l : List Int} {p p' : Int} {b b' : Bool} {cs : Array Value}
theorem RS.rdAt (h : RS w wq G g N A c l p b cs) : RdAt 117 wq g A c l p b := ⟨h.rd, h.le, Kd.F_mono h.ft (fun k hk => by have : k < g := hk; omega)⟩
theorem RS.keeps (h : RS w wq G g N A c l p b cs) (hk : Keeps (fun k => g ≤ k) wq w1) (h1 : w1.heap[g]? = some (.cells #[.slice A l.length c, .int .i64 p', .bool b'] 117 (0, 0))) {cs' : Array Value} (h2 : w1.heap[N]? = some (.cells cs' 36 (0, 0))) : RS w w1 G g N A c l p' b' cs' :=
 ⟨h1, h2, (hk.block G (blk_lt h.gb) (by have := h.lg; omega)).trans h.gb, Kd.F_step h.ft (fun k hk' hlt => hk.block k hlt (by have h3 : k < g := hk'; omega)),
  below_keeps h.bl (M := fun k => g ≤ k) (fun k hk => by have := h.lw; have := h.lg; have h3 : g ≤ k := hk; omega) h.bl.size hk, h.le, h.lg, h.ln, h.lw⟩
theorem RS.grown (h : RS w wq G g N A c l p b cs) {row : Option Nat} (hg : wq.grownBy w1 row) (hr : ∀ k, row = some k → N < k) : RS w w1 G g N A c l p b cs :=
 h.keeps (keeps_weak (keeps_grown hg) (fun k hk => by have := hr k hk.symm; have := h.ln; omega)) (blk_grown h.rd hg (fun e => by have := hr g e.symm; have := h.ln; omega)) (blk_grown h.ob hg (fun e => by have := hr N e.symm; omega))
theorem RS.after (h : RS w wq G g N A c l p b cs) (hs : RdAt 117 w1 g A c l p' b') (hk : Keeps (fun k => k = g) wq w1) : RS w w1 G g N A c l p' b' cs :=
 h.keeps (keeps_weak hk (fun k h => by subst h; exact Nat.le_refl _)) hs.blk ((hk.block N (blk_lt h.ob) (by have := h.ln; omega)).trans h.ob)
theorem RS.below (h : RS w wq G g N A c l p b cs) (hb : Below wq.heap.size wq w1) : RS w w1 G g N A c l p b cs :=
 h.keeps (keeps_weak (Keeps.of_below hb (M := fun _ => False)) (fun _ f => f.elim)) (blk_below h.rd hb) (blk_below h.ob hb)
theorem RS.setN (h : RS w wq G g N A c l p b cs) (i : Nat) (u : Value) : RS w (wq.setCell ⟨N, i, none⟩ u) G g N A c l p b (cs.setIfInBounds i u) :=
 h.keeps (Keeps.setCell (M := fun k => g ≤ k) (Keeps.refl _ wq) (p := ⟨N, i, none⟩) (.inl (by have := h.ln; show g ≤ N; omega)) u) (blk_far h.rd (show g ≠ N by have := h.ln; omega) u) (blk_set h.ob i u)
theorem RS.setp (h : RS w wq G g N A c l p b cs) (a' : Int) : RS w (wq.setCell ⟨g, 1, none⟩ (.int .i64 a')) G g N A c l a' b cs :=
 h.keeps (Keeps.setCell (M := fun k => g ≤ k) (Keeps.refl _ wq) (p := ⟨g, 1, none⟩) (.inl (Nat.le_refl _)) _) (blk_set h.rd 1 _) (blk_far h.ob (show N ≠ g by have := h.ln; omega) _)
end
set_option maxHeartbeats 8000000 in
set_option maxRecDepth 100000 in
theorem read43 (w : World) (s : ByteArray) (hs : s.size ≤ 140737488351232) :
 Calls Try.prog 43 #[.string s] w fun e w' => ∃ v2 v7, e = .returned (.tuple #[.agg #[.string (readO (bytesOf s)).1.f0.f0, .int .i64 (readO (bytesOf s)).1.f0.f1, v2, .string (readO (bytesOf s)).1.f2, .int .i64 (readO (bytesOf s)).1.f3, .string (readO (bytesOf s)).1.f4, .int .i64 (readO (bytesOf s)).1.f5, v7], .int .i64 (readO (bytesOf s)).2]) ∧
  Kd.R k34 34 w' w.heap.size (fun _ => True) v2 (readO (bytesOf s)).1.f1 ∧ Kd.R k34 34 w' w.heap.size (fun _ => True) v7 (readO (bytesOf s)).1.f6 ∧ Below w.heap.size w w' := by
 go_enter Try.func43, Try.ntmps43
 go_wp2_with fail
 obtain ⟨w0, hw0⟩ : ∃ w0, w.alloc (.cells #[.string ⟨#[]⟩, .int .i64 0, .slice none 0 0, .string ⟨#[]⟩, .int .i64 0, .string ⟨#[]⟩, .int .i64 0, .slice none 0 0] 36) = w0 := ⟨_, rfl⟩
 obtain ⟨G, hG⟩ : ∃ G, w.heap.size = G := ⟨_, rfl⟩
 have hb0 : Below w.heap.size w w0 := by rw [← hw0]; exact (Below.refl _ w).alloc (Nat.le_refl _) _
 have hbk0 : w0.heap[G]? = some (.cells #[.string ⟨#[]⟩, .int .i64 0, .slice none 0 0, .string ⟨#[]⟩, .int .i64 0, .string ⟨#[]⟩, .int .i64 0, .slice none 0 0] 36 (0, 0)) := by rw [← hw0, ← hG]; exact World.alloc_heap_new w _
 rw [hw0, hG, Lib.run_convert_string_bytes _ 9 63 5 s Try.underlying9 Try.underlying63 Try.underlying5]
 obtain ⟨l, hl⟩ : ∃ l, bytesOf s = l := ⟨_, rfl⟩
 have hsl : s.size = l.length := by rw [← hl]; exact (bytesOf_length s).symm
 have hv := Kd.conv_V (W := w0) (e := 5) (base := 0) (ok := fun _ => True) s (fun _ _ => trivial) (by omega) (grownCap_ge w0 _ _ _)
 have hb1 := Kd.conv_below (W := w0) (w0 := w0) (base := w0.heap.size) 5 s (Below.refl _ _) (Nat.le_refl _)
 obtain ⟨w1, hw1⟩ : ∃ w1, Lib.bytesWorld w0 5 s = w1 := ⟨_, rfl⟩
 obtain ⟨A, hA⟩ : ∃ A, some (⟨w0.heap.size, 0, none⟩ : Addr) = A := ⟨_, rfl⟩
 obtain ⟨c, hcc⟩ : ∃ c, grownCap w0 s.size 0 5 = c := ⟨_, rfl⟩
 rw [hw1, hA, hcc, hl, hsl] at hv
 rw [hw1] at hb1
 rw [hw1, hA, hcc, hsl]
 have hlc : l.length ≤ c := by rw [← hcc, ← hsl]; exact grownCap_ge w0 _ _ _
 have hF := Kd.V_F hv
 clear hv hw1 hA hcc hw0
 have hB : isB l := by rw [← hl]; exact bytes_B s
 have hlm : l.length ≤ 140737488355300 := by omega
 have HB0 := Aside0.mk (hb0.trans (hb1.mono hb0.size))
 have HG0 := Aside0.mk (blk_below hbk0 hb1)
 have HF := Aside0.mk hF
 clear hF hbk0 hb1 hb0
 obtain ⟨w2, hw2⟩ : ∃ w2, w1.alloc (.cells #[.slice A l.length c, .int .i64 0, .bool false] 117) = w2 := ⟨_, rfl⟩
 obtain ⟨g, hg⟩ : ∃ g, w1.heap.size = g := ⟨_, rfl⟩
 have hb2 : Below w1.heap.size w1 w2 := by rw [← hw2]; exact (Below.refl _ w1).alloc (Nat.le_refl _) _
 have HS2 := Aside0.mk (show RdAt 117 w2 g A c l 0 false from by
  rw [← hw2, ← hg]
  exact ⟨World.alloc_heap_new w1 _, hlc, Kd.F_alloc (Kd.F_mono (Kd.F_bound HF.out) (fun k hk => by have := hk.2; omega)) _⟩)
 have HF2 := Aside0.mk (show Kd.F (Kd.int .u8) w2 (fun k => k < g) A l.length l from by rw [← hw2, ← hg]; exact Kd.F_alloc (Kd.F_mono (Kd.F_bound HF.out) (fun k hk => hk.2)) _)
 have HB2 := Aside0.mk (HB0.out.trans (hb2.mono HB0.out.size))
 have HG2 := Aside0.mk (blk_below HG0.out hb2)
 have HGG := Aside0.mk (show G < g from by rw [← hg]; exact blk_lt HG0.out)
 have HWG := Aside0.mk (show w.heap.size ≤ g from by rw [← hg]; exact HB0.out.size)
 have HGW := Aside0.mk (show w.heap.size ≤ G from by omega)
 clear hb2 HB0 HG0 HF
 go_wp2_with fail
 try rw [hw2]
 try rw [hg]
 clear hw2 hg
 refine (reader_dot 20 g A c l 0 false _ _ _ _ _ HS2.out (rdDot_f l hB hlm 0 false 20 (by omega))).mono ?_
 rintro e w3 ⟨rfl, hs3, hk3⟩
 obtain ⟨⟨d, p1, b1⟩, hd⟩ : ∃ x, dotR l 0 false = x := ⟨_, rfl⟩
 rw [hd] at hs3 ⊢
 dsimp only at hs3 ⊢
 have HD := Aside0.mk hd
 have HS3 := Aside0.mk hs3
 have HG3 := Aside0.mk ((hk3.block G (blk_lt HG2.out) (by have := HGG.out; omega)).trans HG2.out)
 have HB3 := Aside0.mk (below_keeps HB2.out (M := fun k => k = g) (fun k hk => by subst hk; exact HWG.out) HB2.out.size hk3)
 have HF3 := Aside0.mk (Kd.F_step HF2.out (fun k hk hlt => hk3.block k hlt (by have h3 : k < g := hk; omega)))
 clear hs3 hk3 hd HS2 HG2 HB2 HF2
 go_wp2_with fail
 obtain ⟨w4, hw4⟩ : ∃ w4, w3.alloc (.cells #[.string d.f0, .int .i64 d.f1, .slice none 0 0, .string ⟨#[]⟩, .int .i64 0, .string ⟨#[]⟩, .int .i64 0, .slice none 0 0] 36) = w4 := ⟨_, rfl⟩
 obtain ⟨N, hN⟩ : ∃ N, w3.heap.size = N := ⟨_, rfl⟩
 have hb4 : Below w3.heap.size w3 w4 := by rw [← hw4]; exact (Below.refl _ w3).alloc (Nat.le_refl _) _
 have HN4 := Aside0.mk (show w4.heap[N]? = some (.cells #[.string d.f0, .int .i64 d.f1, .slice none 0 0, .string ⟨#[]⟩, .int .i64 0, .string ⟨#[]⟩, .int .i64 0, .slice none 0 0] 36 (0, 0)) from by rw [← hw4, ← hN]; exact World.alloc_heap_new w3 _)
 try rw [hw4]
 try rw [hN]
 have HNg := Aside0.mk (show g < N from by rw [← hN]; exact blk_lt HS3.out.blk)
 have HS4 := Aside0.mk (HS3.out.keep (Keeps.of_below hb4 |> fun h => keeps_weak h (fun _ f => f)))
 have HG4 := Aside0.mk (blk_below HG3.out hb4)
 have HB4 := Aside0.mk (HB3.out.trans (hb4.mono HB3.out.size))
 have HF4 := Aside0.mk (Kd.F_below HF3.out hb4)
 clear hb4 hw4 hN HS3 HG3 HB3 HF3
 refine start_ (n := 16) (ds := []) (S := fun w' => w'.cell? ⟨g, 0, none⟩ = some (.slice A l.length c) ∧ w'.cell? ⟨g, 1, none⟩ = some (.int .i64 p1)) _ (by kernel_rfl) rfl rfl ⟨(blk_cell (blk_drew HS4.out.blk) 0).trans rfl, (blk_cell (blk_drew HS4.out.blk) 1).trans rfl⟩ (fun hH => ?_)
 refine XReg.pu 0 19 (h := ?_)
 refine XReg.pu 1 20 (h := ?_)
 refine XReg.pu 2 21 (h := ?_)
 refine XReg.tk 3 22 (h := ?_)
 refine XReg.pu 4 23 (h := ?_)
 refine XReg.pu 5 24 (h := ?_)
 refine XReg.pu 6 25 (h := ?_)
 refine XReg.tk 7 26 (h := ?_)
 refine XReg.one (i := 8) (some 27) rfl rfl (by kernel_rfl) (by decide) (fun Kc hKc => ?_)
 refine goes_ Try.func72 (by kernel_rfl) rfl #[.slice A l.length c, .int .i64 p1] (by rfl) rfl rfl (by (try simp only [List.map_toArray, List.map_cons, List.map_nil]); first | done | rfl) ?_
 obtain ⟨⟨V, p2, ve⟩, hV⟩ : ∃ x, vecS l p1 = x := ⟨_, rfl⟩
 refine (vector_Take.calls 400 A c l p1 V p2 ve _ (Kd.C_drew (Kd.F_now HS4.out.foot)) HS4.out.le (by rw [take_f l hB hlm p1 400 (by omega), hV])).mono ?_
 rintro e w5 ⟨vv, rfl, hr5, hb5⟩
 refine ⟨_, rfl, ?_⟩
 have hb5' : Below w4.heap.size w4 w5 := (below_drew1 (Below.refl _ w4)).trans hb5
 have HV := Aside0.mk hV
 have HS5 := Aside0.mk (HS4.out.keep (Keeps.of_below hb5'))
 have HG5 := Aside0.mk (blk_below HG4.out hb5')
 have HN5 := Aside0.mk (blk_below HN4.out hb5')
 have HB5 := Aside0.mk (HB4.out.trans (hb5'.mono HB4.out.size))
 have HR5 := Aside0.mk (show Kd.R k34 34 w5 (N + 1) (fun _ => True) vv V from Kd.R_lower hr5 (by have := blk_lt HN4.out; exact this))
 have HFT := Aside0.mk (Kd.F_below HF4.out hb5')
 refine hKc.out _ _ ⟨(blk_cell HS5.out.blk 0).trans rfl, (blk_cell HS5.out.blk 1).trans rfl⟩ (fun hH2 => ?_)
 clear hKc Kc hH hr5 hb5 hb5' hV HS4 HG4 HN4 HB4 HF4
 refine XReg.pu 9 18 (h := ?_)
 refine XReg.pu 10 28 (h := ?_)
 refine XReg.pu 11 29 (h := ?_)
 refine XReg.pu 12 30 (h := ?_)
 refine XReg.pu 13 6 (h := ?_)
 refine XReg.pu 14 7 (h := ?_)
 refine XReg.pu 15 8 (h := ?_)
 refine done_ (by kernel_rfl) ?_
 have c2 : w5.cell? ⟨g, 2, none⟩ = some (.bool b1) := (blk_cell HS5.out.blk 2).trans rfl
 clear hH2
 by_cases hbad : b1 = true ∨ ve ≠ 0
 · have z0 : readO l = (z36, 80) := by
    unfold readO
    rw [HD.out]
    dsimp only
    rw [HV.out]
    rw [if_pos hbad]
   have Z0 := Aside0.mk z0
   clear z0
   obtain ⟨e0, e1, e2, e3, e4, e5, e6, e7⟩ := cells8 HG5.out
   have f0 := blk_frozen HG5.out 0
   have f1 := blk_frozen HG5.out 1
   have f2 := blk_frozen HG5.out 2
   have f3 := blk_frozen HG5.out 3
   have f4 := blk_frozen HG5.out 4
   have f5 := blk_frozen HG5.out 5
   have f6 := blk_frozen HG5.out 6
   have f7 := blk_frozen HG5.out 7
   cases b1 with
   | true =>
     go_wp2
     have h8 := set8 HG5.out (.string ⟨#[]⟩) (.int .i64 0) (.slice none 0 0) (.string ⟨#[]⟩) (.int .i64 0) (.string ⟨#[]⟩) (.int .i64 0) (.slice none 0 0)
     obtain ⟨k0, k1, k2, k3, k4, k5, k6, k7⟩ := cells8 h8
     have hk := below_keeps HB5.out (M := fun k => k = G) (fun k hk => by subst hk; exact HGW.out) HB5.out.size (keeps8 w5 G (.string ⟨#[]⟩) (.int .i64 0) (.slice none 0 0) (.string ⟨#[]⟩) (.int .i64 0) (.string ⟨#[]⟩) (.int .i64 0) (.slice none 0 0))
     try rw [hl]
     rw [Z0.out]
     try rw [hG] at hk
     try rw [hG]
     exact bodyPost_ret (v := .tuple #[.agg #[.string ⟨#[]⟩, .int .i64 0, .slice none 0 0, .string ⟨#[]⟩, .int .i64 0, .string ⟨#[]⟩, .int .i64 0, .slice none 0 0], .int .i64 80]) (by simp [results, Try.f43, go_sem, k0, k1, k2, k3, k4, k5, k6, k7]) rfl ⟨.slice none 0 0, .slice none 0 0, rfl, Kd.R_nil _ _ _ _ _, Kd.R_nil _ _ _ _ _, hk⟩
   | false =>
     have hve : (ve != 0) = true := by rcases hbad with h | h; cases h; simpa using h
     go_wp2
     have h8 := set8 HG5.out (.string ⟨#[]⟩) (.int .i64 0) (.slice none 0 0) (.string ⟨#[]⟩) (.int .i64 0) (.string ⟨#[]⟩) (.int .i64 0) (.slice none 0 0)
     obtain ⟨k0, k1, k2, k3, k4, k5, k6, k7⟩ := cells8 h8
     have hk := below_keeps HB5.out (M := fun k => k = G) (fun k hk => by subst hk; exact HGW.out) HB5.out.size (keeps8 w5 G (.string ⟨#[]⟩) (.int .i64 0) (.slice none 0 0) (.string ⟨#[]⟩) (.int .i64 0) (.string ⟨#[]⟩) (.int .i64 0) (.slice none 0 0))
     try rw [hl]
     rw [Z0.out]
     try rw [hG] at hk
     try rw [hG]
     exact bodyPost_ret (v := .tuple #[.agg #[.string ⟨#[]⟩, .int .i64 0, .slice none 0 0, .string ⟨#[]⟩, .int .i64 0, .string ⟨#[]⟩, .int .i64 0, .slice none 0 0], .int .i64 80]) (by simp [results, Try.f43, go_sem, k0, k1, k2, k3, k4, k5, k6, k7]) rfl ⟨.slice none 0 0, .slice none 0 0, rfl, Kd.R_nil _ _ _ _ _, Kd.R_nil _ _ _ _ _, hk⟩
 · have q1 : b1 = false := by cases b1 with | false => rfl | true => exact absurd (Or.inl rfl) hbad
   have q2 : ve = 0 := Classical.byContradiction (fun h => hbad (Or.inr h))
   subst q1
   subst q2
   have HBAD := Aside0.mk hbad
   clear hbad
   have HT5 := Aside0.mk (show RS w w5 G g N A c l p1 false #[.string d.f0, .int .i64 d.f1, .slice none 0 0, .string ⟨#[]⟩, .int .i64 0, .string ⟨#[]⟩, .int .i64 0, .slice none 0 0] from
    ⟨HS5.out.blk, HN5.out, HG5.out, HFT.out, HB5.out, hlc, HGG.out, HNg.out, by have := HGW.out; exact this⟩)
   obtain ⟨Av, cv, rfl⟩ := Kd.R_slice HR5.out
   have e2 : w5.cell? ⟨N, 2, none⟩ = some (.slice none 0 0) := (blk_cell HN5.out 2).trans rfl
   have c1 : w5.cell? ⟨g, 1, none⟩ = some (.int .i64 p1) := (blk_cell HS5.out.blk 1).trans rfl
   have f2 := blk_frozen HN5.out 2
   have f1 := blk_frozen HS5.out.blk 1
   clear HS5 HN5 HG5 HB5
   go_wp2_with fail
   obtain ⟨w6, hw6⟩ : ∃ w6, (w5.setCell ⟨N, 2, none⟩ (.slice Av V.length cv)).setCell ⟨g, 1, none⟩ (.int .i64 p2) = w6 := ⟨_, rfl⟩
   rw [hw6]
   have HT6 := Aside0.mk (show RS w w6 G g N A c l p2 false #[.string d.f0, .int .i64 d.f1, .slice Av V.length cv, .string ⟨#[]⟩, .int .i64 0, .string ⟨#[]⟩, .int .i64 0, .slice none 0 0] from by
    rw [← hw6]
    have h := (HT5.out.setN 2 (.slice Av V.length cv)).setp p2
    simp only [List.setIfInBounds_toArray, List.set_cons_zero, List.set_cons_succ] at h
    exact h)
   have HK6 := Aside0.mk (show Keeps (fun k => k = g ∨ k = N) w5 w6 from by
    rw [← hw6]
    exact Keeps.setCell (M := fun k => k = g ∨ k = N) (Keeps.setCell (M := fun k => k = g ∨ k = N) (Keeps.refl _ w5) (p := ⟨N, 2, none⟩) (.inl (.inr rfl)) _) (p := ⟨g, 1, none⟩) (.inl (.inl rfl)) _)
   have HML := Aside0.mk (show ∀ k, (k = g ∨ k = N) → k < N + 1 from fun k hk => by have := HNg.out; rcases hk with rfl | rfl <;> omega)
   have HML1 := Aside0.mk (show ∀ k, k = g → k < N + 1 from fun k hk => HML.out k (.inl hk))
   have HR6 := Aside0.mk (R_apart HR5.out HK6.out HML.out)
   clear e2 c1 f2 f1 c2 hw6 HT5 HR5 HK6 HFT HWG HGW
   obtain ⟨⟨sc, p3, b3⟩, hC⟩ : ∃ x, texR l p2 false = x := ⟨_, rfl⟩
   refine (reader_text 20 g A c l p2 false sc p3 b3 _ HT6.out.rdAt (by rw [rdText_f l hB hlm p2 false 20 (by omega), hC])).mono ?_
   rintro e w7 ⟨rfl, hs7, hk7⟩
   have HT7 := Aside0.mk (HT6.out.after hs7 hk7)
   have HR7 := Aside0.mk (R_apart HR6.out hk7 HML1.out)
   have HC := Aside0.mk hC
   clear hs7 hk7 HT6 HR6 hC
   go_wp2_with fail
   obtain ⟨⟨si, p4, b4⟩, hI⟩ : ∃ x, texR l p3 b3 = x := ⟨_, rfl⟩
   refine (reader_text 20 g A c l p3 b3 si p4 b4 _ HT7.out.rdAt (by rw [rdText_f l hB hlm p3 b3 20 (by omega), hI])).mono ?_
   rintro e w8 ⟨rfl, hs8, hk8⟩
   have HT8 := Aside0.mk (HT7.out.after hs8 hk8)
   have HR8 := Aside0.mk (R_apart HR7.out hk8 HML1.out)
   have HI := Aside0.mk hI
   have e3 : w8.cell? ⟨N, 3, none⟩ = some (.string ⟨#[]⟩) := (blk_cell HT8.out.ob 3).trans rfl
   have e5 : w8.cell? ⟨N, 5, none⟩ = some (.string ⟨#[]⟩) := (blk_cell HT8.out.ob 5).trans rfl
   have f3 := blk_frozen HT8.out.ob 3
   have f5 := blk_frozen HT8.out.ob 5
   clear hs8 hk8 HT7 HR7 hI
   go_wp2_with fail
   obtain ⟨w9, hw9⟩ : ∃ w9, (w8.setCell ⟨N, 3, none⟩ (.string sc)).setCell ⟨N, 5, none⟩ (.string si) = w9 := ⟨_, rfl⟩
   rw [hw9]
   have HT9 := Aside0.mk (show RS w w9 G g N A c l p4 b4 #[.string d.f0, .int .i64 d.f1, .slice Av V.length cv, .string sc, .int .i64 0, .string si, .int .i64 0, .slice none 0 0] from by
    rw [← hw9]
    have h := (HT8.out.setN 3 (.string sc)).setN 5 (.string si)
    simp only [List.setIfInBounds_toArray, List.set_cons_zero, List.set_cons_succ] at h
    exact h)
   have HR9 := Aside0.mk (R_apart HR8.out (show Keeps (fun k => k = g ∨ k = N) w8 w9 from by
    rw [← hw9]
    exact Keeps.setCell (M := fun k => k = g ∨ k = N) (Keeps.setCell (M := fun k => k = g ∨ k = N) (Keeps.refl _ w8) (p := ⟨N, 3, none⟩) (.inl (.inr rfl)) _) (p := ⟨N, 5, none⟩) (.inl (.inr rfl)) _) HML.out)
   clear e3 e5 f3 f5 hw9 HT8 HR8
   obtain ⟨⟨kd, p5, b5⟩, hK⟩ : ∃ x, numR l p4 b4 = x := ⟨_, rfl⟩
   refine (reader_number 20 g A c l p4 b4 kd p5 b5 _ HT9.out.rdAt (by rw [rdNum_f l hB hlm p4 b4 20 (by omega), hK])).mono ?_
   rintro e wa ⟨rfl, hsa, hka⟩
   have HTa := Aside0.mk (HT9.out.after hsa hka)
   have HRa := Aside0.mk (R_apart HR9.out hka HML1.out)
   have HK := Aside0.mk hK
   clear hsa hka HT9 HR9 hK
   go_wp2_with fail
   obtain ⟨⟨q, p6, b6⟩, hQ⟩ : ∃ x, numR l p5 b5 = x := ⟨_, rfl⟩
   refine (reader_number 20 g A c l p5 b5 q p6 b6 _ HTa.out.rdAt (by rw [rdNum_f l hB hlm p5 b5 20 (by omega), hQ])).mono ?_
   rintro e wb ⟨rfl, hsb, hkb⟩
   have HTb := Aside0.mk (HTa.out.after hsb hkb)
   have HRb := Aside0.mk (R_apart HRa.out hkb HML1.out)
   have HQ := Aside0.mk hQ
   have e6 : wb.cell? ⟨N, 6, none⟩ = some (.int .i64 0) := (blk_cell HTb.out.ob 6).trans rfl
   have f6 := blk_frozen HTb.out.ob 6
   clear hsb hkb HTa HRa hQ
   go_wp2_with fail
   obtain ⟨wc, hwc⟩ : ∃ wc, wb.setCell ⟨N, 6, none⟩ (.int .i64 q) = wc := ⟨_, rfl⟩
   rw [hwc]
   have HTc := Aside0.mk (show RS w wc G g N A c l p6 b6 #[.string d.f0, .int .i64 d.f1, .slice Av V.length cv, .string sc, .int .i64 0, .string si, .int .i64 q, .slice none 0 0] from by
    rw [← hwc]
    have h := HTb.out.setN 6 (.int .i64 q)
    simp only [List.setIfInBounds_toArray, List.set_cons_zero, List.set_cons_succ] at h
    exact h)
   have HRc := Aside0.mk (R_apart HRb.out (show Keeps (fun k => k = g ∨ k = N) wb wc from by
    rw [← hwc]
    exact Keeps.setCell (M := fun k => k = g ∨ k = N) (Keeps.refl _ wb) (p := ⟨N, 6, none⟩) (.inl (.inr rfl)) _) HML.out)
   clear e6 f6 hwc HTb HRb
   obtain ⟨⟨m, p7, b7⟩, hM⟩ : ∃ x, numR l p6 b6 = x := ⟨_, rfl⟩
   refine (reader_number 20 g A c l p6 b6 m p7 b7 _ HTc.out.rdAt (by rw [rdNum_f l hB hlm p6 b6 20 (by omega), hM])).mono ?_
   rintro e wd ⟨rfl, hsd, hkd⟩
   have HTd := Aside0.mk (HTc.out.after hsd hkd)
   have HRd := Aside0.mk (R_apart HRc.out hkd HML1.out)
   have HM := Aside0.mk hM
   have c2 : wd.cell? ⟨g, 2, none⟩ = some (.bool b7) := (blk_cell HTd.out.rd 2).trans rfl
   clear hsd hkd HTc HRc hM
   by_cases hbad : b7 = true ∨ kd > 3 ∨ m > 128
   · have z0 : readO l = (z36, 80) := by
      unfold readO
      rw [HD.out]
      dsimp only
      rw [HV.out]
      dsimp only
      rw [if_neg HBAD.out, HC.out]
      dsimp only
      rw [HI.out]
      dsimp only
      rw [HK.out]
      dsimp only
      rw [HQ.out]
      dsimp only
      rw [HM.out]
      dsimp only
      rw [if_pos hbad]
     have Z0 := Aside0.mk z0
     have HGd := Aside0.mk HTd.out.gb
     have HBd := Aside0.mk HTd.out.bl
     have HGW := Aside0.mk HTd.out.lw
     clear z0
     obtain ⟨e0, e1, e2, e3, e4, e5, e6, e7⟩ := cells8 HGd.out
     have f0 := blk_frozen HGd.out 0
     have f1 := blk_frozen HGd.out 1
     have f2 := blk_frozen HGd.out 2
     have f3 := blk_frozen HGd.out 3
     have f4 := blk_frozen HGd.out 4
     have f5 := blk_frozen HGd.out 5
     have f6 := blk_frozen HGd.out 6
     have f7 := blk_frozen HGd.out 7
     have hcase : b7 = true ∨ (b7 = false ∧ kd > 3) ∨ (b7 = false ∧ ¬ kd > 3 ∧ m > 128) := by
      rcases hbad with h | h | h
      · exact .inl h
      · cases b7 with
        | true => exact .inl rfl
        | false => exact .inr (.inl ⟨rfl, h⟩)
      · cases b7 with
        | true => exact .inl rfl
        | false => by_cases h3 : kd > 3
                   · exact .inr (.inl ⟨rfl, h3⟩)
                   · exact .inr (.inr ⟨rfl, h3, h⟩)
     clear hbad
     rcases hcase with rfl | ⟨rfl, hk3⟩ | ⟨rfl, hk3, hm3⟩
     all_goals
      go_wp2
      have h8 := set8 HGd.out (.string ⟨#[]⟩) (.int .i64 0) (.slice none 0 0) (.string ⟨#[]⟩) (.int .i64 0) (.string ⟨#[]⟩) (.int .i64 0) (.slice none 0 0)
      obtain ⟨k0, k1, k2, k3, k4, k5, k6, k7⟩ := cells8 h8
      have hk := below_keeps HBd.out (M := fun k => k = G) (fun k hk => by subst hk; exact HGW.out) HBd.out.size (keeps8 wd G (.string ⟨#[]⟩) (.int .i64 0) (.slice none 0 0) (.string ⟨#[]⟩) (.int .i64 0) (.string ⟨#[]⟩) (.int .i64 0) (.slice none 0 0))
      try rw [hl]
      rw [Z0.out]
      try rw [hG] at hk
      try rw [hG]
      exact bodyPost_ret (v := .tuple #[.agg #[.string ⟨#[]⟩, .int .i64 0, .slice none 0 0, .string ⟨#[]⟩, .int .i64 0, .string ⟨#[]⟩, .int .i64 0, .slice none 0 0], .int .i64 80]) (by simp [results, Try.f43, go_sem, k0, k1, k2, k3, k4, k5, k6, k7]) rfl ⟨.slice none 0 0, .slice none 0 0, rfl, Kd.R_nil _ _ _ _ _, Kd.R_nil _ _ _ _ _, hk⟩
   · have q1 : b7 = false := by cases b7 with | false => rfl | true => exact absurd (Or.inl rfl) hbad
     subst q1
     have hk3 : ¬ kd > 3 := fun h => hbad (Or.inr (Or.inl h))
     have hm3 : ¬ m > 128 := fun h => hbad (Or.inr (Or.inr h))
     have hm0 : 0 ≤ m := by
      have h := numR_is hB (show (numR l p6 b6).2.2 = false by rw [HM.out])
      rw [HM.out] at h
      exact h.2.2.2.1
     have HBD := Aside0.mk hbad
     clear hbad
     obtain ⟨M, rfl⟩ : ∃ M : Nat, m = M := ⟨m.toNat, by omega⟩
     have e4 : wd.cell? ⟨N, 4, none⟩ = some (.int .i64 0) := (blk_cell HTd.out.ob 4).trans rfl
     have f4 := blk_frozen HTd.out.ob 4
     go_wp2
     obtain ⟨we, hwe⟩ : ∃ we, wd.setCell ⟨N, 4, none⟩ (.int .i64 kd) = we := ⟨_, rfl⟩
     rw [hwe]
     have HTe := Aside0.mk (show RS w we G g N A c l p7 false #[.string d.f0, .int .i64 d.f1, .slice Av V.length cv, .string sc, .int .i64 kd, .string si, .int .i64 q, .slice none 0 0] from by
      rw [← hwe]
      have h := HTd.out.setN 4 (.int .i64 kd)
      simp only [List.setIfInBounds_toArray, List.set_cons_zero, List.set_cons_succ] at h
      exact h)
     have HRe := Aside0.mk (R_apart HRd.out (show Keeps (fun k => k = g ∨ k = N) wd we from by
      rw [← hwe]
      exact Keeps.setCell (M := fun k => k = g ∨ k = N) (Keeps.refl _ wd) (p := ⟨N, 4, none⟩) (.inl (.inr rfl)) _) HML.out)
     clear e4 f4 c2 hwe HTd HRd
     go_loopw [75] (fun v75 wr => ∃ i : Nat, v75 = .int .i64 i ∧ i ≤ M ∧ Aside0 (∃ (p : Int) (b : Bool) (sn : List S34) (A7 : Option Addr) (c7 : Nat),
      RS w wr G g N A c l p b #[.string d.f0, .int .i64 d.f1, .slice Av V.length cv, .string sc, .int .i64 kd, .string si, .int .i64 q, .slice A7 i c7] ∧ sn.length = i ∧ seenR l M p7 false [] = seenR l (M - i) p b sn ∧
      Kd.R k34 34 wr (N + 1) (fun k => some k ≠ (Value.slice A7 i c7).ownBlock) (.slice Av V.length cv) V ∧ Kd.R k34 34 wr (N + 1) (fun k => some k ≠ (Value.slice Av V.length cv).ownBlock) (.slice A7 i c7) sn)) (fun v75 _ => M - (intOf v75).toNat)
     case atStart => exact ⟨0, rfl, by omega, ⟨p7, false, [], none, 0, HTe.out, rfl, rfl, Kd.R_mono HRe.out (fun k _ => by simp [Value.ownBlock]), Kd.R_nil _ _ _ _ _⟩⟩
     case round =>
      clear HTe HRe
      obtain ⟨i, rfl, hile, HI0⟩ := hrel
      obtain ⟨p, b, sn, A7, c7, ht, hsn, hse, hrv, hr7⟩ := HI0.out
      have HT := Aside0.mk ht
      have HSN := Aside0.mk hsn
      have HSE := Aside0.mk hse
      have HRV := Aside0.mk hrv
      have HR7 := Aside0.mk hr7
      clear ht hsn hse hrv hr7 HI0
      by_cases hlt : i < M
      · go_wp2
        refine start_ (n := 8) (ds := [7]) (S := fun w' => w'.cell? ⟨N, 7, none⟩ = some (.slice A7 i c7)) _ (by kernel_rfl) rfl rfl ((blk_cell (blk_drew HT.out.ob) 7).trans rfl) (fun hH => ?_)
        refine XReg.pu 0 77 (h := ?_)
        refine XReg.tk 1 78 (h := ?_)
        refine XReg.pu 2 79 (h := ?_)
        have hbd : Below wr.heap.size wr wr.drew := below_drew1 (Below.refl _ wr)
        have HTd := Aside0.mk (HT.out.below hbd)
        obtain ⟨⟨dd, pp, bb⟩, hdd⟩ : ∃ x, dotR l p b = x := ⟨_, rfl⟩
        refine XReg.one (i := 3) (some 80) rfl rfl (by kernel_rfl) (by decide) (fun Kc hKc => ?_)
        refine goes_ Try.func96 (by kernel_rfl) rfl #[.pointer (some ⟨g, 0, none⟩)] (by rfl) rfl rfl (by (try simp only [List.map_toArray, List.map_cons, List.map_nil]); first | done | rfl) ?_
        refine (reader_dot 20 g A c l p b dd.f0 dd.f1 pp bb _ HTd.out.rdAt (by rw [rdDot_f l hB hlm p b 20 (by omega), hdd])).mono ?_
        rintro e wf ⟨rfl, hsf, hkf⟩
        refine ⟨_, rfl, ?_⟩
        have HTf := Aside0.mk (HTd.out.after hsf hkf)
        have hkf' : Keeps (fun k => k = g) wr wf := (Keeps.of_below hbd).trans hkf
        have HRVf := Aside0.mk (R_apart HRV.out hkf' HML1.out)
        have HR7f := Aside0.mk (R_apart HR7.out hkf' HML1.out)
        refine hKc.out _ _ ((blk_cell HTf.out.ob 7).trans rfl) (fun hH2 => ?_)
        clear hKc Kc hH hsf hkf hkf' hbd HTd HT HRV HR7
        refine XReg.one (i := 4) (some 81) rfl rfl (by kernel_rfl) (by decide) (fun Kc hKc => ?_)
        go_simp
        refine hKc.out _ _ ((blk_cell (blk_alloc HTf.out.ob _) 7).trans rfl) (fun hH3 => ?_)
        clear hKc Kc hH2 hH3
        have hsnl := HSN.out
        have hml : M ≤ 128 := by omega
        refine XReg.one (i := 5) (some 82) rfl rfl (by kernel_rfl) (by decide) (fun Kc hKc => ?_)
        refine Kd.R_append_step k34 (w0 := wf) (N + 1) (by rfl) (.tmp 78) (.tmp 81) 23 34 _ 24 rfl Try.underlying23 info34 rfl (by decide) (by omega) _ sn dd [.string dd.f0, .int .i64 dd.f1] (fun k => some k ≠ (Value.slice Av V.length cv).ownBlock) (fun _ => False) rfl rfl (k34_mkM _ _ _ dd) (fun _ h => h.elim)
         (fun k hk e => by have := Kd.R_lt HRVf.out k e.symm; omega) HR7f.out (Below.refl _ _) (blk_lt HTf.out.ob) (by omega) (fun v1 wg hr1 _ hg1 hat1 => ?_)
        have HTg := Aside0.mk (HTf.out.grown hg1 (fun k hk => ((Kd.R_bound HR7f.out).1 k hk).2.1))
        have HRVg := Aside0.mk (show Kd.R k34 34 wg (N + 1) (fun k => some k ≠ v1.ownBlock) (.slice Av V.length cv) V from
         Kd.R_mono (Kd.R_grown (Kd.R_bound HRVf.out) hg1 (fun k hk => hk.1)) (fun k hk => by
          rcases hat1 with h | ⟨b, h, hlt⟩
          · rw [h]; exact hk.1
          · rw [h]; intro e; cases e; have := hk.2.2.1; omega))
        obtain ⟨A1, d1, rfl⟩ := Kd.R_slice hr1
        have hln : (sn ++ [dd]).length = i + 1 := by simp [hsnl]
        rw [hln] at hr1 HRVg
        have HR7g := Aside0.mk hr1
        refine hKc.out _ _ ((blk_cell HTg.out.ob 7).trans rfl) (fun hH4 => ?_)
        clear hKc Kc hr1 hg1 hat1 HTf HRVf HR7f
        have e7 : wg.cell? ⟨N, 7, none⟩ = some (.slice A7 i c7) := (blk_cell HTg.out.ob 7).trans rfl
        have f7 := blk_frozen HTg.out.ob 7
        refine XReg.pu 6 83 (h := ?_)
        refine XReg.last (i := 7) none rfl rfl (by kernel_rfl) (by decide) (fun Kc hKc => ?_)
        refine skip_ (w1 := ?_) (by rfl) rfl ?_ ?_
        rotate_left
        · go_simp
          rfl
        refine hKc.out _ _ ?_
        clear hKc Kc
        refine done_ (by kernel_rfl) ?_
        clear hH4 e7 f7
        rw [hln]
        obtain ⟨wh, hwh⟩ : ∃ wh, wg.setCell ⟨N, 7, none⟩ (.slice A1 (i + 1) d1) = wh := ⟨_, rfl⟩
        rw [hwh]
        have HTh := Aside0.mk (show RS w wh G g N A c l pp bb #[.string d.f0, .int .i64 d.f1, .slice Av V.length cv, .string sc, .int .i64 kd, .string si, .int .i64 q, .slice A1 (i + 1) d1] from by
         rw [← hwh]
         have h := HTg.out.setN 7 (.slice A1 (i + 1) d1)
         simp only [List.setIfInBounds_toArray, List.set_cons_zero, List.set_cons_succ] at h
         exact h)
        have hkh : Keeps (fun k => k = g ∨ k = N) wg wh := by
         rw [← hwh]
         exact Keeps.setCell (M := fun k => k = g ∨ k = N) (Keeps.refl _ wg) (p := ⟨N, 7, none⟩) (.inl (.inr rfl)) _
        have HRVh := Aside0.mk (R_apart HRVg.out hkh HML.out)
        have HR7h := Aside0.mk (R_apart HR7g.out hkh HML.out)
        have HSEh := Aside0.mk (show seenR l M p7 false [] = seenR l (M - (i + 1)) pp bb (sn ++ [dd]) from by
         rw [HSE.out, show M - i = (M - (i + 1)) + 1 by omega, seenR_s, hdd])
        have HLNh := Aside0.mk hln
        clear hkh hwh HTg HRVg HR7g hln hdd HSE HSN
        go_wp2
        go_round
        case rel => exact ⟨i + 1, by go_num, by omega, ⟨pp, bb, sn ++ [dd], A1, d1, HTh.out, HLNh.out, HSEh.out, HRVh.out, HR7h.out⟩⟩
        case measure => simp [intOf]; omega
      · have hiM : i = M := by omega
        have hzz : seenR l M p7 false [] = (sn, p, b) := by rw [HSE.out, hiM, Nat.sub_self]; rfl
        have zz : readO l = if (b = true ∨ p ≠ (l.length : Int) ∨ rightO ⟨d, V, sc, kd, si, q, sn⟩ = false) then (z36, 80) else (⟨d, V, sc, kd, si, q, sn⟩, 0) := by
         unfold readO
         rw [HD.out]
         dsimp only
         rw [HV.out]
         dsimp only
         rw [if_neg HBAD.out, HC.out]
         dsimp only
         rw [HI.out]
         dsimp only
         rw [HK.out]
         dsimp only
         rw [HQ.out]
         dsimp only
         rw [HM.out]
         dsimp only
         rw [if_neg HBD.out, Int.toNat_natCast, hzz]
        have ZZ := Aside0.mk zz
        have hsn := HSN.out
        clear zz hzz HSE HSN hiM
        subst hsn
        have HGd := Aside0.mk HT.out.gb
        have HBd := Aside0.mk HT.out.bl
        have HGW := Aside0.mk HT.out.lw
        have c1 : wr.cell? ⟨g, 1, none⟩ = some (.int .i64 p) := (blk_cell HT.out.rd 1).trans rfl
        have c2 : wr.cell? ⟨g, 2, none⟩ = some (.bool b) := (blk_cell HT.out.rd 2).trans rfl
        by_cases hbp : b = true ∨ (b = false ∧ p ≠ (l.length : Int))
        · have Z0 := Aside0.mk (show readO l = (z36, 80) from by
           rw [ZZ.out, if_pos (by rcases hbp with h | h; exact .inl h; exact .inr (.inl h.2))])
          obtain ⟨e0, e1, e2, e3, e4, e5, e6, e7⟩ := cells8 HGd.out
          have f0 := blk_frozen HGd.out 0
          have f1 := blk_frozen HGd.out 1
          have f2 := blk_frozen HGd.out 2
          have f3 := blk_frozen HGd.out 3
          have f4 := blk_frozen HGd.out 4
          have f5 := blk_frozen HGd.out 5
          have f6 := blk_frozen HGd.out 6
          have f7 := blk_frozen HGd.out 7
          have hcase : b = true ∨ (b = false ∧ (p != (s.size : Int)) = true ∧ (p != (l.length : Int)) = true) := by
           rcases hbp with h | ⟨h, h'⟩
           · exact .inl h
           · exact .inr ⟨h, by rw [hsl]; simpa using h', by simpa using h'⟩
          clear hbp
          rcases hcase with rfl | ⟨rfl, hps, hps'⟩
          all_goals
           go_wp2
           have h8 := set8 HGd.out (.string ⟨#[]⟩) (.int .i64 0) (.slice none 0 0) (.string ⟨#[]⟩) (.int .i64 0) (.string ⟨#[]⟩) (.int .i64 0) (.slice none 0 0)
           obtain ⟨k0, k1, k2, k3, k4, k5, k6, k7⟩ := cells8 h8
           have hk := below_keeps HBd.out (M := fun k => k = G) (fun k hk => by subst hk; exact HGW.out) HBd.out.size (keeps8 _ G (.string ⟨#[]⟩) (.int .i64 0) (.slice none 0 0) (.string ⟨#[]⟩) (.int .i64 0) (.string ⟨#[]⟩) (.int .i64 0) (.slice none 0 0))
           try rw [hl]
           rw [Z0.out]
           try rw [hG] at hk
           try rw [hG]
           exact bodyPost_ret (v := .tuple #[.agg #[.string ⟨#[]⟩, .int .i64 0, .slice none 0 0, .string ⟨#[]⟩, .int .i64 0, .string ⟨#[]⟩, .int .i64 0, .slice none 0 0], .int .i64 80]) (by simp [results, Try.f43, go_sem, k0, k1, k2, k3, k4, k5, k6, k7]) rfl ⟨.slice none 0 0, .slice none 0 0, rfl, Kd.R_nil _ _ _ _ _, Kd.R_nil _ _ _ _ _, hk⟩
        · have hb0 : b = false := by cases b with | false => rfl | true => exact absurd (Or.inl rfl) hbp
          subst hb0
          have hpl : p = (l.length : Int) := Classical.byContradiction (fun h => hbp (Or.inr ⟨rfl, h⟩))
          have hps : (p != (s.size : Int)) = false := by rw [hsl, hpl]; simp
          clear hbp
          obtain ⟨n0, n1, n2, n3, n4, n5, n6, n7⟩ := cells8 HT.out.ob
          obtain ⟨br, hbr⟩ : ∃ br, rightO ⟨d, V, sc, kd, si, q, sn⟩ = br := ⟨_, rfl⟩
          have HBR := Aside0.mk hbr
          clear hbr
          go_wp2_with fail
          refine (order_Right.calls (sn.length + V.length + 5) d.f0 d.f1 Av cv V sc kd si q A7 c7 sn br _ (Kd.R_reads' HRV.out).2.2 (Kd.R_reads' HRV.out).2.1 (Kd.R_reads' HR7.out).2.2 (Kd.R_reads' HR7.out).2.1 (by
           rw [← HBR.out]
           exact orderRight_f ⟨d, V, sc, kd, si, q, sn⟩ (Kd.R_reads' HRV.out).2.2.2.1 (Kd.R_reads' HR7.out).2.2.2.1 _ (by show sn.length + V.length + 4 < _; omega))).mono ?_
          rintro e wz ⟨rfl, hbz⟩
          have HTz := Aside0.mk (HT.out.below hbz)
          have HRVz := Aside0.mk (Kd.R_below HRV.out hbz)
          have HR7z := Aside0.mk (Kd.R_below HR7.out hbz)
          clear hbz n0 n1 n2 n3 n4 n5 n6 n7 c1 c2 HGd HBd HT HRV HR7
          obtain ⟨n0, n1, n2, n3, n4, n5, n6, n7⟩ := cells8 HTz.out.ob
          have HGd := Aside0.mk HTz.out.gb
          have HBd := Aside0.mk HTz.out.bl
          obtain ⟨e0, e1, e2, e3, e4, e5, e6, e7⟩ := cells8 HGd.out
          have f0 := blk_frozen HGd.out 0
          have f1 := blk_frozen HGd.out 1
          have f2 := blk_frozen HGd.out 2
          have f3 := blk_frozen HGd.out 3
          have f4 := blk_frozen HGd.out 4
          have f5 := blk_frozen HGd.out 5
          have f6 := blk_frozen HGd.out 6
          have f7 := blk_frozen HGd.out 7
          cases br with
          | false =>
            have Z0 := Aside0.mk (show readO l = (z36, 80) from by rw [ZZ.out, if_pos (.inr (.inr HBR.out))])
            go_wp2
            have h8 := set8 HGd.out (.string ⟨#[]⟩) (.int .i64 0) (.slice none 0 0) (.string ⟨#[]⟩) (.int .i64 0) (.string ⟨#[]⟩) (.int .i64 0) (.slice none 0 0)
            obtain ⟨k0, k1, k2, k3, k4, k5, k6, k7⟩ := cells8 h8
            have hk := below_keeps HBd.out (M := fun k => k = G) (fun k hk => by subst hk; exact HGW.out) HBd.out.size (keeps8 _ G (.string ⟨#[]⟩) (.int .i64 0) (.slice none 0 0) (.string ⟨#[]⟩) (.int .i64 0) (.string ⟨#[]⟩) (.int .i64 0) (.slice none 0 0))
            try rw [hl]
            rw [Z0.out]
            try rw [hG] at hk
            try rw [hG]
            exact bodyPost_ret (v := .tuple #[.agg #[.string ⟨#[]⟩, .int .i64 0, .slice none 0 0, .string ⟨#[]⟩, .int .i64 0, .string ⟨#[]⟩, .int .i64 0, .slice none 0 0], .int .i64 80]) (by simp [results, Try.f43, go_sem, k0, k1, k2, k3, k4, k5, k6, k7]) rfl ⟨.slice none 0 0, .slice none 0 0, rfl, Kd.R_nil _ _ _ _ _, Kd.R_nil _ _ _ _ _, hk⟩
          | true =>
            have Z0 := Aside0.mk (show readO l = (⟨d, V, sc, kd, si, q, sn⟩, 0) from by
             rw [ZZ.out, if_neg (by
              intro h
              rcases h with h | h | h
              · cases h
              · exact h hpl
              · rw [HBR.out] at h; cases h)])
            go_wp2
            have h8 := set8 HGd.out (.string d.f0) (.int .i64 d.f1) (.slice Av V.length cv) (.string sc) (.int .i64 kd) (.string si) (.int .i64 q) (.slice A7 sn.length c7)
            obtain ⟨k0, k1, k2, k3, k4, k5, k6, k7⟩ := cells8 h8
            have hkG := keeps8 wz G (.string d.f0) (.int .i64 d.f1) (.slice Av V.length cv) (.string sc) (.int .i64 kd) (.string si) (.int .i64 q) (.slice A7 sn.length c7)
            have hk := below_keeps HBd.out (M := fun k => k = G) (fun k hk => by subst hk; exact HGW.out) HBd.out.size hkG
            have hlo : ∀ k, k = G → k < N + 1 := fun k hk => by have := HGG.out; have := HNg.out; omega
            have hGN : w.heap.size ≤ N + 1 := by have := HGG.out; have := HNg.out; have := HGW.out; omega
            have rv := Kd.R_lower (Kd.R_mono (R_apart HRVz.out hkG hlo) (ok' := fun _ => True) (fun _ _ => trivial)) hGN
            have r7 := Kd.R_lower (Kd.R_mono (R_apart HR7z.out hkG hlo) (ok' := fun _ => True) (fun _ _ => trivial)) hGN
            try rw [hl]
            rw [Z0.out]
            try rw [hG] at hk rv r7
            try rw [hG]
            exact bodyPost_ret (v := .tuple #[.agg #[.string d.f0, .int .i64 d.f1, .slice Av V.length cv, .string sc, .int .i64 kd, .string si, .int .i64 q, .slice A7 sn.length c7], .int .i64 0]) (by simp [results, Try.f43, go_sem, k0, k1, k2, k3, k4, k5, k6, k7]) rfl ⟨.slice Av V.length cv, .slice A7 sn.length c7, rfl, rv, r7, hk⟩
end Go.Proofs.Ytenbkljgmgdegaa.PO
end
section
namespace Go.Proofs.Ytenbkljgmgdegaa.PO
open Go.RowKit Go.Proofs.YtenbkljgmgdegaaW.PrintWords Go.Proofs.YtenbkljgmgdegaaW.PrintLast Go.Proofs.YtenbkljgmgdegaaW.PrintMore Go.Proofs.Ytenbkljgmgdegaa.XW
set_option linter.unusedVariables false
set_option linter.unusedSimpArgs false
def numT (b : List Int) (most : Int) (p : Int) (bad : Bool) : Int × Int × Bool :=
 if bad = true then (0, p, true) else if (takeS b p).2.2 = 0 then (if (takeS b p).1 > most then (0, p, true) else ((takeS b p).1, (takeS b p).2.1, false)) else (0, p, true)
theorem numT_at {b : List Int} {p n q most : Int} (h : takeS b p = (n, q, 0)) (hn : n ≤ most) : numT b most p false = (n, q, false) := by
 unfold numT; rw [h]; simp; omega
theorem numT_is {b : List Int} {most : Int} (hB : isB b) {p : Int} {bad : Bool} (h : (numT b most p bad).2.2 = false) : bad = false ∧ 0 ≤ p ∧ p.toNat ≤ b.length ∧ 0 ≤ (numT b most p bad).1 ∧ (numT b most p bad).1 ≤ most ∧ 0 ≤ (numT b most p bad).2.1 ∧ (numT b most p bad).2.1 ≤ (b.length : Int) ∧ b.take (numT b most p bad).2.1.toNat = b.take p.toNat ++ encN (numT b most p bad).1 := by
 unfold numT at h ⊢
 cases bad with
 | true => simp at h
 | false =>
   rw [if_neg (by decide)] at h ⊢
   by_cases h0 : (takeS b p).2.2 = 0
   case neg => rw [if_neg h0] at h; cases h
   rw [if_pos h0] at h ⊢
   by_cases h1 : (takeS b p).1 > most
   · rw [if_pos h1] at h; cases h
   rw [if_neg h1] at ⊢
   have hk := takeS_ok hB h0
   obtain ⟨a1, a2, a3⟩ := take_is hB h0
   exact ⟨rfl, a1, a2, hk.2.2.1, by show (takeS b p).1 ≤ _; omega, hk.1, hk.2.1, a3⟩
def texD (b : List Int) (p : Int) (bad : Bool) : ByteArray × Int × Bool :=
 if bad = true then (⟨#[]⟩, p, true) else if (textT b p).2.2 = 0 then ((textT b p).1, (textT b p).2.1, false) else (⟨#[]⟩, p, true)
theorem texD_at {b : List Int} {p q : Int} {s : ByteArray} (h : textT b p = (s, q, 0)) : texD b p false = (s, q, false) := by
 unfold texD; rw [h]; simp
theorem texD_is {b : List Int} (hB : isB b) {p : Int} {bad : Bool} (h : (texD b p bad).2.2 = false) : bad = false ∧ 0 ≤ p ∧ p.toNat ≤ b.length ∧ (texD b p bad).1.size ≤ 24 ∧ 0 ≤ (texD b p bad).2.1 ∧ b.take (texD b p bad).2.1.toNat = b.take p.toNat ++ textB (texD b p bad).1 := by
 unfold texD at h ⊢
 cases bad with
 | true => simp at h
 | false =>
   rw [if_neg (by decide)] at h ⊢
   by_cases h0 : (textT b p).2.2 = 0
   case neg => rw [if_neg h0] at h; cases h
   rw [if_pos h0]
   obtain ⟨a1, a2, a3, a4, a5⟩ := text_is hB h0
   exact ⟨rfl, a1, a2, a3, a4, a5⟩
def dotT (b : List Int) (p : Int) (bad : Bool) : S34 × Int × Bool :=
 (⟨(texD b p bad).1, (numT b 4611686018427387904 (texD b p bad).2.1 (texD b p bad).2.2).1⟩, (numT b 4611686018427387904 (texD b p bad).2.1 (texD b p bad).2.2).2.1, (numT b 4611686018427387904 (texD b p bad).2.1 (texD b p bad).2.2).2.2)
theorem dotT_enc (a r : List Int) (ha : isB a) (hr : isB r) (d : S34) (h0 : d.f0.size ≤ 24) (h1 : 0 ≤ d.f1) (h2 : d.f1 ≤ 4611686018427387904) :
 dotT (a ++ (textB d.f0 ++ encN d.f1) ++ r) (a.length : Int) false = (d, ((a ++ (textB d.f0 ++ encN d.f1)).length : Int), false) := by
 have hB : isB (encN d.f1) := enc_B h1 (by omega)
 have ht := take_text a (encN d.f1 ++ r) ha (app_B hB hr) d.f0 h0
 have e1 : a ++ textB d.f0 ++ (encN d.f1 ++ r) = a ++ (textB d.f0 ++ encN d.f1) ++ r := by simp
 rw [e1] at ht
 have hn := take_enc (a ++ textB d.f0) r (app_B ha (textB_B _ (by omega))) hr d.f1 h1 (by omega)
 have e2 : a ++ textB d.f0 ++ encN d.f1 ++ r = a ++ (textB d.f0 ++ encN d.f1) ++ r := by simp
 rw [e2] at hn
 unfold dotT
 rw [texD_at ht]
 show (_, _, _) = _
 rw [numT_at hn h2]
 show (_, _, _) = _
 simp only [Prod.mk.injEq]
 exact ⟨by first | trivial | (cases d; rfl), by simp; omega, trivial⟩
theorem dotT_is {b : List Int} (hB : isB b) {p : Int} {bad : Bool} (h : (dotT b p bad).2.2 = false) : bad = false ∧ 0 ≤ p ∧ 0 ≤ (dotT b p bad).2.1 ∧ (dotT b p bad).2.1 ≤ (b.length : Int) ∧ b.take (dotT b p bad).2.1.toNat = b.take p.toNat ++ (textB (dotT b p bad).1.f0 ++ encN (dotT b p bad).1.f1) := by
 obtain ⟨n1, n2, n3, n4, n5, n6, n7, n8⟩ := numT_is hB (show (numT b 4611686018427387904 (texD b p bad).2.1 (texD b p bad).2.2).2.2 = false from h)
 obtain ⟨t1, t2, t3, t4, t5, t6⟩ := texD_is hB n1
 refine ⟨t1, t2, n6, n7, ?_⟩
 show b.take (numT b 4611686018427387904 (texD b p bad).2.1 (texD b p bad).2.2).2.1.toNat = _
 rw [n8, t6]
 show _ = b.take p.toNat ++ (textB (texD b p bad).1 ++ encN (numT b 4611686018427387904 (texD b p bad).2.1 (texD b p bad).2.2).1)
 simp
def seenT (b : List Int) : Nat → Int → Bool → List S34 → List S34 × Int × Bool
 | 0, p, bad, v => (v, p, bad)
 | c + 1, p, bad, v => if bad = true then (v, p, true) else seenT b c (dotT b p bad).2.1 (dotT b p bad).2.2 (v ++ [(dotT b p bad).1])
theorem seenT_s (b : List Int) (c : Nat) (p : Int) (v : List S34) : seenT b (c + 1) p false v = seenT b c (dotT b p false).2.1 (dotT b p false).2.2 (v ++ [(dotT b p false).1]) := rfl
theorem seenT_bad (b : List Int) (c : Nat) (p : Int) (v : List S34) : seenT b c p true v = (v, p, true) := by cases c <;> rfl
theorem seenT_enc (r : List Int) (hr : isB r) : ∀ (l : List S34) (a : List Int) (v : List S34), isB a → fine l → seenT (a ++ layL [] l ++ r) l.length (a.length : Int) false v = (v ++ l, ((a ++ layL [] l).length : Int), false)
 | [], a, v, ha, _ => by simp [seenT, layL]
 | x :: l, a, v, ha, hf => by
   have h1 := hf x List.mem_cons_self
   have hf' : fine l := fun y hy => hf y (List.mem_cons_of_mem _ hy)
   have hd := dotT_enc a (layL [] l ++ r) ha (app_B (lay_B l hf') hr) x h1.1 (by omega) h1.2.2
   have e1 : a ++ (textB x.f0 ++ encN x.f1) ++ (layL [] l ++ r) = a ++ layL [] (x :: l) ++ r := by rw [seen_cons]; simp
   rw [e1] at hd
   have ih := seenT_enc r hr l (a ++ (textB x.f0 ++ encN x.f1)) (v ++ [x]) (app_B ha (app_B (textB_B _ (by omega)) (enc_B (by omega) (by omega)))) hf'
   have e2 : a ++ (textB x.f0 ++ encN x.f1) ++ layL [] l ++ r = a ++ layL [] (x :: l) ++ r := by rw [seen_cons]; simp
   have e3 : a ++ (textB x.f0 ++ encN x.f1) ++ layL [] l = a ++ layL [] (x :: l) := by rw [seen_cons]; simp
   rw [e2, e3] at ih
   rw [List.length_cons, seenT_s, hd, ih]
   simp
theorem seenT_is {b : List Int} (hB : isB b) : ∀ (c : Nat) (p : Int) (bad : Bool) (v : List S34), (bad = false → 0 ≤ p ∧ p ≤ (b.length : Int)) → (seenT b c p bad v).2.2 = false →
 bad = false ∧ ∃ l, (seenT b c p bad v).1 = v ++ l ∧ l.length = c ∧ 0 ≤ (seenT b c p bad v).2.1 ∧ (seenT b c p bad v).2.1 ≤ (b.length : Int) ∧ b.take (seenT b c p bad v).2.1.toNat = b.take p.toNat ++ layL [] l
 | 0, p, bad, v, hp, h => by
   have h' : bad = false := h
   exact ⟨h', [], by simp [seenT], rfl, (hp h').1, (hp h').2, by simp [seenT, layL]⟩
 | c + 1, p, true, v, hp, h => by rw [seenT_bad] at h; cases h
 | c + 1, p, false, v, hp, h => by
   rw [seenT_s] at h ⊢
   cases hd : (dotT b p false).2.2 with
   | true => rw [hd, seenT_bad] at h; cases h
   | false =>
     obtain ⟨d1, d2, d3, d4, d5⟩ := dotT_is hB hd
     rw [hd] at h
     obtain ⟨_, l, e1, e2, e3, e4, e5⟩ := seenT_is hB c _ false _ (fun _ => ⟨d3, d4⟩) h
     refine ⟨rfl, (dotT b p false).1 :: l, by rw [e1]; simp, by simp [e2], e3, e4, ?_⟩
     rw [e5, d5, seen_cons]
     simp
def refO (b : List Int) : S36 × Int :=
 if (dotT b 0 false).2.2 = true ∨ (vecS b (dotT b 0 false).2.1).2.2 ≠ 0 then (z36, 80) else
 let c := texR b (vecS b (dotT b 0 false).2.1).2.1 false
 let i := texR b c.2.1 c.2.2
 let kd := numT b 3 i.2.1 i.2.2
 let q := numT b 9999 kd.2.1 kd.2.2
 let m := numT b 128 q.2.1 q.2.2
 let s := seenT b m.1.toNat m.2.1 m.2.2 []
 if s.2.2 = true ∨ rightO ⟨(dotT b 0 false).1, (vecS b (dotT b 0 false).2.1).1, c.1, kd.1, i.1, q.1, s.1⟩ = false ∨ s.2.1 ≠ (b.length : Int) then (z36, 80) else
 (⟨(dotT b 0 false).1, (vecS b (dotT b 0 false).2.1).1, c.1, kd.1, i.1, q.1, s.1⟩, 0)
theorem refO_wf (b : List Int) : (refO b).2 = 0 ∨ refO b = (z36, 80) := by
 unfold refO
 split
 · exact .inr rfl
 · dsimp only
   split
   · exact .inr rfl
   · exact .inl rfl
theorem refO_is {b : List Int} (hB : isB b) (h : (refO b).2 = 0) : rightO (refO b).1 = true ∧ layO (refO b).1 = b := by
 unfold refO at h ⊢
 by_cases h0 : (dotT b 0 false).2.2 = true ∨ (vecS b (dotT b 0 false).2.1).2.2 ≠ 0
 · rw [if_pos h0] at h; cases h
 rw [if_neg h0] at h ⊢
 dsimp only at h ⊢
 obtain ⟨c, hc⟩ : ∃ c, texR b (vecS b (dotT b 0 false).2.1).2.1 false = c := ⟨_, rfl⟩
 rw [hc] at h ⊢
 obtain ⟨i, hi⟩ : ∃ i, texR b c.2.1 c.2.2 = i := ⟨_, rfl⟩
 rw [hi] at h ⊢
 obtain ⟨kd, hkd⟩ : ∃ kd, numT b 3 i.2.1 i.2.2 = kd := ⟨_, rfl⟩
 rw [hkd] at h ⊢
 obtain ⟨q, hq⟩ : ∃ q, numT b 9999 kd.2.1 kd.2.2 = q := ⟨_, rfl⟩
 rw [hq] at h ⊢
 obtain ⟨m, hm⟩ : ∃ m, numT b 128 q.2.1 q.2.2 = m := ⟨_, rfl⟩
 rw [hm] at h ⊢
 obtain ⟨s, hs⟩ : ∃ s, seenT b m.1.toNat m.2.1 m.2.2 [] = s := ⟨_, rfl⟩
 rw [hs] at h ⊢
 by_cases h2 : s.2.2 = true ∨ rightO ⟨(dotT b 0 false).1, (vecS b (dotT b 0 false).2.1).1, c.1, kd.1, i.1, q.1, s.1⟩ = false ∨ s.2.1 ≠ (b.length : Int)
 · rw [if_pos h2] at h; cases h
 rw [if_neg h2]
 have hr : rightO ⟨(dotT b 0 false).1, (vecS b (dotT b 0 false).2.1).1, c.1, kd.1, i.1, q.1, s.1⟩ = true := by
  cases hh : rightO ⟨(dotT b 0 false).1, (vecS b (dotT b 0 false).2.1).1, c.1, kd.1, i.1, q.1, s.1⟩ with
  | true => rfl
  | false => exact absurd (Or.inr (Or.inl hh)) h2
 refine ⟨hr, ?_⟩
 have hs2 : s.2.2 = false := by cases hh : s.2.2 with | false => rfl | true => exact absurd (Or.inl hh) h2
 have hse : s.2.1 = (b.length : Int) := Classical.byContradiction (fun hh => h2 (Or.inr (Or.inr hh)))
 have hm2 : m.2.2 = false := by
  cases hh : m.2.2 with
  | false => rfl
  | true => rw [hh, seenT_bad] at hs; rw [← hs] at hs2; cases hs2
 have hv0 : (vecS b (dotT b 0 false).2.1).2.2 = 0 := Classical.byContradiction (fun hh => h0 (Or.inr hh))
 have hd0 : (dotT b 0 false).2.2 = false := by cases hh : (dotT b 0 false).2.2 with | false => rfl | true => exact absurd (Or.inl hh) h0
 obtain ⟨m1, m2, m3, m4, m5, m6, m7, m8⟩ := numT_is hB (show (numT b 128 q.2.1 q.2.2).2.2 = false by rw [hm]; exact hm2)
 obtain ⟨q1, q2, q3, q4, q5, q6, q7, q8⟩ := numT_is hB (show (numT b 9999 kd.2.1 kd.2.2).2.2 = false by rw [hq]; exact m1)
 obtain ⟨k1, k2, k3, k4, k5, k6, k7, k8⟩ := numT_is hB (show (numT b 3 i.2.1 i.2.2).2.2 = false by rw [hkd]; exact q1)
 obtain ⟨i1, i2, i3, i4, i5, i6⟩ := texR_is hB (show (texR b c.2.1 c.2.2).2.2 = false by rw [hi]; exact k1)
 obtain ⟨c1, c2, c3, c4, c5, c6⟩ := texR_is hB (show (texR b (vecS b (dotT b 0 false).2.1).2.1 false).2.2 = false by rw [hc]; exact i1)
 obtain ⟨v1, v2, v3⟩ := vec_is_at hB hv0
 obtain ⟨d1, d2, d3, d4, d5⟩ := dotT_is hB hd0
 rw [hm] at m4 m6 m7 m8
 rw [hq] at q8
 rw [hkd] at k8
 rw [hi] at i6
 rw [hc] at c6
 obtain ⟨s1, l, e1, e2, e3, e4, e5⟩ := seenT_is hB m.1.toNat m.2.1 m.2.2 [] (fun _ => ⟨m6, m7⟩) (by rw [hs]; exact hs2)
 rw [hs] at e1 e3 e4 e5
 have hl : (s.1.length : Int) = m.1 := by rw [e1]; simp [e2]; omega
 have e6 : b.take s.2.1.toNat = b := by rw [hse, Int.toNat_natCast]; exact List.take_length
 unfold layO
 show textB (dotT b 0 false).1.f0 ++ encN (dotT b 0 false).1.f1 ++ (layS [] (vecS b (dotT b 0 false).2.1).1).1 ++ textB c.1 ++ textB i.1 ++ encN kd.1 ++ encN q.1 ++ encN (s.1.length : Int) ++ layL [] s.1 = b
 have e7 : s.1 = l := by rw [e1]; simp
 rw [hl, e7]
 rw [e6, m8, q8, k8, i6, c6, v3, d5, show b.take (0 : Int).toNat = [] from rfl, List.nil_append] at e5
 simp only [List.append_assoc] at e5 ⊢
 exact e5.symm
theorem seenS_fine24 (deps : List S34) : ∀ (l : List S34) (p : Option S34), seenS deps p l = true → fine l
 | [], p, _ => fun x hx => by cases hx
 | y :: l, p, h => fun x hx => by
   have h' : hasS deps y.f0 y.f1 = true ∧ seenS deps (some y) l = true := by
    unfold seenS at h
    simp only [Bool.and_eq_true] at h
    exact ⟨h.1.1, h.2⟩
   rcases List.mem_cons.1 hx with rfl | hx
   · have h1 := h'.1
     unfold hasS at h1
     simp only [Bool.and_eq_true] at h1
     have h3 : x.f0.size ≤ 24 ∧ 1 ≤ x.f1 ∧ x.f1 ≤ 4611686018427387904 := dotOk_32 h1.1.2
     exact h3
   · exact seenS_fine24 deps l (some y) h'.2 x hx
theorem rightO_seen {o : S36} (h : rightO o = true) : fine o.f6 := by
 unfold rightO at h
 simp only [Bool.and_eq_true, decide_eq_true_eq] at h
 exact seenS_fine24 _ _ _ h.1.2
theorem refO_enc {x : S36} (h : rightO x = true) : refO (layO x) = (x, 0) := by
 obtain ⟨h1, h2, h3, h4, h5, h6, h7, h8, h9⟩ := rightO_all h
 have hd := dotOk_32 h1
 obtain ⟨D, hD⟩ : ∃ D, textB x.f0.f0 ++ encN x.f0.f1 = D := ⟨_, rfl⟩
 obtain ⟨V, hV⟩ : ∃ V, (layS [] x.f1).1 = V := ⟨_, rfl⟩
 obtain ⟨C, hC⟩ : ∃ C, textB x.f2 = C := ⟨_, rfl⟩
 obtain ⟨I, hI⟩ : ∃ I, textB x.f4 = I := ⟨_, rfl⟩
 obtain ⟨K, hK⟩ : ∃ K, encN x.f3 = K := ⟨_, rfl⟩
 obtain ⟨Q, hQ⟩ : ∃ Q, encN x.f5 = Q := ⟨_, rfl⟩
 obtain ⟨M, hM⟩ : ∃ M, encN (x.f6.length : Int) = M := ⟨_, rfl⟩
 obtain ⟨L, hL⟩ : ∃ L, layL [] x.f6 = L := ⟨_, rfl⟩
 have bD : isB D := by rw [← hD]; exact app_B (textB_B _ (by omega)) (enc_B (by omega) (by omega))
 have bV : isB V := by rw [← hV]; exact layV_B h2
 have bC : isB C := by rw [← hC]; exact textB_B _ (by omega)
 have bI : isB I := by rw [← hI]; exact textB_B _ (by omega)
 have bK : isB K := by rw [← hK]; exact enc_B (by omega) (by omega)
 have bQ : isB Q := by rw [← hQ]; exact enc_B (by omega) (by omega)
 have bM : isB M := by rw [← hM]; exact enc_B (by omega) (by omega)
 have bL : isB L := by rw [← hL]; exact seenL_B _ h6
 have bN : isB ([] : List Int) := fun x hx => by cases hx
 obtain ⟨b, hb⟩ : ∃ b, layO x = b := ⟨_, rfl⟩
 have hbe : b = D ++ V ++ C ++ I ++ K ++ Q ++ M ++ L := by rw [← hb]; unfold layO; rw [hD, hV, hC, hI, hK, hQ, hM, hL]
 have e1 := dotT_enc [] (V ++ C ++ I ++ K ++ Q ++ M ++ L) bN (app_B (app_B (app_B (app_B (app_B (app_B bV bC) bI) bK) bQ) bM) bL) x.f0 (by omega) (by omega) (by omega)
 have e2 := vec_enc_at D (C ++ I ++ K ++ Q ++ M ++ L) bD (app_B (app_B (app_B (app_B (app_B bC bI) bK) bQ) bM) bL) x.f1 h2
 have e3 := take_text32 (D ++ V) (I ++ K ++ Q ++ M ++ L) (app_B bD bV) (app_B (app_B (app_B (app_B bI bK) bQ) bM) bL) x.f2 h3
 have e4 := take_text32 (D ++ V ++ C) (K ++ Q ++ M ++ L) (app_B (app_B bD bV) bC) (app_B (app_B (app_B bK bQ) bM) bL) x.f4 h4
 have e5 := take_enc (D ++ V ++ C ++ I) (Q ++ M ++ L) (app_B (app_B (app_B bD bV) bC) bI) (app_B (app_B bQ bM) bL) x.f3 (by omega) (by omega)
 have e6 := take_enc (D ++ V ++ C ++ I ++ K) (M ++ L) (app_B (app_B (app_B (app_B bD bV) bC) bI) bK) (app_B bM bL) x.f5 (by omega) (by omega)
 have e7 := take_enc (D ++ V ++ C ++ I ++ K ++ Q) L (app_B (app_B (app_B (app_B (app_B bD bV) bC) bI) bK) bQ) bL (x.f6.length : Int) (by omega) (by omega)
 have e8 := seenT_enc [] bN x.f6 (D ++ V ++ C ++ I ++ K ++ Q ++ M) [] (app_B (app_B (app_B (app_B (app_B (app_B bD bV) bC) bI) bK) bQ) bM) (rightO_seen h)
 rw [hD] at e1
 rw [hV] at e2
 rw [hC] at e3
 rw [hI] at e4
 rw [hK] at e5
 rw [hQ] at e6
 rw [hM] at e7
 rw [hL] at e8
 rw [show [] ++ D ++ (V ++ C ++ I ++ K ++ Q ++ M ++ L) = b by rw [hbe]; simp] at e1
 rw [show D ++ V ++ (C ++ I ++ K ++ Q ++ M ++ L) = b by rw [hbe]; simp] at e2
 rw [show D ++ V ++ C ++ (I ++ K ++ Q ++ M ++ L) = b by rw [hbe]; simp] at e3
 rw [show D ++ V ++ C ++ I ++ (K ++ Q ++ M ++ L) = b by rw [hbe]; simp] at e4
 rw [show D ++ V ++ C ++ I ++ K ++ (Q ++ M ++ L) = b by rw [hbe]; simp] at e5
 rw [show D ++ V ++ C ++ I ++ K ++ Q ++ (M ++ L) = b by rw [hbe]; simp] at e6
 rw [show D ++ V ++ C ++ I ++ K ++ Q ++ M ++ L = b by rw [hbe]] at e7
 rw [show D ++ V ++ C ++ I ++ K ++ Q ++ M ++ L ++ [] = b by rw [hbe]; simp, show D ++ V ++ C ++ I ++ K ++ Q ++ M ++ L = b by rw [hbe]] at e8
 have e5' := numT_at (most := 3) e5 (by omega)
 have e6' := numT_at (most := 9999) e6 (by omega)
 have e7' := numT_at (most := 128) e7 (by omega)
 have e3' := texR_at e3
 have e4' := texR_at e4
 rw [← Int.natCast_add, ← List.length_append] at e5' e6' e7'
 rw [show ((([] : List Int).length : Nat) : Int) = 0 from rfl, List.nil_append] at e1
 unfold refO
 rw [hb, e1]
 dsimp only
 rw [e2]
 dsimp only
 rw [if_neg (by simp), e3']
 dsimp only
 rw [e4']
 dsimp only
 rw [e5']
 dsimp only
 rw [e6']
 dsimp only
 rw [e7']
 dsimp only
 rw [Int.toNat_natCast, e8]
 dsimp only
 rw [List.nil_append, if_neg (by
  have : rightO ⟨x.f0, x.f1, x.f2, x.f3, x.f4, x.f5, x.f6⟩ = true := h
  rw [this]
  simp)]
theorem refO_eq {b : List Int} (hB : isB b) : refO b = readO b := by
 by_cases h : (readO b).2 = 0
 · obtain ⟨h1, h2⟩ := readO_is hB h
   have h3 := refO_enc h1
   have h4 := readO_enc h1
   rw [h2] at h3 h4
   rw [h3, h4]
 · rcases refO_wf b with h0 | h0
   · obtain ⟨h1, h2⟩ := refO_is hB h0
     have h4 := readO_enc h1
     rw [h2] at h4
     rw [h4] at h
     exact absurd rfl h
   · rw [h0]
     unfold readO at h ⊢
     split
     · rfl
     · rename_i q1
       rw [if_neg q1] at h
       dsimp only at h ⊢
       split
       · rfl
       · rename_i q2
         rw [if_neg q2] at h
         split
         · rfl
         · rename_i q3
           rw [if_neg q3] at h
           exact absurd rfl h
end Go.Proofs.Ytenbkljgmgdegaa.PO
end
