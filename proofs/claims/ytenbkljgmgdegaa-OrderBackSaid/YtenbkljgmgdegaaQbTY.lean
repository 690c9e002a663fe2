/- What the rows of this claim use, out of the texts of this work (TY). No condition beyond those that each statement names. -/
import Derived.Carry
import Derived.Test.YtenbkljgmgdegaaQbTW
namespace Go.Proofs.Ytenbkljgmgdegaa.PO
open Go.RowKit Go.Proofs.YtenbkljgmgdegaaW.PrintWords Go.Proofs.YtenbkljgmgdegaaW.PrintLast Go.Proofs.YtenbkljgmgdegaaW.PrintMore
open Go.Proofs.Ytenbkljgmgdegaa.XRange Go.Proofs.Ytenbkljgmgdegaa.XMap Go.Proofs.Ytenbkljgmgdegaa.XSeq
set_option linter.unusedVariables false
set_option linter.unusedSimpArgs false
section
variable {G G' : Nat → Prop} {w w1 : World} {base g : Nat} {vl vk vw : Value} {m : Nat} {L : List S36} {K : List S34} {Q : List S36} {D : List (S34 × (S36 × List Value))}
theorem PoolAt.move (h : PoolAt G w base g vl vk vw m L K Q D) (hm : ∀ k, (k = g ∨ k = m ∨ G k) → k < w.heap.size → w1.heap[k]? = w.heap[k]?) : PoolAt G w1 base g vl vk vw m L K Q D :=
  ⟨(hm g (.inl rfl) (blk_lt h.blk)).trans h.blk, h.hb, Kd.R_step h.rl (fun k hk hlt => hm k (.inr (.inr hk.1)) hlt), Kd.R_step h.rk (fun k hk hlt => hm k (.inr (.inr hk)) hlt), Kd.R_step h.rq (fun k hk hlt => hm k (.inr (.inr hk.1)) hlt),
    h.mp.step (hm m (.inr (.inl rfl)) h.mp.lt), h.hm, fun p hp => Kd.M_step (h.vals p hp) (fun k hk hlt => hm k (.inr (.inr hk)) hlt)⟩
theorem PoolAt.gmono (h : PoolAt G w base g vl vk vw m L K Q D) (hg : ∀ k, G k → G' k) : PoolAt G' w base g vl vk vw m L K Q D :=
  ⟨h.blk, h.hb, Kd.R_mono h.rl (fun k hk => ⟨hg k hk.1, hk.2⟩), Kd.R_mono h.rk hg, Kd.R_mono h.rq (fun k hk => ⟨hg k hk.1, hk.2⟩), h.mp, h.hm, fun p hp => k36.M_mono hg (h.vals p hp)⟩
theorem PoolAt.gbound (h : PoolAt G w base g vl vk vw m L K Q D) : PoolAt (fun k => G k ∧ k < w.heap.size) w base g vl vk vw m L K Q D :=
  ⟨h.blk, h.hb, Kd.R_mono (Kd.R_bound h.rl) (fun k hk => ⟨⟨hk.1.1, hk.2.2.1⟩, hk.1.2⟩), Kd.R_mono (Kd.R_bound h.rk) (fun k hk => ⟨hk.1, hk.2.2.1⟩), Kd.R_mono (Kd.R_bound h.rq) (fun k hk => ⟨⟨hk.1.1, hk.2.2.1⟩, hk.1.2⟩), h.mp, h.hm,
    fun p hp => k36.M_mono (fun k hk => ⟨hk.1, hk.2.2.1⟩) (k36.M_bound (h.vals p hp))⟩
end
def PoolOwn (S : Nat → Prop) (g : Nat) (s : PSt) (w : World) : Prop := ∃ m vl vk vw, PoolAt S w 0 g vl vk vw m s.L s.K s.Q s.D ∧ S g ∧ S m ∧ ∀ k, S k → k < w.heap.size
theorem PoolOwn.keeps {S M : Nat → Prop} {g : Nat} {s : PSt} {w w1 : World} (h : PoolOwn S g s w) (hk : Keeps M w w1) (hd : ∀ k, S k → ¬ M k) : PoolOwn S g s w1 := by
  obtain ⟨m, vl, vk, vw, h1, h2, h3, h4⟩ := h
  exact ⟨m, vl, vk, vw, h1.move (fun k hkS hlt => hk.block k hlt (hd k (by rcases hkS with rfl | rfl | h; exact h2; exact h3; exact h))), h2, h3, fun k hS => Nat.lt_of_lt_of_le (h4 k hS) hk.size⟩
theorem PoolOwn.below {S : Nat → Prop} {g : Nat} {s : PSt} {w w1 : World} (h : PoolOwn S g s w) (hb : Below w.heap.size w w1) : PoolOwn S g s w1 := h.keeps (Keeps.of_below hb) (fun _ _ f => f)
theorem PoolOwn.step {S : Nat → Prop} {g : Nat} {s : PSt} {w w1 : World} (h : PoolOwn S g s w) (hm : ∀ k, S k → w1.heap[k]? = w.heap[k]?) (hs : w.heap.size ≤ w1.heap.size) : PoolOwn S g s w1 := by
  obtain ⟨m, vl, vk, vw, h1, h2, h3, h4⟩ := h
  exact ⟨m, vl, vk, vw, h1.move (fun k hkS hlt => hm k (by rcases hkS with rfl | rfl | h; exact h2; exact h3; exact h)), h2, h3, fun k hS => Nat.lt_of_lt_of_le (h4 k hS) hs⟩
theorem PoolOwn.parts {S : Nat → Prop} {g : Nat} {s : PSt} {w : World} (h : PoolOwn S g s w) : ∃ m Al cl Ak ck Aw cw, w.heap[g]? = some (.cells #[.slice Al s.L.length cl, .slice Ak s.K.length ck, .slice Aw s.Q.length cw, .map (some m)] 73 (0, 0)) ∧
    Kd.F k36 w S Al s.L.length s.L ∧ s.L.length ≤ cl ∧ Kd.F k34 w S Ak s.K.length s.K ∧ s.K.length ≤ ck ∧ g < w.heap.size ∧ (0 < s.L.length → ∃ gl, Al = some ⟨gl, 0, none⟩) ∧ S g := by
  obtain ⟨m, vl, vk, vw, h1, h2, h3, h4⟩ := h
  obtain ⟨Al, cl, rfl, hl, hcl⟩ := Kd.R_reads h1.rl
  obtain ⟨Ak, ck, rfl, hk, hck⟩ := Kd.R_reads h1.rk
  obtain ⟨Aw, cw, rfl, hw, hcw⟩ := Kd.R_reads h1.rq
  refine ⟨m, Al, cl, Ak, ck, Aw, cw, h1.blk, ?_, hl, ?_, hk, blk_lt h1.blk, fun hp => ?_, h2⟩
  · intro W' hW
    have := Kd.R_step (w1 := W') h1.rl (fun k hk hlt => hW k hk.1 hlt)
    exact (Kd.R_reads' this).2.2
  · intro W' hW
    have := Kd.R_step (w1 := W') h1.rk (fun k hk hlt => hW k hk hlt)
    exact (Kd.R_reads' this).2.2
  · obtain ⟨gl, cap, he, _⟩ := Kd.R_form h1.rl hp
    injection he with he
    exact ⟨gl, he⟩
theorem put_own (k f : Nat) (S : Nat → Prop) (g : Nat) (s : PSt) (x : S36) (A1 A6 : Option Addr) (c1 c6 : Nat) (w : World) (hp : PoolOwn S g s w)
    (hC1 : Kd.C k34 w A1 x.f1.length x.f1) (hc1 : x.f1.length ≤ c1) (hC6 : Kd.C k34 w A6 x.f6.length x.f6) (hc6 : x.f6.length ≤ c6) (hdef : ∀ cs, ∃ r, putF k f s x cs = some r) :
    Calls Try.prog 17 #[.pointer (some ⟨g, 0, none⟩), .agg #[.string x.f0.f0, .int .i64 x.f0.f1, .slice A1 x.f1.length c1, .string x.f2, .int .i64 x.f3, .string x.f4, .int .i64 x.f5, .slice A6 x.f6.length c6]] w fun e w' =>
      ∃ cs r S', putF k f s x cs = some r ∧ e = .returned (.tuple #[.int .i64 r.1.1, .int .i64 r.1.2]) ∧ PoolOwn S' g r.2 w' ∧ (∀ k, S' k → S k ∨ w.heap.size ≤ k) ∧ Keeps S w w' := by
  obtain ⟨m, vl, vk, vw, h1, h2, h3, h4⟩ := hp
  refine (put_whole (fun j => S j ∨ w.heap.size ≤ j) k f S 0 g m s x A1 A6 c1 c6 w ⟨vl, vk, vw, h1.gmono (fun _ h => .inl h), h2, fun j hj => .inl (h1.rl.1 j hj).1, fun j hj => .inl (h1.rq.1 j hj).1⟩ h3 (fun j hj => .inr hj) hC1 hc1 hC6 hc6 hdef).mono ?_
  rintro e w' ⟨cs, r, hr, rfl, ⟨vl', vk', vw', p1, p2, p3, p4⟩, hk⟩
  exact ⟨cs, r, fun j => (S j ∨ w.heap.size ≤ j) ∧ j < w'.heap.size, hr, rfl, ⟨m, vl', vk', vw', p1.gbound, ⟨.inl h2, blk_lt p1.blk⟩, ⟨.inl h3, p1.mp.lt⟩, fun _ h => h.2⟩, fun _ h => h.1, hk⟩
theorem new_calls (w : World) : Calls Try.prog 16 #[] w fun e w' => e = .returned (.pointer (some ⟨w.heap.size + 1, 0, none⟩)) ∧ PoolOwn (fun k => k = w.heap.size ∨ k = w.heap.size + 1) (w.heap.size + 1) ⟨[], [], [], []⟩ w' ∧ Below w.heap.size w w' := by
  have hmm := @run_makeMap Try.prog
  go_enter Try.func16, Try.ntmps16
  go_wp2
  go_ret
  have h0 : ((w.alloc (.map #[] 0)).alloc (.cells #[.slice none 0 0, .slice none 0 0, .slice none 0 0, .map (some w.heap.size)] 73)).heap[w.heap.size + 1]? = some (.cells #[.slice none 0 0, .slice none 0 0, .slice none 0 0, .map (some w.heap.size)] 73 (0, 0)) := by
    have := World.alloc_heap_new (w.alloc (.map #[] 0)) (.cells #[.slice none 0 0, .slice none 0 0, .slice none 0 0, .map (some w.heap.size)] 73); rwa [World.size_alloc] at this
  refine ⟨rfl, ⟨w.heap.size, _, _, _, ⟨h0, Nat.zero_le _, Kd.R_nil _ _ _ _ _, Kd.R_nil _ _ _ _ _, Kd.R_nil _ _ _ _ _, ?_, Nat.zero_le _, fun p hp => by cases hp⟩, .inr rfl, .inl rfl, fun k hk => by simp; omega⟩, ((Below.refl _ _).alloc (Nat.le_refl _) _).alloc (by simp) _⟩
  exact (XMap.made w dotV opV).step (Below.heap_alloc _ _ _ (by simp))
theorem known_calls (S : Nat → Prop) (g : Nat) (s : PSt) (w : World) (hp : PoolOwn S g s w) (hl : s.K.length ≤ 1000000) : Calls Try.prog 27 #[.pointer (some ⟨g, 0, none⟩)] w fun e w' => ∃ v, e = .returned v ∧ k34.R 34 w' w.heap.size (fun _ => True) v s.K ∧ Below w.heap.size w w' := by
  obtain ⟨m, Al, cl, Ak, ck, Aw, cw, hblk, hL, hcl, hK, hck, _, _, _⟩ := hp.parts
  have HK := Aside0.mk (Kd.F_now hK)
  have HCK := Aside0.mk hck
  have HL := Aside0.mk hl
  have c1 : w.cell? ⟨g, 1, none⟩ = some (.slice Ak s.K.length ck) := (blk_cell hblk 1).trans rfl
  clear hL hcl hK hck hp hl hblk
  go_enter Try.func27, Try.ntmps27
  go_wp2_with fail
  refine (api_Dot_66.calls Ak ck s.K s.K _ HK.out HCK.out (by unfold api_Dot_66.f; rw [if_pos (by have := HL.out; omega)])).mono ?_
  rintro e w1 ⟨v, rfl, hr, hb⟩
  have HR := Aside0.mk hr
  have HB := Aside0.mk hb
  clear hr hb c1
  go_wp2
  go_ret
  exact ⟨v, rfl, HR.out, HB.out⟩
end Go.Proofs.Ytenbkljgmgdegaa.PO
