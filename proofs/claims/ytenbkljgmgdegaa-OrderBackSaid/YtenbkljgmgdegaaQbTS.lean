/- What the rows of this claim use, out of the texts of this work (TS). No condition beyond those that each statement names. -/
import Derived.Test.YtenbkljgmgdegaaQbTD
import Derived.Test.YtenbkljgmgdegaaQbX
namespace Go.Proofs.Ytenbkljgmgdegaa.PO
open Go.RowKit Go.Proofs.YtenbkljgmgdegaaW.PrintWords Go.Proofs.YtenbkljgmgdegaaW.PrintLast Go.Proofs.YtenbkljgmgdegaaW.PrintMore
open Go.Proofs.Ytenbkljgmgdegaa.XRange Go.Proofs.Ytenbkljgmgdegaa.XMap Go.Proofs.Ytenbkljgmgdegaa.XSeq
set_option linter.unusedVariables false
set_option linter.unusedSimpArgs false
structure PSt where
  L : List S36
  K : List S34
  Q : List S36
  D : List (S34 × (S36 × List Value))
def firstR (k : Nat) (K : List S34) : List S36 → Nat → Option (Option Nat)
  | [], _ => some none
  | x :: r, i => (vector_With.f k K x.f0.f0 x.f0.f1).bind fun t => if t.2 = 0 then (vector_Leq.f k x.f1 K).bind fun b => if b = true then some (some i) else firstR k K r (i + 1) else firstR k K r (i + 1)
def takeQ (s : PSt) (i : Nat) : PSt := { s with Q := s.Q.eraseIdx i }
def handS (k : Nat) (s : PSt) (x : S36) : Option PSt := if s.L.length ≤ 1000000000000 then (vector_With.f k s.K x.f0.f0 x.f0.f1).bind fun t => some { s with L := s.L ++ [x], K := t.1 } else none
def drain (k : Nat) : Nat → PSt × Int → Option (PSt × Int)
  | 0, _ => none
  | f + 1, (s, n) => if s.Q.length ≤ 1000000 ∧ 0 ≤ n ∧ n ≤ 1000000 then (firstR k s.K s.Q 0).bind fun o => match o with
    | none => some (s, n)
    | some i => (handS k (takeQ s i) (s.Q.getD i z36)).bind fun s1 => drain k f (s1, n + 1) else none
def PoolIn (G : Nat → Prop) (n1 : Nat) (F : Nat → Prop) (base g m : Nat) (s : PSt) (w : World) : Prop :=
  ∃ vl vk vw, PoolAt G w base g vl vk vw m s.L s.K s.Q s.D ∧ F g ∧ (∀ k, vl.ownBlock = some k → F k ∨ n1 ≤ k) ∧ (∀ k, vw.ownBlock = some k → F k ∨ n1 ≤ k)
def JS (G : Nat → Prop) (w1 : World) (F : Nat → Prop) (base g m N8 : Nat) (s : PSt × Int) (w : World) : Prop :=
  Keeps (fun k => F k ∨ k = N8) w1 w ∧ PoolIn G w1.heap.size F base g m s.1 w ∧ w.heap[N8]? = some (.cells #[.int .i64 s.2] 3 (0, 0))
def YS (G : Nat → Prop) (k : Nat) (sf : PSt × Int) (w1 : World) (F : Nat → Prop) (base g m N8 : Nat) (s : PSt × Int) (p : S36 × List Value) (w : World) : Prop :=
  ∃ i f, firstR k s.1.K s.1.Q 0 = some (some i) ∧ p.1 = s.1.Q.getD i z36 ∧ drain k (f + 1) s = some sf ∧ JS G w1 F base g m N8 (takeQ s.1 i, s.2) w ∧ k36.M w base G p.1 p.2
def stepS (k : Nat) (s : PSt × Int) (p : S36 × List Value) : PSt × Int :=
  match firstR k s.1.K s.1.Q 0 with
  | some (some i) => (((handS k (takeQ s.1 i) p.1).getD s.1), s.2 + 1)
  | _ => s
def encOp (p : S36 × List Value) : Array Value := #[.agg p.2.toArray]
theorem PoolAt.no_loop {G : Nat → Prop} {w : World} {base g : Nat} {vl vk vw : Value} {m : Nat} {L : List S36} {K : List S34} {Q : List S36} {D : List (S34 × (S36 × List Value))} (h : PoolAt G w base g vl vk vw m L K Q D) :
    ∀ k, (k = g ∨ k = m ∨ some k = vl.ownBlock ∨ some k = vw.ownBlock) → ¬ Loopy w k := by
  have nc : ∀ k cs t, w.heap[k]? = some (.cells cs t (0, 0)) → ¬ Loopy w k := fun k cs t hc hl => by
    rcases hl with ⟨d, h⟩ | ⟨d, h⟩ <;> (rw [hc] at h; cases h)
  intro k hk
  rcases hk with rfl | rfl | hk | hk
  · exact nc _ _ _ h.blk
  · obtain ⟨es, cl, hm, _⟩ := h.mp.at_
    rintro (⟨d, h⟩ | ⟨d, h⟩) <;> (rw [hm] at h; cases h)
  · obtain ⟨cells, hc⟩ := Kd.R_typed h.rl k hk.symm
    exact nc _ _ _ hc
  · obtain ⟨cells, hc⟩ := Kd.R_typed h.rq k hk.symm
    exact nc _ _ _ hc
section
variable {G : Nat → Prop} {w w1 : World} {base g : Nat} {vl vk vw : Value} {m : Nat} {L : List S36} {K : List S34} {Q : List S36} {D : List (S34 × (S36 × List Value))}
theorem PoolAt.grewQ (h : PoolAt G w base g vl vk vw m L K Q D) (hg : w.grownBy w1 vw.ownBlock) {v1 : Value} {Q' : List S36} (hr : k36.R 36 w1 base (fun k => G k ∧ some k ≠ vl.ownBlock) v1 Q')
    (hat : v1.ownBlock = vw.ownBlock ∨ ∃ b, v1.ownBlock = some b ∧ w.heap.size ≤ b) : PoolAt G (w1.setCell ⟨g, 2, none⟩ v1) base g vl vk v1 m L K Q' D := by
  have hblk := blk_grown h.blk hg h.ne_q
  refine ⟨blk_set hblk 2 v1, h.hb, ?_, ?_, Kd.R_mono (Kd.R_far (Kd.R_types hr hblk (fun q hq => by have := k36_E q hq; omega)) (fun k hk => hk.2) v1) (fun k hk => hk.1), ?_, h.hm, fun p hp => ?_⟩
  · have h1 := Kd.R_types (Kd.R_grown (Kd.R_bound h.rl) hg (fun k hk => hk.1.2)) hblk (fun q hq => by have := k36_E q hq; omega)
    refine Kd.R_mono (Kd.R_far h1 (fun k hk => hk.2) v1) (fun k hk => ?_)
    obtain ⟨⟨h2, _, h3, _⟩, _⟩ := hk
    refine ⟨h2.1, ?_⟩
    rcases hat with hat | ⟨b, hb, hlt⟩
    · rw [hat]; exact h2.2
    · rw [hb]; intro e; cases e; omega
  · exact Kd.R_mono (Kd.R_far (Kd.R_types (Kd.R_over' h.rk (Kd.R_typed h.rq) (fun q hq => by have := k34_E q hq; omega) hg) hblk (fun q hq => by have := k34_E q hq; omega)) (fun k hk => hk.2) v1) (fun k hk => hk.1)
  · exact h.mp.step ((far_cells v1 m h.m_g).trans (hg.block m h.mp.lt h.m_q))
  · have h1 := Kd.M_grown (M_row (h.vals p hp) h.rq) hg (fun k hk => hk.2)
    exact k36.M_mono (fun k hk => hk.1.1) (Kd.M_far (Kd.M_types h1 hblk (fun q hq => by have := k36_E' q hq; omega)) (fun k hk => hk.2) v1)
end
theorem keeps_in {M M' : Nat → Prop} {A B C : World} (h : Keeps M A B) (h' : Keeps M' B C) (hm : ∀ k, M' k → M k ∨ A.heap.size ≤ k) : Keeps M A C :=
  ⟨h'.os.trans h.os, h'.tape.trans h.tape, h'.output.trans h.output, Nat.le_trans h.size h'.size, fun k hk hne => (h'.block k (Nat.lt_of_lt_of_le hk h.size) (fun e => by rcases hm k e with h1 | h1; exact hne h1; omega)).trans (h.block k hk hne)⟩
theorem typed_ne {w : World} {a b : Nat} {ca cb : Array Value} {ta tb : TypeId} (ha : w.heap[a]? = some (.cells ca ta (0, 0))) (hb : w.heap[b]? = some (.cells cb tb (0, 0))) (h : ta ≠ tb) : a ≠ b := by
  rintro rfl
  rw [ha] at hb
  simp only [Option.some.injEq, Obj.cells.injEq] at hb
  exact h hb.2.1
theorem JS.keeps {G : Nat → Prop} {w1 : World} {F : Nat → Prop} {base g m N8 : Nat} {s : PSt × Int} {w w' : World} (h : JS G w1 F base g m N8 s w) (hk : Keeps (fun _ => False) w w') : JS G w1 F base g m N8 s w' := by
  obtain ⟨h1, ⟨vl, vk, vw, hp, h2, h3, h4⟩, h5⟩ := h
  exact ⟨h1.trans (keeps_weak hk (fun _ f => f.elim)), ⟨vl, vk, vw, hp.keeps hk, h2, h3, h4⟩, (hk.block N8 (blk_lt h5) (fun f => f)).trans h5⟩
def lenQ (w : World) (g : Nat) : Nat := match w.cell? ⟨g, 2, none⟩ with | some (.slice _ n _) => n | _ => 0
theorem lenQ_of {G : Nat → Prop} {w1 : World} {F : Nat → Prop} {base g m N8 : Nat} {s : PSt × Int} {w : World} (h : JS G w1 F base g m N8 s w) : lenQ w g = s.1.Q.length := by
  obtain ⟨_, ⟨vl, vk, vw, hp, _⟩, _⟩ := h
  obtain ⟨A, c, rfl⟩ := Kd.R_slice hp.rq
  unfold lenQ
  rw [(blk_cell hp.blk 2).trans rfl]
  rfl
set_option maxHeartbeats 8000000 in
set_option maxRecDepth 100000 in
theorem ready1_seq (G : Nat → Prop) (n k : Nat) (w1 : World) (F : Nat → Prop) (base g m N8 B : Nat) (s0 sf : PSt × Int) (f0 : Nat) (hB : w1.heap[B]? = some (.cells #[.pointer (some ⟨g, 0, none⟩)] 25 (0, 0))) (hBF : ¬ F B) (hB8 : B ≠ N8) (hd : drain k f0 s0 = some sf) :
    SeqS n Try.prog 109 #[.pointer (some ⟨B, 0, none⟩)] encOp (JS G w1 F base g m N8) (YS G k sf w1 F base g m N8) (stepS k) (fun s => s = sf) s0 := by
  intro l Lp W hLp hY h0 hL0
  have HLP := Aside0.mk hLp
  have HY := Aside0.mk hY
  have H0 := Aside0.mk h0
  have HL0 := Aside0.mk hL0
  have HD := Aside0.mk hd
  have HB := Aside0.mk hB
  have HBF := Aside0.mk hBF
  have HB8 := Aside0.mk hB8
  clear hLp hY h0 hL0 hd hB hBF hB8
  refine callsIn_of_wp Try.func109 rfl trivial ?_ rfl
  simp only [Try.ntmps109, List.size_toArray, List.length_cons, List.length_nil, Nat.reduceAdd, Nat.reduceSub, Array.replicate_succ, Array.replicate_zero, List.push_toArray, List.append_toArray, List.nil_append, List.cons_append, Array.size_append]
  gi_wp2
  refine wpIn_wide.2 (wp_scope_straight ((wpIn_wide (n := n)).1 ?_))
  refine wpIn_seq (wpIn_label ?_)
  show Code.wpIn _ _ _ _ _ _ _
  refine wpIn_block ?_
  gi_loopw [] (fun wr => ∃ s f, Aside0 (JS G w1 F base g m N8 s wr) ∧ Aside0 (drain k f s = some sf) ∧ Aside0 (Lp wr)) (fun wr => lenQ wr g)
  case atStart => exact ⟨s0, f0, ⟨H0.out⟩, ⟨HD.out⟩, ⟨HL0.out⟩⟩
  case round =>
    rename World => wo
    obtain ⟨⟨st, nn⟩, f, HJ, HDR, HL⟩ := hrel
    obtain ⟨hk, ⟨vl, vk, vw, hp, hFg, hFl, hFw⟩, hn⟩ := HJ.out
    have hdr := HDR.out
    cases f with
    | zero => exact absurd hdr (by simp [drain])
    | succ f =>
      unfold drain at hdr
      have hqn : st.Q.length ≤ 1000000 ∧ 0 ≤ nn ∧ nn ≤ 1000000 := by
        by_cases h : st.Q.length ≤ 1000000 ∧ 0 ≤ nn ∧ nn ≤ 1000000
        · exact h
        · rw [if_neg h] at hdr; cases hdr
      rw [if_pos hqn] at hdr
      have hql := hqn.1
      clear hqn
      obtain ⟨o, ho, hdr⟩ := Option.bind_eq_some_iff.mp hdr
      obtain ⟨Aw, cw, rfl⟩ := Kd.R_slice hp.rq
      obtain ⟨Ak, ck, rfl⟩ := Kd.R_slice hp.rk
      have hBk := (hk.block B (blk_lt HB.out) (by rintro (h | h); exact HBF.out h; exact HB8.out h)).trans HB.out
      have cB : wo.cell? ⟨B, 0, none⟩ = some (.pointer (some ⟨g, 0, none⟩)) := (blk_cell hBk 0).trans rfl
      have cG : wo.cell? ⟨g, 2, none⟩ = some (.slice Aw st.Q.length cw) := (blk_cell hp.blk 2).trans rfl
      have HP := Aside0.mk hp
      have HDR' := Aside0.mk hdr
      have HO := Aside0.mk ho
      have HKK := Aside0.mk hk
      have HFG := Aside0.mk hFg
      have HFL := Aside0.mk hFl
      have HFW := Aside0.mk hFw
      have HN := Aside0.mk hn
      have HBK := Aside0.mk hBk
      have HQL := Aside0.mk hql
      clear hp hdr ho hk hFg hFl hFw hn hBk hql
      gi_wp2
      gi_loopw [12] (fun v12 w2 => ∃ i : Nat, v12 = .int .i64 i ∧ i ≤ st.Q.length ∧ Aside0 (firstR k st.K (st.Q.drop i) i = some o) ∧ Aside0 (Keeps (fun _ => False) wo w2)) (fun v12 _ => st.Q.length - (intOf v12).toNat)
      case atStart => exact ⟨0, rfl, by omega, ⟨HO.out⟩, ⟨Keeps.refl _ _⟩⟩
      case round =>
        obtain ⟨i, rfl, hile, HFi, HK2⟩ := hrel
        have hp2 := HP.out.keeps HK2.out
        have hBk := (HK2.out.block B (blk_lt HBK.out) (fun f => f)).trans HBK.out
        by_cases hlt : i < st.Q.length
        · obtain ⟨gq, cq, hvq, _, _, _⟩ := Kd.R_form hp2.rq (by omega)
          injection hvq with ha _ hc
          subst ha
          subst hc
          obtain ⟨cs, hcs8, hM, hcell, hfr⟩ := Kd.R_elem hp2.rq z36 (i : Int) (by omega) (by omega)
          simp only [Int.toNat_natCast, show k36.sz = 8 from rfl] at hM hcell
          obtain ⟨x, hx⟩ : ∃ x, st.Q.getD i z36 = x := ⟨_, rfl⟩
          rw [hx] at hM
          obtain ⟨v2, v7, rfl, r2, r7⟩ := k36_openM hM
          obtain ⟨A2, c2, rfl, hc2, hC2⟩ := Kd.R_reads r2
          obtain ⟨A7, c7, rfl, hc7, hC7⟩ := Kd.R_reads r7
          have e0 : wr.cell? ⟨gq, i * 8, none⟩ = some (.string x.f0.f0) := hcell 0 _ rfl
          have e1 : wr.cell? ⟨gq, i * 8 + 1, none⟩ = some (.int .i64 x.f0.f1) := hcell 1 _ rfl
          have e2 : wr.cell? ⟨gq, i * 8 + 2, none⟩ = some (.slice A2 x.f1.length c2) := hcell 2 _ rfl
          have e3 : wr.cell? ⟨gq, i * 8 + 3, none⟩ = some (.string x.f2) := hcell 3 _ rfl
          have e4 : wr.cell? ⟨gq, i * 8 + 4, none⟩ = some (.int .i64 x.f3) := hcell 4 _ rfl
          have e5 : wr.cell? ⟨gq, i * 8 + 5, none⟩ = some (.string x.f4) := hcell 5 _ rfl
          have e6 : wr.cell? ⟨gq, i * 8 + 6, none⟩ = some (.int .i64 x.f5) := hcell 6 _ rfl
          have e7 : wr.cell? ⟨gq, i * 8 + 7, none⟩ = some (.slice A7 x.f6.length c7) := hcell 7 _ rfl
          have HX := Aside0.mk hx
          have HP2 := Aside0.mk hp2
          have HBk := Aside0.mk hBk
          have HMx := Aside0.mk hM
          have HC2 := Aside0.mk hC2
          have HCL2 := Aside0.mk hc2
          have ht1 : decide ((i : Int) < (st.Q.length : Int)) = true := by simp; omega
          have hgx : st.Q[i] = x := by rw [← hx, List.getD_eq_getElem?_getD, List.getElem?_eq_getElem hlt]; rfl
          have hf := HFi.out
          rw [List.drop_eq_getElem_cons hlt, hgx] at hf
          unfold firstR at hf
          obtain ⟨⟨K', e⟩, hW, hf⟩ := Option.bind_eq_some_iff.mp hf
          have HW := Aside0.mk hW
          have HF2 := Aside0.mk hf
          clear hW hf hgx
          clear hx hp2 hBk hM hcell hfr r2 r7 hC2 hC7 hc2 hc7
          gi_wp2
          obtain ⟨N, hN⟩ : ∃ N, wr.heap.size = N := ⟨_, rfl⟩
          obtain ⟨w3, hw3⟩ : ∃ w3, wr.alloc (.cells #[.string x.f0.f0, .int .i64 x.f0.f1, .slice A2 x.f1.length c2, .string x.f2, .int .i64 x.f3, .string x.f4, .int .i64 x.f5, .slice A7 x.f6.length c7] 36) = w3 := ⟨_, rfl⟩
          rw [hw3, hN]
          have HB3 := Aside0.mk (show Below N wr w3 from by rw [← hw3, ← hN]; exact (Below.refl _ wr).alloc (Nat.le_refl _) _)
          have BK3 := Aside0.mk (show w3.heap[N]? = some (.cells #[.string x.f0.f0, .int .i64 x.f0.f1, .slice A2 x.f1.length c2, .string x.f2, .int .i64 x.f3, .string x.f4, .int .i64 x.f5, .slice A7 x.f6.length c7] 36 (0, 0)) from by rw [← hw3, ← hN]; exact World.alloc_heap_new wr _)
          have HP3 := Aside0.mk (HP2.out.below (w1 := w3) (by rw [hN]; exact HB3.out))
          have HBb3 := Aside0.mk (blk_below (w1 := w3) HBk.out (by rw [hN]; exact HB3.out))
          have HK3 := Aside0.mk (HK2.out.trans (Keeps.of_below (B := w3) (by rw [hN]; exact HB3.out)))
          have HW3 := Aside0.mk (show Keeps (fun _ => False) wr w3 from Keeps.of_below (by rw [hN]; exact HB3.out))
          clear e0 e1 e2 e3 e4 e5 e6 e7 hw3 ht1
          refine wpIn_wide.2 ?_
          refine start_ (n := 12) (ds := []) (S := fun w' => w'.cell? ⟨B, 0, none⟩ = some (.pointer (some ⟨g, 0, none⟩)) ∧ w'.cell? ⟨g, 1, none⟩ = some (.slice Ak st.K.length ck) ∧ w'.cell? ⟨N, 0, none⟩ = some (.string x.f0.f0) ∧ w'.cell? ⟨N, 1, none⟩ = some (.int .i64 x.f0.f1)) _ (by kernel_rfl) rfl rfl
            ⟨(blk_cell (blk_drew HBb3.out) 0).trans rfl, (blk_cell (blk_drew HP3.out.blk) 1).trans rfl, (blk_cell (blk_drew BK3.out) 0).trans rfl, (blk_cell (blk_drew BK3.out) 1).trans rfl⟩ (fun hH => ?_)
          refine XReg.tk 0 18 (h := ?_)
          refine XReg.pu 1 19 (h := ?_)
          refine XReg.pu 2 20 (h := ?_)
          refine XReg.tk 3 21 (h := ?_)
          refine XReg.pu 4 22 (h := ?_)
          refine XReg.tk 5 23 (h := ?_)
          refine oneL (i := 6) (some 24) rfl rfl (by kernel_rfl) (by decide) (fun Kc hKc => ?_)
          refine goes_ Try.func108 (by kernel_rfl) rfl #[.slice Ak st.K.length ck, .agg #[.string x.f0.f0, .int .i64 x.f0.f1]] (by rfl) rfl rfl (by (try simp only [List.map_toArray, List.map_cons, List.map_nil]); first | done | rfl) ?_
          have hrk := Kd.R_reads' HP3.out.rk
          refine (vector_With.calls k Ak ck st.K x.f0.f0 x.f0.f1 K' e _ (Kd.C_drew hrk.2.2) hrk.2.1 HW.out).mono ?_
          rintro e' w4 ⟨v0, rfl, hR, hb⟩
          obtain ⟨Av, cv, rfl⟩ := Kd.R_slice hR
          refine ⟨_, rfl, ?_⟩
          have HB4 := Aside0.mk (show Below w3.heap.size w3 w4 from ⟨hb.os, hb.tape, hb.output, hb.size, hb.block⟩)
          clear hR hb hrk
          refine hKc.out _ _ ⟨(blk_cell (blk_below HBb3.out HB4.out) 0).trans rfl, (blk_cell (blk_below HP3.out.blk HB4.out) 1).trans rfl, (blk_cell (blk_below BK3.out HB4.out) 0).trans rfl, (blk_cell (blk_below BK3.out HB4.out) 1).trans rfl⟩ (fun hH2 => ?_)
          clear hKc Kc hH
          refine XReg.pu 7 17 (h := ?_)
          refine XReg.pu 8 25 (h := ?_)
          refine XReg.pu 9 26 (h := ?_)
          refine XReg.pu 10 5 (h := ?_)
          refine XReg.pu 11 6 (h := ?_)
          refine done_ (by kernel_rfl) ?_
          have HP4 := Aside0.mk (HP3.out.below HB4.out)
          have BK4 := Aside0.mk (blk_below BK3.out HB4.out)
          have HBb4 := Aside0.mk (blk_below HBb3.out HB4.out)
          have HK4 := Aside0.mk (HK3.out.trans (Keeps.of_below HB4.out))
          have HW4 := Aside0.mk (HW3.out.trans (Keeps.of_below HB4.out))
          have HC4 := Aside0.mk (Kd.C_below (Kd.C_below HC2.out (w1 := w3) (by rw [hN]; exact HB3.out)) HB4.out)
          clear HP3 BK3 HBb3 HK3 HB4 HB3 hH2
          gi_wp2
          refine wpIn_wide.2 ?_
          have hw64 : wrap64 ((i : Int) + 1) = ((i + 1 : Nat) : Int) := by have := HQL.out; unfold wrap64; omega
          by_cases he : e = 0
          · have q : (e != 0) = false := by simp [he]
            have hf := HF2.out
            simp only [he, if_true] at hf
            obtain ⟨b, hL, hf⟩ := Option.bind_eq_some_iff.mp hf
            have HLq := Aside0.mk hL
            have HF3 := Aside0.mk hf
            clear hf hL HF2
            refine start_ (n := 12) (ds := []) (S := fun w' => w'.cell? ⟨B, 0, none⟩ = some (.pointer (some ⟨g, 0, none⟩)) ∧ w'.cell? ⟨g, 1, none⟩ = some (.slice Ak st.K.length ck) ∧ w'.cell? ⟨N, 2, none⟩ = some (.slice A2 x.f1.length c2)) _ (by kernel_rfl) rfl rfl
              ⟨(blk_cell (blk_drew HBb4.out) 0).trans rfl, (blk_cell (blk_drew HP4.out.blk) 1).trans rfl, (blk_cell (blk_drew BK4.out) 2).trans rfl⟩ (fun hH => ?_)
            refine XReg.pu 0 27 (h := ?_)
            refine XReg.pu 1 28 (h := ?_)
            refine XReg.pu 2 29 (h := ?_)
            refine XReg.pu 3 30 (h := ?_)
            refine XReg.tk 4 31 (h := ?_)
            refine XReg.tk 5 32 (h := ?_)
            refine XReg.pu 6 33 (h := ?_)
            refine XReg.pu 7 34 (h := ?_)
            refine XReg.tk 8 35 (h := ?_)
            refine oneL (i := 9) (some 36) rfl rfl (by kernel_rfl) (by decide) (fun Kc hKc => ?_)
            refine goes_ Try.func52 (by kernel_rfl) rfl #[.slice A2 x.f1.length c2, .slice Ak st.K.length ck] (by rfl) rfl rfl (by (try simp only [List.map_toArray, List.map_cons, List.map_nil]); first | done | rfl) ?_
            have hrk := Kd.R_reads' HP4.out.rk
            refine (vector_Leq.calls k A2 c2 x.f1 Ak ck st.K b _ (Kd.C_drew HC4.out) HCL2.out (Kd.C_drew hrk.2.2) hrk.2.1 HLq.out).mono ?_
            rintro e' w5 ⟨rfl, hb⟩
            refine ⟨_, rfl, ?_⟩
            have HB5 := Aside0.mk (show Below w4.heap.size w4 w5 from ⟨hb.os, hb.tape, hb.output, hb.size, hb.block⟩)
            clear hb hrk
            refine hKc.out _ _ ⟨(blk_cell (blk_below HBb4.out HB5.out) 0).trans rfl, (blk_cell (blk_below HP4.out.blk HB5.out) 1).trans rfl, (blk_cell (blk_below BK4.out HB5.out) 2).trans rfl⟩ (fun hH2 => ?_)
            clear hKc Kc hH
            refine XReg.pu 10 37 (h := ?_)
            refine XReg.pu 11 38 (h := ?_)
            refine done_ (by kernel_rfl) ?_
            have HP5 := Aside0.mk (HP4.out.below HB5.out)
            have BK5 := Aside0.mk (blk_below BK4.out HB5.out)
            have HBb5 := Aside0.mk (blk_below HBb4.out HB5.out)
            have HK5 := Aside0.mk (HK4.out.trans (Keeps.of_below HB5.out))
            have HW5 := Aside0.mk (HW4.out.trans (Keeps.of_below HB5.out))
            clear HP4 BK4 HBb4 HK4 HB5 hH2
            cases b with
            | false =>
              gi_wp2
              have hf := HF3.out
              simp only [Bool.false_eq_true, if_false] at hf
              refine ⟨⟨i + 1, by rw [hw64], by omega, ⟨hf⟩, ⟨HK5.out⟩⟩, ?_⟩
              rw [hw64]
              simp only [intOf, Int.toNat_natCast]
              omega
            | true =>
              gi_wp2
              have hoi : o = some i := by have := HF3.out; simp only [if_true, Option.some.injEq] at this; exact this.symm
              subst hoi
              obtain ⟨cellsq, hcq⟩ := Kd.R_typed HP5.out.rq gq rfl
              have NgB := Aside0.mk (typed_ne HBb5.out hcq (by decide))
              have NgN := Aside0.mk (show N ≠ gq from fun e => by
                have h1 := Kd.R_lt HP2.out.rq gq rfl
                omega)
              have NgG := Aside0.mk (typed_ne HP5.out.blk hcq (by decide))
              have NBG := Aside0.mk (typed_ne HBb5.out HP5.out.blk (by decide))
              have NNG := Aside0.mk (typed_ne BK5.out HP5.out.blk (by decide))
              refine wpIn_wide.2 ?_
              refine start_ (n := 12) (ds := [11]) (S := fun w' => w'.cell? ⟨B, 0, none⟩ = some (.pointer (some ⟨g, 0, none⟩)) ∧ w'.cell? ⟨g, 2, none⟩ = some (.slice (some ⟨gq, 0, none⟩) st.Q.length cw)) _ (by kernel_rfl) rfl rfl
                ⟨(blk_cell (blk_drew (blk_drew HBb5.out)) 0).trans rfl, (blk_cell (blk_drew HP5.out.blk) 2).trans rfl⟩ (fun hH => ?_)
              refine XReg.tk 0 39 (h := ?_)
              refine XReg.tk 1 40 (h := ?_)
              refine XReg.pu 2 41 (h := ?_)
              refine XReg.pu 3 42 (h := ?_)
              refine XReg.tk 4 43 (h := ?_)
              refine XReg.pu 5 44 (h := ?_)
              refine XReg.pu 6 45 (h := ?_)
              refine XReg.pu 7 46 (h := ?_)
              refine oneL (i := 8) (some 47) rfl rfl (by kernel_rfl) (by decide) (fun Kc hKc => ?_)
              refine goes_ Try.func110 (by kernel_rfl) rfl #[.slice (some ⟨gq, 0, none⟩) st.Q.length cw, .int .i64 i, .int .i64 (wrap64 ((i : Int) + 1))] (by rfl) rfl rfl (by (try simp only [List.map_toArray, List.map_cons, List.map_nil]); first | done | rfl) ?_
              have hw1 : wrap64 ((i : Int) + 1) = (i : Int) + 1 := by have := HQL.out; unfold wrap64; omega
              rw [hw1]
              refine (delete_calls (i := i) (Kd.R_drew HP5.out.rq) hlt HQL.out).mono ?_
              rintro e' w6 ⟨rfl, hR6, hg6⟩
              refine ⟨_, rfl, ?_⟩
              have HG6 := Aside0.mk (show w5.grownBy w6 (some gq) from ⟨hg6.os, hg6.tape, hg6.output, hg6.size, hg6.block⟩)
              have HR6 := Aside0.mk hR6
              clear hR6 hg6 hw1 hcq
              have HBb6 := Aside0.mk (blk_grown HBb5.out HG6.out (fun e => NgB.out (Option.some.inj e)))
              have BK6 := Aside0.mk (blk_grown BK5.out HG6.out (fun e => NgN.out (Option.some.inj e)))
              have HGk6 := Aside0.mk (blk_grown HP5.out.blk HG6.out (fun e => NgG.out (Option.some.inj e)))
              refine hKc.out _ _ ⟨(blk_cell HBb6.out 0).trans rfl, (blk_cell HGk6.out 2).trans rfl⟩ (fun hH2 => ?_)
              clear hKc Kc hH
              refine XReg.pu 9 48 (h := ?_)
              refine XReg.pu 10 49 (h := ?_)
              have c2' : w6.cell? ⟨g, 2, none⟩ = some (.slice (some ⟨gq, 0, none⟩) st.Q.length cw) := (blk_cell HGk6.out 2).trans rfl
              have f2' := blk_frozen HGk6.out 2
              refine lastL (i := 11) none rfl rfl (by kernel_rfl) (by decide) (fun Kc hKc => ?_)
              refine skip_ (w1 := ?_) (by rfl) rfl ?_ ?_
              rotate_left
              · go_simp
                rfl
              refine hKc.out _ _ ?_
              clear hKc Kc c2' f2' hH2
              refine done_ (by kernel_rfl) ?_
              obtain ⟨w7, hw7⟩ : ∃ w7, w6.setCell ⟨g, 2, none⟩ (.slice (some ⟨gq, 0, none⟩) (st.Q.length - 1) cw) = w7 := ⟨_, rfl⟩
              have HP7 := Aside0.mk (show PoolAt G w7 base g vl (.slice Ak st.K.length ck) (.slice (some ⟨gq, 0, none⟩) (st.Q.length - 1) cw) m st.L st.K (st.Q.eraseIdx i) st.D from by
                rw [← hw7]; exact HP5.out.grewQ HG6.out HR6.out (.inl rfl))
              have HK67 := Aside0.mk (show Keeps (fun k => k = g ∨ k = gq) wo w7 from by
                rw [← hw7]
                refine Keeps.setCell (M := fun k => k = g ∨ k = gq) (p := ⟨g, 2, none⟩) ?_ (.inl (.inl rfl)) _
                exact (keeps_weak HK5.out (fun _ f => f.elim)).trans (keeps_weak (keeps_grown HG6.out) (fun k hk => .inr (Option.some.inj hk))))
              have BK7 := Aside0.mk (show w7.heap[N]? = some (.cells #[.string x.f0.f0, .int .i64 x.f0.f1, .slice A2 x.f1.length c2, .string x.f2, .int .i64 x.f3, .string x.f4, .int .i64 x.f5, .slice A7 x.f6.length c7] 36 (0, 0)) from by
                rw [← hw7]; exact (far_cells _ N NNG.out).trans BK6.out)
              rw [hw7]
              have HKr := Aside0.mk (show Keeps (fun k => k = g ∨ k = gq) wr w7 from by
                rw [← hw7]
                refine Keeps.setCell (M := fun k => k = g ∨ k = gq) (p := ⟨g, 2, none⟩) ?_ (.inl (.inl rfl)) _
                exact (keeps_weak HW5.out (fun _ f => f.elim)).trans (keeps_weak (keeps_grown HG6.out) (fun k hk => .inr (Option.some.inj hk))))
              clear hw7
              have hM7 : k36.M w7 base G x [.string x.f0.f0, .int .i64 x.f0.f1, .slice A2 x.f1.length c2, .string x.f2, .int .i64 x.f3, .string x.f4, .int .i64 x.f5, .slice A7 x.f6.length c7] :=
                k36.M_mono (fun _ h => h.1.1.1) (Kd.M_step (Kd.M_types HMx.out HP2.out.blk (fun q hq => by have := k36_E' q hq; omega)) (fun k hk hlt => HKr.out.block k hlt (by rintro (h | h); exact hk.2 h; exact hk.1.2 h)))
              have hnin : ¬ (N8 = g ∨ N8 = gq) := by
                rintro (h | h)
                · exact typed_ne HN.out HP.out.blk (by decide) h
                · obtain ⟨cells, hc⟩ := Kd.R_typed HP.out.rq gq rfl
                  exact typed_ne HN.out hc (by decide) h
              have hYS : YS G k sf w1 F base g m N8 (st, nn) (x, [.string x.f0.f0, .int .i64 x.f0.f1, .slice A2 x.f1.length c2, .string x.f2, .int .i64 x.f3, .string x.f4, .int .i64 x.f5, .slice A7 x.f6.length c7]) w7 := by
                refine ⟨i, f, HO.out, HX.out.symm, HDR.out, ⟨keeps_in HKK.out HK67.out ?_, ⟨_, _, _, HP7.out, HFG.out, HFL.out, HFW.out⟩, (HK67.out.block N8 (blk_lt HN.out) hnin).trans HN.out⟩, hM7⟩
                rintro k (rfl | rfl)
                · exact .inl (.inl HFG.out)
                · exact (HFW.out _ rfl).imp .inl id
              have hL7 : Lp w7 := HLP.out _ _ HL.out (KeepsLoops.of_keeps HK67.out (fun k hk => HP.out.no_loop k (hk.imp id (fun h => .inr (.inr (by rw [h]; rfl))))))
              have e0 : w7.cell? ⟨N, 0, none⟩ = some (.string x.f0.f0) := (blk_cell BK7.out 0).trans rfl
              have e1 : w7.cell? ⟨N, 1, none⟩ = some (.int .i64 x.f0.f1) := (blk_cell BK7.out 1).trans rfl
              have e2 : w7.cell? ⟨N, 2, none⟩ = some (.slice A2 x.f1.length c2) := (blk_cell BK7.out 2).trans rfl
              have e3 : w7.cell? ⟨N, 3, none⟩ = some (.string x.f2) := (blk_cell BK7.out 3).trans rfl
              have e4 : w7.cell? ⟨N, 4, none⟩ = some (.int .i64 x.f3) := (blk_cell BK7.out 4).trans rfl
              have e5 : w7.cell? ⟨N, 5, none⟩ = some (.string x.f4) := (blk_cell BK7.out 5).trans rfl
              have e6 : w7.cell? ⟨N, 6, none⟩ = some (.int .i64 x.f5) := (blk_cell BK7.out 6).trans rfl
              have e7 : w7.cell? ⟨N, 7, none⟩ = some (.slice A7 x.f6.length c7) := (blk_cell BK7.out 7).trans rfl
              obtain ⟨fn, tmps, asg, bdy, hyy, hR⟩ := HY.out _ _ w7 hYS hL7
              simp only [encOp] at hyy
              clear hM7 hnin hYS hL7
              gi_wp2
              refine ⟨(fun h => by cases h), hR.mono ?_⟩
              rintro e' W8 ⟨rfl, hJ8, hL8⟩
              obtain ⟨s1, hs1, hd1⟩ := Option.bind_eq_some_iff.mp HDR'.out
              have hst : stepS k (st, nn) (x, [.string x.f0.f0, .int .i64 x.f0.f1, .slice A2 x.f1.length c2, .string x.f2, .int .i64 x.f3, .string x.f4, .int .i64 x.f5, .slice A7 x.f6.length c7]) = (s1, nn + 1) := by
                unfold stepS
                rw [HO.out]
                simp only
                rw [HX.out] at hs1
                rw [hs1]
                rfl
              rw [hst] at hJ8
              have hq1 : s1.Q = st.Q.eraseIdx i := by
                unfold handS at hs1
                split at hs1
                · obtain ⟨t, _, hs1⟩ := Option.bind_eq_some_iff.mp hs1
                  simp only [Option.some.injEq] at hs1
                  rw [← hs1]
                  rfl
                · cases hs1
              have HJ8 := Aside0.mk hJ8
              have HL8 := Aside0.mk hL8
              have HD1 := Aside0.mk hd1
              have hm1 : lenQ W8 g < lenQ wo g := by
                rw [lenQ_of hJ8, lenQ_of HJ.out]
                show s1.Q.length < st.Q.length
                rw [hq1, List.length_eraseIdx_of_lt hlt]
                omega
              have HM1 := Aside0.mk hm1
              clear hJ8 hL8 hd1 hst hs1 hq1 hm1
              gi_wp2
              exact ⟨⟨_, _, HJ8, HD1, HL8⟩, HM1.out⟩
          · have q : (e != 0) = true := by simp [he]
            have hf := HF2.out
            simp only [he, if_false] at hf
            have HF3 := Aside0.mk hf
            clear hf he HF2
            refine start_ (n := 12) (ds := []) (S := fun w' => True) _ (by kernel_rfl) rfl rfl trivial (fun hH => ?_)
            refine XReg.pu 0 27 (h := ?_)
            refine XReg.pu 1 28 (h := ?_)
            refine XReg.pu 2 29 (h := ?_)
            refine XReg.pn 3 30 (h := ?_)
            refine XReg.pn 4 31 (h := ?_)
            refine XReg.pn 5 32 (h := ?_)
            refine XReg.pn 6 33 (h := ?_)
            refine XReg.pn 7 34 (h := ?_)
            refine XReg.pn 8 35 (h := ?_)
            refine XReg.pn 9 36 (h := ?_)
            refine XReg.pn 10 37 (h := ?_)
            refine XReg.pu 11 38 (h := ?_)
            refine done_ (by kernel_rfl) ?_
            gi_wp2
            refine ⟨⟨i + 1, by rw [hw64], by omega, HF3, ⟨HK4.out.drew⟩⟩, ?_⟩
            rw [hw64]
            simp only [intOf, Int.toNat_natCast]
            omega
        · have hi : i = st.Q.length := by omega
          subst hi
          have ho : o = none := by
            have := HFi.out
            rw [List.drop_length] at this
            simp only [firstR, Option.some.injEq] at this
            exact this.symm
          subst ho
          have hsf : (st, nn) = sf := by
            have := HDR'.out
            simpa using this
          have ht1 : decide ((st.Q.length : Int) < (st.Q.length : Int)) = false := by simp
          gi_wp2
          refine bodyPost_ret (results_none rfl _ _ _) rfl ?_
          exact ⟨⟨_, rfl⟩, _, hsf, HJ.out.keeps HK2.out, HLP.out _ _ HL.out (KeepsLoops.of_keeps HK2.out (fun _ f => f.elim))⟩
end Go.Proofs.Ytenbkljgmgdegaa.PO
