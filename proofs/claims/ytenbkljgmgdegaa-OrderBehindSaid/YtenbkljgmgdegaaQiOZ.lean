/- What the rows of this claim use, out of the texts of this work (OZ). No condition beyond those that each statement names. -/
import Derived.Test.YtenbkljgmgdegaaQiOR
import Derived.Test.YtenbkljgmgdegaaQiOY
import Derived.Test.YtenbkljgmgdegaaQiX
namespace Go.Proofs.Ytenbkljgmgdegaa.PO
open Go.RowKit Go.Proofs.YtenbkljgmgdegaaW.PrintWords Go.Proofs.YtenbkljgmgdegaaW.PrintLast Go.Proofs.YtenbkljgmgdegaaW.PrintMore Go.Proofs.Ytenbkljgmgdegaa.XW
open Go.Proofs.Ytenbkljgmgdegaa.XRange Go.Proofs.Ytenbkljgmgdegaa.XMap Go.Proofs.Ytenbkljgmgdegaa.XSeq
set_option linter.unusedVariables false
set_option linter.unusedSimpArgs false
theorem ofDot_append (l q : List S36) (d : S34) : ofDot (l ++ q) d = (ofDot l d).or (ofDot q d) := by unfold ofDot; rw [List.find?_append]
theorem dot_cases {a : AP} (hi : InvA a) (d : S34) : (∃ (y : S36) (i : Nat), ofDot (a.L ++ a.Q) d = some y ∧ i < a.L.length ∧ findIxD a.L d = i ∧ rd_T36 a.L (i : Int) = y ∧ findIxD a.Q d = -1) ∨
    (∃ (y : S36) (i : Nat), ofDot (a.L ++ a.Q) d = some y ∧ i < a.Q.length ∧ findIxD a.Q d = i ∧ rd_T36 a.Q (i : Int) = y ∧ findIxD a.L d = -1) ∨ (ofDot (a.L ++ a.Q) d = none ∧ findIxD a.L d = -1 ∧ findIxD a.Q d = -1) := by
  rw [ofDot_append]
  cases h1 : ofDot a.L d with
  | some y =>
    obtain ⟨i, e1, e2, e3⟩ := findIxD_some h1
    refine .inl ⟨y, i, rfl, e1, e2, e3, findIxD_none ?_⟩
    cases h2 : ofDot a.Q d with
    | none => rfl
    | some z =>
      exfalso
      have hn := hi.once
      rw [List.map_append, List.nodup_append] at hn
      exact hn.2.2 _ (List.mem_map.2 ⟨y, (ofDot_some h1).1, rfl⟩) _ (List.mem_map.2 ⟨z, (ofDot_some h2).1, rfl⟩) (by rw [(ofDot_some h1).2, (ofDot_some h2).2])
  | none =>
    cases h2 : ofDot a.Q d with
    | some y =>
      obtain ⟨i, e1, e2, e3⟩ := findIxD_some h2
      exact .inr (.inl ⟨y, i, rfl, e1, e2, e3, findIxD_none h1⟩)
    | none => exact .inr (.inr ⟨rfl, findIxD_none h1, findIxD_none h2⟩)
structure Box8 (w : World) (N : Nat) (x : S36) (A2 : Option Addr) (c2 : Nat) (A7 : Option Addr) (c7 : Nat) : Prop where
  e0 : w.cell? ⟨N, 0, none⟩ = some (.string x.f0.f0)
  e1 : w.cell? ⟨N, 1, none⟩ = some (.int .i64 x.f0.f1)
  e2 : w.cell? ⟨N, 2, none⟩ = some (.slice A2 x.f1.length c2)
  e3 : w.cell? ⟨N, 3, none⟩ = some (.string x.f2)
  e4 : w.cell? ⟨N, 4, none⟩ = some (.int .i64 x.f3)
  e5 : w.cell? ⟨N, 5, none⟩ = some (.string x.f4)
  e6 : w.cell? ⟨N, 6, none⟩ = some (.int .i64 x.f5)
  e7 : w.cell? ⟨N, 7, none⟩ = some (.slice A7 x.f6.length c7)
theorem box8 {w : World} {N : Nat} {x : S36} {A2 A7 : Option Addr} {c2 c7 : Nat} (h : w.heap[N]? = some (.cells #[.string x.f0.f0, .int .i64 x.f0.f1, .slice A2 x.f1.length c2, .string x.f2, .int .i64 x.f3, .string x.f4, .int .i64 x.f5, .slice A7 x.f6.length c7] 36 (0, 0))) : Box8 w N x A2 c2 A7 c7 :=
  ⟨(blk_cell h 0).trans rfl, (blk_cell h 1).trans rfl, (blk_cell h 2).trans rfl, (blk_cell h 3).trans rfl, (blk_cell h 4).trans rfl, (blk_cell h 5).trans rfl, (blk_cell h 6).trans rfl, (blk_cell h 7).trans rfl⟩
def RefS (w0 : World) (S : Nat → Prop) (g : Nat) (a : AP) (w : World) : Prop := (∃ vl vk vw, RefAt w0 S w g vl vk vw a) ∧ S g ∧ (∀ k, S k → k < w.heap.size) ∧ InvA a
theorem RefS.keeps {w0 : World} {S M : Nat → Prop} {g : Nat} {a : AP} {w w1 : World} (h : RefS w0 S g a w) (hk : Keeps M w w1) (hd : ∀ k, S k → ¬ M k) : RefS w0 S g a w1 := by
  obtain ⟨⟨vl, vk, vw, h1⟩, h2, h3, h4⟩ := h
  exact ⟨⟨vl, vk, vw, h1.move (fun k hkS hlt => hk.block k hlt (hd k (by rcases hkS with rfl | h; exact h2; exact h)))⟩, h2, fun k hS => Nat.lt_of_lt_of_le (h3 k hS) hk.size, h4⟩
theorem RefS.below {w0 : World} {S : Nat → Prop} {g : Nat} {a : AP} {w w1 : World} (h : RefS w0 S g a w) (hb : Below w.heap.size w w1) : RefS w0 S g a w1 := h.keeps (Keeps.of_below hb) (fun _ _ f => f)
theorem refS_of {w0 : World} {S : Nat → Prop} {g : Nat} {vl vk vw : Value} {a : AP} {w w' : World} (hp : RefAt w0 (fun j => S j ∨ w.heap.size ≤ j) w' g vl vk vw a) (hS : S g) (hi : InvA a) :
    ∃ S', RefS w0 S' g a w' ∧ (∀ k, S' k → S k ∨ w.heap.size ≤ k) :=
  ⟨fun j => (S j ∨ w.heap.size ≤ j) ∧ j < w'.heap.size, ⟨⟨vl, vk, vw, hp.gbound⟩, ⟨.inl hS, blk_lt hp.blk⟩, fun _ h => h.2, hi⟩, fun _ h => h.1⟩
def PutPost (w0 : World) (S : Nat → Prop) (g : Nat) (r : (Int × Int) × AP) (w : World) (e : Ending) (w' : World) : Prop :=
  ∃ S', e = .returned (.tuple #[.int .i64 r.1.1, .int .i64 r.1.2]) ∧ RefS w0 S' g r.2 w' ∧ (∀ k, S' k → S k ∨ w.heap.size ≤ k) ∧ Keeps S w w'
set_option maxHeartbeats 16000000 in
set_option maxRecDepth 100000 in
theorem refPut (w0 : World) (S : Nat → Prop) (g : Nat) (a : AP) (x : S36) (A2 : Option Addr) (c2 : Nat) (A7 : Option Addr) (c7 : Nat) (w : World) (hp : RefS w0 S g a w) (hW : Below w0.heap.size w0 w)
    (l2 : x.f1.length ≤ c2) (g2 : Kd.C k34 w0 A2 x.f1.length x.f1) (l7 : x.f6.length ≤ c7) (g7 : Kd.C k34 w0 A7 x.f6.length x.f6) (hwf : WfOp x) (hL : a.L.length ≤ 900000000000) (hS0 : ∀ k, S k → w0.heap.size ≤ k) :
    Calls Try.prog 18 #[.pointer (some ⟨g, 0, none⟩), .agg #[.string x.f0.f0, .int .i64 x.f0.f1, .slice A2 x.f1.length c2, .string x.f2, .int .i64 x.f3, .string x.f4, .int .i64 x.f5, .slice A7 x.f6.length c7]] w (PutPost w0 S g (putA a x) w) := by
  obtain ⟨⟨vl, vk, vw, hr⟩, hSg, hlt, hi⟩ := hp
  have hr' := hr.gmono (G' := fun j => S j ∨ w.heap.size ≤ j) (fun _ h => .inl h)
  have HVL := Aside0.mk (show ∀ j, vl.ownBlock = some j → S j from fun j hj => (hr.rl.1 j hj).1)
  have HVW := Aside0.mk (show ∀ j, vw.ownBlock = some j → S j from fun j hj => (hr.rq.1 j hj).1)
  obtain ⟨G, hG⟩ : ∃ G, (fun j => S j ∨ w.heap.size ≤ j) = G := ⟨_, rfl⟩
  have HGG := Aside0.mk (show ∀ j, w.heap.size ≤ j → G j from fun j hj => by rw [← hG]; exact .inr hj)
  have HFIN := Aside0.mk (show ∀ (vl vk vw : Value) (r : (Int × Int) × AP) (w' : World), putA a x = r → RefAt w0 G w' g vl vk vw r.2 → Keeps S w w' → PutPost w0 S g (putA a x) w (.returned (.tuple #[.int .i64 r.1.1, .int .i64 r.1.2])) w' from by
    intro vl vk vw r w' hr hp hk
    rw [← hG] at hp
    have hinv := (putA_inv hi x).1
    rw [hr] at hinv ⊢
    obtain ⟨S', h1, h2⟩ := refS_of hp hSg hinv
    exact ⟨S', rfl, h1, h2, hk⟩)
  rw [hG] at hr'
  obtain ⟨m, hm, hz0, hz1, hz6⟩ : ∃ m, m ≤ 9223372036854775807 ∧ x.f0.f0.size ≤ m ∧ sizes m x.f1 ∧ sizes m x.f6 := ⟨maxLen, by unfold maxLen; omega, hwf.1, hwf.2.1, hwf.2.2.2.2.2.2⟩
  have hR := refRight8_f x g2.2.1 g7.2.1 m hm hz0 hz1 hz6 (x.f6.length + x.f1.length + m + 13) (by omega)
  obtain ⟨k, hk⟩ : ∃ k, x.f6.length + x.f1.length + m + 13 = k := ⟨_, rfl⟩
  rw [hk] at hR
  have HR := Aside0.mk hR
  have HW := Aside0.mk hW
  have HS0 := Aside0.mk hS0
  have HP := Aside0.mk hr'
  have HI := Aside0.mk hi
  have HSG := Aside0.mk hSg
  have HLT := Aside0.mk hlt
  have HL2 := Aside0.mk l2
  have HL7 := Aside0.mk l7
  have HG2 := Aside0.mk g2
  have HG7 := Aside0.mk g7
  have HLL := Aside0.mk hL
  have HK0 := Aside0.mk (kAt_of l2 g2 l7 g7)
  have HQ := Aside0.mk (show a.Q.length ≤ 256 from hi.waits)
  have HKL := Aside0.mk (rightS_le hi.known).1
  have HGL := Aside0.mk (blk_lt hr.blk)
  obtain ⟨N, hN⟩ : ∃ N, w.heap.size = N := ⟨_, rfl⟩
  have NG := Aside0.mk (show N ≠ g from by have := HGL.out; omega)
  clear hr hr' hSg hlt hi hG hwf hm hz0 hz1 hz6 hR hk hW l2 l7 g2 g7 hL hS0
  go_enter Try.func18, Try.ntmps18
  go_wp2_with fail
  obtain ⟨w1, hw1⟩ : ∃ w1, w.alloc (.cells #[.string x.f0.f0, .int .i64 x.f0.f1, .slice A2 x.f1.length c2, .string x.f2, .int .i64 x.f3, .string x.f4, .int .i64 x.f5, .slice A7 x.f6.length c7] 36) = w1 := ⟨_, rfl⟩
  have hb1 : Below w.heap.size w w1 := by rw [← hw1]; exact (Below.refl _ w).alloc (Nat.le_refl _) _
  have hbk : w1.heap[N]? = some (.cells #[.string x.f0.f0, .int .i64 x.f0.f1, .slice A2 x.f1.length c2, .string x.f2, .int .i64 x.f3, .string x.f4, .int .i64 x.f5, .slice A7 x.f6.length c7] 36 (0, 0)) := by rw [← hw1, ← hN]; exact World.alloc_heap_new w _
  first | rw [hw1] | (rw [hN] at hw1; rw [hw1]) | skip
  try rw [hN]
  have HB1 := Aside0.mk hb1
  have BK := Aside0.mk hbk
  clear hw1 hb1 hbk
  refine (pannierref08_Right.calls k x.f0.f0 x.f0.f1 A2 c2 x.f1 x.f2 x.f3 x.f4 x.f5 A7 c7 x.f6 (rightO x) _ (Kd.C_below HG2.out (HW.out.trans (HB1.out.mono HW.out.size))) HL2.out (Kd.C_below HG7.out (HW.out.trans (HB1.out.mono HW.out.size))) HL7.out HR.out).mono ?_
  rintro e w2 ⟨rfl, hb2⟩
  have HB2 := Aside0.mk (show Below w.heap.size w w2 from by first | exact HB1.out.trans (hb2.mono HB1.out.size) | exact HB1.out.trans (hb2.below.mono HB1.out.size))
  have BK2 := Aside0.mk (show w2.heap[N]? = some (.cells #[.string x.f0.f0, .int .i64 x.f0.f1, .slice A2 x.f1.length c2, .string x.f2, .int .i64 x.f3, .string x.f4, .int .i64 x.f5, .slice A7 x.f6.length c7] 36 (0, 0)) from by first | exact blk_below BK.out hb2 | exact blk_below BK.out hb2.below)
  clear hb2 BK HB1
  obtain ⟨br, hbr⟩ : ∃ b, rightO x = b := ⟨_, rfl⟩
  rw [hbr]
  cases br with
  | false =>
    have HPU := Aside0.mk (show putA a x = ((0, 2), a) from by unfold putA; rw [if_neg (by rw [hbr]; simp)])
    clear hbr
    go_wp2
    go_ret2
    exact HFIN.out vl vk vw ((0, 2), a) w2 HPU.out (HP.out.below HB2.out) (keeps_weak (M := fun _ => False) (Keeps.of_below HB2.out) (fun _ f => f.elim))
  | true =>
    have HXR := Aside0.mk hbr
    clear hbr
    have HP2 := Aside0.mk (HP.out.below HB2.out)
    have HF1 := Aside0.mk (refFind_f a.L (by have := HLL.out; omega) x.f0 (a.L.length + 1) (by omega))
    have HF2 := Aside0.mk (refFind_f a.Q (by have := HQ.out; omega) x.f0 (a.Q.length + 1) (by omega))
    obtain ⟨Al, cl, rfl⟩ := Kd.R_slice HP.out.rl
    obtain ⟨Ak, ck, rfl⟩ := Kd.R_slice HP.out.rk
    obtain ⟨Aw, cw, rfl⟩ := Kd.R_slice HP.out.rq
    obtain ⟨i, hfi⟩ : ∃ i, findIxD a.L x.f0 = i := ⟨_, rfl⟩
    obtain ⟨k2, hfk⟩ : ∃ i, findIxD a.Q x.f0 = i := ⟨_, rfl⟩
    have hf1 := HF1.out
    have hf2 := HF2.out
    rw [hfi] at hf1
    rw [hfk] at hf2
    have HF1' := Aside0.mk hf1
    have HF2' := Aside0.mk hf2
    have HFI := Aside0.mk hfi
    have HFK := Aside0.mk hfk
    clear hf1 hf2 hfi hfk HF1 HF2
    go_wp2
    refine start_ (n := 8) (ds := []) (S := fun w' => w'.cell? ⟨g, 0, none⟩ = some (.slice Al a.L.length cl) ∧ w'.cell? ⟨N, 0, none⟩ = some (.string x.f0.f0) ∧ w'.cell? ⟨N, 1, none⟩ = some (.int .i64 x.f0.f1)) _ (by kernel_rfl) rfl rfl
      ⟨(blk_cell (blk_drew HP2.out.blk) 0).trans rfl, (blk_cell (blk_drew BK2.out) 0).trans rfl, (blk_cell (blk_drew BK2.out) 1).trans rfl⟩ (fun hH => ?_)
    refine XReg.pu 0 16 (h := ?_)
    refine XReg.pu 1 17 (h := ?_)
    refine XReg.pu 2 18 (h := ?_)
    refine XReg.tk 3 19 (h := ?_)
    refine XReg.pu 4 20 (h := ?_)
    refine XReg.tk 5 21 (h := ?_)
    refine XReg.one (i := 6) (some 22) rfl rfl (by kernel_rfl) (by decide) (fun Kc hKc => ?_)
    refine goes_ Try.func56 (by kernel_rfl) rfl #[.slice Al a.L.length cl, .agg #[.string x.f0.f0, .int .i64 x.f0.f1]] (by rfl) rfl rfl (by (try simp only [List.map_toArray, List.map_cons, List.map_nil]); first | done | rfl) ?_
    refine (pannierref08_find.calls (a.L.length + 1) Al cl a.L x.f0.f0 x.f0.f1 i _ (Kd.C_drew (kAt_C (Kd.R_reads' HP2.out.rl).2.2 (HW.out.trans (HB2.out.mono HW.out.size)))) (Kd.R_reads' HP2.out.rl).2.1 HF1'.out).mono ?_
    rintro e w3 ⟨rfl, hd3⟩
    refine ⟨_, rfl, ?_⟩
    have hb3 : Below w2.heap.size w2 w3 := ⟨hd3.os, hd3.tape, hd3.output, hd3.size, hd3.block⟩
    have HB3 := Aside0.mk (show Below w.heap.size w w3 from HB2.out.trans (hb3.mono HB2.out.size))
    have HP3 := Aside0.mk (HP2.out.below hb3)
    have BK3 := Aside0.mk (blk_below BK2.out hb3)
    refine hKc.out _ _ ⟨(blk_cell HP3.out.blk 0).trans rfl, (blk_cell BK3.out 0).trans rfl, (blk_cell BK3.out 1).trans rfl⟩ (fun hH2 => ?_)
    clear hKc Kc hH hd3 hb3 HP2 BK2 HB2 HF1'
    refine XReg.pu 7 7 (h := ?_)
    refine done_ (by kernel_rfl) ?_
    clear hH2
    go_wp2
    refine start_ (n := 8) (ds := []) (S := fun w' => w'.cell? ⟨g, 2, none⟩ = some (.slice Aw a.Q.length cw) ∧ w'.cell? ⟨N, 0, none⟩ = some (.string x.f0.f0) ∧ w'.cell? ⟨N, 1, none⟩ = some (.int .i64 x.f0.f1)) _ (by kernel_rfl) rfl rfl
      ⟨(blk_cell (blk_drew HP3.out.blk) 2).trans rfl, (blk_cell (blk_drew BK3.out) 0).trans rfl, (blk_cell (blk_drew BK3.out) 1).trans rfl⟩ (fun hH => ?_)
    refine XReg.pu 0 23 (h := ?_)
    refine XReg.pu 1 24 (h := ?_)
    refine XReg.pu 2 25 (h := ?_)
    refine XReg.tk 3 26 (h := ?_)
    refine XReg.pu 4 27 (h := ?_)
    refine XReg.tk 5 28 (h := ?_)
    refine XReg.one (i := 6) (some 29) rfl rfl (by kernel_rfl) (by decide) (fun Kc hKc => ?_)
    refine goes_ Try.func56 (by kernel_rfl) rfl #[.slice Aw a.Q.length cw, .agg #[.string x.f0.f0, .int .i64 x.f0.f1]] (by rfl) rfl rfl (by (try simp only [List.map_toArray, List.map_cons, List.map_nil]); first | done | rfl) ?_
    refine (pannierref08_find.calls (a.Q.length + 1) Aw cw a.Q x.f0.f0 x.f0.f1 k2 _ (Kd.C_drew (kAt_C (Kd.R_reads' HP3.out.rq).2.2 (HW.out.trans (HB3.out.mono HW.out.size)))) (Kd.R_reads' HP3.out.rq).2.1 HF2'.out).mono ?_
    rintro e w4 ⟨rfl, hd4⟩
    refine ⟨_, rfl, ?_⟩
    have hb4 : Below w3.heap.size w3 w4 := ⟨hd4.os, hd4.tape, hd4.output, hd4.size, hd4.block⟩
    have HB4 := Aside0.mk (show Below w.heap.size w w4 from HB3.out.trans (hb4.mono HB3.out.size))
    have HP4 := Aside0.mk (HP3.out.below hb4)
    have BK4 := Aside0.mk (blk_below BK3.out hb4)
    refine hKc.out _ _ ⟨(blk_cell HP4.out.blk 2).trans rfl, (blk_cell BK4.out 0).trans rfl, (blk_cell BK4.out 1).trans rfl⟩ (fun hH2 => ?_)
    clear hKc Kc hH hd4 hb4 HP3 BK3 HB3 HF2'
    refine XReg.pu 7 8 (h := ?_)
    refine done_ (by kernel_rfl) ?_
    clear hH2
    have HKE := Aside0.mk (show Keeps S w w4 from keeps_weak (M := fun _ => False) (Keeps.of_below HB4.out) (fun _ f => f.elim))
    go_wp2
    rcases dot_cases HI.out x.f0 with ⟨y, i0, hof, hil, hii, hiy, hkk⟩ | ⟨y, i0, hof, hil, hkk, hiy, hii⟩ | ⟨hof, hii, hkk⟩
    · have hiv : i = (i0 : Int) := by rw [← HFI.out]; exact hii
      have hkv : k2 = -1 := by rw [← HFK.out]; exact hkk
      subst hiv
      subst hkv
      obtain ⟨ad, B2, d2, B7, d7, hAl, hop⟩ := opAt0 (Kd.R_reads' HP4.out.rl).2.2 i0 hil
      subst hAl
      rw [hiy] at hop
      have HOP := Aside0.mk hop
      have HOF := Aside0.mk hof
      have hb3 : 0 ≤ (i0 : Int) ∧ (i0 : Int) < (a.L.length : Int) := by omega
      have HYR := Aside0.mk (rightO_parts (HI.out.right y (ofDot_some hof).1))
      have HEQ := Aside0.mk (refEqual_f y x (by have := HYR.out; omega) (by have := HYR.out; omega) 1000 (by have := HYR.out; omega) (by have := HYR.out; omega))
      clear hop hof hii hkk hiy
      refine start_ (n := 30) (ds := []) (S := fun w' => (w'.cell? ⟨g, 0, none⟩ = some (.slice (some ad) a.L.length cl) ∧ w'.cell? ⟨g, 2, none⟩ = some (.slice Aw a.Q.length cw)) ∧ Box8 w' N x A2 c2 A7 c7 ∧ OpAt0 w0 w' (ad.add (i0 * 8)) y B2 d2 B7 d7) _ (by kernel_rfl) rfl rfl
        ⟨⟨(blk_cell (blk_drew HP4.out.blk) 0).trans rfl, (blk_cell (blk_drew HP4.out.blk) 2).trans rfl⟩, box8 (blk_drew BK4.out), HOP.out.below (below_drew1 (Below.refl _ w4))⟩ (fun hH => ?_)
      refine XReg.pu 0 30 (h := ?_)
      refine XReg.pu 1 31 (h := ?_)
      refine XReg.pu 2 32 (h := ?_)
      refine XReg.pu 3 33 (h := ?_)
      refine XReg.pu 4 34 (h := ?_)
      refine XReg.pu 5 35 (h := ?_)
      refine XReg.tk 6 36 (hy := by (intro w' hS_; obtain ⟨⟨s0, s1⟩, _, _⟩ := hS_; go_simp; with_reducible rfl)) (h := ?_)
      refine XReg.pu 7 37 (h := ?_)
      refine XReg.pu 8 38 (h := ?_)
      refine XReg.tk 9 39 (hy := by (intro w' hS_; obtain ⟨_, _, ⟨s0, s1, s2, s3, s4, s5, s6, s7, _, _, _, _⟩⟩ := hS_; go_simp; with_reducible rfl)) (h := ?_)
      refine XReg.tk 10 40 (hy := by (intro w' hS_; obtain ⟨_, ⟨s0, s1, s2, s3, s4, s5, s6, s7⟩, _⟩ := hS_; go_simp; with_reducible rfl)) (h := ?_)
      refine XReg.one (i := 11) (some 41) rfl rfl (by kernel_rfl) (by decide) (fun Kc hKc => ?_)
      refine goes_ Try.func48 (by kernel_rfl) rfl #[.agg #[.string y.f0.f0, .int .i64 y.f0.f1, .slice B2 y.f1.length d2, .string y.f2, .int .i64 y.f3, .string y.f4, .int .i64 y.f5, .slice B7 y.f6.length d7], .agg #[.string x.f0.f0, .int .i64 x.f0.f1, .slice A2 x.f1.length c2, .string x.f2, .int .i64 x.f3, .string x.f4, .int .i64 x.f5, .slice A7 x.f6.length c7]] (by rfl) rfl rfl (by (try simp only [List.map_toArray, List.map_cons, List.map_nil]); first | done | rfl) ?_
      have hWd : Below w0.heap.size w0 w4.drew := below_drew1 (HW.out.trans (HB4.out.mono HW.out.size))
      refine (pannierref08_Equal.calls 1000 y.f0.f0 y.f0.f1 B2 d2 y.f1 y.f2 y.f3 y.f4 y.f5 B7 d7 y.f6 x.f0.f0 x.f0.f1 A2 c2 x.f1 x.f2 x.f3 x.f4 x.f5 A7 c7 x.f6 (decide (y = x)) _ (Kd.C_below HOP.out.g2 hWd) HOP.out.l2 (Kd.C_below HOP.out.g7 hWd) HOP.out.l7 (Kd.C_below HG2.out hWd) HL2.out (Kd.C_below HG7.out hWd) HL7.out HEQ.out).mono ?_
      rintro e w5 ⟨rfl, hd5⟩
      refine ⟨_, rfl, ?_⟩
      have hb5 : Below w4.heap.size w4 w5 := by first | exact ⟨hd5.os, hd5.tape, hd5.output, hd5.size, hd5.block⟩ | (have h := hd5.below; exact ⟨h.os, h.tape, h.output, h.size, h.block⟩)
      have HB5 := Aside0.mk (show Below w.heap.size w w5 from HB4.out.trans (hb5.mono HB4.out.size))
      have HP5 := Aside0.mk (HP4.out.below hb5)
      refine hKc.out _ _ ⟨⟨(blk_cell HP5.out.blk 0).trans rfl, (blk_cell HP5.out.blk 2).trans rfl⟩, box8 (blk_below BK4.out hb5), HOP.out.below hb5⟩ (fun hH2 => ?_)
      clear hKc Kc hH hd5 hb5 hWd
      have HKE5 := Aside0.mk (show Keeps S w w5 from keeps_weak (M := fun _ => False) (Keeps.of_below HB5.out) (fun _ f => f.elim))
      obtain ⟨be, hbe⟩ : ∃ b, decide (y = x) = b := ⟨_, rfl⟩
      rw [hbe]
      cases be with
      | false =>
        have HPU := Aside0.mk (show putA a x = ((0, 81), a) from by unfold putA; rw [if_pos HXR.out, HOF.out]; simp only; rw [if_neg (by simpa using hbe)])
        clear hbe
        refine XReg.pu 12 42 (h := ?_)
        refine XReg.pu 13 43 (h := ?_)
        refine XReg.pu 14 44 (h := ?_)
        refine XReg.pn 15 45 (h := ?_)
        refine XReg.pn 16 46 (h := ?_)
        refine XReg.pn 17 47 (h := ?_)
        refine XReg.pn 18 48 (h := ?_)
        refine XReg.pn 19 49 (h := ?_)
        refine XReg.pn 20 50 (h := ?_)
        refine XReg.pn 21 51 (h := ?_)
        refine XReg.pn 22 52 (h := ?_)
        refine XReg.pn 23 53 (h := ?_)
        refine XReg.pn 24 54 (h := ?_)
        refine XReg.pn 25 55 (h := ?_)
        refine XReg.pn 26 56 (h := ?_)
        refine XReg.pn 27 57 (h := ?_)
        refine XReg.pn 28 58 (h := ?_)
        refine XReg.pu 29 59 (h := ?_)
        refine done_ (by kernel_rfl) ?_
        clear hH2
        go_wp2
        go_ret2
        exact HFIN.out _ _ _ ((0, 81), a) w5 HPU.out HP5.out HKE5.out
      | true =>
        have HPU := Aside0.mk (show putA a x = ((0, 0), a) from by unfold putA; rw [if_pos HXR.out, HOF.out]; simp only; rw [if_pos (by simpa using hbe)])
        clear hbe
        refine XReg.pu 12 42 (h := ?_)
        refine XReg.pu 13 43 (h := ?_)
        refine XReg.pu 14 44 (h := ?_)
        refine XReg.pu 15 45 (h := ?_)
        refine XReg.pu 16 46 (h := ?_)
        refine XReg.pu 17 47 (h := ?_)
        refine XReg.pn 18 48 (h := ?_)
        refine XReg.pn 19 49 (h := ?_)
        refine XReg.pn 20 50 (h := ?_)
        refine XReg.pn 21 51 (h := ?_)
        refine XReg.pn 22 52 (h := ?_)
        refine XReg.pn 23 53 (h := ?_)
        refine XReg.pn 24 54 (h := ?_)
        refine XReg.pn 25 55 (h := ?_)
        refine XReg.pn 26 56 (h := ?_)
        refine XReg.pn 27 57 (h := ?_)
        refine XReg.pu 28 58 (h := ?_)
        refine XReg.pu 29 59 (h := ?_)
        refine done_ (by kernel_rfl) ?_
        clear hH2
        go_wp2
        go_ret2
        exact HFIN.out _ _ _ ((0, 0), a) w5 HPU.out HP5.out HKE5.out
    · have hiv : i = -1 := by rw [← HFI.out]; exact hii
      have hkv : k2 = (i0 : Int) := by rw [← HFK.out]; exact hkk
      subst hiv
      subst hkv
      obtain ⟨ad, B2, d2, B7, d7, hAl, hop⟩ := opAt0 (Kd.R_reads' HP4.out.rq).2.2 i0 hil
      subst hAl
      rw [hiy] at hop
      have HOP := Aside0.mk hop
      have HOF := Aside0.mk hof
      have hb3 : 0 ≤ (i0 : Int) ∧ (i0 : Int) < (a.Q.length : Int) := by omega
      have HYR := Aside0.mk (rightO_parts (HI.out.right y (ofDot_some hof).1))
      have HEQ := Aside0.mk (refEqual_f y x (by have := HYR.out; omega) (by have := HYR.out; omega) 1000 (by have := HYR.out; omega) (by have := HYR.out; omega))
      clear hop hof hii hkk hiy
      refine start_ (n := 30) (ds := []) (S := fun w' => (w'.cell? ⟨g, 0, none⟩ = some (.slice Al a.L.length cl) ∧ w'.cell? ⟨g, 2, none⟩ = some (.slice (some ad) a.Q.length cw)) ∧ Box8 w' N x A2 c2 A7 c7 ∧ OpAt0 w0 w' (ad.add (i0 * 8)) y B2 d2 B7 d7) _ (by kernel_rfl) rfl rfl
        ⟨⟨(blk_cell (blk_drew HP4.out.blk) 0).trans rfl, (blk_cell (blk_drew HP4.out.blk) 2).trans rfl⟩, box8 (blk_drew BK4.out), HOP.out.below (below_drew1 (Below.refl _ w4))⟩ (fun hH => ?_)
      refine XReg.pu 0 30 (h := ?_)
      refine XReg.pu 1 31 (h := ?_)
      refine XReg.pu 2 32 (h := ?_)
      refine XReg.pn 3 33 (h := ?_)
      refine XReg.pn 4 34 (h := ?_)
      refine XReg.pn 5 35 (h := ?_)
      refine XReg.pn 6 36 (h := ?_)
      refine XReg.pn 7 37 (h := ?_)
      refine XReg.pn 8 38 (h := ?_)
      refine XReg.pn 9 39 (h := ?_)
      refine XReg.pn 10 40 (h := ?_)
      refine XReg.pn 11 41 (h := ?_)
      refine XReg.pn 12 42 (h := ?_)
      refine XReg.pu 13 43 (h := ?_)
      refine XReg.pu 14 44 (h := ?_)
      refine XReg.pu 15 45 (h := ?_)
      refine XReg.pu 16 46 (h := ?_)
      refine XReg.pu 17 47 (h := ?_)
      refine XReg.pu 18 48 (h := ?_)
      refine XReg.pu 19 49 (h := ?_)
      refine XReg.pu 20 50 (h := ?_)
      refine XReg.tk 21 51 (hy := by (intro w' hS_; obtain ⟨⟨s0, s1⟩, _, _⟩ := hS_; go_simp; with_reducible rfl)) (h := ?_)
      refine XReg.pu 22 52 (h := ?_)
      refine XReg.pu 23 53 (h := ?_)
      refine XReg.tk 24 54 (hy := by (intro w' hS_; obtain ⟨_, _, ⟨s0, s1, s2, s3, s4, s5, s6, s7, _, _, _, _⟩⟩ := hS_; go_simp; with_reducible rfl)) (h := ?_)
      refine XReg.tk 25 55 (hy := by (intro w' hS_; obtain ⟨_, ⟨s0, s1, s2, s3, s4, s5, s6, s7⟩, _⟩ := hS_; go_simp; with_reducible rfl)) (h := ?_)
      refine XReg.one (i := 26) (some 56) rfl rfl (by kernel_rfl) (by decide) (fun Kc hKc => ?_)
      refine goes_ Try.func48 (by kernel_rfl) rfl #[.agg #[.string y.f0.f0, .int .i64 y.f0.f1, .slice B2 y.f1.length d2, .string y.f2, .int .i64 y.f3, .string y.f4, .int .i64 y.f5, .slice B7 y.f6.length d7], .agg #[.string x.f0.f0, .int .i64 x.f0.f1, .slice A2 x.f1.length c2, .string x.f2, .int .i64 x.f3, .string x.f4, .int .i64 x.f5, .slice A7 x.f6.length c7]] (by rfl) rfl rfl (by (try simp only [List.map_toArray, List.map_cons, List.map_nil]); first | done | rfl) ?_
      have hWd : Below w0.heap.size w0 w4.drew := below_drew1 (HW.out.trans (HB4.out.mono HW.out.size))
      refine (pannierref08_Equal.calls 1000 y.f0.f0 y.f0.f1 B2 d2 y.f1 y.f2 y.f3 y.f4 y.f5 B7 d7 y.f6 x.f0.f0 x.f0.f1 A2 c2 x.f1 x.f2 x.f3 x.f4 x.f5 A7 c7 x.f6 (decide (y = x)) _ (Kd.C_below HOP.out.g2 hWd) HOP.out.l2 (Kd.C_below HOP.out.g7 hWd) HOP.out.l7 (Kd.C_below HG2.out hWd) HL2.out (Kd.C_below HG7.out hWd) HL7.out HEQ.out).mono ?_
      rintro e w5 ⟨rfl, hd5⟩
      refine ⟨_, rfl, ?_⟩
      have hb5 : Below w4.heap.size w4 w5 := ⟨hd5.os, hd5.tape, hd5.output, hd5.size, hd5.block⟩
      have HB5 := Aside0.mk (show Below w.heap.size w w5 from HB4.out.trans (hb5.mono HB4.out.size))
      have HP5 := Aside0.mk (HP4.out.below hb5)
      refine hKc.out _ _ ⟨⟨(blk_cell HP5.out.blk 0).trans rfl, (blk_cell HP5.out.blk 2).trans rfl⟩, box8 (blk_below BK4.out hb5), HOP.out.below hb5⟩ (fun hH2 => ?_)
      clear hKc Kc hH hd5 hb5 hWd
      have HKE5 := Aside0.mk (show Keeps S w w5 from keeps_weak (M := fun _ => False) (Keeps.of_below HB5.out) (fun _ f => f.elim))
      obtain ⟨be, hbe⟩ : ∃ b, decide (y = x) = b := ⟨_, rfl⟩
      rw [hbe]
      cases be with
      | false =>
        have HPU := Aside0.mk (show putA a x = ((0, 81), a) from by unfold putA; rw [if_pos HXR.out, HOF.out]; simp only; rw [if_neg (by simpa using hbe)])
        clear hbe
        refine XReg.pu 27 57 (h := ?_)
        refine XReg.pu 28 58 (h := ?_)
        refine XReg.pu 29 59 (h := ?_)
        refine done_ (by kernel_rfl) ?_
        clear hH2
        go_wp2
        go_ret2
        exact HFIN.out _ _ _ ((0, 81), a) w5 HPU.out HP5.out HKE5.out
      | true =>
        have HPU := Aside0.mk (show putA a x = ((0, 0), a) from by unfold putA; rw [if_pos HXR.out, HOF.out]; simp only; rw [if_pos (by simpa using hbe)])
        clear hbe
        refine XReg.pu 27 57 (h := ?_)
        refine XReg.pu 28 58 (h := ?_)
        refine XReg.pu 29 59 (h := ?_)
        refine done_ (by kernel_rfl) ?_
        clear hH2
        go_wp2
        go_ret2
        exact HFIN.out _ _ _ ((0, 0), a) w5 HPU.out HP5.out HKE5.out
    · have hiv : i = -1 := by rw [← HFI.out]; exact hii
      have hkv : k2 = -1 := by rw [← HFK.out]; exact hkk
      subst hiv
      subst hkv
      have HOF := Aside0.mk hof
      clear hof hii hkk
      refine start_ (n := 30) (ds := []) (S := fun w' => True) _ (by kernel_rfl) rfl rfl trivial (fun hH => ?_)
      refine XReg.pu 0 30 (h := ?_)
      refine XReg.pu 1 31 (h := ?_)
      refine XReg.pu 2 32 (h := ?_)
      refine XReg.pn 3 33 (h := ?_)
      refine XReg.pn 4 34 (h := ?_)
      refine XReg.pn 5 35 (h := ?_)
      refine XReg.pn 6 36 (h := ?_)
      refine XReg.pn 7 37 (h := ?_)
      refine XReg.pn 8 38 (h := ?_)
      refine XReg.pn 9 39 (h := ?_)
      refine XReg.pn 10 40 (h := ?_)
      refine XReg.pn 11 41 (h := ?_)
      refine XReg.pn 12 42 (h := ?_)
      refine XReg.pu 13 43 (h := ?_)
      refine XReg.pu 14 44 (h := ?_)
      refine XReg.pu 15 45 (h := ?_)
      refine XReg.pu 16 46 (h := ?_)
      refine XReg.pu 17 47 (h := ?_)
      refine XReg.pn 18 48 (h := ?_)
      refine XReg.pn 19 49 (h := ?_)
      refine XReg.pn 20 50 (h := ?_)
      refine XReg.pn 21 51 (h := ?_)
      refine XReg.pn 22 52 (h := ?_)
      refine XReg.pn 23 53 (h := ?_)
      refine XReg.pn 24 54 (h := ?_)
      refine XReg.pn 25 55 (h := ?_)
      refine XReg.pn 26 56 (h := ?_)
      refine XReg.pn 27 57 (h := ?_)
      refine XReg.pu 28 58 (h := ?_)
      refine XReg.pu 29 59 (h := ?_)
      refine done_ (by kernel_rfl) ?_
      clear hH
      go_wp2
      have HAT := Aside0.mk (refAt_f x.f0.f0 a.K (by have := HKL.out; omega) 100 (by have := HKL.out; omega))
      obtain ⟨at', hat'⟩ : ∃ v, atS x.f0.f0 a.K = v := ⟨_, rfl⟩
      have hat2 := HAT.out
      rw [hat'] at hat2
      have HAT2 := Aside0.mk hat2
      have HAE := Aside0.mk hat'
      clear hat2 hat' HAT
      refine start_ (n := 17) (ds := []) (S := fun w' => w'.cell? ⟨g, 1, none⟩ = some (.slice Ak a.K.length ck) ∧ w'.cell? ⟨N, 0, none⟩ = some (.string x.f0.f0)) _ (by kernel_rfl) rfl rfl
        ⟨(blk_cell (blk_drew (blk_drew HP4.out.blk)) 1).trans rfl, (blk_cell (blk_drew (blk_drew BK4.out)) 0).trans rfl⟩ (fun hH => ?_)
      refine XReg.pu 0 66 (h := ?_)
      refine XReg.pu 1 67 (h := ?_)
      refine XReg.pu 2 68 (h := ?_)
      refine XReg.tk 3 69 (h := ?_)
      refine XReg.pu 4 70 (h := ?_)
      refine XReg.pu 5 71 (h := ?_)
      refine XReg.tk 6 72 (h := ?_)
      refine XReg.one (i := 7) (some 73) rfl rfl (by kernel_rfl) (by decide) (fun Kc hKc => ?_)
      refine goes_ Try.func57 (by kernel_rfl) rfl #[.slice Ak a.K.length ck, .string x.f0.f0] (by rfl) rfl rfl (by (try simp only [List.map_toArray, List.map_cons, List.map_nil]); first | done | rfl) ?_
      refine (pannierref07_At.calls 100 Ak ck a.K x.f0.f0 at' _ (Kd.C_drew (Kd.C_drew (Kd.R_reads' HP4.out.rk).2.2)) (Kd.R_reads' HP4.out.rk).2.1 HAT2.out).mono ?_
      rintro e w5 ⟨rfl, hd5⟩
      refine ⟨_, rfl, ?_⟩
      have hb5 : Below w4.heap.size w4 w5 := by first | exact ⟨hd5.os, hd5.tape, hd5.output, hd5.size, hd5.block⟩ | (have h := hd5.below; exact ⟨h.os, h.tape, h.output, h.size, h.block⟩)
      have HB5 := Aside0.mk (show Below w.heap.size w w5 from HB4.out.trans (hb5.mono HB4.out.size))
      have HP5 := Aside0.mk (HP4.out.below hb5)
      have BK5 := Aside0.mk (blk_below BK4.out hb5)
      refine hKc.out _ _ ⟨(blk_cell HP5.out.blk 1).trans rfl, (blk_cell BK5.out 0).trans rfl⟩ (fun hH2 => ?_)
      clear hKc Kc hH hd5 hb5 HP4 BK4 HB4
      have HKE5 := Aside0.mk (show Keeps S w w5 from keeps_weak (M := fun _ => False) (Keeps.of_below HB5.out) (fun _ f => f.elim))
      obtain ⟨bz, hbz⟩ : ∃ b, (at' == 0) = b := ⟨_, rfl⟩
      refine XReg.pu 8 74 (h := ?_)
      try rw [hbz]
      refine XReg.pu 9 75 (h := ?_)
      have HBZ := Aside0.mk hbz
      by_cases hrm : bz = true ∧ a.K.length = 64
      · obtain ⟨rfl, h64⟩ := hrm
        have HPU := Aside0.mk (show putA a x = ((0, 70), a) from by unfold putA; rw [if_pos HXR.out, HOF.out]; simp only; rw [if_pos ⟨by have h := HBZ.out; rw [← HAE.out] at h; simpa using h, h64⟩])
        clear hbz
        refine XReg.pu 10 76 (h := ?_)
        refine XReg.pu 11 77 (h := ?_)
        refine XReg.pu 12 78 (h := ?_)
        refine XReg.tk 13 79 (h := ?_)
        refine XReg.pu 14 80 (h := ?_)
        have hq : decide ((64 : Int) ≤ (a.K.length : Int)) = true := by simp; omega
        refine XReg.pu 15 81 (h := ?_)
        try rw [hq]
        refine XReg.pu 16 82 (h := ?_)
        refine done_ (by kernel_rfl) ?_
        clear hH2 h64 hq
        go_wp2
        go_ret2
        exact HFIN.out _ _ _ ((0, 70), a) w5 HPU.out HP5.out HKE5.out
      have HRM := Aside0.mk (show ¬ (atS x.f0.f0 a.K = 0 ∧ a.K.length = 64) from fun hc => hrm ⟨by rw [← HBZ.out, ← HAE.out, hc.1]; rfl, hc.2⟩)
      cases bz
      clear hbz hrm
      refine XReg.pn 10 76 (h := ?_)
      refine XReg.pn 11 77 (h := ?_)
      refine XReg.pn 12 78 (h := ?_)
      refine XReg.pn 13 79 (h := ?_)
      refine XReg.pn 14 80 (h := ?_)
      refine XReg.pn 15 81 (h := ?_)
      refine XReg.pu 16 82 (h := ?_)
      refine done_ (by kernel_rfl) ?_
      rotate_left
      have h64 : ¬ a.K.length = 64 := fun h => hrm ⟨rfl, h⟩
      clear hbz hrm
      refine XReg.pu 10 76 (h := ?_)
      refine XReg.pu 11 77 (h := ?_)
      refine XReg.pu 12 78 (h := ?_)
      refine XReg.tk 13 79 (h := ?_)
      refine XReg.pu 14 80 (h := ?_)
      have hq : decide ((64 : Int) ≤ (a.K.length : Int)) = false := by have := HKL.out; simp; omega
      refine XReg.pu 15 81 (h := ?_)
      try rw [hq]
      refine XReg.pu 16 82 (h := ?_)
      refine done_ (by kernel_rfl) ?_
      clear h64 hq
      all_goals
        clear hH2
        obtain ⟨e0, e1, e2, e3, e4, e5, e6, e7⟩ := box8 BK5.out
        go_wp2_with fail
        refine (refCan w0 G g _ _ _ a x A2 c2 A7 c7 w5 HP5.out HI.out.known HXR.out HL2.out (Kd.C_below HG2.out (HW.out.trans (HB5.out.mono HW.out.size)))).mono ?_
        rintro e w6 ⟨rfl, hb6⟩
        have HB6 := Aside0.mk (show Below w.heap.size w w6 from HB5.out.trans (hb6.mono HB5.out.size))
        have HP6 := Aside0.mk (HP5.out.below hb6)
        have BK6 := Aside0.mk (blk_below BK5.out hb6)
        have HKE6 := Aside0.mk (show Keeps S w w6 from keeps_weak (M := fun _ => False) (Keeps.of_below HB6.out) (fun _ f => f.elim))
        clear hb6 e0 e1 e2 e3 e4 e5 e6 e7 HP5 BK5 HB5 HKE5
        obtain ⟨bl, hbl⟩ : ∃ b, leqS x.f1 a.K = b := ⟨_, rfl⟩
        rw [hbl]
        have HBL := Aside0.mk hbl
        clear hbl
        cases bl with
        | false =>
          have cq : w6.cell? ⟨g, 2, none⟩ = some (.slice Aw a.Q.length cw) := (blk_cell HP6.out.blk 2).trans rfl
          by_cases h256 : a.Q.length = 256
          · have hq : decide ((256 : Int) ≤ (a.Q.length : Int)) = true := by simp; omega
            have HPU := Aside0.mk (show putA a x = ((0, 82), a) from by unfold putA; rw [if_pos HXR.out, HOF.out]; simp only; rw [if_neg HRM.out, if_neg (by rw [HBL.out]; simp), if_pos h256])
            have hge : 256 ≤ a.Q.length := by omega
            clear h256
            go_wp2
            go_ret2
            exact HFIN.out _ _ _ ((0, 82), a) w6 HPU.out HP6.out HKE6.out
          · have hq : decide ((256 : Int) ≤ (a.Q.length : Int)) = false := by have := HQ.out; simp; omega
            have HPU := Aside0.mk (show putA a x = ((0, 0), { a with Q := a.Q ++ [x] }) from by unfold putA; rw [if_pos HXR.out, HOF.out]; simp only; rw [if_neg HRM.out, if_neg (by rw [HBL.out]; simp), if_neg h256])
            have hge : a.Q.length < 256 := by have := HQ.out; omega
            clear h256
            go_wp2
            refine start_ (n := 11) (ds := [10]) (S := fun w' => w'.cell? ⟨g, 2, none⟩ = some (.slice Aw a.Q.length cw) ∧ Box8 w' N x A2 c2 A7 c7) _ (by kernel_rfl) rfl rfl ⟨(blk_cell (blk_drew HP6.out.blk) 2).trans rfl, box8 (blk_drew BK6.out)⟩ (fun hH => ?_)
            refine XReg.pu 0 93 (h := ?_)
            refine XReg.pu 1 94 (h := ?_)
            refine XReg.pu 2 95 (h := ?_)
            refine XReg.pu 3 96 (h := ?_)
            refine XReg.tk 4 97 (hy := by (intro w' hS_; obtain ⟨s0, _⟩ := hS_; go_simp; with_reducible rfl)) (h := ?_)
            refine XReg.tk 5 98 (hy := by (intro w' hS_; obtain ⟨_, ⟨s0, s1, s2, s3, s4, s5, s6, s7⟩⟩ := hS_; go_simp; with_reducible rfl)) (h := ?_)
            refine XReg.one (i := 6) (some 99) rfl rfl (by kernel_rfl) (by decide) (fun Kc hKc => ?_)
            go_simp
            refine hKc.out _ _ ⟨(blk_cell (blk_alloc (blk_drew HP6.out.blk) _) 2).trans rfl, box8 (blk_alloc (blk_drew BK6.out) _)⟩ (fun hH2 => ?_)
            clear hKc Kc hH hH2 hq
            refine XReg.one (i := 7) (some 100) rfl rfl (by kernel_rfl) (by decide) (fun Kc hKc => ?_)
            obtain ⟨cs, hcs⟩ : ∃ cs : List Value, cs = [.string x.f0.f0, .int .i64 x.f0.f1, .slice A2 x.f1.length c2, .string x.f2, .int .i64 x.f3, .string x.f4, .int .i64 x.f5, .slice A7 x.f6.length c7] := ⟨_, rfl⟩
            have hcw : (Obj.cells #[.string x.f0.f0, .int .i64 x.f0.f1, .slice A2 x.f1.length c2, .string x.f2, .int .i64 x.f3, .string x.f4, .int .i64 x.f5, .slice A7 x.f6.length c7] 36 (0, 0)) = .cells cs.toArray 36 (0, 0) := by rw [hcs]
            have h8 : cs.length = 8 := by rw [hcs]; rfl
            have HKx := Aside0.mk (show k36.K w0 x cs from by rw [hcs]; exact HK0.out)
            rw [hcw]
            have hba : Below w6.heap.size w6 (w6.alloc (.cells cs.toArray 36 (0, 0))).drew := below_drew1 ((Below.refl _ w6).alloc (Nat.le_refl _) _)
            have HPa := HP6.out.below hba
            refine Kd.R_append_rows_step (kAt w0) (Rr := fun y c => y = x ∧ c = cs) (w0 := (w6.alloc (.cells cs.toArray 36 (0, 0))).drew) 0 (by rfl) (.tmp 97) (.tmp 99) 22 36 _ 120 rfl Try.underlying22 info36 rfl (by show 0 < 8; omega) (by omega) _ a.Q [x] (some ⟨w6.heap.size, 0, none⟩) 1 1
              (fun k => G k ∧ some k ≠ (Value.slice Al a.L.length cl).ownBlock) (fun _ => False) rfl rfl HPa.rq (lit_row h8) (fun y c hyc => by obtain ⟨rfl, rfl⟩ := hyc; exact HKx.out) (fun _ h => h.elim) (fun k hk => ⟨HGG.out k (Nat.le_trans HKE6.out.size (Nat.le_trans hba.size hk)), fun e => by have := Kd.R_lt HPa.rl k e.symm; omega⟩) (Below.refl _ _)
              (Nat.zero_le _) (by show (a.Q.length + 1) * 120 ≤ _; omega) (fun v1 w7 hr7 _ hg7 hat7 => ?_)
            have hPl := HPa.grewQ hg7 hr7 hat7
            have hbk : w7.heap[g]? = some (.cells #[.slice Al a.L.length cl, .slice Ak a.K.length ck, .slice Aw a.Q.length cw] 29 (0, 0)) := blk_grown HPa.blk hg7 HPa.ne_q
            have hqlt : ∀ k, (Value.slice Aw a.Q.length cw).ownBlock = some k → S k := fun k hk => HVW.out k hk
            have hbn : w7.heap[N]? = some (.cells #[.string x.f0.f0, .int .i64 x.f0.f1, .slice A2 x.f1.length c2, .string x.f2, .int .i64 x.f3, .string x.f4, .int .i64 x.f5, .slice A7 x.f6.length c7] 36 (0, 0)) := by
              refine blk_grown (blk_drew (blk_alloc BK6.out _)) hg7 (fun e => ?_)
              have := HLT.out N (hqlt N e.symm)
              omega
            have HK7 := Aside0.mk (show Keeps S w (w7.setCell ⟨g, 2, none⟩ v1) from by
              refine Keeps.setCell (M := S) (p := ⟨g, 2, none⟩) ?_ (.inl HSG.out) _
              refine Keeps.trans HKE6.out ?_
              refine Keeps.trans (B := (w6.alloc (.cells cs.toArray 36 (0, 0))).drew) (((Keeps.refl _ w6).alloc _).drew) ?_
              exact keeps_weak (keeps_grown hg7) (fun k hk => hqlt k hk.symm))
            have HPl := Aside0.mk hPl
            obtain ⟨Av, cv, rfl⟩ := Kd.R_slice hr7
            refine hKc.out _ _ ⟨(blk_cell hbk 2).trans rfl, box8 hbn⟩ (fun hH2 => ?_)
            have c2' : w7.cell? ⟨g, 2, none⟩ = some (.slice Aw a.Q.length cw) := (blk_cell hbk 2).trans rfl
            have f2' := blk_frozen hbk 2
            clear hKc Kc hH2 hPl hr7 hg7 hat7 HPa hcw hbn hbk hba
            refine XReg.pu 8 101 (h := ?_)
            refine XReg.pu 9 102 (h := ?_)
            refine XReg.last (i := 10) none rfl rfl (by kernel_rfl) (by decide) (fun Kc hKc => ?_)
            refine skip_ (w1 := ?_) (by rfl) rfl ?_ ?_
            rotate_left
            · go_simp
              rfl
            refine hKc.out _ _ ?_
            clear hKc Kc c2' f2'
            refine done_ (by kernel_rfl) ?_
            have e1 : (a.Q ++ [x]).length = a.Q.length + 1 := by simp
            have h1 := HPl.out
            have h2 := HK7.out
            rw [e1] at h1 h2
            have H1 := Aside0.mk h1
            have H2 := Aside0.mk h2
            clear h1 h2 e1 HPl HK7
            go_wp2
            go_ret2
            exact HFIN.out _ _ _ ((0, 0), { a with Q := a.Q ++ [x] }) _ HPU.out H1.out H2.out
        | true =>
          obtain ⟨fin, hfin⟩ : ∃ fin, drainA a.Q.length (handA a x) 1 = fin := ⟨_, rfl⟩
          have hwk := with_of_leq HI.out HXR.out HBL.out HRM.out HOF.out
          have HIH := Aside0.mk (inv_hand HI.out HXR.out HOF.out hwk)
          have HPU := Aside0.mk (show putA a x = ((((fin.2 : Nat) : Int), 0), fin.1) from by unfold putA; rw [if_pos HXR.out, HOF.out]; simp only; rw [if_neg HRM.out, if_pos HBL.out, hfin])
          have HFN := Aside0.mk hfin
          obtain ⟨e0, e1, e2, e3, e4, e5, e6, e7⟩ := box8 BK6.out
          clear hfin hwk
          go_wp2_with fail
          refine (refHand w0 G g _ _ _ a x A2 c2 A7 c7 w6 HP6.out HI.out.known HXR.out HK0.out (by have := HLL.out; omega) (fun j hj => HGG.out j (Nat.le_trans HKE6.out.size hj))).mono ?_
          rintro e w7 ⟨⟨v, rfl⟩, vl7, vk7, hp7, hk7, hat7⟩
          have HP7 := Aside0.mk hp7
          have HKE7 := Aside0.mk (show Keeps S w w7 from keeps_in HKE6.out hk7 (fun k hk => by rcases hk with rfl | hk; exact .inl HSG.out; exact .inl (HVL.out k hk.symm)))
          have HVL7 := Aside0.mk (show ∀ k, vl7.ownBlock = some k → S k ∨ w.heap.size ≤ k from fun k hk => by
            rcases hat7 with h | ⟨b, hb, hlt⟩
            · exact .inl (HVL.out k (h ▸ hk))
            · rw [hb] at hk; cases hk; exact .inr (Nat.le_trans HKE6.out.size hlt))
          clear hp7 hk7 hat7 e0 e1 e2 e3 e4 e5 e6 e7 HP6 BK6 HB6 HKE6
          go_wp2_with fail
          have HW7 := Aside0.mk (below_keeps HW.out (M := S) (fun k hk => HS0.out k hk) HW.out.size HKE7.out)
          refine (refNext w0 G g _ _ _ (handA a x) w7 HP7.out HIH.out HW7.out).mono ?_
          rintro e w8 ⟨rfl, hb8⟩
          have HP8 := Aside0.mk (HP7.out.below hb8)
          have HKE8 := Aside0.mk (show Keeps S w w8 from HKE7.out.trans (Keeps.of_below hb8))
          have hst : 1 + (handA a x).Q.length ≤ 257 := by have := HQ.out; show 1 + a.Q.length ≤ 257; omega
          have hbl : (handA a x).L.length + (handA a x).Q.length ≤ 900000000300 := by have h1 := HLL.out; have h2 := HQ.out; show (a.L ++ [x]).length + a.Q.length ≤ _; simp; omega
          have HBL2 := Aside0.mk hbl
          have HDR := Aside0.mk (show drainA (handA a x).Q.length (handA a x) 1 = fin from HFN.out)
          clear hb8 hbl HP7 HKE7 HW7
          go_wp2
          go_loopw [9, 10] (fun v9 v10 wr => ∃ (b : AP) (n : Nat) (ul uk uw : Value), v9 = .int .i64 n ∧ v10 = .int .i64 (nextA b) ∧ n + b.Q.length ≤ 257 ∧ Aside0 (b.L.length + b.Q.length ≤ 900000000300) ∧ Aside0 (RefAt w0 G wr g ul uk uw b) ∧ Aside0 (InvA b ∧ drainA b.Q.length b n = fin) ∧ Aside0 (Keeps S w wr) ∧
              Aside0 (∀ k, ul.ownBlock = some k → S k ∨ w.heap.size ≤ k)) (fun v9 _ _ => 1000 - (intOf v9).toNat)
          case atStart => exact ⟨handA a x, 1, vl7, vk7, _, rfl, rfl, hst, HBL2, HP8, ⟨HIH.out, HDR.out⟩, HKE8, HVL7⟩
          case round =>
            clear HP8 HKE8 HVL7 hst HBL2 HDR
            obtain ⟨b, n, ul, uk, uw, rfl, rfl, hnq, HBLb, HPb, HIb, HKb, HUL⟩ := hrel
            have HPb' := HPb
            obtain ⟨Bl, dl, rfl⟩ := Kd.R_slice HPb.out.rl
            obtain ⟨Bk, dk, rfl⟩ := Kd.R_slice HPb.out.rk
            obtain ⟨Bw, dw, rfl⟩ := Kd.R_slice HPb.out.rq
            have cq : wr.cell? ⟨g, 2, none⟩ = some (.slice Bw b.Q.length dw) := (blk_cell HPb.out.blk 2).trans rfl
            cases hfi : b.Q.findIdx? (canS b.K) with
            | none =>
              have hnx : nextA b = -1 := by unfold nextA; rw [hfi]
              have hfn := HIb.out.2
              have hd0 : drainA b.Q.length b n = (b, n) := by
                cases hq : b.Q.length with
                | zero => rfl
                | succ q => unfold drainA; rw [hfi]
              rw [hd0] at hfn
              have HFN2 := Aside0.mk hfn
              rw [hnx]
              clear hfi hnx hfn hd0 cq
              go_wp2
              go_ret2
              have h1 := HPU.out
              rw [← HFN2.out] at h1
              exact HFIN.out _ _ _ ((((n : Nat) : Int), 0), b) wr h1 HPb.out HKb.out
            | some j =>
              have hnx : nextA b = (j : Int) := by unfold nextA; rw [hfi]
              obtain ⟨hjl, hcj⟩ := first_some hfi
              have hst := inv_step HIb.out.1 hfi
              have hfn := HIb.out.2
              have hd1 : drainA b.Q.length b n = drainA (b.Q.eraseIdx j).length (handA (takeA b j) (b.Q.getD j z36)) (n + 1) := by
                obtain ⟨q, hq⟩ : ∃ q, b.Q.length = q + 1 := ⟨b.Q.length - 1, by omega⟩
                have hql : (b.Q.eraseIdx j).length = q := by rw [List.length_eraseIdx, if_pos hjl]; omega
                rw [hql, hq]
                conv => lhs; unfold drainA
                rw [hfi]
              rw [hd1] at hfn
              obtain ⟨ad, B2, d2, B7, d7, hAw, hop⟩ := opAt0 (Kd.R_reads' HPb.out.rq).2.2 j hjl
              subst hAw
              obtain ⟨y, hy⟩ : ∃ y, rd_T36 b.Q (j : Int) = y := ⟨_, rfl⟩
              have hyd : b.Q.getD j z36 = y := by rw [← hy]; unfold rd_T36; rw [Int.toNat_natCast]
              rw [hy] at hop
              rw [hyd] at hfn hst hcj
              have HYR := Aside0.mk (HIb.out.1.right y (List.mem_append_right _ (by rw [← hyd]; exact getD_mem hjl)))
              have HST := Aside0.mk hst
              have HFN2 := Aside0.mk hfn
              have HKy := Aside0.mk (kAt_of hop.l2 hop.g2 hop.l7 hop.g7)
              obtain ⟨e0, e1, e2, e3, e4, e5, e6, e7, l2, g2, l7, g7⟩ := hop
              have hb3 : 0 ≤ (j : Int) ∧ (j : Int) < (b.Q.length : Int) := by omega
              rw [hnx]
              clear hfi hnx hfn hd1 hst hcj hy hyd l2 g2 l7 g7
              go_wp2_with fail
              refine (refHand w0 G g _ _ _ b y B2 d2 B7 d7 wr HPb.out HIb.out.1.known HYR.out HKy.out (by have := HBLb.out; omega) (fun j hj => HGG.out j (Nat.le_trans HKb.out.size hj))).mono ?_
              rintro e wa ⟨⟨v, rfl⟩, ul2, uk2, hpa, hka, hata⟩
              have HPa := Aside0.mk hpa
              have HKa := Aside0.mk (show Keeps S w wa from keeps_in HKb.out hka (fun k hk => by rcases hk with rfl | hk; exact .inl HSG.out; exact HUL.out k hk.symm))
              have HULa := Aside0.mk (show ∀ k, ul2.ownBlock = some k → S k ∨ w.heap.size ≤ k from fun k hk => by
                rcases hata with h | ⟨b, hb, hlt⟩
                · exact HUL.out k (h ▸ hk)
                · rw [hb] at hk; cases hk; exact .inr (Nat.le_trans HKb.out.size hlt))
              clear hpa hka hata e0 e1 e2 e3 e4 e5 e6 e7 cq HPb HPb' HUL HKb
              have HQn := Aside0.mk (show b.Q.length ≤ 256 from HIb.out.1.waits)
              go_wp2
              refine start_ (n := 14) (ds := []) (S := fun w' => w'.cell? ⟨g, 2, none⟩ = some (.slice (some ad) b.Q.length dw)) _ (by kernel_rfl) rfl rfl ((blk_cell (blk_drew HPa.out.blk) 2).trans rfl) (fun hH => ?_)
              refine XReg.pu 0 121 (h := ?_)
              refine XReg.pu 1 122 (h := ?_)
              refine XReg.pu 2 123 (h := ?_)
              refine XReg.tk 3 124 (hy := by (intro w' hS_; go_simp; with_reducible rfl)) (h := ?_)
              refine XReg.pu 4 125 (h := ?_)
              refine XReg.pu 6 127 (h := ?_)
              refine XReg.pu 7 128 (h := ?_)
              refine XReg.pu 8 129 (h := ?_)
              refine XReg.tk 9 130 (hy := by (intro w' hS_; go_simp; with_reducible rfl)) (h := ?_)
              refine XReg.pu 10 131 (h := ?_)
              have hb5 : (j : Int) ≤ (dw : Int) := by have := (Kd.R_reads' HPa.out.rq).2.1; have h2 : b.Q.length ≤ dw := this; omega
              refine XReg.pu 11 132 (h := ?_)
              have hz0 : k36.K w0 z36 (Value.agg #[.string ⟨#[]⟩, .int .i64 0, .slice none 0 0, .string ⟨#[]⟩, .int .i64 0, .string ⟨#[]⟩, .int .i64 0, .slice none 0 0]).cells.toList := k36_mk w0 z36 (by decide) (Kd.C_nil _ _) (by decide) (Kd.C_nil _ _)
              have HZ0 := Aside0.mk hz0
              clear hz0
              refine XReg.one (i := 5) (some 126) rfl rfl (by kernel_rfl) (by decide) (fun Kc hKc => ?_)
              refine Kd.R_make0_step (kAt w0) (w0 := wa.drew) 0 36 (by rfl) rfl 22 (.const (.int .i64 0)) (.tmp 125) rfl (b.Q.length : Int) rfl rfl Try.underlying22 _ 120 info36 rfl (by show 0 < 8; omega) (by omega) z36 (ok := fun k => wa.heap.size ≤ k) (okp := fun _ => False) HZ0.out (fun _ h => h.elim) (Nat.le_refl _) (by omega) (by have := HQn.out; simp; omega) (Below.refl _ _) (Nat.zero_le _) (fun v1 w2 hr2 hb2 hg2 hat2 => ?_)
              have hbb : Below wa.heap.size wa w2 := ⟨hg2.os, hg2.tape, hg2.output, hg2.size, fun k hk => hg2.block k hk (by simp)⟩
              have HBb := Aside0.mk hbb
              have HPb := Aside0.mk (HPa.out.below hbb)
              obtain ⟨A1, d1, rfl⟩ := Kd.R_slice hr2
              have HR2 := Aside0.mk (show Kd.R (kAt w0) 36 w2 0 (fun k => wa.heap.size ≤ k) (.slice A1 0 d1) [] from hr2)
              refine hKc.out _ _ ((blk_cell HPb.out.blk 2).trans rfl) (fun hH2 => ?_)
              clear hKc Kc hH hr2 hb2 hg2 hat2 hbb
              refine XReg.one (i := 12) (some 133) rfl rfl (by kernel_rfl) (by decide) (fun Kc hKc => ?_)
              have htl : (b.Q.take j).length = j := by rw [List.length_take]; omega
              have hCt : Kd.C (kAt w0) w2 (some ad) j (b.Q.take j) := by
                have h : Kd.C (kAt w0) w2 (some ad) (b.Q.take j).length (b.Q.take j) := Kd.C_take (xs := b.Q) (Kd.R_reads' HPb.out.rq).2.2 (by omega)
                rw [htl] at h
                exact h
              refine Kd.R_append_rows_step (kAt w0) (Rr := fun y c => k36.K w0 y c) (w0 := w2) 0 (by rfl) (.tmp 126) (.tmp 132) 22 36 _ 120 rfl Try.underlying22 info36 rfl (by show 0 < 8; omega) (by omega) _ [] (b.Q.take j) (some ad) j dw
                (fun k => wa.heap.size ≤ k) (fun _ => False) rfl rfl HR2.out hCt (fun y c hyc => hyc) (fun _ h => h.elim) (fun k hk => Nat.le_trans HBb.out.size hk) (Below.refl _ _) (Nat.zero_le _) (by have := HQn.out; simp; omega) (fun v1 w3 hr3 _ hg3 hat3 => ?_)
              have HR3 := Aside0.mk (show Kd.R (kAt w0) 36 w3 0 (fun k => wa.heap.size ≤ k) v1 (b.Q.take j) from hr3)
              have hmv : ∀ k, k < wa.heap.size → w3.heap[k]? = wa.heap[k]? := fun k hlt => (hg3.block k (Nat.lt_of_lt_of_le hlt HBb.out.size) (fun e => by have := HR2.out.1 k e.symm; omega)).trans (HBb.out.block k hlt)
              have HPc := Aside0.mk (HPa.out.move (fun k _ hlt => hmv k hlt))
              have HMV := Aside0.mk hmv
              have HSZ3 := Aside0.mk (show wa.heap.size ≤ w3.heap.size from Nat.le_trans HBb.out.size hg3.size)
              obtain ⟨A3, d3, rfl⟩ := Kd.R_slice hr3
              have HKE3 := Aside0.mk (show Keeps (fun _ => False) wa w3 from ⟨hg3.os.trans HBb.out.os, hg3.tape.trans HBb.out.tape, hg3.output.trans HBb.out.output, HSZ3.out, fun k hk _ => hmv k hk⟩)
              refine hKc.out _ _ ((blk_cell HPc.out.blk 2).trans rfl) (fun hH3 => ?_)
              clear hKc Kc hH2 hr3 hg3 hat3 hCt HPb HR2 HBb hmv
              refine XReg.pu 13 11 (h := ?_)
              refine done_ (by kernel_rfl) ?_
              have cq : w3.cell? ⟨g, 2, none⟩ = some (.slice (some ad) b.Q.length dw) := (blk_cell HPc.out.blk 2).trans rfl
              have fq := blk_frozen HPc.out.blk 2
              have htl' : (([] : List S36) ++ List.take j b.Q).length = j := by simpa using htl
              clear hH3
              have hb6 : 0 ≤ (j : Int) + 1 ∧ (j : Int) + 1 ≤ (b.Q.length : Int) := by omega
              have hb7 : (j : Int) + 1 ≤ (dw : Int) := by have h1 := HPc.out; have := (Kd.R_reads' h1.rq).2.1; have h2 : b.Q.length ≤ dw := this; omega
              have hdl : (b.Q.drop (j + 1)).length = b.Q.length - (j + 1) := List.length_drop
              have HCd := Aside0.mk (show Kd.C (kAt w0) w3 (if dw = j + 1 then some ad else some (ad.add ((j + 1) * 8))) (b.Q.length - (j + 1)) (b.Q.drop (j + 1)) from by
                have h : Kd.C (kAt w0) w3 (if dw = j + 1 then some ad else (some ad).map (·.add ((j + 1) * 8))) (b.Q.drop (j + 1)).length (b.Q.drop (j + 1)) := Kd.C_drop (xs := b.Q) (Kd.R_reads' HPc.out.rq).2.2 (by omega) (Kd.R_reads' HPc.out.rq).2.1
                rw [hdl] at h
                exact h)
              have HR3' := Aside0.mk (show Kd.R (kAt w0) 36 w3 0 (fun k => wa.heap.size ≤ k) (.slice A3 j d3) (List.take j b.Q) from by have h := HR3.out; rw [htl'] at h; exact h)
              have HAL := Aside0.mk (show ((List.take j b.Q).length + (b.Q.length - (j + 1))) * 120 ≤ 140737488355328 from by rw [htl]; have := HQn.out; omega)
              have HGLT := Aside0.mk (blk_lt HPa.out.blk)
              go_wp2_with ((with_reducible refine gate_builtin (b := .append) (xs := #[.tmp 135, .tmp 142]) rfl ?_); at_builtin; refine Kd.R_append_rows (kAt w0) (Rr := fun y c => k36.K w0 y c) (w0 := w3) 0 rfl (.tmp 135) (.tmp 142) 22 36 _ 120 rfl Try.underlying22 info36 rfl (by show 0 < 8; omega) (by omega) _ (List.take j b.Q) (List.drop (j + 1) b.Q) _ _ _ (fun k => wa.heap.size ≤ k) (fun _ => False) rfl rfl HR3'.out HCd.out (fun _ _ h => h) (fun _ h => h.elim) (fun k hk => Nat.le_trans HSZ3.out hk) (Below.refl _ _) (Nat.zero_le _) HAL.out ?_; intro v1 w4 hr4 _ hg4 hat4; (obtain ⟨A4, d4, rfl⟩ := Kd.R_slice hr4); (have hne4 : ∀ k, k < wa.heap.size → some k ≠ (Value.slice A3 j d3).ownBlock := fun k hk e => by (have := HR3'.out.1 k e.symm; omega)); (have b4 := (hg4.block g (Nat.lt_of_lt_of_le HGLT.out HSZ3.out) (hne4 g HGLT.out)).trans HPc.out.blk); (have c4 : w4.cell? ⟨g, 2, none⟩ = some (.slice (some ad) b.Q.length dw) := (blk_cell b4 2).trans rfl); (have f4 := blk_frozen b4 2); (have HR4 := Aside0.mk hr4); (have HG4 := Aside0.mk hg4); (have HNE4 := Aside0.mk hne4); (clear hr4 hg4 hat4 hne4 b4 cq fq))
              all_goals
                have hQe : b.Q.eraseIdx j = List.take j b.Q ++ List.drop (j + 1) b.Q := List.eraseIdx_eq_take_drop_succ b.Q j
                have hP4 : RefAt w0 G w4 g ul2 uk2 (.slice (some ad) b.Q.length dw) (handA b y) := (HPa.out.gbound.move (w1 := w4) (fun k hk hlt => (HG4.out.block k (Nat.lt_of_lt_of_le hlt HSZ3.out) (HNE4.out k hlt)).trans (HMV.out k hlt))).gmono (fun _ h => h.1)
                have hlen4 : (List.take j b.Q ++ List.drop (j + 1) b.Q).length = j + (b.Q.length - (j + 1)) := by rw [List.length_append, htl, hdl]
                have hr4 := HR4.out
                rw [hlen4] at hr4
                have hP5 := hP4.waits (v0 := .slice A4 (j + (b.Q.length - (j + 1))) d4) (Q' := List.take j b.Q ++ List.drop (j + 1) b.Q)
                  (Kd.R_mono hr4 (fun k hk => ⟨HGG.out k (Nat.le_trans HKa.out.size hk), fun e => by have := Kd.R_lt HPa.out.rl k e.symm; omega⟩))
                  (fun k hk e => by have h1 := hr4.1 k hk; have := Kd.R_lt HPa.out.rl k e.symm; omega)
                have HP5 := Aside0.mk (show RefAt w0 G (w4.setCell ⟨g, 2, none⟩ (.slice A4 (j + (b.Q.length - (j + 1))) d4)) g ul2 uk2 (.slice A4 (j + (b.Q.length - (j + 1))) d4) (handA (takeA b j) y) from by
                  have e : handA (takeA b j) y = { handA b y with Q := List.take j b.Q ++ List.drop (j + 1) b.Q } := by
                    show AP.mk (b.L ++ [y]) (withK b.K y).1 (b.Q.eraseIdx j) = _
                    rw [hQe]; rfl
                  rw [e]; exact hP5)
                have HKE5 := Aside0.mk (show Keeps S w (w4.setCell ⟨g, 2, none⟩ (.slice A4 (j + (b.Q.length - (j + 1))) d4)) from by
                  refine Keeps.setCell (M := S) (p := ⟨g, 2, none⟩) ?_ (.inl HSG.out) _
                  refine keeps_in (HKa.out.trans (keeps_weak HKE3.out (fun _ f => f.elim))) (keeps_grown HG4.out) (fun k hk => ?_)
                  exact .inr (Nat.le_trans HKa.out.size (HR3'.out.1 k hk.symm)))
                have HW5 := Aside0.mk (below_keeps HW.out (M := S) (fun k hk => HS0.out k hk) HW.out.size HKE5.out)
                clear hQe hP4 hlen4 hr4 hP5 HR4 HG4 HNE4 HR3' HKE3 HPc HMV HSZ3 HKa HPa c4 f4
                refine (refNext w0 G g _ _ _ (handA (takeA b j) y) _ HP5.out HST.out HW5.out).mono ?_
                rintro e w6' ⟨rfl, hb6'⟩
                have HP6' := Aside0.mk (HP5.out.below hb6')
                have HKE6' := Aside0.mk (show Keeps S w w6' from HKE5.out.trans (Keeps.of_below hb6'))
                have hnb : n < 257 := by omega
                have hqe : (handA (takeA b j) y).Q.length = b.Q.length - 1 := by show (b.Q.eraseIdx j).length = _; rw [List.length_eraseIdx, if_pos hjl]
                have HQE := Aside0.mk hqe
                have HBL5 := Aside0.mk (show (handA (takeA b j) y).L.length + (handA (takeA b j) y).Q.length ≤ 900000000300 from by rw [hqe]; have h := HBLb.out; show (b.L ++ [y]).length + _ ≤ _; simp; omega)
                clear hb6' hqe HP5 HKE5 HW5 hb6 hb7 hb5 htl htl' hdl
                go_wp2
                go_round
                case rel => exact ⟨handA (takeA b j) y, n + 1, _, _, _, by go_num, rfl, by rw [HQE.out]; omega, HBL5, HP6', ⟨HST.out, HFN2.out⟩, HKE6', HULa⟩
                case measure => simp [intOf]; omega
end Go.Proofs.Ytenbkljgmgdegaa.PO
