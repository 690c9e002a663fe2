/- What the rows of this claim use, out of the texts of this work (TV, TW, TY, OD, OE). No condition beyond those that each statement names. -/
import Derived.Deep.RegionHeld3
import Derived.Carry
import Derived.Test.YtenbkljgmgdegaaQwTU
import Derived.Test.YtenbkljgmgdegaaQwRD
section
namespace Go.Proofs.Ytenbkljgmgdegaa.PO
open Go.RowKit Go.Proofs.YtenbkljgmgdegaaW.PrintWords Go.Proofs.YtenbkljgmgdegaaW.PrintLast Go.Proofs.YtenbkljgmgdegaaW.PrintMore
open Go.Proofs.Ytenbkljgmgdegaa.XRange Go.Proofs.Ytenbkljgmgdegaa.XMap Go.Proofs.Ytenbkljgmgdegaa.XSeq
set_option linter.unusedVariables false
set_option linter.unusedSimpArgs false
attribute [local go_sem] Oper.semAt_some
theorem ready_calls (g : Nat) (w : World) : Calls Try.prog 55 #[.pointer (some ⟨g, 0, none⟩)] w fun e w' => e = .returned (.func (.func 109) #[] #[.pointer (some ⟨w.heap.size, 0, none⟩)]) ∧ w' = w.alloc (.cells #[.pointer (some ⟨g, 0, none⟩)] 25) := by
 go_enter Try.func55, Try.ntmps55
 go_wp2
 go_ret
 exact ⟨rfl, rfl⟩
theorem PoolAt.loops {G : Nat → Prop} {w w1 : World} {base g : Nat} {vl vk vw : Value} {m : Nat} {L : List S36} {K : List S34} {Q : List S36} {D : List (S34 × (S36 × List Value))} {M : Nat → Prop} (h : PoolAt G w base g vl vk vw m L K Q D)
 (hl : ∀ k, M k → k < w.heap.size → Loopy w k) (hk : Keeps M w w1) : PoolAt G w1 base g vl vk vw m L K Q D := by
 have st : ∀ k : Nat, (∃ (cells : Array Value) (q : TypeId), w.heap[k]? = some (Obj.cells cells q (0, 0))) → w1.heap[k]? = w.heap[k]? := by
  rintro k ⟨cells, q, hc⟩
  refine hk.block k (blk_lt hc) (fun e => ?_)
  rcases hl k e (blk_lt hc) with ⟨d, h⟩ | ⟨d, h⟩ <;> (rw [hc] at h; cases h)
 refine ⟨(st g ⟨_, _, h.blk⟩).trans h.blk, h.hb, ?_, ?_, ?_, ?_, h.hm, fun p hp => ?_⟩
 · exact Kd.R_mono (Kd.R_move (Kd.R_bound h.rl) (fun k hk' => by obtain ⟨_, _, _, q, _, cells, hc⟩ := hk'; exact st k ⟨cells, q, hc⟩)) (fun k hk' => hk'.1)
 · exact Kd.R_mono (Kd.R_move (Kd.R_bound h.rk) (fun k hk' => by obtain ⟨_, _, _, q, _, cells, hc⟩ := hk'; exact st k ⟨cells, q, hc⟩)) (fun k hk' => hk'.1)
 · exact Kd.R_mono (Kd.R_move (Kd.R_bound h.rq) (fun k hk' => by obtain ⟨_, _, _, q, _, cells, hc⟩ := hk'; exact st k ⟨cells, q, hc⟩)) (fun k hk' => hk'.1)
 · refine h.mp.step (hk.block m h.mp.lt (fun e => ?_))
   obtain ⟨es, cl, hm, _⟩ := h.mp.at_
   rcases hl m e h.mp.lt with ⟨d, h⟩ | ⟨d, h⟩ <;> (rw [hm] at h; cases h)
 · exact k36.M_mono (fun _ h => h.1) (k36.M_move (fun k hk' => by obtain ⟨_, _, _, q, _, cells, hc⟩ := hk'; exact st k ⟨cells, q, hc⟩) (k36.M_bound (h.vals p hp)))
theorem PoolAt.off {G : Nat → Prop} {w w1 : World} {base g : Nat} {vl vk vw : Value} {m : Nat} {L : List S36} {K : List S34} {Q : List S36} {D : List (S34 × (S36 × List Value))} {j : Nat} {c : Array Value} {t : TypeId} (h : PoolAt G w base g vl vk vw m L K Q D)
 (hj : w.heap[j]? = some (.cells c t (0, 0))) (h73 : t ≠ 73) (h36 : t ≠ 36) (h34 : t ≠ 34) (hk : Keeps (fun k => k = j) w w1) : PoolAt G w1 base g vl vk vw m L K Q D := by
 have ne : ∀ (k : Nat) (cells : Array Value) (q : TypeId), w.heap[k]? = some (Obj.cells cells q (0, 0)) → q = 73 ∨ q = 36 ∨ q = 34 → w1.heap[k]? = w.heap[k]? := by
  intro k cells q hc hq
  refine hk.block k (blk_lt hc) (fun e => ?_)
  subst e
  rw [hj] at hc
  simp only [Option.some.injEq, Obj.cells.injEq] at hc
  rcases hq with rfl | rfl | rfl
  · exact h73 hc.2.1
  · exact h36 hc.2.1
  · exact h34 hc.2.1
 refine ⟨(ne g _ _ h.blk (.inl rfl)).trans h.blk, h.hb, ?_, ?_, ?_, ?_, h.hm, fun p hp => ?_⟩
 · exact Kd.R_mono (Kd.R_move (Kd.R_bound h.rl) (fun k hk' => by obtain ⟨_, _, _, q, hq, cells, hc⟩ := hk'; exact ne k cells q hc (.inr (k36_E q hq)))) (fun k hk' => hk'.1)
 · exact Kd.R_mono (Kd.R_move (Kd.R_bound h.rk) (fun k hk' => by obtain ⟨_, _, _, q, hq, cells, hc⟩ := hk'; exact ne k cells q hc (.inr (.inr (k34_E q hq))))) (fun k hk' => hk'.1)
 · exact Kd.R_mono (Kd.R_move (Kd.R_bound h.rq) (fun k hk' => by obtain ⟨_, _, _, q, hq, cells, hc⟩ := hk'; exact ne k cells q hc (.inr (k36_E q hq)))) (fun k hk' => hk'.1)
 · refine h.mp.step (hk.block m h.mp.lt (fun e => ?_))
   obtain ⟨es, cl, hm, _⟩ := h.mp.at_
   subst e
   rw [hj] at hm
   cases hm
 · exact k36.M_mono (fun _ h => h.1) (k36.M_move (fun k hk' => by obtain ⟨_, _, _, q, hq, cells, hc⟩ := hk'; exact ne k cells q hc (.inr (.inr (k36_E' q hq)))) (k36.M_bound (h.vals p hp)))
theorem JS.loops {G : Nat → Prop} {w1 : World} {F : Nat → Prop} {base g m N8 : Nat} {s : PSt × Int} {w w' : World} (h : JS G w1 F base g m N8 s w) (hl : ∀ k, k = w1.heap.size ∨ k = w1.heap.size + 1 → k < w.heap.size → Loopy w k)
 (hk : Keeps (fun k => k = w1.heap.size ∨ k = w1.heap.size + 1) w w') (h8 : N8 < w1.heap.size) : JS G w1 F base g m N8 s w' := by
 obtain ⟨h1, ⟨vl, vk, vw, hp, h2, h3, h4⟩, h5⟩ := h
 exact ⟨keeps_in h1 hk (fun k hk => .inr (by omega)), ⟨vl, vk, vw, hp.loops hl hk, h2, h3, h4⟩, (hk.block N8 (blk_lt h5) (by omega)).trans h5⟩
theorem YS.loops {G : Nat → Prop} {k : Nat} {sf : PSt × Int} {w1 : World} {F : Nat → Prop} {base g m N8 : Nat} {s : PSt × Int} {p : S36 × List Value} {w w' : World} (h : YS G k sf w1 F base g m N8 s p w) (hl : ∀ k, k = w1.heap.size ∨ k = w1.heap.size + 1 → k < w.heap.size → Loopy w k)
 (hk : Keeps (fun k => k = w1.heap.size ∨ k = w1.heap.size + 1) w w') (h8 : N8 < w1.heap.size) : YS G k sf w1 F base g m N8 s p w' := by
 obtain ⟨i, f, h1, h2, h3, h4, h5⟩ := h
 refine ⟨i, f, h1, h2, h3, h4.loops hl hk h8, k36.M_mono (fun _ h => h.1) (k36.M_move (fun j hk' => ?_) (k36.M_bound h5))⟩
 obtain ⟨_, _, _, q, _, cells, hc⟩ := hk'
 refine hk.block j (blk_lt hc) (fun e => ?_)
 rcases hl j e (blk_lt hc) with ⟨d, h⟩ | ⟨d, h⟩ <;> (rw [hc] at h; cases h)
set_option maxHeartbeats 8000000 in
set_option maxRecDepth 100000 in
theorem put_hand (G : Nat → Prop) (k f : Nat) (F : Nat → Prop) (base g m : Nat) (s : PSt) (x : S36) (A1 A6 : Option Addr) (c1 c6 : Nat) (w : World) (a : Int) (hp : PoolIn G w.heap.size F base g m s w) (hFm : F m) (hG : ∀ j, w.heap.size ≤ j → G j)
 (hC1 : k34.C w A1 x.f1.length x.f1) (hc1 : x.f1.length ≤ c1) (hC6 : k34.C w A6 x.f6.length x.f6) (hc6 : x.f6.length ≤ c6) (hlens : x.f1.length ≤ 1000000 ∧ x.f6.length ≤ 1000000)
 (hRb : order_Right.f k x.f0.f0 x.f0.f1 x.f1 x.f2 x.f3 x.f4 x.f5 x.f6 = some true) (hlk : Go.Proofs.Ytenbkljgmgdegaa.XMap.look s.D x.f0 = none) (hAt : vector_At.f k s.K x.f0.f0 = some a) (h70 : ¬ (a = 0 ∧ s.K.length = 64))
 (hLe : vector_Leq.f k x.f1 s.K = some true) (hdef : ∀ cs, ∃ s1 t, handS k { s with D := upd s.D x.f0 (x, cs) } x = some s1 ∧ drain k f (s1, 1) = some t) :
 Calls Try.prog 17 #[.pointer (some ⟨g, 0, none⟩), .agg #[.string x.f0.f0, .int .i64 x.f0.f1, .slice A1 x.f1.length c1, .string x.f2, .int .i64 x.f3, .string x.f4, .int .i64 x.f5, .slice A6 x.f6.length c6]] w fun e w' =>
  ∃ cs s1 t, handS k { s with D := upd s.D x.f0 (x, cs) } x = some s1 ∧ drain k f (s1, 1) = some t ∧ e = .returned (.tuple #[.int .i64 t.2, .int .i64 0]) ∧ PoolIn G w.heap.size F base g m t.1 w' ∧ Keeps F w w' := by
 obtain ⟨vl, vk, vw, hpa, hFg, hFl, hFw⟩ := hp
 have HP := Aside0.mk hpa
 have HFG := Aside0.mk hFg
 have HFL := Aside0.mk hFl
 have HFW := Aside0.mk hFw
 have HFM := Aside0.mk hFm
 have HGG := Aside0.mk hG
 have HC1 := Aside0.mk hC1
 have HCL1 := Aside0.mk hc1
 have HC6 := Aside0.mk hC6
 have HCL6 := Aside0.mk hc6
 have HDEF := Aside0.mk hdef
 have HRB := Aside0.mk hRb
 have HLEN := Aside0.mk hlens
 have HLK := Aside0.mk hlk
 have HAT := Aside0.mk hAt
 have HLE := Aside0.mk hLe
 clear hpa hFg hFl hFw hG hFm hC1 hc1 hC6 hc6 hdef hRb hlens hlk hAt hLe
 obtain ⟨n0, hn0⟩ : ∃ n0, w.heap.size = n0 := ⟨_, rfl⟩
 have hz : ∀ w, (zeroValue 36).run Try.prog w = .ok (.agg #[.string ⟨#[]⟩, .int .i64 0, .slice none 0 0, .string ⟨#[]⟩, .int .i64 0, .string ⟨#[]⟩, .int .i64 0, .slice none 0 0]) w := by
  intro w
  obtain ⟨i0, hi, hzz⟩ := Option.map_eq_some_iff.1 info36
  simp only [Prod.mk.injEq] at hzz
  simp [zeroValue, typeInfo, hi, hzz.1]
 have HZ := Aside0.mk hz
 clear hz
 refine (callsIn_wide (n := 3)).1 ?_
 refine callsIn_of_wp_marks Try.func17 rfl trivial ?_ rfl
 simp only [Try.ntmps17, List.size_toArray, List.length_cons, List.length_nil, Nat.reduceAdd, Nat.reduceSub, Array.replicate_succ, Array.replicate_zero, List.push_toArray, List.append_toArray, List.nil_append, List.cons_append]
 gi_wp2_with fail
 refine ⟨trivial, (callsIn_wide.2 (order_Right.calls k x.f0.f0 x.f0.f1 A1 c1 x.f1 x.f2 x.f3 x.f4 x.f5 A6 c6 x.f6 true _ (Kd.C_alloc (Kd.C_alloc HC1.out _) _) HCL1.out (Kd.C_alloc (Kd.C_alloc HC6.out _) _) HCL6.out HRB.out)).mono ?_⟩
 rintro e' w1 ⟨rfl, hb⟩
 have HB := Aside0.mk hb
 clear hb
 · skip
   have HK1 := Aside0.mk (show Keeps (fun _ => False) w w1 from Keeps.trans (((Keeps.refl _ w).alloc _).alloc _) (Keeps.of_below HB.out))
   have HP1 := Aside0.mk (HP.out.keeps HK1.out)
   have BK2 := Aside0.mk (show w1.heap[n0]? = some (.cells #[.pointer (some ⟨g, 0, none⟩)] 25 (0, 0)) from blk_below (blk_alloc (by rw [← hn0]; exact World.alloc_heap_new w _) _) HB.out)
   have BK3 := Aside0.mk (show w1.heap[n0 + 1]? = some (.cells #[.string x.f0.f0, .int .i64 x.f0.f1, .slice A1 x.f1.length c1, .string x.f2, .int .i64 x.f3, .string x.f4, .int .i64 x.f5, .slice A6 x.f6.length c6] 36 (0, 0)) from
    blk_below (by rw [← hn0]; have := World.alloc_heap_new (w.alloc (.cells #[.pointer (some ⟨g, 0, none⟩)] 25)) (.cells #[.string x.f0.f0, .int .i64 x.f0.f1, .slice A1 x.f1.length c1, .string x.f2, .int .i64 x.f3, .string x.f4, .int .i64 x.f5, .slice A6 x.f6.length c6] 36); rwa [World.size_alloc] at this) HB.out)
   have HD1 := Aside0.mk (Kd.C_below (Kd.C_alloc (Kd.C_alloc HC1.out _) _) HB.out)
   have HD6 := Aside0.mk (Kd.C_below (Kd.C_alloc (Kd.C_alloc HC6.out _) _) HB.out)
   clear HB HC1 HC6
   gi_wp2_with fail
   · skip
     refine wpIn_wide.2 ?_
     refine wp_region_noPanic ?_
     refine start_ (n := 13) (ds := [11]) (S := fun w' => w'.cell? ⟨n0, 0, none⟩ = some (.pointer (some ⟨g, 0, none⟩)) ∧ w'.cell? ⟨g, 3, none⟩ = some (.map (some m)) ∧ w'.cell? ⟨n0 + 1, 0, none⟩ = some (.string x.f0.f0) ∧ w'.cell? ⟨n0 + 1, 1, none⟩ = some (.int .i64 x.f0.f1) ∧ MapAt w' m dotV opV s.D) _ (by kernel_rfl) rfl rfl
      ⟨(blk_cell (blk_drew BK2.out) 0).trans rfl, (blk_cell (blk_drew HP1.out.blk) 3).trans rfl, (blk_cell (blk_drew BK3.out) 0).trans rfl, (blk_cell (blk_drew BK3.out) 1).trans rfl, HP1.out.mp.step rfl⟩ (fun hH => ?_)
     refine XReg.tk 0 18 (h := ?_)
     refine XReg.pu 1 19 (h := ?_)
     refine XReg.pu 2 20 (h := ?_)
     refine XReg.tk 3 21 (h := ?_)
     refine XReg.pu 4 22 (h := ?_)
     refine XReg.tk 5 23 (h := ?_)
     refine tkL (i := 6) (some 24) rfl rfl (by kernel_rfl) (fun _ _ _ h => h) (by rfl) (by assumption) (v := .tuple #[.agg #[.string ⟨#[]⟩, .int .i64 0, .slice none 0 0, .string ⟨#[]⟩, .int .i64 0, .string ⟨#[]⟩, .int .i64 0, .slice none 0 0], .bool false]) ?_ (a' := ?_) ?_ ?_
     · intro w' hS
       obtain ⟨_, _, _, _, hmp⟩ := hS
       have hl : (Instr.lookup 71 (.map (some m)) (.agg #[.string x.f0.f0, .int .i64 x.f0.f1]) true).run Try.prog w' = .ok (.tuple #[.agg #[.string ⟨#[]⟩, .int .i64 0, .slice none 0 0, .string ⟨#[]⟩, .int .i64 0, .string ⟨#[]⟩, .int .i64 0, .slice none 0 0], .bool false]) w' := run_lookup_miss Try.underlying71 keysDot hmp x.f0 HLK.out _ (HZ.out w') true
       go_simp
     rotate_left
     · (simp only [Act.put, List.setIfInBounds_toArray, List.set_cons_zero, List.set_cons_succ, i64_w, i32_w]; first | done | rfl)
     rotate_left
     refine XReg.pu 7 17 (h := ?_)
     refine XReg.pu 8 25 (h := ?_)
     refine XReg.pu 9 26 (h := ?_)
     obtain ⟨N, hN⟩ : ∃ N, w1.heap.size = N := ⟨_, rfl⟩
     have n0N : n0 < N := by have := blk_lt BK2.out; omega
     have n1N : n0 + 1 < N := by have := blk_lt BK3.out; omega
     have gN : g < N := by have := blk_lt HP1.out.blk; omega
     refine oneL (i := 10) (some 6) rfl rfl (by kernel_rfl) (by decide) (fun Kc hKc => ?_)
     go_simp
     have hbN : (w1.alloc (.cells #[.string ⟨#[]⟩, .int .i64 0, .slice none 0 0, .string ⟨#[]⟩, .int .i64 0, .string ⟨#[]⟩, .int .i64 0, .slice none 0 0] 36)).drew.heap[N]? = some (.cells #[.string ⟨#[]⟩, .int .i64 0, .slice none 0 0, .string ⟨#[]⟩, .int .i64 0, .string ⟨#[]⟩, .int .i64 0, .slice none 0 0] 36 (0, 0)) := by
      rw [← hN]; exact World.alloc_heap_new w1 _
     refine hKc.out _ _ ⟨(blk_cell (blk_alloc (blk_drew BK2.out) _) 0).trans rfl, (blk_cell (blk_alloc (blk_drew HP1.out.blk) _) 3).trans rfl, (blk_cell (blk_alloc (blk_drew BK3.out) _) 0).trans rfl, (blk_cell (blk_alloc (blk_drew BK3.out) _) 1).trans rfl, HP1.out.mp.step (Below.heap_alloc w1 _ m HP1.out.mp.lt)⟩ (fun hH2 => ?_)
     clear hKc Kc hH hH2
     refine lastL (i := 11) none rfl rfl (by kernel_rfl) (by decide) (fun Kc hKc => ?_)
     refine skip_ (w1 := ?_) (by rfl) rfl ?_ ?_
     rotate_left
     · have z0 := (blk_cell hbN 0).trans rfl
       have z1 := (blk_cell hbN 1).trans rfl
       have z2 := (blk_cell hbN 2).trans rfl
       have z3 := (blk_cell hbN 3).trans rfl
       have z4 := (blk_cell hbN 4).trans rfl
       have z5 := (blk_cell hbN 5).trans rfl
       have z6 := (blk_cell hbN 6).trans rfl
       have z7 := (blk_cell hbN 7).trans rfl
       have y0 := blk_frozen hbN 0
       have y1 := blk_frozen hbN 1
       have y2 := blk_frozen hbN 2
       have y3 := blk_frozen hbN 3
       have y4 := blk_frozen hbN 4
       have y5 := blk_frozen hbN 5
       have y6 := blk_frozen hbN 6
       have y7 := blk_frozen hbN 7
       go_simp
       rfl
     refine hKc.out _ _ ?_
     clear hKc Kc
     refine XReg.pu 12 7 (h := ?_)
     refine done_ (by kernel_rfl) ?_
     refine NoPanic.normal ?_
     obtain ⟨w2, hw2⟩ : ∃ w2, (w1.alloc (.cells #[.string ⟨#[]⟩, .int .i64 0, .slice none 0 0, .string ⟨#[]⟩, .int .i64 0, .string ⟨#[]⟩, .int .i64 0, .slice none 0 0] 36)).drew = w2 := ⟨_, rfl⟩
     rw [hw2]
     have HK2 := Aside0.mk (show Keeps (fun _ => False) w1 w2 from by rw [← hw2]; exact ((Keeps.refl _ w1).alloc _).drew)
     have hb12 : Below w1.heap.size w1 w2 := by
      rw [← hw2]
      have h := (Below.refl _ w1).alloc (Nat.le_refl _) (.cells #[.string ⟨#[]⟩, .int .i64 0, .slice none 0 0, .string ⟨#[]⟩, .int .i64 0, .string ⟨#[]⟩, .int .i64 0, .slice none 0 0] 36)
      exact ⟨h.os, h.tape, h.output, h.size, h.block⟩
     have HP2 := Aside0.mk (HP1.out.below hb12)
     have BK22 := Aside0.mk (blk_below BK2.out hb12)
     have BK32 := Aside0.mk (blk_below BK3.out hb12)
     have HE1 := Aside0.mk (Kd.C_below HD1.out hb12)
     have HE6 := Aside0.mk (Kd.C_below HD6.out hb12)
     have HKw := Aside0.mk (HK1.out.trans HK2.out)
     clear hw2 hb12 hbN BK2 BK3 HD1 HD6 HK2 HK1 HP1 n0N n1N gN hN
     gi_wp2_with fail
     obtain ⟨Ak, ck, rfl⟩ := Kd.R_slice HP2.out.rk
     refine wpIn_wide.2 ?_
     refine wp_region_noPanic ?_
     refine start_ (n := 18) (ds := []) (S := fun w' => w'.cell? ⟨n0, 0, none⟩ = some (.pointer (some ⟨g, 0, none⟩)) ∧ w'.cell? ⟨g, 1, none⟩ = some (.slice Ak s.K.length ck) ∧ w'.cell? ⟨n0 + 1, 0, none⟩ = some (.string x.f0.f0)) _ (by kernel_rfl) rfl rfl
      ⟨(blk_cell (blk_drew BK22.out) 0).trans rfl, (blk_cell (blk_drew HP2.out.blk) 1).trans rfl, (blk_cell (blk_drew BK32.out) 0).trans rfl⟩ (fun hH => ?_)
     refine XReg.tk 0 57 (h := ?_)
     refine XReg.pu 1 58 (h := ?_)
     refine XReg.pu 2 59 (h := ?_)
     refine XReg.tk 3 60 (h := ?_)
     refine XReg.pu 4 61 (h := ?_)
     refine XReg.pu 5 62 (h := ?_)
     refine XReg.tk 6 63 (h := ?_)
     refine oneL (i := 7) (some 64) rfl rfl (by kernel_rfl) (by decide) (fun Kc hKc => ?_)
     refine goes_ Try.func51 (by kernel_rfl) rfl #[.slice Ak s.K.length ck, .string x.f0.f0] (by rfl) rfl rfl (by (try simp only [List.map_toArray, List.map_cons, List.map_nil]); first | done | rfl) ?_
     have hrk := Kd.R_reads' HP2.out.rk
     refine (vector_At.calls k Ak ck s.K x.f0.f0 a _ (Kd.C_drew hrk.2.2) hrk.2.1 HAT.out).mono ?_
     rintro e' w3 ⟨rfl, hb3⟩
     refine ⟨_, rfl, ?_⟩
     have hb3' : Below w2.heap.size w2 w3 := ⟨hb3.os, hb3.tape, hb3.output, hb3.size, hb3.block⟩
     have HP3 := Aside0.mk (HP2.out.below hb3')
     have BK23 := Aside0.mk (blk_below BK22.out hb3')
     have BK33 := Aside0.mk (blk_below BK32.out hb3')
     have HF1 := Aside0.mk (Kd.C_below HE1.out hb3')
     have HF6 := Aside0.mk (Kd.C_below HE6.out hb3')
     have HK3 := Aside0.mk (HKw.out.trans (Keeps.of_below hb3'))
     clear hb3 hb3' hrk HP2 BK22 BK32 HE1 HE6 HKw
     refine hKc.out _ _ ⟨(blk_cell BK23.out 0).trans rfl, (blk_cell HP3.out.blk 1).trans rfl, (blk_cell BK33.out 0).trans rfl⟩ (fun hH => ?_)
     clear hKc Kc
     by_cases ha : a = 0
     case' pos =>
      have q : (a == 0) = true := by simp [ha]
      have q64 : ((s.K.length : Int) == 64) = false := by simp; omega
      refine XReg.pu 8 65 (h := ?_)
      refine XReg.pu 9 66 (h := ?_)
      refine XReg.tk 10 67 (h := ?_)
      refine XReg.pu 11 68 (h := ?_)
      refine XReg.pu 12 69 (h := ?_)
      refine XReg.tk 13 70 (h := ?_)
      refine XReg.pu 14 71 (h := ?_)
      refine XReg.pu 15 72 (h := ?_)
      refine XReg.pu 16 73 (h := ?_)
      refine XReg.pu 17 56 (h := ?_)
     case' neg =>
      have q : (a == 0) = false := by simp [ha]
      refine XReg.pu 8 65 (h := ?_)
      refine XReg.pu 9 66 (h := ?_)
      refine XReg.pn 10 67 (h := ?_)
      refine XReg.pn 11 68 (h := ?_)
      refine XReg.pn 12 69 (h := ?_)
      refine XReg.pn 13 70 (h := ?_)
      refine XReg.pn 14 71 (h := ?_)
      refine XReg.pn 15 72 (h := ?_)
      refine XReg.pu 16 73 (h := ?_)
      refine XReg.pu 17 56 (h := ?_)
     all_goals
      refine done_ (by kernel_rfl) ?_
      refine NoPanic.normal ?_
      gi_wp2_with fail
      refine wpIn_wide.2 ?_
      refine wp_region_noPanic ?_
      refine start_ (n := 8) (ds := []) (S := fun w' => w'.cell? ⟨n0, 0, none⟩ = some (.pointer (some ⟨g, 0, none⟩)) ∧ w'.cell? ⟨g, 1, none⟩ = some (.slice Ak s.K.length ck) ∧ w'.cell? ⟨n0 + 1, 2, none⟩ = some (.slice A1 x.f1.length c1)) _ (by kernel_rfl) rfl rfl
       ⟨(blk_cell (blk_drew BK23.out) 0).trans rfl, (blk_cell (blk_drew HP3.out.blk) 1).trans rfl, (blk_cell (blk_drew BK33.out) 2).trans rfl⟩ (fun hH => ?_)
      refine XReg.pu 0 75 (h := ?_)
      refine XReg.tk 1 76 (h := ?_)
      refine XReg.tk 2 77 (h := ?_)
      refine XReg.pu 3 78 (h := ?_)
      refine XReg.pu 4 79 (h := ?_)
      refine XReg.tk 5 80 (h := ?_)
      refine oneL (i := 6) (some 81) rfl rfl (by kernel_rfl) (by decide) (fun Kc hKc => ?_)
      refine goes_ Try.func52 (by kernel_rfl) rfl #[.slice A1 x.f1.length c1, .slice Ak s.K.length ck] (by rfl) rfl rfl (by (try simp only [List.map_toArray, List.map_cons, List.map_nil]); first | done | rfl) ?_
      have hrk := Kd.R_reads' HP3.out.rk
      refine (vector_Leq.calls k A1 c1 x.f1 Ak ck s.K true _ (Kd.C_drew HF1.out) HCL1.out (Kd.C_drew hrk.2.2) hrk.2.1 HLE.out).mono ?_
      rintro e' w4 ⟨rfl, hb4⟩
      refine ⟨_, rfl, ?_⟩
      have hb4' : Below w3.heap.size w3 w4 := ⟨hb4.os, hb4.tape, hb4.output, hb4.size, hb4.block⟩
      have HP4 := Aside0.mk (HP3.out.below hb4')
      have BK24 := Aside0.mk (blk_below BK23.out hb4')
      have BK34 := Aside0.mk (blk_below BK33.out hb4')
      have HG1 := Aside0.mk (Kd.C_below HF1.out hb4')
      have HG6 := Aside0.mk (Kd.C_below HF6.out hb4')
      have HK4 := Aside0.mk (HK3.out.trans (Keeps.of_below hb4'))
      clear hb4 hb4' hrk HP3 BK23 BK33 HF1 HF6 HK3
      refine hKc.out _ _ ⟨(blk_cell BK24.out 0).trans rfl, (blk_cell HP4.out.blk 1).trans rfl, (blk_cell BK34.out 2).trans rfl⟩ (fun hH => ?_)
      clear hKc Kc
      refine XReg.pu 7 74 (h := ?_)
      refine done_ (by kernel_rfl) ?_
      refine NoPanic.normal ?_
      clear h70
      gi_wp2_with fail
      have hown : order_own.f x.f0.f0 x.f0.f1 x.f1 x.f2 x.f3 x.f4 x.f5 x.f6 = some (x.f0.f0, x.f0.f1, x.f1, x.f2, x.f3, x.f4, x.f5, x.f6) := by
       unfold order_own.f api_Dot_66.f
       rw [if_pos (by have := HLEN.out.1; omega), if_pos (by have := HLEN.out.2; omega)]
       rfl
      have HOWN := Aside0.mk hown
      clear hown
      refine wpIn_wide.2 ?_
      refine wp_region_noPanic ?_
      refine start_ (n := 9) (ds := [8]) (S := fun w' => w'.cell? ⟨n0, 0, none⟩ = some (.pointer (some ⟨g, 0, none⟩)) ∧ w'.cell? ⟨g, 3, none⟩ = some (.map (some m)) ∧ w'.cell? ⟨n0 + 1, 0, none⟩ = some (.string x.f0.f0) ∧ w'.cell? ⟨n0 + 1, 1, none⟩ = some (.int .i64 x.f0.f1) ∧ w'.cell? ⟨n0 + 1, 2, none⟩ = some (.slice A1 x.f1.length c1) ∧ w'.cell? ⟨n0 + 1, 3, none⟩ = some (.string x.f2) ∧ w'.cell? ⟨n0 + 1, 4, none⟩ = some (.int .i64 x.f3) ∧ w'.cell? ⟨n0 + 1, 5, none⟩ = some (.string x.f4) ∧ w'.cell? ⟨n0 + 1, 6, none⟩ = some (.int .i64 x.f5) ∧ w'.cell? ⟨n0 + 1, 7, none⟩ = some (.slice A6 x.f6.length c6)) _ (by kernel_rfl) rfl rfl
       ⟨(blk_cell (blk_drew BK24.out) 0).trans rfl, (blk_cell (blk_drew HP4.out.blk) 3).trans rfl, (blk_cell (blk_drew BK34.out) 0).trans rfl, (blk_cell (blk_drew BK34.out) 1).trans rfl, (blk_cell (blk_drew BK34.out) 2).trans rfl, (blk_cell (blk_drew BK34.out) 3).trans rfl, (blk_cell (blk_drew BK34.out) 4).trans rfl, (blk_cell (blk_drew BK34.out) 5).trans rfl, (blk_cell (blk_drew BK34.out) 6).trans rfl, (blk_cell (blk_drew BK34.out) 7).trans rfl⟩ (fun hH => ?_)
      refine XReg.tk 0 89 (h := ?_)
      refine XReg.pu 1 90 (h := ?_)
      refine XReg.pu 2 91 (h := ?_)
      refine XReg.tk 3 92 (h := ?_)
      refine XReg.pu 4 93 (h := ?_)
      refine XReg.tk 5 94 (h := ?_)
      refine XReg.tk 6 95 (h := ?_)
      refine oneL (i := 7) (some 96) rfl rfl (by kernel_rfl) (by decide) (fun Kc hKc => ?_)
      refine goes_ Try.func53 (by kernel_rfl) rfl #[.agg #[.string x.f0.f0, .int .i64 x.f0.f1, .slice A1 x.f1.length c1, .string x.f2, .int .i64 x.f3, .string x.f4, .int .i64 x.f5, .slice A6 x.f6.length c6]] (by rfl) rfl rfl (by (try simp only [List.map_toArray, List.map_cons, List.map_nil]); first | done | rfl) ?_
      refine (order_own.calls x.f0.f0 x.f0.f1 A1 c1 x.f1 x.f2 x.f3 x.f4 x.f5 A6 c6 x.f6 _ _ _ _ _ _ _ _ _ (Kd.C_drew HG1.out) HCL1.out (Kd.C_drew HG6.out) HCL6.out HOWN.out).mono ?_
      rintro e' w5 ⟨v2, v7, rfl, hr2, hr7, hb5⟩
      refine ⟨_, rfl, ?_⟩
      have hb5' : Below w4.heap.size w4 w5 := ⟨hb5.os, hb5.tape, hb5.output, hb5.size, hb5.block⟩
      have hbase : base ≤ w4.heap.size := Nat.le_trans HP4.out.hb (Nat.le_of_lt (blk_lt HP4.out.blk))
      obtain ⟨cs, hcs⟩ : ∃ cs : List Value, cs = [.string x.f0.f0, .int .i64 x.f0.f1, v2, .string x.f2, .int .i64 x.f3, .string x.f4, .int .i64 x.f5, v7] := ⟨_, rfl⟩
      have HM5 := Aside0.mk (show k36.M w5 base G x cs from by
       rw [hcs]
       exact k36_mkM _ _ _ x (Kd.R_lower (Kd.R_mono (Kd.R_bound hr2) (fun j hj => HGG.out j (Nat.le_trans HK4.out.size hj.2.1))) hbase) (Kd.R_lower (Kd.R_mono (Kd.R_bound hr7) (fun j hj => HGG.out j (Nat.le_trans HK4.out.size hj.2.1))) hbase))
      have HP5 := Aside0.mk (HP4.out.below hb5')
      have BK25 := Aside0.mk (blk_below BK24.out hb5')
      have BK35 := Aside0.mk (blk_below BK34.out hb5')
      have HK5 := Aside0.mk (HK4.out.trans (Keeps.of_below hb5'))
      clear hb5 hb5' hbase hr2 hr7 HP4 BK24 BK34 HG1 HG6 HK4
      refine hKc.out _ _ ⟨(blk_cell BK25.out 0).trans rfl, (blk_cell HP5.out.blk 3).trans rfl, (blk_cell BK35.out 0).trans rfl, (blk_cell BK35.out 1).trans rfl, (blk_cell BK35.out 2).trans rfl, (blk_cell BK35.out 3).trans rfl, (blk_cell BK35.out 4).trans rfl, (blk_cell BK35.out 5).trans rfl, (blk_cell BK35.out 6).trans rfl, (blk_cell BK35.out 7).trans rfl⟩ (fun hH => ?_)
      clear hKc Kc
      obtain ⟨w6, hu6, hm6, hk6⟩ := run_update Try.underlying71 keysDot HP5.out.mp x.f0 (x, cs)
      have hag : (Value.agg #[.string x.f0.f0, .int .i64 x.f0.f1, v2, .string x.f2, .int .i64 x.f3, .string x.f4, .int .i64 x.f5, v7]) = opV (x, cs) := by rw [hcs]; rfl
      have HAG := Aside0.mk hag
      have hu6' : (Instr.mapUpdate 71 (.map (some m)) (.agg #[.string x.f0.f0, .int .i64 x.f0.f1]) (.agg #[.string x.f0.f0, .int .i64 x.f0.f1, v2, .string x.f2, .int .i64 x.f3, .string x.f4, .int .i64 x.f5, v7])).run Try.prog w5 = .ok () w6 := by rw [hag]; exact hu6
      clear hu6 hag
      have HP6 := Aside0.mk (HP5.out.update hm6 hk6 HM5.out)
      have hnm : ∀ (k : Nat) (c : Array Value) (t : TypeId), w5.heap[k]? = some (Obj.cells c t (0, 0)) → w6.heap[k]? = some (Obj.cells c t (0, 0)) := fun k c t hc => (hk6.block k (blk_lt hc) (by
       rintro rfl
       obtain ⟨es, cl, hme, _⟩ := HP5.out.mp.at_
       rw [hc] at hme
       cases hme)).trans hc
      have BK26 := Aside0.mk (hnm _ _ _ BK25.out)
      have BK36 := Aside0.mk (hnm _ _ _ BK35.out)
      have HK6 := Aside0.mk (keeps_in (M := F) (keeps_weak HK5.out (fun _ f => f.elim)) hk6 (fun k hk => .inl (hk ▸ HFM.out)))
      have HM6 := Aside0.mk (show k36.M w6 base G x cs from HP6.out.vals (x.f0, (x, cs)) (by
       have h := look_upd s.D x.f0 x.f0 (x, cs)
       rw [if_pos rfl] at h
       obtain ⟨i, _, hi, hDi⟩ := find_some h
       rw [← hDi]
       exact List.getElem_mem hi))
      clear hm6 hk6 hnm HP5 BK25 BK35 HK5 HM5 hH
      refine lastL (i := 8) none rfl rfl (by kernel_rfl) (by decide) (fun Kc hKc => ?_)
      refine skip_ (w1 := ?_) (by rfl) rfl ?_ ?_
      rotate_left
      · go_simp
        rfl
      refine hKc.out _ _ ?_
      clear hKc Kc hu6'
      refine done_ (by kernel_rfl) ?_
      refine NoPanic.normal ?_
      gi_wp2_with fail
      obtain ⟨s1, t, hs1, hdr⟩ := HDEF.out cs
      have hs1' := hs1
      unfold handS at hs1'
      have hL : s.L.length ≤ 1000000000000 := by
       by_cases h : s.L.length ≤ 1000000000000
       · exact h
       · rw [if_neg h] at hs1'; cases hs1'
      rw [if_pos hL] at hs1'
      obtain ⟨⟨K', e⟩, hW, hs1'⟩ := Option.bind_eq_some_iff.mp hs1'
      simp only [Option.some.injEq] at hs1'
      have HS1 := Aside0.mk hs1
      have HS1' := Aside0.mk hs1'
      have HDR := Aside0.mk hdr
      have HWW := Aside0.mk hW
      have HLL := Aside0.mk hL
      clear hs1 hs1' hdr hW hL
      refine wpIn_wide.2 ?_
      refine wp_region_noPanic ?_
      refine start_ (n := 9) (ds := [8]) (S := fun w' => w'.cell? ⟨n0, 0, none⟩ = some (.pointer (some ⟨g, 0, none⟩)) ∧ w'.cell? ⟨g, 3, none⟩ = some (.map (some m)) ∧ w'.cell? ⟨n0 + 1, 0, none⟩ = some (.string x.f0.f0) ∧ w'.cell? ⟨n0 + 1, 1, none⟩ = some (.int .i64 x.f0.f1) ∧ MapAt w' m dotV opV (upd s.D x.f0 (x, cs))) _ (by kernel_rfl) rfl rfl
       ⟨(blk_cell (blk_drew BK26.out) 0).trans rfl, (blk_cell (blk_drew HP6.out.blk) 3).trans rfl, (blk_cell (blk_drew BK36.out) 0).trans rfl, (blk_cell (blk_drew BK36.out) 1).trans rfl, HP6.out.mp.step rfl⟩ (fun hH => ?_)
      refine XReg.tk 0 97 (h := ?_)
      refine XReg.tk 1 98 (h := ?_)
      refine XReg.pu 2 99 (h := ?_)
      refine XReg.pu 3 100 (h := ?_)
      refine XReg.tk 4 101 (h := ?_)
      refine XReg.pu 5 102 (h := ?_)
      refine XReg.tk 6 103 (h := ?_)
      refine tkL (i := 7) (some 104) rfl rfl (by kernel_rfl) (fun _ _ _ h => h) (by rfl) (by assumption) (v := .agg #[.string x.f0.f0, .int .i64 x.f0.f1, v2, .string x.f2, .int .i64 x.f3, .string x.f4, .int .i64 x.f5, v7]) ?_ (a' := ?_) ?_ ?_
      · intro w' hS
        obtain ⟨_, _, _, _, hmp⟩ := hS
        have hl : (Instr.lookup 71 (.map (some m)) (.agg #[.string x.f0.f0, .int .i64 x.f0.f1]) false).run Try.prog w' = .ok (.agg #[.string x.f0.f0, .int .i64 x.f0.f1, v2, .string x.f2, .int .i64 x.f3, .string x.f4, .int .i64 x.f5, v7]) w' := by
         rw [HAG.out]
         exact run_lookup_hit Try.underlying71 keysDot hmp x.f0 _ (by have h := look_upd s.D x.f0 x.f0 (x, cs); rwa [if_pos rfl] at h) false
        go_simp
      rotate_left
      · (simp only [Act.put, List.setIfInBounds_toArray, List.set_cons_zero, List.set_cons_succ, i64_w, i32_w]; first | done | rfl)
      rotate_left
      refine lastL (i := 8) (some 105) rfl rfl (by kernel_rfl) (by decide) (fun Kc hKc => ?_)
      refine goes_ Try.func54 (by kernel_rfl) rfl #[.pointer (some ⟨g, 0, none⟩), .agg #[.string x.f0.f0, .int .i64 x.f0.f1, v2, .string x.f2, .int .i64 x.f3, .string x.f4, .int .i64 x.f5, v7]] (by rfl) rfl rfl (by (try simp only [List.map_toArray, List.map_cons, List.map_nil]); first | done | rfl) ?_
      have hh := hand_calls G k base g _ _ _ m s.L s.K s.Q _ x cs K' e w6.drew (HP6.out.step (fun _ _ => rfl)) (Kd.M_step HM6.out (fun _ _ _ => rfl)) HWW.out HLL.out (fun j hj => HGG.out j (Nat.le_trans HK6.out.size hj))
      rw [show (Value.agg cs.toArray) = .agg #[.string x.f0.f0, .int .i64 x.f0.f1, v2, .string x.f2, .int .i64 x.f3, .string x.f4, .int .i64 x.f5, v7] from by rw [hcs]] at hh
      refine hh.mono ?_
      rintro e' w7 ⟨⟨v, rfl⟩, vl', vk', hp7, hk7, hat7⟩
      refine ⟨_, rfl, ?_⟩
      have hllt : ∀ k, vl.ownBlock = some k → k < n0 := fun k hk => by have := Kd.R_lt HP.out.rl k hk; omega
      have hglt : g < n0 := by have := blk_lt HP.out.blk; omega
      have BK27 := Aside0.mk ((hk7.block n0 (blk_lt (w := w6) BK26.out) (by rintro (h | h); omega; have := hllt n0 h.symm; omega)).trans BK26.out)
      have HP7 := Aside0.mk hp7
      have hk7' : Keeps (fun k => k = g ∨ some k = vl.ownBlock) w6 w7 := ⟨hk7.os, hk7.tape, hk7.output, hk7.size, hk7.block⟩
      have HK7 := Aside0.mk (keeps_in HK6.out hk7' (fun k hk => by rcases hk with rfl | hk; exact .inl HFG.out; exact HFL.out k hk.symm))
      have HFL7 := Aside0.mk (show ∀ k, vl'.ownBlock = some k → F k ∨ w.heap.size ≤ k from fun k hk => by
       rcases hat7 with h | ⟨b, hb, hlt⟩
       · exact HFL.out k (h ▸ hk)
       · rw [hb] at hk; cases hk; exact .inr (Nat.le_trans HK6.out.size hlt))
      clear hh hp7 hk7 hk7' hat7 hllt HP6 BK26 BK36 HM6
      refine hKc.out _ _ ?_
      clear hKc Kc hH
      refine done_ (by kernel_rfl) ?_
      refine NoPanic.normal ?_
      have c27 : w7.cell? ⟨n0, 0, none⟩ = some (.pointer (some ⟨g, 0, none⟩)) := (blk_cell BK27.out 0).trans rfl
      have hn7 : n0 < w7.heap.size := blk_lt BK27.out
      gi_wp2_with fail
      refine ⟨trivial, (callsIn_wide.2 (ready_calls g _)).mono ?_⟩
      rintro e' w9 ⟨rfl, hw9⟩
      have HW9 := Aside0.mk hw9
      clear hw9
      gi_wp2_with fail
      have h9s : w9.heap.size = w7.heap.size + 2 := by rw [HW9.out]; simp
      have BK8 : w9.heap[w7.heap.size]? = some (.cells #[.int .i64 1] 3 (0, 0)) := by rw [HW9.out]; exact blk_alloc (World.alloc_heap_new w7 _) _
      have BKB : w9.heap[w7.heap.size + 1]? = some (.cells #[.pointer (some ⟨g, 0, none⟩)] 25 (0, 0)) := by
       rw [HW9.out]; have := World.alloc_heap_new (w7.alloc (.cells #[.int .i64 1] 3)) (.cells #[.pointer (some ⟨g, 0, none⟩)] 25); rwa [World.size_alloc] at this
      have hk79 : Keeps (fun _ => False) w7 w9 := by rw [HW9.out]; exact ((Keeps.refl _ _).alloc _).alloc _
      have HP9 := Aside0.mk (HP7.out.keeps hk79)
      have BK29 := Aside0.mk ((hk79.block n0 hn7 (fun f => f)).trans BK27.out)
      have HK9 := Aside0.mk (HK7.out.trans (keeps_weak hk79 (fun _ f => f.elim)))
      have hs1e := HS1'.out
      subst hs1e
      have hl7 : ∀ j, vl'.ownBlock = some j → j < w7.heap.size := fun j hj => Kd.R_lt HP7.out.rl j hj
      have hn0l : some n0 ≠ vl'.ownBlock := fun e => by
       obtain ⟨cells, hc⟩ := Kd.R_typed HP7.out.rl n0 e.symm
       exact typed_ne BK27.out hc (by decide) rfl
      have HL7 := Aside0.mk hl7
      have HN0L := Aside0.mk hn0l
      have HGL := Aside0.mk hglt
      have HN7 := Aside0.mk hn7
      have H9S := Aside0.mk h9s
      have BK8' := Aside0.mk BK8
      have h0 : JS G w9 (fun j => (F j ∧ j < n0) ∨ some j = vl'.ownBlock) base g m w7.heap.size ({ s with D := upd s.D x.f0 (x, cs), L := s.L ++ [x], K := K' }, 1) w9 :=
       ⟨Keeps.refl _ _, ⟨vl', vk', vw, HP9.out, .inl ⟨HFG.out, hglt⟩, fun j hj => .inl (.inr hj.symm), fun j hj => .inl (.inl (by
        have h1 := Kd.R_lt HP.out.rq j hj
        exact ⟨(HFW.out j hj).resolve_right (by omega), by omega⟩))⟩, BK8⟩
      refine range_lawS (gf := 109) rfl (enters_of Try.func109 (by kernel_rfl) rfl)
       (ready1_seq G 2 k w9 (fun j => (F j ∧ j < n0) ∨ some j = vl'.ownBlock) base g m w7.heap.size (w7.heap.size + 1) ({ s with D := upd s.D x.f0 (x, cs), L := s.L ++ [x], K := K' }, 1) t f BKB
        (by rintro (h | h); omega; have := hl7 _ h.symm; omega) (by omega) HDR.out) (fun _ => rfl) (fun s A A' h hl hk => h.loops hl hk (by omega)) (fun s p A A' h hl hk => h.loops hl hk (by omega)) h0 ?round ?done
      case round =>
       clear h0 BKB hk79 c27 BK8 hl7 hn0l hglt hn7 h9s
       rintro ⟨st, nn⟩ ⟨y, cy⟩ W hY hsz
       obtain ⟨i, f', hfr, hyq, hdrn, hJ, hMy⟩ := hY
       obtain ⟨u2, u7, hcy, ru2, ru7⟩ := k36_openM hMy
       obtain ⟨B2, d2, rfl⟩ := Kd.R_slice ru2
       obtain ⟨B7, d7, rfl⟩ := Kd.R_slice ru7
       simp only at hcy
       subst hcy
       clear ru2 ru7
       simp only [encOp]
       have HSZ := Aside0.mk hsz
       clear hfr hyq hdrn hJ hMy hsz
       gi_wp2_with fail
       refine ⟨(Keeps.refl _ _).alloc _, fun Wb hkb hyb => ?_⟩
       obtain ⟨i, f', hfr, hyq, hdrn, ⟨hkb1, ⟨wl, wk, ww, hpb, hbg, hbl, hbw⟩, hb8⟩, hMy⟩ := hyb
       have hsb : W.heap.size < Wb.heap.size := by have := hkb.size; simp at this; omega
       have hb9 : Wb.heap[W.heap.size]? = some (.cells #[.string y.f0.f0, .int .i64 y.f0.f1, .slice B2 y.f1.length d2, .string y.f2, .int .i64 y.f3, .string y.f4, .int .i64 y.f5, .slice B7 y.f6.length d7] 36 (0, 0)) :=
        (hkb.block W.heap.size (by simp) (by have := HSZ.out; omega)).trans (World.alloc_heap_new W _)
       have hb2 : Wb.heap[n0]? = some (.cells #[.pointer (some ⟨g, 0, none⟩)] 25 (0, 0)) := (hkb1.block n0 (blk_lt BK29.out) (by
        rintro ((h | h) | h)
        · omega
        · exact HN0L.out h
        · have := HN7.out; omega)).trans BK29.out
       have d0 : Wb.cell? ⟨n0, 0, none⟩ = some (.pointer (some ⟨g, 0, none⟩)) := (blk_cell hb2 0).trans rfl
       have e0 : Wb.cell? ⟨W.heap.size, 0, none⟩ = some (.string y.f0.f0) := (blk_cell hb9 0).trans rfl
       have e1 : Wb.cell? ⟨W.heap.size, 1, none⟩ = some (.int .i64 y.f0.f1) := (blk_cell hb9 1).trans rfl
       have e2 : Wb.cell? ⟨W.heap.size, 2, none⟩ = some (.slice B2 y.f1.length d2) := (blk_cell hb9 2).trans rfl
       have e3 : Wb.cell? ⟨W.heap.size, 3, none⟩ = some (.string y.f2) := (blk_cell hb9 3).trans rfl
       have e4 : Wb.cell? ⟨W.heap.size, 4, none⟩ = some (.int .i64 y.f3) := (blk_cell hb9 4).trans rfl
       have e5 : Wb.cell? ⟨W.heap.size, 5, none⟩ = some (.string y.f4) := (blk_cell hb9 5).trans rfl
       have e6 : Wb.cell? ⟨W.heap.size, 6, none⟩ = some (.int .i64 y.f5) := (blk_cell hb9 6).trans rfl
       have e7 : Wb.cell? ⟨W.heap.size, 7, none⟩ = some (.slice B7 y.f6.length d7) := (blk_cell hb9 7).trans rfl
       have HHB := Aside0.mk hpb
       have HMY := Aside0.mk hMy
       have HKB1 := Aside0.mk hkb1
       have HB8 := Aside0.mk hb8
       have HBG := Aside0.mk hbg
       have HBL := Aside0.mk hbl
       have HBW := Aside0.mk hbw
       have HFR := Aside0.mk hfr
       have HYQ := Aside0.mk hyq
       have HDRN := Aside0.mk hdrn
       clear hpb hMy hkb1 hb8 hbg hbl hbw hfr hyq hdrn hkb hsb hb9 hb2
       gi_wp2_with fail
       have hdr := HDRN.out
       unfold drain at hdr
       have hqn : st.Q.length ≤ 1000000 ∧ 0 ≤ nn ∧ nn ≤ 1000000 := by
        by_cases h : st.Q.length ≤ 1000000 ∧ 0 ≤ nn ∧ nn ≤ 1000000
        · exact h
        · rw [if_neg h] at hdr; cases hdr
       rw [if_pos hqn, HFR.out] at hdr
       obtain ⟨o_, ho_, hdr⟩ := Option.bind_eq_some_iff.mp hdr
       simp only [Option.some.injEq] at ho_
       subst ho_
       obtain ⟨s2, hs2, hdr2⟩ := Option.bind_eq_some_iff.mp hdr
       have hyq := HYQ.out
       rw [← hyq] at hs2
       have hst : stepS k (st, nn) (y, [.string y.f0.f0, .int .i64 y.f0.f1, .slice B2 y.f1.length d2, .string y.f2, .int .i64 y.f3, .string y.f4, .int .i64 y.f5, .slice B7 y.f6.length d7]) = (s2, nn + 1) := by
        unfold stepS
        rw [HFR.out]
        simp only
        rw [hs2]
        rfl
       unfold handS at hs2
       have hL2 : (takeQ st i).L.length ≤ 1000000000000 := by
        by_cases h : (takeQ st i).L.length ≤ 1000000000000
        · exact h
        · rw [if_neg h] at hs2; cases hs2
       rw [if_pos hL2] at hs2
       obtain ⟨⟨K2, e2'⟩, hW2, hs2⟩ := Option.bind_eq_some_iff.mp hs2
       simp only [Option.some.injEq] at hs2
       have HST := Aside0.mk hst
       have HNN := Aside0.mk hqn.2
       have HS2 := Aside0.mk hs2
       clear hst hqn hdr hdr2 hyq hs2
       refine ⟨trivial, (CallsIn.inRound _ (callsIn_wide.2 (hand_calls G k base g wl wk ww m _ _ _ _ y _ K2 e2' Wb HHB.out HMY.out hW2 hL2 (fun j hj => HGG.out j (Nat.le_trans (Nat.le_trans HK9.out.size HKB1.out.size) hj))))).mono ?_⟩
       rintro e' W2 ⟨⟨v, rfl⟩, wl', wk', hp2, hk2, hat2⟩
       have hn8 : ¬ (w7.heap.size = g ∨ some w7.heap.size = wl.ownBlock) := by
        rintro (h | h)
        · exact typed_ne HB8.out HHB.out.blk (by decide) h
        · obtain ⟨cells, hc⟩ := Kd.R_typed HHB.out.rl _ h.symm
          exact typed_ne HB8.out hc (by decide) rfl
       have hb82 := (hk2.block w7.heap.size (blk_lt HB8.out) hn8).trans HB8.out
       have d8 : W2.cell? ⟨w7.heap.size, 0, none⟩ = some (.int .i64 nn) := (blk_cell hb82 0).trans rfl
       have d9 := blk_frozen hb82 0
       have hw1 : wrap64 (nn + 1) = nn + 1 := by have := HNN.out; unfold wrap64; omega
       have HP2 := Aside0.mk hp2
       have HK2 := Aside0.mk hk2
       have HAT2 := Aside0.mk hat2
       have HB82 := Aside0.mk hb82
       have HN8 := Aside0.mk hn8
       clear hp2 hk2 hat2 hb82 hn8 hW2 hL2 e0 e1 e2 e3 e4 e5 e6 e7 d0
       gi_wp2_with fail
       have hs2e := HS2.out
       have hkw : Keeps (fun j => j = w7.heap.size) W2 (W2.setCell ⟨w7.heap.size, 0, none⟩ (.int .i64 (nn + 1))) := Keeps.setCell (M := fun j => j = w7.heap.size) (p := ⟨w7.heap.size, 0, none⟩) (Keeps.refl _ _) (.inl rfl) _
       have hk3 : Keeps (fun j => (j = g ∨ some j = wl.ownBlock) ∨ j = w7.heap.size) Wb (W2.setCell ⟨w7.heap.size, 0, none⟩ (.int .i64 (nn + 1))) := (keeps_weak HK2.out (fun _ h => .inl h)).trans (keeps_weak hkw (fun _ h => .inr h))
       have hp3 := HP2.out.off HB82.out (by decide) (by decide) (by decide) hkw
       have hfin : KeepsLoops Wb (W2.setCell ⟨w7.heap.size, 0, none⟩ (.int .i64 (nn + 1))) ∧ JS G w9 (fun j => F j ∧ j < n0 ∨ some j = vl'.ownBlock) base g m w7.heap.size (s2, nn + 1) (W2.setCell ⟨w7.heap.size, 0, none⟩ (.int .i64 (nn + 1))) := by
        subst hs2e
        refine ⟨KeepsLoops.of_keeps hk3 (fun j hj => ?_), keeps_in HKB1.out hk3 (fun j hj => ?_), ⟨wl', wk', ww, hp3, HBG.out, fun j hj => ?_, HBW.out⟩, blk_set HB82.out 0 _⟩
        · rcases hj with (h | h) | h
          · exact HHB.out.no_loop j (.inl h)
          · exact HHB.out.no_loop j (.inr (.inr (.inl h)))
          · subst h
            rintro (⟨d, h⟩ | ⟨d, h⟩) <;> (rw [HB8.out] at h; cases h)
        · rcases hj with (h | h) | h
          · exact .inl (.inl (h ▸ HBG.out))
          · exact (HBL.out j h.symm).imp .inl id
          · exact .inl (.inr h)
        · rcases HAT2.out with h | ⟨b, hb, hlt⟩
          · exact HBL.out j (h ▸ hj)
          · rw [hb] at hj
            cases hj
            exact .inr (Nat.le_trans HKB1.out.size hlt)
       rw [HST.out]
       rw [hw1]
       exact hfin
      case done =>
       rintro sd W rfl hJ hsz hdf
       obtain ⟨hk, ⟨wl, wk, ww, hpb, hbg, hbl, hbw⟩, hb8⟩ := hJ
       have d8 : W.cell? ⟨w7.heap.size, 0, none⟩ = some (.int .i64 sd.2) := (blk_cell hb8 0).trans rfl
       have HKf := Aside0.mk hk
       have HPf := Aside0.mk hpb
       have HBL := Aside0.mk hbl
       have HBW := Aside0.mk hbw
       have HDF := Aside0.mk hdf
       clear hk hpb hbg hbl hbw hb8 hdf
       gi_wp2_with fail
       have hlt9 : w7.heap.size + 2 ≤ W.heap.size := by have := HKf.out.size; have := H9S.out; omega
       have hPk : Keeps (fun j => j = w9.heap.size) W (W.putObj w9.heap.size (.deferred none)) := keeps_putObj _ _ _ _ rfl
       have hPe : PoolAt G (W.putObj w9.heap.size (.deferred none)) base g wl wk ww m sd.1.L sd.1.K sd.1.Q sd.1.D := HPf.out.loops (fun j hj _ => by subst hj; exact .inl ⟨_, HDF.out⟩) hPk
       have hdf2 : W.heap[w7.heap.size + 2]? = some (.deferred (some [])) := by have := HDF.out; rwa [H9S.out] at this
       rw [H9S.out] at hPk hPe
       refine leave_mark hdf2 ?_
       have hws : w.heap.size ≤ w9.heap.size := HK9.out.size
       have fp : ∀ j, (F j ∧ j < n0 ∨ some j = vl'.ownBlock) ∨ w9.heap.size ≤ j → F j ∨ n0 ≤ j := by
        rintro j ((h | h) | h)
        · exact .inl h.1
        · rw [← hn0]; exact HFL7.out j h.symm
        · exact .inr (by omega)
       have hkW : Keeps F w W := keeps_in HK9.out HKf.out (fun j hj => by
        rcases hj with (h | h) | h
        · exact .inl h.1
        · exact HFL7.out j h.symm
        · have h1 := HN7.out
          exact .inr (by omega))
       have hkF : Keeps F w (W.putObj (w7.heap.size + 2) (.deferred none)) := keeps_in hkW hPk (fun j hj => .inr (by have h1 := HN7.out; omega))
       refine ⟨.tuple #[.int .i64 sd.2, .int .i64 0], by simp [results, Try.f17, go_sem], cs, _, HS1.out, sd.1, sd.2, HDR.out, rfl, ⟨wl, wk, ww, hPe, HFG.out, fun j hj => fp j (HBL.out j hj), fun j hj => fp j (HBW.out j hj)⟩, hkF⟩
end Go.Proofs.Ytenbkljgmgdegaa.PO
end
section
namespace Go.Proofs.Ytenbkljgmgdegaa.PO
open Go.RowKit Go.Proofs.YtenbkljgmgdegaaW.PrintWords Go.Proofs.Ytenbkljgmgdegaa.XRange
theorem put_whole (G : Nat → Prop) (k f : Nat) (F : Nat → Prop) (base g m : Nat) (s : PSt) (x : S36) (A1 A6 : Option Addr) (c1 c6 : Nat) (w : World) (hp : PoolIn G w.heap.size F base g m s w) (hFm : F m) (hG : ∀ j, w.heap.size ≤ j → G j)
 (hC1 : Kd.C k34 w A1 x.f1.length x.f1) (hc1 : x.f1.length ≤ c1) (hC6 : Kd.C k34 w A6 x.f6.length x.f6) (hc6 : x.f6.length ≤ c6) (hdef : ∀ cs, ∃ r, putF k f s x cs = some r) :
 Calls Try.prog 17 #[.pointer (some ⟨g, 0, none⟩), .agg #[.string x.f0.f0, .int .i64 x.f0.f1, .slice A1 x.f1.length c1, .string x.f2, .int .i64 x.f3, .string x.f4, .int .i64 x.f5, .slice A6 x.f6.length c6]] w fun e w' =>
  ∃ cs r, putF k f s x cs = some r ∧ e = .returned (.tuple #[.int .i64 r.1.1, .int .i64 r.1.2]) ∧ PoolIn G w.heap.size F base g m r.2 w' ∧ Keeps F w w' := by
 by_cases hw : ∃ a, order_Right.f k x.f0.f0 x.f0.f1 x.f1 x.f2 x.f3 x.f4 x.f5 x.f6 = some true ∧ Go.Proofs.Ytenbkljgmgdegaa.XMap.look s.D x.f0 = none ∧ vector_At.f k s.K x.f0.f0 = some a ∧ ¬ (a = 0 ∧ s.K.length = 64) ∧ vector_Leq.f k x.f1 s.K = some true
 · obtain ⟨a, h1, h2, h3, h4, h5⟩ := hw
   have hlens : x.f1.length ≤ 1000000 ∧ x.f6.length ≤ 1000000 := by
    obtain ⟨r, hr⟩ := hdef []
    unfold putF at hr
    rw [h1] at hr
    simp only [Option.bind_some, if_true] at hr
    by_cases h : x.f1.length ≤ 1000000 ∧ x.f6.length ≤ 1000000
    · exact h
    · rw [if_neg h] at hr; cases hr
   have key : ∀ cs, putF k f s x cs = (handS k { s with D := Go.Proofs.Ytenbkljgmgdegaa.XMap.upd s.D x.f0 (x, cs) } x).bind fun s1 => (drain k f (s1, 1)).bind fun t => some ((t.2, 0), t.1) := by
    intro cs
    unfold putF
    rw [h1]
    simp only [Option.bind_some, if_true]
    rw [if_pos hlens, h2]
    simp only
    rw [h3]
    simp only [Option.bind_some]
    rw [if_neg h4, h5]
    simp only [Option.bind_some, if_true]
   refine (put_hand G k f F base g m s x A1 A6 c1 c6 w a hp hFm hG hC1 hc1 hC6 hc6 hlens h1 h2 h3 h4 h5 (fun cs => ?_)).mono ?_
   · obtain ⟨r, hr⟩ := hdef cs
     rw [key] at hr
     obtain ⟨s1, hs1, hr⟩ := Option.bind_eq_some_iff.mp hr
     obtain ⟨t, ht, _⟩ := Option.bind_eq_some_iff.mp hr
     exact ⟨s1, t, hs1, ht⟩
   · rintro e w' ⟨cs, s1, t, hs1, ht, rfl, h6, h7⟩
     exact ⟨cs, ((t.2, 0), t.1), by rw [key, hs1]; simp only [Option.bind_some]; rw [ht]; rfl, rfl, h6, h7⟩
 · exact put_calls G k f F base g m s x A1 A6 c1 c6 w hp hFm hG hC1 hc1 hC6 hc6 hdef (fun a h1 h2 h3 h4 h5 => hw ⟨a, h1, h2, h3, h4, h5⟩)
end Go.Proofs.Ytenbkljgmgdegaa.PO
end
section
namespace Go.Proofs.Ytenbkljgmgdegaa.PO
open Go.RowKit Go.Proofs.YtenbkljgmgdegaaW.PrintWords Go.Proofs.YtenbkljgmgdegaaW.PrintLast Go.Proofs.YtenbkljgmgdegaaW.PrintMore
open Go.Proofs.Ytenbkljgmgdegaa.XRange Go.Proofs.Ytenbkljgmgdegaa.XMap Go.Proofs.Ytenbkljgmgdegaa.XSeq
set_option linter.unusedVariables false
set_option linter.unusedSimpArgs false
section
variable {G G' : Nat → Prop} {w w1 : World} {base g : Nat} {vl vk vw : Value} {m : Nat} {L : List S36} {K : List S34} {Q : List S36} {D : List (S34 × (S36 × List Value))}
theorem PoolAt.move (h : PoolAt G w base g vl vk vw m L K Q D) (hm : ∀ k, (k = g ∨ k = m ∨ G k) → k < w.heap.size → w1.heap[k]? = w.heap[k]?) : PoolAt G w1 base g vl vk vw m L K Q D :=
 ⟨(hm g (.inl rfl) (blk_lt h.blk)).trans h.blk, h.hb, Kd.R_step h.rl (fun k hk hlt => hm k (.inr (.inr hk.1)) hlt), Kd.R_step h.rk (fun k hk hlt => hm k (.inr (.inr hk)) hlt), Kd.R_step h.rq (fun k hk hlt => hm k (.inr (.inr hk.1)) hlt),
  h.mp.step (hm m (.inr (.inl rfl)) h.mp.lt), h.hm, fun p hp => Kd.M_step (h.vals p hp) (fun k hk hlt => hm k (.inr (.inr hk)) hlt)⟩
theorem PoolAt.gmono (h : PoolAt G w base g vl vk vw m L K Q D) (hg : ∀ k, G k → G' k) : PoolAt G' w base g vl vk vw m L K Q D :=
 ⟨h.blk, h.hb, Kd.R_mono h.rl (fun k hk => ⟨hg k hk.1, hk.2⟩), Kd.R_mono h.rk hg, Kd.R_mono h.rq (fun k hk => ⟨hg k hk.1, hk.2⟩), h.mp, h.hm, fun p hp => k36.M_mono hg (h.vals p hp)⟩
theorem PoolAt.gbound (h : PoolAt G w base g vl vk vw m L K Q D) : PoolAt (fun k => G k ∧ k < w.heap.size) w base g vl vk vw m L K Q D :=
 ⟨h.blk, h.hb, Kd.R_mono (Kd.R_bound h.rl) (fun k hk => ⟨⟨hk.1.1, hk.2.2.1⟩, hk.1.2⟩), Kd.R_mono (Kd.R_bound h.rk) (fun k hk => ⟨hk.1, hk.2.2.1⟩), Kd.R_mono (Kd.R_bound h.rq) (fun k hk => ⟨⟨hk.1.1, hk.2.2.1⟩, hk.1.2⟩), h.mp, h.hm,
  fun p hp => k36.M_mono (fun k hk => ⟨hk.1, hk.2.2.1⟩) (k36.M_bound (h.vals p hp))⟩
end
def PoolOwn (S : Nat → Prop) (g : Nat) (s : PSt) (w : World) : Prop := ∃ m vl vk vw, PoolAt S w 0 g vl vk vw m s.L s.K s.Q s.D ∧ S g ∧ S m ∧ ∀ k, S k → k < w.heap.size
theorem PoolOwn.keeps {S M : Nat → Prop} {g : Nat} {s : PSt} {w w1 : World} (h : PoolOwn S g s w) (hk : Keeps M w w1) (hd : ∀ k, S k → ¬ M k) : PoolOwn S g s w1 := by
 obtain ⟨m, vl, vk, vw, h1, h2, h3, h4⟩ := h
 exact ⟨m, vl, vk, vw, h1.move (fun k hkS hlt => hk.block k hlt (hd k (by rcases hkS with rfl | rfl | h; exact h2; exact h3; exact h))), h2, h3, fun k hS => Nat.lt_of_lt_of_le (h4 k hS) hk.size⟩
theorem PoolOwn.below {S : Nat → Prop} {g : Nat} {s : PSt} {w w1 : World} (h : PoolOwn S g s w) (hb : Below w.heap.size w w1) : PoolOwn S g s w1 := h.keeps (Keeps.of_below hb) (fun _ _ f => f)
theorem PoolOwn.step {S : Nat → Prop} {g : Nat} {s : PSt} {w w1 : World} (h : PoolOwn S g s w) (hm : ∀ k, S k → w1.heap[k]? = w.heap[k]?) (hs : w.heap.size ≤ w1.heap.size) : PoolOwn S g s w1 := by
 obtain ⟨m, vl, vk, vw, h1, h2, h3, h4⟩ := h
 exact ⟨m, vl, vk, vw, h1.move (fun k hkS hlt => hm k (by rcases hkS with rfl | rfl | h; exact h2; exact h3; exact h)), h2, h3, fun k hS => Nat.lt_of_lt_of_le (h4 k hS) hs⟩
theorem PoolOwn.parts {S : Nat → Prop} {g : Nat} {s : PSt} {w : World} (h : PoolOwn S g s w) : ∃ m Al cl Ak ck Aw cw, w.heap[g]? = some (.cells #[.slice Al s.L.length cl, .slice Ak s.K.length ck, .slice Aw s.Q.length cw, .map (some m)] 73 (0, 0)) ∧
 Kd.F k36 w S Al s.L.length s.L ∧ s.L.length ≤ cl ∧ Kd.F k34 w S Ak s.K.length s.K ∧ s.K.length ≤ ck ∧ g < w.heap.size ∧ (0 < s.L.length → ∃ gl, Al = some ⟨gl, 0, none⟩) ∧ S g := by
 obtain ⟨m, vl, vk, vw, h1, h2, h3, h4⟩ := h
 obtain ⟨Al, cl, rfl, hl, hcl⟩ := Kd.R_reads h1.rl
 obtain ⟨Ak, ck, rfl, hk, hck⟩ := Kd.R_reads h1.rk
 obtain ⟨Aw, cw, rfl, hw, hcw⟩ := Kd.R_reads h1.rq
 refine ⟨m, Al, cl, Ak, ck, Aw, cw, h1.blk, ?_, hl, ?_, hk, blk_lt h1.blk, fun hp => ?_, h2⟩
 · intro W' hW
   have := Kd.R_step (w1 := W') h1.rl (fun k hk hlt => hW k hk.1 hlt)
   exact (Kd.R_reads' this).2.2
 · intro W' hW
   have := Kd.R_step (w1 := W') h1.rk (fun k hk hlt => hW k hk hlt)
   exact (Kd.R_reads' this).2.2
 · obtain ⟨gl, cap, he, _⟩ := Kd.R_form h1.rl hp
   injection he with he
   exact ⟨gl, he⟩
theorem put_own (k f : Nat) (S : Nat → Prop) (g : Nat) (s : PSt) (x : S36) (A1 A6 : Option Addr) (c1 c6 : Nat) (w : World) (hp : PoolOwn S g s w)
 (hC1 : Kd.C k34 w A1 x.f1.length x.f1) (hc1 : x.f1.length ≤ c1) (hC6 : Kd.C k34 w A6 x.f6.length x.f6) (hc6 : x.f6.length ≤ c6) (hdef : ∀ cs, ∃ r, putF k f s x cs = some r) :
 Calls Try.prog 17 #[.pointer (some ⟨g, 0, none⟩), .agg #[.string x.f0.f0, .int .i64 x.f0.f1, .slice A1 x.f1.length c1, .string x.f2, .int .i64 x.f3, .string x.f4, .int .i64 x.f5, .slice A6 x.f6.length c6]] w fun e w' =>
  ∃ cs r S', putF k f s x cs = some r ∧ e = .returned (.tuple #[.int .i64 r.1.1, .int .i64 r.1.2]) ∧ PoolOwn S' g r.2 w' ∧ (∀ k, S' k → S k ∨ w.heap.size ≤ k) ∧ Keeps S w w' := by
 obtain ⟨m, vl, vk, vw, h1, h2, h3, h4⟩ := hp
 refine (put_whole (fun j => S j ∨ w.heap.size ≤ j) k f S 0 g m s x A1 A6 c1 c6 w ⟨vl, vk, vw, h1.gmono (fun _ h => .inl h), h2, fun j hj => .inl (h1.rl.1 j hj).1, fun j hj => .inl (h1.rq.1 j hj).1⟩ h3 (fun j hj => .inr hj) hC1 hc1 hC6 hc6 hdef).mono ?_
 rintro e w' ⟨cs, r, hr, rfl, ⟨vl', vk', vw', p1, p2, p3, p4⟩, hk⟩
 exact ⟨cs, r, fun j => (S j ∨ w.heap.size ≤ j) ∧ j < w'.heap.size, hr, rfl, ⟨m, vl', vk', vw', p1.gbound, ⟨.inl h2, blk_lt p1.blk⟩, ⟨.inl h3, p1.mp.lt⟩, fun _ h => h.2⟩, fun _ h => h.1, hk⟩
theorem new_calls (w : World) : Calls Try.prog 16 #[] w fun e w' => e = .returned (.pointer (some ⟨w.heap.size + 1, 0, none⟩)) ∧ PoolOwn (fun k => k = w.heap.size ∨ k = w.heap.size + 1) (w.heap.size + 1) ⟨[], [], [], []⟩ w' ∧ Below w.heap.size w w' := by
 have hmm := @run_makeMap Try.prog
 go_enter Try.func16, Try.ntmps16
 go_wp2
 go_ret
 have h0 : ((w.alloc (.map #[] 0)).alloc (.cells #[.slice none 0 0, .slice none 0 0, .slice none 0 0, .map (some w.heap.size)] 73)).heap[w.heap.size + 1]? = some (.cells #[.slice none 0 0, .slice none 0 0, .slice none 0 0, .map (some w.heap.size)] 73 (0, 0)) := by
  have := World.alloc_heap_new (w.alloc (.map #[] 0)) (.cells #[.slice none 0 0, .slice none 0 0, .slice none 0 0, .map (some w.heap.size)] 73); rwa [World.size_alloc] at this
 refine ⟨rfl, ⟨w.heap.size, _, _, _, ⟨h0, Nat.zero_le _, Kd.R_nil _ _ _ _ _, Kd.R_nil _ _ _ _ _, Kd.R_nil _ _ _ _ _, ?_, Nat.zero_le _, fun p hp => by cases hp⟩, .inr rfl, .inl rfl, fun k hk => by simp; omega⟩, ((Below.refl _ _).alloc (Nat.le_refl _) _).alloc (by simp) _⟩
 exact (XMap.made w dotV opV).step (Below.heap_alloc _ _ _ (by simp))
theorem known_calls (S : Nat → Prop) (g : Nat) (s : PSt) (w : World) (hp : PoolOwn S g s w) (hl : s.K.length ≤ 1000000) : Calls Try.prog 27 #[.pointer (some ⟨g, 0, none⟩)] w fun e w' => ∃ v, e = .returned v ∧ k34.R 34 w' w.heap.size (fun _ => True) v s.K ∧ Below w.heap.size w w' := by
 obtain ⟨m, Al, cl, Ak, ck, Aw, cw, hblk, hL, hcl, hK, hck, _, _, _⟩ := hp.parts
 have HK := Aside0.mk (Kd.F_now hK)
 have HCK := Aside0.mk hck
 have HL := Aside0.mk hl
 have c1 : w.cell? ⟨g, 1, none⟩ = some (.slice Ak s.K.length ck) := (blk_cell hblk 1).trans rfl
 clear hL hcl hK hck hp hl hblk
 go_enter Try.func27, Try.ntmps27
 go_wp2_with fail
 refine (api_Dot_66.calls Ak ck s.K s.K _ HK.out HCK.out (by unfold api_Dot_66.f; rw [if_pos (by have := HL.out; omega)])).mono ?_
 rintro e w1 ⟨v, rfl, hr, hb⟩
 have HR := Aside0.mk hr
 have HB := Aside0.mk hb
 clear hr hb c1
 go_wp2
 go_ret
 exact ⟨v, rfl, HR.out, HB.out⟩
end Go.Proofs.Ytenbkljgmgdegaa.PO
end
section
namespace Go.Proofs.Ytenbkljgmgdegaa.PO
open Go.RowKit Go.Proofs.YtenbkljgmgdegaaW.PrintWords Go.Proofs.YtenbkljgmgdegaaW.PrintLast Go.Proofs.YtenbkljgmgdegaaW.PrintMore Go.Proofs.Ytenbkljgmgdegaa.XW
open Go.Proofs.Ytenbkljgmgdegaa.XRange Go.Proofs.Ytenbkljgmgdegaa.XMap Go.Proofs.Ytenbkljgmgdegaa.XSeq
set_option linter.unusedVariables false
set_option linter.unusedSimpArgs false
def PSt.ab (s : PSt) : AP := ⟨s.L, s.K, s.Q⟩
def DOk (s : PSt) : Prop := ∀ d, (Go.Proofs.Ytenbkljgmgdegaa.XMap.look s.D d).map (·.1) = ofDot (s.L ++ s.Q) d
theorem firstR_eq (k : Nat) (hk : 200 ≤ k) (K : List S34) (hK : rightS K = true) : ∀ (Q : List S36) (j : Nat), (∀ x ∈ Q, rightO x = true) → firstR k K Q j = some ((Q.findIdx? (canS K)).map (· + j))
 | [], j, _ => rfl
 | x :: r, j, h => by
   have hx := rightO_parts (h x List.mem_cons_self)
   have hKl := (rightS_le hK).1
   have ih := firstR_eq k hk K hK r (j + 1) (fun y hy => h y (List.mem_cons_of_mem _ hy))
   unfold firstR
   rw [with_f K (by omega) _ _ k (by omega), Option.bind_some, leq_f _ _ (by omega) (by omega) k (by omega), Option.bind_some, ih, List.findIdx?_cons]
   have e : (withS K x.f0.f0 x.f0.f1).2 = (withK K x).2 := rfl
   by_cases h1 : (withK K x).2 = 0
   · rw [e, if_pos h1]
     cases h2 : leqS x.f1 K
     · have : canS K x = false := by unfold canS; simp [h2]
       rw [this, if_neg (by simp), if_neg (by simp)]
       cases r.findIdx? (canS K) <;> simp <;> omega
     · have : canS K x = true := by unfold canS; simp [h1, h2]
       rw [this, if_pos rfl, if_pos rfl]; simp
   · rw [e, if_neg h1]
     have : canS K x = false := by unfold canS; simp [h1]
     rw [this, if_neg (by simp)]
     cases r.findIdx? (canS K) <;> simp <;> omega
theorem handS_eq (k : Nat) (hk : 200 ≤ k) (s : PSt) (x : S36) (hK : rightS s.K = true) (hL : s.L.length ≤ 1000000000000) : handS k s x = some { s with L := s.L ++ [x], K := (withK s.K x).1 } := by
 have hKl := (rightS_le hK).1
 unfold handS
 rw [if_pos hL, with_f _ (by omega) _ _ k (by omega)]
 rfl
theorem drain_eq (k : Nat) (hk : 200 ≤ k) : ∀ (f : Nat) (s : PSt) (n : Nat), InvA s.ab → s.Q.length < f → s.L.length + s.Q.length ≤ 1000000000000 → n + s.Q.length ≤ 1000000 →
 drain k f (s, (n : Int)) = some ({ s with L := (drainA s.Q.length s.ab n).1.L, K := (drainA s.Q.length s.ab n).1.K, Q := (drainA s.Q.length s.ab n).1.Q }, ((drainA s.Q.length s.ab n).2 : Int))
 | 0, s, n, _, h, _, _ => by omega
 | f + 1, s, n, hi, hf, hL, hn => by
   have hw := hi.waits
   have hw' : s.Q.length ≤ 256 := hw
   unfold drain
   rw [if_pos ⟨by omega, by omega, by omega⟩, firstR_eq k hk s.K hi.known s.Q 0 (fun x hx => hi.right x (List.mem_append_right _ hx)), Option.bind_some]
   cases hj : s.Q.findIdx? (canS s.K) with
   | none =>
     cases hq : s.Q.length with
     | zero => rfl
     | succ q => simp only [Option.map_none, drainA]; rw [show (PSt.ab s).Q = s.Q from rfl, show (PSt.ab s).K = s.K from rfl, hj]; rfl
   | some i =>
     obtain ⟨hlt, hc⟩ := first_some hj
     have hst := inv_step (s := s.ab) hi hj
     have hh := handS_eq k hk (takeQ s i) (s.Q.getD i z36) hi.known (by show s.L.length ≤ _; omega)
     simp only [Option.map_some, Nat.add_zero]
     rw [hh, Option.bind_some]
     have hql : (s.Q.eraseIdx i).length = s.Q.length - 1 := by rw [List.length_eraseIdx, if_pos hlt]
     have ih := drain_eq k hk f { takeQ s i with L := (takeQ s i).L ++ [s.Q.getD i z36], K := (withK (takeQ s i).K (s.Q.getD i z36)).1 } (n + 1) hst (by show (s.Q.eraseIdx i).length < f; omega)
      (by show (s.L ++ [_]).length + (s.Q.eraseIdx i).length ≤ _; simp; omega) (by show n + 1 + (s.Q.eraseIdx i).length ≤ _; omega)
     have hcast : ((n : Int) + 1) = ((n + 1 : Nat) : Int) := by omega
     rw [hcast, ih]
     have hun : drainA s.Q.length s.ab n = drainA (s.Q.eraseIdx i).length (handA (takeA s.ab i) (s.Q.getD i z36)) (n + 1) := by
      obtain ⟨q, hq⟩ : ∃ q, s.Q.length = q + 1 := ⟨s.Q.length - 1, by omega⟩
      rw [hql, hq, Nat.add_sub_cancel]
      conv => lhs; unfold drainA
      rw [show (PSt.ab s).Q = s.Q from rfl, show (PSt.ab s).K = s.K from rfl, hj]
     rw [hun]
     rfl
theorem putF_eq (k f : Nat) (s : PSt) (x : S36) (cs : List Value) (hi : InvA s.ab) (hd : DOk s) (h1 : x.f1.length ≤ 9223372036854775807) (h6 : x.f6.length ≤ 9223372036854775807) (hk : x.f6.length + x.f1.length + 400 < k) (hf : 300 ≤ f) (hL : s.L.length ≤ 900000000000) :
 ∃ r, putF k f s x cs = some r ∧ r.1 = (putA s.ab x).1 ∧ r.2.ab = (putA s.ab x).2 ∧ DOk r.2 := by
 have hw : s.Q.length ≤ 256 := hi.waits
 have hKl := (rightS_le hi.known).1
 have hKl' : s.K.length ≤ 64 := hKl
 unfold putF putA
 rw [orderRight_f x h1 h6 k (by omega), Option.bind_some]
 by_cases hx : rightO x = true
 · have hp := rightO_parts hx
   rw [if_pos hx, if_pos hx, if_pos ⟨by omega, by omega⟩]
   have hdd := hd x.f0
   show ∃ r : (Int × Int) × PSt, _ = some r ∧ r.1 = (match ofDot (s.L ++ s.Q) x.f0 with | some y => _ | none => _ : (Int × Int) × AP).1 ∧ _
   cases hl : Go.Proofs.Ytenbkljgmgdegaa.XMap.look s.D x.f0 with
   | some y =>
     obtain ⟨y, cy⟩ := y
     rw [hl] at hdd
     simp only [Option.map_some] at hdd
     have hy := hi.right y (ofDot_some hdd.symm).1
     have hyp := rightO_parts hy
     show ∃ r : (Int × Int) × PSt, ((order_equal.f k y.f0.f0 _ _ _ _ _ _ _ _ _ _ _ _ _ _ _).bind _) = some r ∧ _
     rw [equalO_f y x (by omega) (by omega) k (by omega) (by omega), Option.bind_some]
     have hdd' : ofDot (s.ab.L ++ s.ab.Q) x.f0 = some y := hdd.symm
     rw [← hdd, hdd']
     by_cases he : y = x
     · rw [if_pos (by simpa using he)]; simp only; rw [if_pos he]; exact ⟨_, rfl, rfl, rfl, hd⟩
     · rw [if_neg (by simpa using he)]; simp only; rw [if_neg he]; exact ⟨_, rfl, rfl, rfl, hd⟩
   | none =>
     rw [hl] at hdd
     simp only [Option.map_none] at hdd
     have hnew : ofDot (s.ab.L ++ s.ab.Q) x.f0 = none := hdd.symm
     simp only
     rw [at_f _ _ (by omega) k (by omega), Option.bind_some, ← hdd, hnew]
     simp only [show s.ab.K = s.K from rfl, show s.ab.Q = s.Q from rfl, show s.ab.L = s.L from rfl]
     by_cases hroom : atS x.f0.f0 s.K = 0 ∧ s.K.length = 64
     · rw [if_pos hroom, if_pos hroom]; exact ⟨_, rfl, rfl, rfl, hd⟩
     · rw [if_neg hroom, if_neg hroom, leq_f _ _ (by omega) (by omega) k (by omega), Option.bind_some]
       by_cases hle : leqS x.f1 s.K = true
       · have hwk := with_of_leq hi hx hle hroom hnew
         have hih := inv_hand hi hx hnew hwk
         have hh := handS_eq k (by omega) { s with D := upd s.D x.f0 (x, cs) } x hi.known (by show s.L.length ≤ _; omega)
         rw [if_pos hle, hh, Option.bind_some]
         have hdr := drain_eq k (by omega) f { s with D := upd s.D x.f0 (x, cs), L := s.L ++ [x], K := (withK s.K x).1 } 1 hih (by show s.Q.length < f; omega) (by show (s.L ++ [x]).length + s.Q.length ≤ _; simp; omega) (by show 1 + s.Q.length ≤ _; omega)
         rw [show ((1 : Nat) : Int) = 1 from rfl] at hdr
         rw [hdr, Option.bind_some, if_pos hle]
         refine ⟨_, rfl, rfl, rfl, ?_⟩
         obtain ⟨g1, g2, _⟩ := drainA_inv s.Q.length (handA s.ab x) 1 hih
         intro d
         show (Go.Proofs.Ytenbkljgmgdegaa.XMap.look (upd s.D x.f0 (x, cs)) d).map (·.1) = ofDot ((drainA s.Q.length (handA s.ab x) 1).1.L ++ (drainA s.Q.length (handA s.ab x) 1).1.Q) d
         rw [ofDot_perm g1.once g2, look_upd]
         have hp2 : ((handA s.ab x).L ++ (handA s.ab x).Q).Perm (x :: (s.L ++ s.Q)) := by
          show ((s.L ++ [x]) ++ s.Q).Perm _
          rw [List.append_assoc]; exact List.perm_middle
         rw [ofDot_perm hih.once hp2]
         show _ = (x :: (s.L ++ s.Q)).find? _
         rw [List.find?_cons]
         by_cases he : x.f0 = d
         · rw [if_pos he]; simp [he]
         · rw [if_neg he, hd d]; simp [he, ofDot, List.find?_append]
       · rw [if_neg hle, if_neg hle]
         by_cases h256 : s.Q.length = 256
         · rw [if_pos h256, if_pos h256]; exact ⟨_, rfl, rfl, rfl, hd⟩
         · rw [if_neg h256, if_neg h256, if_pos (by omega)]
           refine ⟨_, rfl, rfl, rfl, ?_⟩
           intro d
           show (Go.Proofs.Ytenbkljgmgdegaa.XMap.look (upd s.D x.f0 (x, cs)) d).map (·.1) = ofDot (s.L ++ (s.Q ++ [x])) d
           rw [look_upd]
           by_cases he : x.f0 = d
           · rw [if_pos he]
             subst he
             have : ofDot (s.L ++ (s.Q ++ [x])) x.f0 = some x := by
              unfold ofDot
              rw [← List.append_assoc, List.find?_append]
              have : (s.L ++ s.Q).find? (fun y => decide (y.f0 = x.f0)) = none := hnew
              rw [this]
              simp
             rw [this]; rfl
           · rw [if_neg he, hd d]
             unfold ofDot
             rw [← List.append_assoc, List.find?_append]
             simp [he]
 · rw [if_neg hx, if_neg hx]
   exact ⟨_, rfl, rfl, rfl, hd⟩
def PoolS (S : Nat → Prop) (g : Nat) (a : AP) (w : World) : Prop := ∃ s : PSt, PoolOwn S g s w ∧ s.ab = a ∧ DOk s ∧ InvA a
theorem PoolS.keeps {S M : Nat → Prop} {g : Nat} {a : AP} {w w1 : World} (h : PoolS S g a w) (hk : Keeps M w w1) (hd : ∀ k, S k → ¬ M k) : PoolS S g a w1 := by
 obtain ⟨s, h1, h2⟩ := h
 exact ⟨s, h1.keeps hk hd, h2⟩
theorem PoolS.below {S : Nat → Prop} {g : Nat} {a : AP} {w w1 : World} (h : PoolS S g a w) (hb : Below w.heap.size w w1) : PoolS S g a w1 := h.keeps (Keeps.of_below hb) (fun _ _ f => f)
theorem PoolS.lt {S : Nat → Prop} {g : Nat} {a : AP} {w : World} (h : PoolS S g a w) : ∀ k, S k → k < w.heap.size := by obtain ⟨s, ⟨m, vl, vk, vw, h1, h2, h3, h4⟩, _⟩ := h; exact h4
theorem poolPut (S : Nat → Prop) (g : Nat) (a : AP) (x : S36) (A1 A6 : Option Addr) (c1 c6 : Nat) (w : World) (hp : PoolS S g a w) (hL : a.L.length ≤ 900000000000)
 (hC1 : Kd.C k34 w A1 x.f1.length x.f1) (hc1 : x.f1.length ≤ c1) (hC6 : Kd.C k34 w A6 x.f6.length x.f6) (hc6 : x.f6.length ≤ c6) :
 Calls Try.prog 17 #[.pointer (some ⟨g, 0, none⟩), .agg #[.string x.f0.f0, .int .i64 x.f0.f1, .slice A1 x.f1.length c1, .string x.f2, .int .i64 x.f3, .string x.f4, .int .i64 x.f5, .slice A6 x.f6.length c6]] w fun e w' =>
  ∃ S', e = .returned (.tuple #[.int .i64 (putA a x).1.1, .int .i64 (putA a x).1.2]) ∧ PoolS S' g (putA a x).2 w' ∧ (∀ k, S' k → S k ∨ w.heap.size ≤ k) ∧ Keeps S w w' := by
 obtain ⟨s, h1, rfl, hd, hi⟩ := hp
 have hl1 := hC1.2.1
 have hl6 := hC6.2.1
 have key := fun cs => putF_eq (x.f6.length + x.f1.length + 401) 300 s x cs hi hd hl1 hl6 (by omega) (by omega) hL
 refine (put_own (x.f6.length + x.f1.length + 401) 300 S g s x A1 A6 c1 c6 w h1 hC1 hc1 hC6 hc6 (fun cs => by obtain ⟨r, hr, _⟩ := key cs; exact ⟨r, hr⟩)).mono ?_
 rintro e w' ⟨cs, r, S', hr, rfl, p1, p2, p3⟩
 obtain ⟨r', hr', q1, q2, q3⟩ := key cs
 rw [hr] at hr'
 cases hr'
 exact ⟨S', by rw [q1], ⟨r.2, p1, q2, q3, (putA_inv hi x).1⟩, p2, p3⟩
theorem poolNew (w : World) : Calls Try.prog 16 #[] w fun e w' => e = .returned (.pointer (some ⟨w.heap.size + 1, 0, none⟩)) ∧ PoolS (fun k => k = w.heap.size ∨ k = w.heap.size + 1) (w.heap.size + 1) ⟨[], [], []⟩ w' ∧ Below w.heap.size w w' :=
 (new_calls w).mono fun e w' ⟨h1, h2, h3⟩ => ⟨h1, ⟨_, h2, rfl, fun d => rfl, invA_new⟩, h3⟩
theorem poolKnown (S : Nat → Prop) (g : Nat) (a : AP) (w : World) (hp : PoolS S g a w) : Calls Try.prog 27 #[.pointer (some ⟨g, 0, none⟩)] w fun e w' => ∃ v, e = .returned v ∧ Kd.R k34 34 w' w.heap.size (fun _ => True) v a.K ∧ Below w.heap.size w w' := by
 obtain ⟨s, h1, rfl, hd, hi⟩ := hp
 have := (rightS_le hi.known).1
 exact known_calls S g s w h1 (by have : s.K.length ≤ 64 := this; omega)
end Go.Proofs.Ytenbkljgmgdegaa.PO
end
section
namespace Go.Proofs.Ytenbkljgmgdegaa.PO
open Go.RowKit Go.Proofs.YtenbkljgmgdegaaW.PrintWords Go.Proofs.YtenbkljgmgdegaaW.PrintLast Go.Proofs.YtenbkljgmgdegaaW.PrintMore Go.Proofs.Ytenbkljgmgdegaa.XW
open Go.Proofs.Ytenbkljgmgdegaa.XRange Go.Proofs.Ytenbkljgmgdegaa.XMap Go.Proofs.Ytenbkljgmgdegaa.XSeq
set_option linter.unusedVariables false
set_option linter.unusedSimpArgs false
theorem addr0 (g n : Nat) : (⟨g, 0, none⟩ : Addr).add n = ⟨g, n, none⟩ := by cases n <;> simp [Addr.add]
end Go.Proofs.Ytenbkljgmgdegaa.PO
end
