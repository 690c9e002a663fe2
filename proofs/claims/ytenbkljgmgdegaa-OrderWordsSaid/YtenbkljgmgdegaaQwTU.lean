/- What the rows of this claim use, out of the texts of this work (TU). No condition beyond those that each statement names. -/
import Derived.Test.YtenbkljgmgdegaaQwTP
import Derived.Test.YtenbkljgmgdegaaQwOV
namespace Go.Proofs.Ytenbkljgmgdegaa.PO
open Go.RowKit Go.Proofs.YtenbkljgmgdegaaW.PrintWords Go.Proofs.YtenbkljgmgdegaaW.PrintLast Go.Proofs.YtenbkljgmgdegaaW.PrintMore
open Go.Proofs.Ytenbkljgmgdegaa.XRange Go.Proofs.Ytenbkljgmgdegaa.XMap Go.Proofs.Ytenbkljgmgdegaa.XSeq
set_option linter.unusedVariables false
set_option linter.unusedSimpArgs false
theorem keysDot : Keys Try.prog 34 dotV := by
 have hu34 := Try.underlying34
 refine keys_struct hu34 ?_ ?_ ?_
 · intro em x w
   obtain ⟨n, hn⟩ : ∃ n, 10000 = n + 1 + 1 := ⟨9998, rfl⟩
   rw [hn]
   have h9 := Try.underlying9
   have h2 := Try.underlying2
   have c9 : ∀ W, (Instr.checkKey em (n + 1) 9 (.string x.f0)).run Try.prog W = .ok () W := fun W => by simp [Instr.checkKey, run_underlying h9]
   have c2 : ∀ W, (Instr.checkKey em (n + 1) 2 (.int .i64 x.f1)).run Try.prog W = .ok () W := fun W => by simp [Instr.checkKey, run_underlying h2]
   unfold dotV
   rw [Instr.checkKey]
   simp [run_underlying hu34, go_sem, c9, c2]
 · intro x y w
   have h9 := Try.underlying9
   have h2 := Try.underlying2
   have key : ∀ d, (Op.equalIn (d + 1 + 1) 34 (.agg #[.string x.f0, .int .i64 x.f1]) (.agg #[.string y.f0, .int .i64 y.f1])).run Try.prog w = .ok ((x.f0 == y.f0) && (x.f1 == y.f1)) w := by
    intro d
    refine eqA_of hu34 (by kernel_rfl) (eqf_cons (r := x.f0 == y.f0) (s := x.f1 == y.f1) (a := .string x.f0) (b := .string y.f0) rfl ?_ ?_ ?_ (eqf_last (a := .int .i64 x.f1) (b := .int .i64 y.f1) rfl ?_ ?_ ?_))
    · go_simp
    · go_simp
    · simp only [Op.equalIn]; go_simp
    · go_simp
    · go_simp
    · simp only [Op.equalIn]; go_simp
   have e1 : ((x.f0 == y.f0) && (x.f1 == y.f1)) = decide (y = x) := by
    rw [ba_beq]
    obtain ⟨x0, x1⟩ := x
    obtain ⟨y0, y1⟩ := y
    simp only [S34.mk.injEq]
    rw [Bool.eq_iff_iff]
    simp only [Bool.and_eq_true, decide_eq_true_eq, beq_iff_eq]
    constructor <;> (rintro ⟨rfl, rfl⟩; exact ⟨rfl, rfl⟩)
   rw [← e1]
   exact key 9998
 · intro x
   simp [Instr.sameBits, dotV, ba_beq]
theorem mem_upd {D : List (S34 × (S36 × List Value))} {x : S34} {v : S36 × List Value} {p : S34 × (S36 × List Value)} (h : p ∈ upd D x v) : p ∈ D ∨ p = (x, v) := by
 induction D with
 | nil => simp only [upd, List.mem_singleton] at h; exact .inr h
 | cons q D ih =>
   unfold upd at h
   split at h
   · rcases List.mem_cons.1 h with h | h
     · exact .inr h
     · exact .inl (List.mem_cons_of_mem _ h)
   · rcases List.mem_cons.1 h with h | h
     · exact .inl (h ▸ List.mem_cons_self)
     · exact (ih h).imp (List.mem_cons_of_mem _) id
theorem PoolAt.update {G : Nat → Prop} {w w1 : World} {base g : Nat} {vl vk vw : Value} {m : Nat} {L : List S36} {K : List S34} {Q : List S36} {D : List (S34 × (S36 × List Value))} (h : PoolAt G w base g vl vk vw m L K Q D) {x : S34} {v : S36 × List Value}
 (hm : MapAt w1 m dotV opV (upd D x v)) (hk : Keeps (fun k => k = m) w w1) (hv : k36.M w base G v.1 v.2) : PoolAt G w1 base g vl vk vw m L K Q (upd D x v) := by
 have notm : ∀ k, (∃ cells q, w.heap[k]? = some (.cells cells q (0, 0))) → k ≠ m := by
  rintro k ⟨cells, q, hc⟩ rfl
  obtain ⟨es, cl, hme, _⟩ := h.mp.at_
  rw [hc] at hme
  cases hme
 have hM : ∀ {y : S36} {cs : List Value}, k36.M w base G y cs → k36.M w1 base G y cs := fun hy =>
  k36.M_mono (fun _ h => h.1) (k36.M_move (fun k hk' => by obtain ⟨_, _, hlt, q, _, cells, hc⟩ := hk'; exact hk.block k hlt (notm k ⟨cells, q, hc⟩)) (k36.M_bound hy))
 refine ⟨(hk.block g (blk_lt h.blk) (fun e => h.m_g e.symm)).trans h.blk, h.hb, ?_, ?_, ?_, hm, h.hm, fun p hp => ?_⟩
 · exact Kd.R_mono (Kd.R_move (Kd.R_bound h.rl) (fun k hk' => by obtain ⟨_, _, hlt, q, _, cells, hc⟩ := hk'; exact hk.block k hlt (notm k ⟨cells, q, hc⟩))) (fun k hk' => hk'.1)
 · exact Kd.R_mono (Kd.R_move (Kd.R_bound h.rk) (fun k hk' => by obtain ⟨_, _, hlt, q, _, cells, hc⟩ := hk'; exact hk.block k hlt (notm k ⟨cells, q, hc⟩))) (fun k hk' => hk'.1)
 · exact Kd.R_mono (Kd.R_move (Kd.R_bound h.rq) (fun k hk' => by obtain ⟨_, _, hlt, q, _, cells, hc⟩ := hk'; exact hk.block k hlt (notm k ⟨cells, q, hc⟩))) (fun k hk' => hk'.1)
 · rcases mem_upd hp with hp | rfl
   · exact hM (h.vals p hp)
   · exact hM hv
def putF (k f : Nat) (s : PSt) (x : S36) (cs : List Value) : Option ((Int × Int) × PSt) :=
 (order_Right.f k x.f0.f0 x.f0.f1 x.f1 x.f2 x.f3 x.f4 x.f5 x.f6).bind fun r => if r = true then
  if x.f1.length ≤ 1000000 ∧ x.f6.length ≤ 1000000 then match Go.Proofs.Ytenbkljgmgdegaa.XMap.look s.D x.f0 with
  | some y => (order_equal.f k y.1.f0.f0 y.1.f0.f1 y.1.f1 y.1.f2 y.1.f3 y.1.f4 y.1.f5 y.1.f6 x.f0.f0 x.f0.f1 x.f1 x.f2 x.f3 x.f4 x.f5 x.f6).bind fun b => if b = true then some ((0, 0), s) else some ((0, 81), s)
  | none => (vector_At.f k s.K x.f0.f0).bind fun a => if a = 0 ∧ s.K.length = 64 then some ((0, 70), s) else
    (vector_Leq.f k x.f1 s.K).bind fun b => if b = true then
     (handS k { s with D := upd s.D x.f0 (x, cs) } x).bind fun s1 => (drain k f (s1, 1)).bind fun t => some ((t.2, 0), t.1)
    else if s.Q.length = 256 then some ((0, 82), s) else if s.Q.length ≤ 1000000 then some ((0, 0), { s with D := upd s.D x.f0 (x, cs), Q := s.Q ++ [x] }) else none
  else none
 else some ((0, 2), s)
set_option maxHeartbeats 8000000 in
set_option maxRecDepth 100000 in
theorem put_calls (G : Nat → Prop) (k f : Nat) (F : Nat → Prop) (base g m : Nat) (s : PSt) (x : S36) (A1 A6 : Option Addr) (c1 c6 : Nat) (w : World) (hp : PoolIn G w.heap.size F base g m s w) (hFm : F m) (hG : ∀ j, w.heap.size ≤ j → G j)
 (hC1 : k34.C w A1 x.f1.length x.f1) (hc1 : x.f1.length ≤ c1) (hC6 : k34.C w A6 x.f6.length x.f6) (hc6 : x.f6.length ≤ c6) (hdef : ∀ cs, ∃ r, putF k f s x cs = some r)
 (hno : ∀ a, order_Right.f k x.f0.f0 x.f0.f1 x.f1 x.f2 x.f3 x.f4 x.f5 x.f6 = some true → Go.Proofs.Ytenbkljgmgdegaa.XMap.look s.D x.f0 = none → vector_At.f k s.K x.f0.f0 = some a → ¬ (a = 0 ∧ s.K.length = 64) → vector_Leq.f k x.f1 s.K = some true → False) :
 Calls Try.prog 17 #[.pointer (some ⟨g, 0, none⟩), .agg #[.string x.f0.f0, .int .i64 x.f0.f1, .slice A1 x.f1.length c1, .string x.f2, .int .i64 x.f3, .string x.f4, .int .i64 x.f5, .slice A6 x.f6.length c6]] w fun e w' =>
  ∃ cs r, putF k f s x cs = some r ∧ e = .returned (.tuple #[.int .i64 r.1.1, .int .i64 r.1.2]) ∧ PoolIn G w.heap.size F base g m r.2 w' ∧ Keeps F w w' := by
 obtain ⟨r0, hr0⟩ := hdef []
 have hr := hr0
 unfold putF at hr
 obtain ⟨rb, hRb, hr⟩ := Option.bind_eq_some_iff.mp hr
 obtain ⟨vl, vk, vw, hpa, hFg, hFl, hFw⟩ := hp
 have HP := Aside0.mk hpa
 have HFG := Aside0.mk hFg
 have HFL := Aside0.mk hFl
 have HFW := Aside0.mk hFw
 have HFM := Aside0.mk hFm
 have HGG := Aside0.mk hG
 have HC1 := Aside0.mk hC1
 have HCL1 := Aside0.mk hc1
 have HC6 := Aside0.mk hC6
 have HCL6 := Aside0.mk hc6
 have HDEF := Aside0.mk hdef
 have HRB := Aside0.mk hRb
 have HNO := Aside0.mk hno
 clear hno
 have HR := Aside0.mk hr
 have HR0 := Aside0.mk hr0
 clear hpa hFg hFl hFw hG hFm hC1 hc1 hC6 hc6 hdef hRb hr hr0
 obtain ⟨n0, hn0⟩ : ∃ n0, w.heap.size = n0 := ⟨_, rfl⟩
 go_enter Try.func17, Try.ntmps17
 have hz : ∀ w, (zeroValue 36).run Try.prog w = .ok (.agg #[.string ⟨#[]⟩, .int .i64 0, .slice none 0 0, .string ⟨#[]⟩, .int .i64 0, .string ⟨#[]⟩, .int .i64 0, .slice none 0 0]) w := by
  intro w
  obtain ⟨i0, hi, hzz⟩ := Option.map_eq_some_iff.1 info36
  simp only [Prod.mk.injEq] at hzz
  simp [zeroValue, typeInfo, hi, hzz.1]
 have HZ := Aside0.mk hz
 clear hz hr
 cases rb with
 | false =>
   go_wp2_with (go_at_call 45; refine (order_Right.calls k x.f0.f0 x.f0.f1 A1 c1 x.f1 x.f2 x.f3 x.f4 x.f5 A6 c6 x.f6 false _ ?hC1 HCL1.out ?hC6 HCL6.out HRB.out).mono ?_; (case hC1 => exact Kd.C_alloc (Kd.C_alloc HC1.out _) _); (case hC6 => exact Kd.C_alloc (Kd.C_alloc HC6.out _) _); rintro e' w1 ⟨rfl, hb⟩; have HB := Aside0.mk hb; clear hb)
   go_ret2
   have hr := HR.out
   simp only [Bool.false_eq_true, if_false, Option.some.injEq] at hr
   have hk1 : Keeps (fun _ => False) w w1 := Keeps.trans (((Keeps.refl _ w).alloc _).alloc _) (Keeps.of_below HB.out)
   refine ⟨[], r0, HR0.out, by rw [← hr]; rfl, ?_, keeps_weak hk1 (fun _ f => f.elim)⟩
   rw [← hr]
   exact ⟨vl, vk, vw, HP.out.keeps hk1, HFG.out, HFL.out, HFW.out⟩
 | true =>
   go_wp2_with (go_at_call 45; refine (order_Right.calls k x.f0.f0 x.f0.f1 A1 c1 x.f1 x.f2 x.f3 x.f4 x.f5 A6 c6 x.f6 true _ ?hC1 HCL1.out ?hC6 HCL6.out HRB.out).mono ?_; (case hC1 => exact Kd.C_alloc (Kd.C_alloc HC1.out _) _); (case hC6 => exact Kd.C_alloc (Kd.C_alloc HC6.out _) _); rintro e' w1 ⟨rfl, hb⟩; have HB := Aside0.mk hb; clear hb)
   have HK1 := Aside0.mk (show Keeps (fun _ => False) w w1 from Keeps.trans (((Keeps.refl _ w).alloc _).alloc _) (Keeps.of_below HB.out))
   have HP1 := Aside0.mk (HP.out.keeps HK1.out)
   have BK2 := Aside0.mk (show w1.heap[n0]? = some (.cells #[.pointer (some ⟨g, 0, none⟩)] 25 (0, 0)) from blk_below (blk_alloc (by rw [← hn0]; exact World.alloc_heap_new w _) _) HB.out)
   have BK3 := Aside0.mk (show w1.heap[n0 + 1]? = some (.cells #[.string x.f0.f0, .int .i64 x.f0.f1, .slice A1 x.f1.length c1, .string x.f2, .int .i64 x.f3, .string x.f4, .int .i64 x.f5, .slice A6 x.f6.length c6] 36 (0, 0)) from
    blk_below (by rw [← hn0]; have := World.alloc_heap_new (w.alloc (.cells #[.pointer (some ⟨g, 0, none⟩)] 25)) (.cells #[.string x.f0.f0, .int .i64 x.f0.f1, .slice A1 x.f1.length c1, .string x.f2, .int .i64 x.f3, .string x.f4, .int .i64 x.f5, .slice A6 x.f6.length c6] 36); rwa [World.size_alloc] at this) HB.out)
   have HD1 := Aside0.mk (Kd.C_below (Kd.C_alloc (Kd.C_alloc HC1.out _) _) HB.out)
   have HD6 := Aside0.mk (Kd.C_below (Kd.C_alloc (Kd.C_alloc HC6.out _) _) HB.out)
   clear HB HC1 HC6
   have hr := HR.out
   simp only [if_true] at hr
   clear HR
   have hlens : x.f1.length ≤ 1000000 ∧ x.f6.length ≤ 1000000 := by
    by_cases h : x.f1.length ≤ 1000000 ∧ x.f6.length ≤ 1000000
    · exact h
    · rw [if_neg h] at hr; cases hr
   rw [if_pos hlens] at hr
   have HLEN := Aside0.mk hlens
   clear hlens
   cases hlk : Go.Proofs.Ytenbkljgmgdegaa.XMap.look s.D x.f0 with
   | some y =>
     rw [hlk] at hr
     obtain ⟨b, hEq, hr⟩ := Option.bind_eq_some_iff.mp hr
     have HEQ := Aside0.mk hEq
     have HR := Aside0.mk hr
     obtain ⟨y, cy⟩ := y
     have hyM : k36.M w1 base G y cy := by
      obtain ⟨i, _, hi, hDi⟩ := find_some hlk
      have := HP1.out.vals _ (List.getElem_mem hi)
      rwa [hDi] at this
     obtain ⟨u2, u7, rfl, r2, r7⟩ := k36_openM hyM
     obtain ⟨A2, c2, rfl, hc2, hC2⟩ := Kd.R_reads r2
     obtain ⟨A7, c7, rfl, hc7, hC7⟩ := Kd.R_reads r7
     have HLK := Aside0.mk hlk
     have HY2 := Aside0.mk hC2
     have HY7 := Aside0.mk hC7
     have HYc2 := Aside0.mk hc2
     have HYc7 := Aside0.mk hc7
     clear hEq hr hlk hyM r2 r7 hc2 hC2 hc7 hC7
     refine start_ (n := 13) (ds := [11]) (S := fun w' => w'.cell? ⟨n0, 0, none⟩ = some (.pointer (some ⟨g, 0, none⟩)) ∧ w'.cell? ⟨g, 3, none⟩ = some (.map (some m)) ∧ w'.cell? ⟨n0 + 1, 0, none⟩ = some (.string x.f0.f0) ∧ w'.cell? ⟨n0 + 1, 1, none⟩ = some (.int .i64 x.f0.f1) ∧ MapAt w' m dotV opV s.D) _ (by kernel_rfl) rfl rfl
      ⟨(blk_cell (blk_drew BK2.out) 0).trans rfl, (blk_cell (blk_drew HP1.out.blk) 3).trans rfl, (blk_cell (blk_drew BK3.out) 0).trans rfl, (blk_cell (blk_drew BK3.out) 1).trans rfl, HP1.out.mp.step rfl⟩ (fun hH => ?_)
     refine XReg.tk 0 18 (h := ?_)
     refine XReg.pu 1 19 (h := ?_)
     refine XReg.pu 2 20 (h := ?_)
     refine XReg.tk 3 21 (h := ?_)
     refine XReg.pu 4 22 (h := ?_)
     refine XReg.tk 5 23 (h := ?_)
     refine tkL (i := 6) (some 24) rfl rfl (by kernel_rfl) (fun _ _ _ h => h) (by rfl) (by assumption) (v := .tuple #[.agg #[.string y.f0.f0, .int .i64 y.f0.f1, .slice A2 y.f1.length c2, .string y.f2, .int .i64 y.f3, .string y.f4, .int .i64 y.f5, .slice A7 y.f6.length c7], .bool true]) ?_ (a' := ?_) ?_ ?_
     · intro w' hS
       obtain ⟨_, _, _, _, hmp⟩ := hS
       have hl : (Instr.lookup 71 (.map (some m)) (.agg #[.string x.f0.f0, .int .i64 x.f0.f1]) true).run Try.prog w' = .ok (.tuple #[.agg #[.string y.f0.f0, .int .i64 y.f0.f1, .slice A2 y.f1.length c2, .string y.f2, .int .i64 y.f3, .string y.f4, .int .i64 y.f5, .slice A7 y.f6.length c7], .bool true]) w' := run_lookup_hit Try.underlying71 keysDot hmp x.f0 _ HLK.out true
       go_simp
     rotate_left
     · (simp only [Act.put, List.setIfInBounds_toArray, List.set_cons_zero, List.set_cons_succ, i64_w, i32_w]; first | done | rfl)
     rotate_left
     refine XReg.pu 7 17 (h := ?_)
     refine XReg.pu 8 25 (h := ?_)
     refine XReg.pu 9 26 (h := ?_)
     obtain ⟨N, hN⟩ : ∃ N, w1.heap.size = N := ⟨_, rfl⟩
     have n0N : n0 < N := by have := blk_lt BK2.out; omega
     have n1N : n0 + 1 < N := by have := blk_lt BK3.out; omega
     have gN : g < N := by have := blk_lt HP1.out.blk; omega
     refine oneL (i := 10) (some 6) rfl rfl (by kernel_rfl) (by decide) (fun Kc hKc => ?_)
     go_simp
     have hbN : (w1.alloc (.cells #[.string ⟨#[]⟩, .int .i64 0, .slice none 0 0, .string ⟨#[]⟩, .int .i64 0, .string ⟨#[]⟩, .int .i64 0, .slice none 0 0] 36)).drew.heap[N]? = some (.cells #[.string ⟨#[]⟩, .int .i64 0, .slice none 0 0, .string ⟨#[]⟩, .int .i64 0, .string ⟨#[]⟩, .int .i64 0, .slice none 0 0] 36 (0, 0)) := by
      rw [← hN]; exact World.alloc_heap_new w1 _
     refine hKc.out _ _ ⟨(blk_cell (blk_alloc (blk_drew BK2.out) _) 0).trans rfl, (blk_cell (blk_alloc (blk_drew HP1.out.blk) _) 3).trans rfl, (blk_cell (blk_alloc (blk_drew BK3.out) _) 0).trans rfl, (blk_cell (blk_alloc (blk_drew BK3.out) _) 1).trans rfl, HP1.out.mp.step (Below.heap_alloc w1 _ m HP1.out.mp.lt)⟩ (fun hH2 => ?_)
     clear hKc Kc hH hH2
     refine lastL (i := 11) none rfl rfl (by kernel_rfl) (by decide) (fun Kc hKc => ?_)
     refine skip_ (w1 := ?_) (by rfl) rfl ?_ ?_
     rotate_left
     · have z0 := (blk_cell hbN 0).trans rfl
       have z1 := (blk_cell hbN 1).trans rfl
       have z2 := (blk_cell hbN 2).trans rfl
       have z3 := (blk_cell hbN 3).trans rfl
       have z4 := (blk_cell hbN 4).trans rfl
       have z5 := (blk_cell hbN 5).trans rfl
       have z6 := (blk_cell hbN 6).trans rfl
       have z7 := (blk_cell hbN 7).trans rfl
       have y0 := blk_frozen hbN 0
       have y1 := blk_frozen hbN 1
       have y2 := blk_frozen hbN 2
       have y3 := blk_frozen hbN 3
       have y4 := blk_frozen hbN 4
       have y5 := blk_frozen hbN 5
       have y6 := blk_frozen hbN 6
       have y7 := blk_frozen hbN 7
       go_simp
       rfl
     refine hKc.out _ _ ?_
     clear hKc Kc
     refine XReg.pu 12 7 (h := ?_)
     refine done_ (by kernel_rfl) ?_
     obtain ⟨w2, hw2⟩ : ∃ w2, (w1.alloc (.cells #[.string y.f0.f0, .int .i64 y.f0.f1, .slice A2 y.f1.length c2, .string y.f2, .int .i64 y.f3, .string y.f4, .int .i64 y.f5, .slice A7 y.f6.length c7] 36)).drew = w2 := ⟨_, rfl⟩
     rw [hw2]
     have HK2 := Aside0.mk (show Keeps (fun _ => False) w1 w2 from by rw [← hw2]; exact ((Keeps.refl _ w1).alloc _).drew)
     have BK6 := Aside0.mk (show w2.heap[N]? = some (.cells #[.string y.f0.f0, .int .i64 y.f0.f1, .slice A2 y.f1.length c2, .string y.f2, .int .i64 y.f3, .string y.f4, .int .i64 y.f5, .slice A7 y.f6.length c7] 36 (0, 0)) from by rw [← hw2, ← hN]; exact World.alloc_heap_new w1 _)
     have hb12 : Below w1.heap.size w1 w2 := by
      rw [← hw2]
      have h := (Below.refl _ w1).alloc (Nat.le_refl _) (.cells #[.string y.f0.f0, .int .i64 y.f0.f1, .slice A2 y.f1.length c2, .string y.f2, .int .i64 y.f3, .string y.f4, .int .i64 y.f5, .slice A7 y.f6.length c7] 36)
      exact ⟨h.os, h.tape, h.output, h.size, h.block⟩
     have BK32 := Aside0.mk (blk_below BK3.out hb12)
     have HE1 := Aside0.mk (Kd.C_below HD1.out hb12)
     have HE6 := Aside0.mk (Kd.C_below HD6.out hb12)
     have HY22 := Aside0.mk (Kd.C_below HY2.out hb12)
     have HY72 := Aside0.mk (Kd.C_below HY7.out hb12)
     clear hw2 hb12 hbN
     have p0 : w2.cell? ⟨N, 0, none⟩ = some (.string y.f0.f0) := (blk_cell BK6.out 0).trans rfl
     have p1 : w2.cell? ⟨N, 1, none⟩ = some (.int .i64 y.f0.f1) := (blk_cell BK6.out 1).trans rfl
     have p2 : w2.cell? ⟨N, 2, none⟩ = some (.slice A2 y.f1.length c2) := (blk_cell BK6.out 2).trans rfl
     have p3 : w2.cell? ⟨N, 3, none⟩ = some (.string y.f2) := (blk_cell BK6.out 3).trans rfl
     have p4 : w2.cell? ⟨N, 4, none⟩ = some (.int .i64 y.f3) := (blk_cell BK6.out 4).trans rfl
     have p5 : w2.cell? ⟨N, 5, none⟩ = some (.string y.f4) := (blk_cell BK6.out 5).trans rfl
     have p6 : w2.cell? ⟨N, 6, none⟩ = some (.int .i64 y.f5) := (blk_cell BK6.out 6).trans rfl
     have p7 : w2.cell? ⟨N, 7, none⟩ = some (.slice A7 y.f6.length c7) := (blk_cell BK6.out 7).trans rfl
     have q0 : w2.cell? ⟨n0 + 1, 0, none⟩ = some (.string x.f0.f0) := (blk_cell BK32.out 0).trans rfl
     have q1 : w2.cell? ⟨n0 + 1, 1, none⟩ = some (.int .i64 x.f0.f1) := (blk_cell BK32.out 1).trans rfl
     have q2 : w2.cell? ⟨n0 + 1, 2, none⟩ = some (.slice A1 x.f1.length c1) := (blk_cell BK32.out 2).trans rfl
     have q3 : w2.cell? ⟨n0 + 1, 3, none⟩ = some (.string x.f2) := (blk_cell BK32.out 3).trans rfl
     have q4 : w2.cell? ⟨n0 + 1, 4, none⟩ = some (.int .i64 x.f3) := (blk_cell BK32.out 4).trans rfl
     have q5 : w2.cell? ⟨n0 + 1, 5, none⟩ = some (.string x.f4) := (blk_cell BK32.out 5).trans rfl
     have q6 : w2.cell? ⟨n0 + 1, 6, none⟩ = some (.int .i64 x.f5) := (blk_cell BK32.out 6).trans rfl
     have q7 : w2.cell? ⟨n0 + 1, 7, none⟩ = some (.slice A6 x.f6.length c6) := (blk_cell BK32.out 7).trans rfl
     cases b with
     | false =>
       go_wp2_with (go_at_call 50; refine (order_equal.calls k y.f0.f0 y.f0.f1 A2 c2 y.f1 y.f2 y.f3 y.f4 y.f5 A7 c7 y.f6 x.f0.f0 x.f0.f1 A1 c1 x.f1 x.f2 x.f3 x.f4 x.f5 A6 c6 x.f6 false _ HY22.out HYc2.out HY72.out HYc7.out HE1.out HCL1.out HE6.out HCL6.out HEQ.out).mono ?_; rintro e' w3 ⟨rfl, hb3⟩; have HB3 := Aside0.mk hb3; clear hb3)
       go_ret2
       have hr := HR.out
       have hk3 : Keeps (fun _ => False) w w3 := Keeps.trans (Keeps.trans HK1.out HK2.out) (Keeps.of_below HB3.out)
       simp only [if_true, Bool.false_eq_true, if_false, Option.some.injEq] at hr
       refine ⟨[], r0, HR0.out, by rw [← hr]; rfl, ?_, keeps_weak hk3 (fun _ f => f.elim)⟩
       rw [← hr]
       exact ⟨vl, vk, vw, HP.out.keeps hk3, HFG.out, HFL.out, HFW.out⟩
     | true =>
       go_wp2_with (go_at_call 50; refine (order_equal.calls k y.f0.f0 y.f0.f1 A2 c2 y.f1 y.f2 y.f3 y.f4 y.f5 A7 c7 y.f6 x.f0.f0 x.f0.f1 A1 c1 x.f1 x.f2 x.f3 x.f4 x.f5 A6 c6 x.f6 true _ HY22.out HYc2.out HY72.out HYc7.out HE1.out HCL1.out HE6.out HCL6.out HEQ.out).mono ?_; rintro e' w3 ⟨rfl, hb3⟩; have HB3 := Aside0.mk hb3; clear hb3)
       go_ret2
       have hr := HR.out
       have hk3 : Keeps (fun _ => False) w w3 := Keeps.trans (Keeps.trans HK1.out HK2.out) (Keeps.of_below HB3.out)
       simp only [if_true, Bool.false_eq_true, if_false, Option.some.injEq] at hr
       refine ⟨[], r0, HR0.out, by rw [← hr]; rfl, ?_, keeps_weak hk3 (fun _ f => f.elim)⟩
       rw [← hr]
       exact ⟨vl, vk, vw, HP.out.keeps hk3, HFG.out, HFL.out, HFW.out⟩
   | none =>
     rw [hlk] at hr
     obtain ⟨a, hAt, hr⟩ := Option.bind_eq_some_iff.mp hr
     have HAT := Aside0.mk hAt
     have HR := Aside0.mk hr
     have HLK := Aside0.mk hlk
     clear hAt hr hlk
     refine start_ (n := 13) (ds := [11]) (S := fun w' => w'.cell? ⟨n0, 0, none⟩ = some (.pointer (some ⟨g, 0, none⟩)) ∧ w'.cell? ⟨g, 3, none⟩ = some (.map (some m)) ∧ w'.cell? ⟨n0 + 1, 0, none⟩ = some (.string x.f0.f0) ∧ w'.cell? ⟨n0 + 1, 1, none⟩ = some (.int .i64 x.f0.f1) ∧ MapAt w' m dotV opV s.D) _ (by kernel_rfl) rfl rfl
      ⟨(blk_cell (blk_drew BK2.out) 0).trans rfl, (blk_cell (blk_drew HP1.out.blk) 3).trans rfl, (blk_cell (blk_drew BK3.out) 0).trans rfl, (blk_cell (blk_drew BK3.out) 1).trans rfl, HP1.out.mp.step rfl⟩ (fun hH => ?_)
     refine XReg.tk 0 18 (h := ?_)
     refine XReg.pu 1 19 (h := ?_)
     refine XReg.pu 2 20 (h := ?_)
     refine XReg.tk 3 21 (h := ?_)
     refine XReg.pu 4 22 (h := ?_)
     refine XReg.tk 5 23 (h := ?_)
     refine tkL (i := 6) (some 24) rfl rfl (by kernel_rfl) (fun _ _ _ h => h) (by rfl) (by assumption) (v := .tuple #[.agg #[.string ⟨#[]⟩, .int .i64 0, .slice none 0 0, .string ⟨#[]⟩, .int .i64 0, .string ⟨#[]⟩, .int .i64 0, .slice none 0 0], .bool false]) ?_ (a' := ?_) ?_ ?_
     · intro w' hS
       obtain ⟨_, _, _, _, hmp⟩ := hS
       have hl : (Instr.lookup 71 (.map (some m)) (.agg #[.string x.f0.f0, .int .i64 x.f0.f1]) true).run Try.prog w' = .ok (.tuple #[.agg #[.string ⟨#[]⟩, .int .i64 0, .slice none 0 0, .string ⟨#[]⟩, .int .i64 0, .string ⟨#[]⟩, .int .i64 0, .slice none 0 0], .bool false]) w' := run_lookup_miss Try.underlying71 keysDot hmp x.f0 HLK.out _ (HZ.out w') true
       go_simp
     rotate_left
     · (simp only [Act.put, List.setIfInBounds_toArray, List.set_cons_zero, List.set_cons_succ, i64_w, i32_w]; first | done | rfl)
     rotate_left
     refine XReg.pu 7 17 (h := ?_)
     refine XReg.pu 8 25 (h := ?_)
     refine XReg.pu 9 26 (h := ?_)
     obtain ⟨N, hN⟩ : ∃ N, w1.heap.size = N := ⟨_, rfl⟩
     have n0N : n0 < N := by have := blk_lt BK2.out; omega
     have n1N : n0 + 1 < N := by have := blk_lt BK3.out; omega
     have gN : g < N := by have := blk_lt HP1.out.blk; omega
     refine oneL (i := 10) (some 6) rfl rfl (by kernel_rfl) (by decide) (fun Kc hKc => ?_)
     go_simp
     have hbN : (w1.alloc (.cells #[.string ⟨#[]⟩, .int .i64 0, .slice none 0 0, .string ⟨#[]⟩, .int .i64 0, .string ⟨#[]⟩, .int .i64 0, .slice none 0 0] 36)).drew.heap[N]? = some (.cells #[.string ⟨#[]⟩, .int .i64 0, .slice none 0 0, .string ⟨#[]⟩, .int .i64 0, .string ⟨#[]⟩, .int .i64 0, .slice none 0 0] 36 (0, 0)) := by
      rw [← hN]; exact World.alloc_heap_new w1 _
     refine hKc.out _ _ ⟨(blk_cell (blk_alloc (blk_drew BK2.out) _) 0).trans rfl, (blk_cell (blk_alloc (blk_drew HP1.out.blk) _) 3).trans rfl, (blk_cell (blk_alloc (blk_drew BK3.out) _) 0).trans rfl, (blk_cell (blk_alloc (blk_drew BK3.out) _) 1).trans rfl, HP1.out.mp.step (Below.heap_alloc w1 _ m HP1.out.mp.lt)⟩ (fun hH2 => ?_)
     clear hKc Kc hH hH2
     refine lastL (i := 11) none rfl rfl (by kernel_rfl) (by decide) (fun Kc hKc => ?_)
     refine skip_ (w1 := ?_) (by rfl) rfl ?_ ?_
     rotate_left
     · have z0 := (blk_cell hbN 0).trans rfl
       have z1 := (blk_cell hbN 1).trans rfl
       have z2 := (blk_cell hbN 2).trans rfl
       have z3 := (blk_cell hbN 3).trans rfl
       have z4 := (blk_cell hbN 4).trans rfl
       have z5 := (blk_cell hbN 5).trans rfl
       have z6 := (blk_cell hbN 6).trans rfl
       have z7 := (blk_cell hbN 7).trans rfl
       have y0 := blk_frozen hbN 0
       have y1 := blk_frozen hbN 1
       have y2 := blk_frozen hbN 2
       have y3 := blk_frozen hbN 3
       have y4 := blk_frozen hbN 4
       have y5 := blk_frozen hbN 5
       have y6 := blk_frozen hbN 6
       have y7 := blk_frozen hbN 7
       go_simp
       rfl
     refine hKc.out _ _ ?_
     clear hKc Kc
     refine XReg.pu 12 7 (h := ?_)
     refine done_ (by kernel_rfl) ?_
     obtain ⟨w2, hw2⟩ : ∃ w2, (w1.alloc (.cells #[.string ⟨#[]⟩, .int .i64 0, .slice none 0 0, .string ⟨#[]⟩, .int .i64 0, .string ⟨#[]⟩, .int .i64 0, .slice none 0 0] 36)).drew = w2 := ⟨_, rfl⟩
     rw [hw2]
     have HK2 := Aside0.mk (show Keeps (fun _ => False) w1 w2 from by rw [← hw2]; exact ((Keeps.refl _ w1).alloc _).drew)
     have hb12 : Below w1.heap.size w1 w2 := by
      rw [← hw2]
      have h := (Below.refl _ w1).alloc (Nat.le_refl _) (.cells #[.string ⟨#[]⟩, .int .i64 0, .slice none 0 0, .string ⟨#[]⟩, .int .i64 0, .string ⟨#[]⟩, .int .i64 0, .slice none 0 0] 36)
      exact ⟨h.os, h.tape, h.output, h.size, h.block⟩
     have HP2 := Aside0.mk (HP1.out.below hb12)
     have BK22 := Aside0.mk (blk_below BK2.out hb12)
     have BK32 := Aside0.mk (blk_below BK3.out hb12)
     have HE1 := Aside0.mk (Kd.C_below HD1.out hb12)
     have HE6 := Aside0.mk (Kd.C_below HD6.out hb12)
     have HKw := Aside0.mk (HK1.out.trans HK2.out)
     clear hw2 hb12 hbN BK2 BK3 HD1 HD6 HK2 HK1 HP1 n0N n1N gN hN
     go_wp2
     obtain ⟨Ak, ck, rfl⟩ := Kd.R_slice HP2.out.rk
     refine start_ (n := 18) (ds := []) (S := fun w' => w'.cell? ⟨n0, 0, none⟩ = some (.pointer (some ⟨g, 0, none⟩)) ∧ w'.cell? ⟨g, 1, none⟩ = some (.slice Ak s.K.length ck) ∧ w'.cell? ⟨n0 + 1, 0, none⟩ = some (.string x.f0.f0)) _ (by kernel_rfl) rfl rfl
      ⟨(blk_cell (blk_drew BK22.out) 0).trans rfl, (blk_cell (blk_drew HP2.out.blk) 1).trans rfl, (blk_cell (blk_drew BK32.out) 0).trans rfl⟩ (fun hH => ?_)
     refine XReg.tk 0 57 (h := ?_)
     refine XReg.pu 1 58 (h := ?_)
     refine XReg.pu 2 59 (h := ?_)
     refine XReg.tk 3 60 (h := ?_)
     refine XReg.pu 4 61 (h := ?_)
     refine XReg.pu 5 62 (h := ?_)
     refine XReg.tk 6 63 (h := ?_)
     refine oneL (i := 7) (some 64) rfl rfl (by kernel_rfl) (by decide) (fun Kc hKc => ?_)
     refine goes_ Try.func51 (by kernel_rfl) rfl #[.slice Ak s.K.length ck, .string x.f0.f0] (by rfl) rfl rfl (by (try simp only [List.map_toArray, List.map_cons, List.map_nil]); first | done | rfl) ?_
     have hrk := Kd.R_reads' HP2.out.rk
     refine (vector_At.calls k Ak ck s.K x.f0.f0 a _ (Kd.C_drew hrk.2.2) hrk.2.1 HAT.out).mono ?_
     rintro e' w3 ⟨rfl, hb3⟩
     refine ⟨_, rfl, ?_⟩
     have hb3' : Below w2.heap.size w2 w3 := ⟨hb3.os, hb3.tape, hb3.output, hb3.size, hb3.block⟩
     have HP3 := Aside0.mk (HP2.out.below hb3')
     have BK23 := Aside0.mk (blk_below BK22.out hb3')
     have BK33 := Aside0.mk (blk_below BK32.out hb3')
     have HF1 := Aside0.mk (Kd.C_below HE1.out hb3')
     have HF6 := Aside0.mk (Kd.C_below HE6.out hb3')
     have HK3 := Aside0.mk (HKw.out.trans (Keeps.of_below hb3'))
     clear hb3 hb3' hrk HP2 BK22 BK32 HE1 HE6 HKw
     refine hKc.out _ _ ⟨(blk_cell BK23.out 0).trans rfl, (blk_cell HP3.out.blk 1).trans rfl, (blk_cell BK33.out 0).trans rfl⟩ (fun hH => ?_)
     clear hKc Kc
     have hr := HR.out
     clear HR
     by_cases h70 : a = 0 ∧ s.K.length = 64
     · have q : (a == 0) = true := by simp [h70.1]
       have q64 : ((s.K.length : Int) == 64) = true := by simp [h70.2]
       rw [if_pos h70] at hr
       simp only [Option.some.injEq] at hr
       have HR := Aside0.mk hr
       clear hr h70
       refine XReg.pu 8 65 (h := ?_)
       refine XReg.pu 9 66 (h := ?_)
       refine XReg.tk 10 67 (h := ?_)
       refine XReg.pu 11 68 (h := ?_)
       refine XReg.pu 12 69 (h := ?_)
       refine XReg.tk 13 70 (h := ?_)
       refine XReg.pu 14 71 (h := ?_)
       refine XReg.pu 15 72 (h := ?_)
       refine XReg.pu 16 73 (h := ?_)
       refine XReg.pu 17 56 (h := ?_)
       refine done_ (by kernel_rfl) ?_
       go_wp2
       go_ret2
       have hr := HR.out
       refine ⟨[], r0, HR0.out, by rw [← hr]; rfl, ?_, keeps_weak HK3.out (fun _ f => f.elim)⟩
       rw [← hr]
       exact ⟨vl, _, vw, HP3.out, HFG.out, HFL.out, HFW.out⟩
     have H70 := Aside0.mk h70
     rw [if_neg h70] at hr
     obtain ⟨bl, hLe, hr⟩ := Option.bind_eq_some_iff.mp hr
     have HLE := Aside0.mk hLe
     have HR := Aside0.mk hr
     clear hr hLe
     by_cases ha : a = 0
     case' pos =>
      have q : (a == 0) = true := by simp [ha]
      have q64 : ((s.K.length : Int) == 64) = false := by simp; omega
      clear h70
      refine XReg.pu 8 65 (h := ?_)
      refine XReg.pu 9 66 (h := ?_)
      refine XReg.tk 10 67 (h := ?_)
      refine XReg.pu 11 68 (h := ?_)
      refine XReg.pu 12 69 (h := ?_)
      refine XReg.tk 13 70 (h := ?_)
      refine XReg.pu 14 71 (h := ?_)
      refine XReg.pu 15 72 (h := ?_)
      refine XReg.pu 16 73 (h := ?_)
      refine XReg.pu 17 56 (h := ?_)
     case' neg =>
      have q : (a == 0) = false := by simp [ha]
      clear h70
      refine XReg.pu 8 65 (h := ?_)
      refine XReg.pu 9 66 (h := ?_)
      refine XReg.pn 10 67 (h := ?_)
      refine XReg.pn 11 68 (h := ?_)
      refine XReg.pn 12 69 (h := ?_)
      refine XReg.pn 13 70 (h := ?_)
      refine XReg.pn 14 71 (h := ?_)
      refine XReg.pn 15 72 (h := ?_)
      refine XReg.pu 16 73 (h := ?_)
      refine XReg.pu 17 56 (h := ?_)
     all_goals
      refine done_ (by kernel_rfl) ?_
      go_wp2
      refine start_ (n := 8) (ds := []) (S := fun w' => w'.cell? ⟨n0, 0, none⟩ = some (.pointer (some ⟨g, 0, none⟩)) ∧ w'.cell? ⟨g, 1, none⟩ = some (.slice Ak s.K.length ck) ∧ w'.cell? ⟨n0 + 1, 2, none⟩ = some (.slice A1 x.f1.length c1)) _ (by kernel_rfl) rfl rfl
       ⟨(blk_cell (blk_drew BK23.out) 0).trans rfl, (blk_cell (blk_drew HP3.out.blk) 1).trans rfl, (blk_cell (blk_drew BK33.out) 2).trans rfl⟩ (fun hH => ?_)
      refine XReg.pu 0 75 (h := ?_)
      refine XReg.tk 1 76 (h := ?_)
      refine XReg.tk 2 77 (h := ?_)
      refine XReg.pu 3 78 (h := ?_)
      refine XReg.pu 4 79 (h := ?_)
      refine XReg.tk 5 80 (h := ?_)
      refine oneL (i := 6) (some 81) rfl rfl (by kernel_rfl) (by decide) (fun Kc hKc => ?_)
      refine goes_ Try.func52 (by kernel_rfl) rfl #[.slice A1 x.f1.length c1, .slice Ak s.K.length ck] (by rfl) rfl rfl (by (try simp only [List.map_toArray, List.map_cons, List.map_nil]); first | done | rfl) ?_
      have hrk := Kd.R_reads' HP3.out.rk
      refine (vector_Leq.calls k A1 c1 x.f1 Ak ck s.K bl _ (Kd.C_drew HF1.out) HCL1.out (Kd.C_drew hrk.2.2) hrk.2.1 HLE.out).mono ?_
      rintro e' w4 ⟨rfl, hb4⟩
      refine ⟨_, rfl, ?_⟩
      have hb4' : Below w3.heap.size w3 w4 := ⟨hb4.os, hb4.tape, hb4.output, hb4.size, hb4.block⟩
      have HP4 := Aside0.mk (HP3.out.below hb4')
      have BK24 := Aside0.mk (blk_below BK23.out hb4')
      have BK34 := Aside0.mk (blk_below BK33.out hb4')
      have HG1 := Aside0.mk (Kd.C_below HF1.out hb4')
      have HG6 := Aside0.mk (Kd.C_below HF6.out hb4')
      have HK4 := Aside0.mk (HK3.out.trans (Keeps.of_below hb4'))
      clear hb4 hb4' hrk HP3 BK23 BK33 HF1 HF6 HK3
      refine hKc.out _ _ ⟨(blk_cell BK24.out 0).trans rfl, (blk_cell HP4.out.blk 1).trans rfl, (blk_cell BK34.out 2).trans rfl⟩ (fun hH => ?_)
      clear hKc Kc
      refine XReg.pu 7 74 (h := ?_)
      refine done_ (by kernel_rfl) ?_
      cases bl with
      | true => exact (HNO.out a HRB.out HLK.out HAT.out H70.out HLE.out).elim
      | false =>
        have hr := HR.out
        simp only [Bool.false_eq_true, if_false] at hr
        clear HR
        obtain ⟨Aw, cw, rfl⟩ := Kd.R_slice HP4.out.rq
        have c20 : w4.cell? ⟨n0, 0, none⟩ = some (.pointer (some ⟨g, 0, none⟩)) := (blk_cell BK24.out 0).trans rfl
        have cg2 : w4.cell? ⟨g, 2, none⟩ = some (.slice Aw s.Q.length cw) := (blk_cell HP4.out.blk 2).trans rfl
        by_cases h82 : s.Q.length = 256
        · have q8 : ((s.Q.length : Int) == 256) = true := by simp [h82]
          rw [if_pos h82] at hr
          simp only [Option.some.injEq] at hr
          have HR := Aside0.mk hr
          clear hr h82
          go_wp2
          go_ret2
          have hr := HR.out
          refine ⟨[], r0, HR0.out, by rw [← hr]; rfl, ?_, keeps_weak HK4.out (fun _ f => f.elim)⟩
          rw [← hr]
          exact ⟨vl, _, _, HP4.out, HFG.out, HFL.out, HFW.out⟩
        · have q8 : ((s.Q.length : Int) == 256) = false := by simp; omega
          have H82 := Aside0.mk h82
          rw [if_neg h82] at hr
          have HR := Aside0.mk hr
          clear hr h82
          go_wp2
          have hown : order_own.f x.f0.f0 x.f0.f1 x.f1 x.f2 x.f3 x.f4 x.f5 x.f6 = some (x.f0.f0, x.f0.f1, x.f1, x.f2, x.f3, x.f4, x.f5, x.f6) := by
           unfold order_own.f api_Dot_66.f
           rw [if_pos (by have := HLEN.out.1; omega), if_pos (by have := HLEN.out.2; omega)]
           rfl
          have HOWN := Aside0.mk hown
          clear hown
          refine start_ (n := 9) (ds := [8]) (S := fun w' => w'.cell? ⟨n0, 0, none⟩ = some (.pointer (some ⟨g, 0, none⟩)) ∧ w'.cell? ⟨g, 3, none⟩ = some (.map (some m)) ∧ w'.cell? ⟨n0 + 1, 0, none⟩ = some (.string x.f0.f0) ∧ w'.cell? ⟨n0 + 1, 1, none⟩ = some (.int .i64 x.f0.f1) ∧ w'.cell? ⟨n0 + 1, 2, none⟩ = some (.slice A1 x.f1.length c1) ∧ w'.cell? ⟨n0 + 1, 3, none⟩ = some (.string x.f2) ∧ w'.cell? ⟨n0 + 1, 4, none⟩ = some (.int .i64 x.f3) ∧ w'.cell? ⟨n0 + 1, 5, none⟩ = some (.string x.f4) ∧ w'.cell? ⟨n0 + 1, 6, none⟩ = some (.int .i64 x.f5) ∧ w'.cell? ⟨n0 + 1, 7, none⟩ = some (.slice A6 x.f6.length c6)) _ (by kernel_rfl) rfl rfl
           ⟨(blk_cell (blk_drew BK24.out) 0).trans rfl, (blk_cell (blk_drew HP4.out.blk) 3).trans rfl, (blk_cell (blk_drew BK34.out) 0).trans rfl, (blk_cell (blk_drew BK34.out) 1).trans rfl, (blk_cell (blk_drew BK34.out) 2).trans rfl, (blk_cell (blk_drew BK34.out) 3).trans rfl, (blk_cell (blk_drew BK34.out) 4).trans rfl, (blk_cell (blk_drew BK34.out) 5).trans rfl, (blk_cell (blk_drew BK34.out) 6).trans rfl, (blk_cell (blk_drew BK34.out) 7).trans rfl⟩ (fun hH => ?_)
          refine XReg.tk 0 32 (h := ?_)
          refine XReg.pu 1 33 (h := ?_)
          refine XReg.pu 2 34 (h := ?_)
          refine XReg.tk 3 35 (h := ?_)
          refine XReg.pu 4 36 (h := ?_)
          refine XReg.tk 5 37 (h := ?_)
          refine XReg.tk 6 38 (h := ?_)
          refine oneL (i := 7) (some 39) rfl rfl (by kernel_rfl) (by decide) (fun Kc hKc => ?_)
          refine goes_ Try.func53 (by kernel_rfl) rfl #[.agg #[.string x.f0.f0, .int .i64 x.f0.f1, .slice A1 x.f1.length c1, .string x.f2, .int .i64 x.f3, .string x.f4, .int .i64 x.f5, .slice A6 x.f6.length c6]] (by rfl) rfl rfl (by (try simp only [List.map_toArray, List.map_cons, List.map_nil]); first | done | rfl) ?_
          refine (order_own.calls x.f0.f0 x.f0.f1 A1 c1 x.f1 x.f2 x.f3 x.f4 x.f5 A6 c6 x.f6 _ _ _ _ _ _ _ _ _ (Kd.C_drew HG1.out) HCL1.out (Kd.C_drew HG6.out) HCL6.out HOWN.out).mono ?_
          rintro e' w5 ⟨v2, v7, rfl, hr2, hr7, hb5⟩
          refine ⟨_, rfl, ?_⟩
          have hb5' : Below w4.heap.size w4 w5 := ⟨hb5.os, hb5.tape, hb5.output, hb5.size, hb5.block⟩
          have hbase : base ≤ w4.heap.size := Nat.le_trans HP4.out.hb (Nat.le_of_lt (blk_lt HP4.out.blk))
          obtain ⟨cs, hcs⟩ : ∃ cs : List Value, cs = [.string x.f0.f0, .int .i64 x.f0.f1, v2, .string x.f2, .int .i64 x.f3, .string x.f4, .int .i64 x.f5, v7] := ⟨_, rfl⟩
          have HM5 := Aside0.mk (show k36.M w5 base G x cs from by
           rw [hcs]
           exact k36_mkM _ _ _ x (Kd.R_lower (Kd.R_mono (Kd.R_bound hr2) (fun j hj => HGG.out j (Nat.le_trans HK4.out.size hj.2.1))) hbase) (Kd.R_lower (Kd.R_mono (Kd.R_bound hr7) (fun j hj => HGG.out j (Nat.le_trans HK4.out.size hj.2.1))) hbase))
          have HP5 := Aside0.mk (HP4.out.below hb5')
          have BK25 := Aside0.mk (blk_below BK24.out hb5')
          have BK35 := Aside0.mk (blk_below BK34.out hb5')
          have HK5 := Aside0.mk (HK4.out.trans (Keeps.of_below hb5'))
          clear hb5 hb5' hbase hr2 hr7 HP4 BK24 BK34 HG1 HG6 HK4
          refine hKc.out _ _ ⟨(blk_cell BK25.out 0).trans rfl, (blk_cell HP5.out.blk 3).trans rfl, (blk_cell BK35.out 0).trans rfl, (blk_cell BK35.out 1).trans rfl, (blk_cell BK35.out 2).trans rfl, (blk_cell BK35.out 3).trans rfl, (blk_cell BK35.out 4).trans rfl, (blk_cell BK35.out 5).trans rfl, (blk_cell BK35.out 6).trans rfl, (blk_cell BK35.out 7).trans rfl⟩ (fun hH => ?_)
          clear hKc Kc
          obtain ⟨w6, hu6, hm6, hk6⟩ := run_update Try.underlying71 keysDot HP5.out.mp x.f0 (x, cs)
          have hag : (Value.agg #[.string x.f0.f0, .int .i64 x.f0.f1, v2, .string x.f2, .int .i64 x.f3, .string x.f4, .int .i64 x.f5, v7]) = opV (x, cs) := by rw [hcs]; rfl
          have HAG := Aside0.mk hag
          have hu6' : (Instr.mapUpdate 71 (.map (some m)) (.agg #[.string x.f0.f0, .int .i64 x.f0.f1]) (.agg #[.string x.f0.f0, .int .i64 x.f0.f1, v2, .string x.f2, .int .i64 x.f3, .string x.f4, .int .i64 x.f5, v7])).run Try.prog w5 = .ok () w6 := by rw [hag]; exact hu6
          clear hu6 hag
          have HP6 := Aside0.mk (HP5.out.update hm6 hk6 HM5.out)
          have hnm : ∀ (k : Nat) (c : Array Value) (t : TypeId), w5.heap[k]? = some (Obj.cells c t (0, 0)) → w6.heap[k]? = some (Obj.cells c t (0, 0)) := fun k c t hc => (hk6.block k (blk_lt hc) (by
           rintro rfl
           obtain ⟨es, cl, hme, _⟩ := HP5.out.mp.at_
           rw [hc] at hme
           cases hme)).trans hc
          have BK26 := Aside0.mk (hnm _ _ _ BK25.out)
          have BK36 := Aside0.mk (hnm _ _ _ BK35.out)
          have HK6 := Aside0.mk (keeps_in (M := F) (keeps_weak HK5.out (fun _ f => f.elim)) hk6 (fun k hk => .inl (hk ▸ HFM.out)))
          have HM6 := Aside0.mk (show k36.M w6 base G x cs from HP6.out.vals (x.f0, (x, cs)) (by
           have h := look_upd s.D x.f0 x.f0 (x, cs)
           rw [if_pos rfl] at h
           obtain ⟨i, _, hi, hDi⟩ := find_some h
           rw [← hDi]
           exact List.getElem_mem hi))
          clear hm6 hk6 hnm HP5 BK25 BK35 HK5 HM5 hH
          refine lastL (i := 8) none rfl rfl (by kernel_rfl) (by decide) (fun Kc hKc => ?_)
          refine skip_ (w1 := ?_) (by rfl) rfl ?_ ?_
          rotate_left
          · go_simp
            rfl
          refine hKc.out _ _ ?_
          clear hKc Kc hu6'
          refine done_ (by kernel_rfl) ?_
          go_wp2
          refine start_ (n := 17) (ds := [16]) (S := fun w' => w'.cell? ⟨n0, 0, none⟩ = some (.pointer (some ⟨g, 0, none⟩)) ∧ w'.cell? ⟨g, 2, none⟩ = some (.slice Aw s.Q.length cw) ∧ w'.cell? ⟨g, 3, none⟩ = some (.map (some m)) ∧ w'.cell? ⟨n0 + 1, 0, none⟩ = some (.string x.f0.f0) ∧ w'.cell? ⟨n0 + 1, 1, none⟩ = some (.int .i64 x.f0.f1) ∧ MapAt w' m dotV opV (upd s.D x.f0 (x, cs))) _ (by kernel_rfl) rfl rfl
           ⟨(blk_cell (blk_drew BK26.out) 0).trans rfl, (blk_cell (blk_drew HP6.out.blk) 2).trans rfl, (blk_cell (blk_drew HP6.out.blk) 3).trans rfl, (blk_cell (blk_drew BK36.out) 0).trans rfl, (blk_cell (blk_drew BK36.out) 1).trans rfl, HP6.out.mp.step rfl⟩ (fun hH => ?_)
          refine XReg.tk 0 40 (h := ?_)
          refine XReg.tk 1 41 (h := ?_)
          refine XReg.pu 2 42 (h := ?_)
          refine XReg.pu 3 43 (h := ?_)
          refine XReg.tk 4 44 (h := ?_)
          refine XReg.tk 5 45 (h := ?_)
          refine XReg.pu 6 46 (h := ?_)
          refine XReg.pu 7 47 (h := ?_)
          refine XReg.tk 8 48 (h := ?_)
          refine XReg.pu 9 49 (h := ?_)
          refine XReg.tk 10 50 (h := ?_)
          refine tkL (i := 11) (some 51) rfl rfl (by kernel_rfl) (fun _ _ _ h => h) (by rfl) (by assumption) (v := .agg #[.string x.f0.f0, .int .i64 x.f0.f1, v2, .string x.f2, .int .i64 x.f3, .string x.f4, .int .i64 x.f5, v7]) ?_ (a' := ?_) ?_ ?_
          · intro w' hS
            obtain ⟨_, _, _, _, _, hmp⟩ := hS
            have hl : (Instr.lookup 71 (.map (some m)) (.agg #[.string x.f0.f0, .int .i64 x.f0.f1]) false).run Try.prog w' = .ok (.agg #[.string x.f0.f0, .int .i64 x.f0.f1, v2, .string x.f2, .int .i64 x.f3, .string x.f4, .int .i64 x.f5, v7]) w' := by
             rw [HAG.out]
             exact run_lookup_hit Try.underlying71 keysDot hmp x.f0 _ (by have h := look_upd s.D x.f0 x.f0 (x, cs); rwa [if_pos rfl] at h) false
            go_simp
          rotate_left
          · (simp only [Act.put, List.setIfInBounds_toArray, List.set_cons_zero, List.set_cons_succ, i64_w, i32_w]; first | done | rfl)
          rotate_left
          refine oneL (i := 12) (some 52) rfl rfl (by kernel_rfl) (by decide) (fun Kc hKc => ?_)
          go_simp
          refine hKc.out _ _ ⟨(blk_cell (blk_alloc (blk_drew BK26.out) _) 0).trans rfl, (blk_cell (blk_alloc (blk_drew HP6.out.blk) _) 2).trans rfl, (blk_cell (blk_alloc (blk_drew HP6.out.blk) _) 3).trans rfl, (blk_cell (blk_alloc (blk_drew BK36.out) _) 0).trans rfl, (blk_cell (blk_alloc (blk_drew BK36.out) _) 1).trans rfl, HP6.out.mp.step (Below.heap_alloc w6 _ m HP6.out.mp.lt)⟩ (fun hH2 => ?_)
          clear hKc Kc hH hH2
          refine oneL (i := 13) (some 53) rfl rfl (by kernel_rfl) (by decide) (fun Kc hKc => ?_)
          have hcw : (Obj.cells #[.string x.f0.f0, .int .i64 x.f0.f1, v2, .string x.f2, .int .i64 x.f3, .string x.f4, .int .i64 x.f5, v7] 36 (0, 0)) = .cells cs.toArray 36 (0, 0) := by rw [hcs]
          have h8 : cs.length = 8 := by rw [hcs]; rfl
          rw [hcw]
          have HPa := HP6.out.step (w1 := (w6.alloc (.cells cs.toArray 36 (0, 0))).drew) (fun k hk => Below.heap_alloc w6 _ k hk)
          have HMa : k36.M (w6.alloc (.cells cs.toArray 36 (0, 0))).drew base G x cs := Kd.M_step HM6.out (fun k _ hk => Below.heap_alloc w6 _ k hk)
          have HMb := M_row (M_row HMa HPa.rl) HPa.rq
          have hql : s.Q.length ≤ 1000000 := by
           by_cases h : s.Q.length ≤ 1000000
           · exact h
           · have hr := HR.out
             rw [if_neg h] at hr
             cases hr
          refine Kd.R_append_rows_step k36 (Rr := fun y c => y = x ∧ c = cs) (w0 := (w6.alloc (.cells cs.toArray 36 (0, 0))).drew) base (by rfl) (.tmp 44) (.tmp 52) 22 36 _ 120 rfl Try.underlying22 info36 rfl (by decide) (by omega) _ s.Q [x] (some ⟨w6.heap.size, 0, none⟩) 1 1
           (fun k => G k ∧ some k ≠ vl.ownBlock) (fun k => (G k ∧ some k ≠ vl.ownBlock) ∧ some k ≠ (Value.slice Aw s.Q.length cw).ownBlock) rfl rfl HPa.rq (lit_row h8) (fun y c hyc => by obtain ⟨rfl, rfl⟩ := hyc; exact HMb) (fun k hk => ⟨⟨hk.1.1, hk.1.2⟩, hk.2⟩) (fun k hk => ⟨HGG.out k (Nat.le_trans HK6.out.size (Nat.le_trans (by show w6.heap.size ≤ (w6.alloc (.cells cs.toArray 36 (0, 0))).heap.size; simp) hk)), fun e => by have := Kd.R_lt HPa.rl k e.symm; omega⟩) (Below.refl _ _)
           (Nat.le_trans HPa.hb (Nat.le_of_lt (blk_lt HPa.blk))) (by show (s.Q.length + 1) * 120 ≤ _; omega) (fun v1 w7 hr7 _ hg7 hat7 => ?_)
          have hPl := HPa.grewQ hg7 hr7 hat7
          have hk7 : Keeps F w (w7.setCell ⟨g, 2, none⟩ v1) := by
           refine Keeps.setCell (M := F) (p := ⟨g, 2, none⟩) ?_ (.inl HFG.out) _
           refine keeps_in (M := F) (B := (w6.alloc (.cells cs.toArray 36 (0, 0))).drew) ((HK6.out.alloc _).drew) (keeps_grown hg7) (fun k hk => HFW.out k hk.symm)
          have hfr : ∀ k, v1.ownBlock = some k → F k ∨ w.heap.size ≤ k := by
           intro k hk
           rcases hat7 with h | ⟨b, hb, hlt⟩
           · exact HFW.out k (h ▸ hk)
           · rw [hb] at hk
             cases hk
             exact .inr (Nat.le_trans HK6.out.size (Nat.le_trans (by show w6.heap.size ≤ (w6.alloc (.cells cs.toArray 36 (0, 0))).heap.size; simp) hlt))
          have HPl := Aside0.mk hPl
          have HK7 := Aside0.mk hk7
          have HFR := Aside0.mk hfr
          have hbk := blk_grown HPa.blk hg7 HPa.ne_q
          have hqlt : ∀ k, (Value.slice Aw s.Q.length cw).ownBlock = some k → k < n0 := fun k hk => by have := Kd.R_lt HP.out.rq k hk; omega
          have hb2 := blk_grown (blk_drew (blk_alloc BK26.out (.cells cs.toArray 36 (0, 0)))) hg7 (fun e => by have := hqlt n0 e.symm; omega)
          have hb3 := blk_grown (blk_drew (blk_alloc BK36.out (.cells cs.toArray 36 (0, 0)))) hg7 (fun e => by have := hqlt (n0 + 1) e.symm; omega)
          have hmp7 := HPa.mp.step (hg7.block m HPa.mp.lt HPa.m_q)
          obtain ⟨Aq, cq, rfl⟩ := Kd.R_slice hr7
          refine hKc.out _ _ ⟨(blk_cell hb2 0).trans rfl, (blk_cell hbk 2).trans rfl, (blk_cell hbk 3).trans rfl, (blk_cell hb3 0).trans rfl, (blk_cell hb3 1).trans rfl, hmp7⟩ (fun hH2 => ?_)
          clear hKc Kc hPl hk7 hfr HPa HMa HMb hr7 hqlt hmp7 hb2 hb3 hH2
          have HQL := Aside0.mk hql
          clear hql
          have c2' : w7.cell? ⟨g, 2, none⟩ = some (.slice Aw s.Q.length cw) := (blk_cell hbk 2).trans rfl
          have f2' := blk_frozen hbk 2
          refine XReg.pu 14 54 (h := ?_)
          refine XReg.pu 15 55 (h := ?_)
          refine lastL (i := 16) none rfl rfl (by kernel_rfl) (by decide) (fun Kc hKc => ?_)
          refine skip_ (w1 := ?_) (by rfl) rfl ?_ ?_
          rotate_left
          · go_simp
            rfl
          refine hKc.out _ _ ?_
          clear hKc Kc c2' f2' hbk
          refine done_ (by kernel_rfl) ?_
          have hput : putF k f s x cs = some ((0, 0), { s with D := upd s.D x.f0 (x, cs), Q := s.Q ++ [x] }) := by
           unfold putF
           rw [HRB.out]
           simp only [Option.bind_some, if_true]
           rw [if_pos HLEN.out, HLK.out]
           simp only
           rw [HAT.out]
           simp only [Option.bind_some]
           rw [if_neg H70.out, HLE.out]
           simp only [Option.bind_some, Bool.false_eq_true, if_false]
           rw [if_neg H82.out, if_pos HQL.out]
          have HPUT := Aside0.mk hput
          clear hput
          have e1 : (s.Q ++ [x]).length = s.Q.length + 1 := by simp
          have h1 := HPl.out
          have h2 := HK7.out
          have h3 := HFR.out
          rw [e1] at h1 h2 h3
          have H1 := Aside0.mk h1
          have H2 := Aside0.mk h2
          have H3 := Aside0.mk h3
          clear h1 h2 h3 e1 HPl HK7 HFR
          go_wp2
          go_ret2
          refine ⟨cs, _, HPUT.out, rfl, ⟨vl, _, _, H1.out, HFG.out, HFL.out, H3.out⟩, H2.out⟩
end Go.Proofs.Ytenbkljgmgdegaa.PO
