/- What the rows of this claim use, out of the texts of this work (OE). No condition beyond those that each statement names. -/
import Derived.Test.YtenbkljgmgdegaaQiOD
namespace Go.Proofs.Ytenbkljgmgdegaa.PO
open Go.RowKit Go.Proofs.YtenbkljgmgdegaaW.PrintWords Go.Proofs.YtenbkljgmgdegaaW.PrintLast Go.Proofs.YtenbkljgmgdegaaW.PrintMore Go.Proofs.Ytenbkljgmgdegaa.XW
open Go.Proofs.Ytenbkljgmgdegaa.XRange Go.Proofs.Ytenbkljgmgdegaa.XMap Go.Proofs.Ytenbkljgmgdegaa.XSeq
set_option linter.unusedVariables false
set_option linter.unusedSimpArgs false
def behA (V : List S34) (l : List S36) : List S36 := l.filter (fun o => decide (atS o.f0.f0 V < o.f0.f1))
theorem behA_snoc (V : List S34) (l : List S36) (i : Nat) (h : i < l.length) : behA V (l.take (i + 1)) = if atS (l.getD i z36).f0.f0 V < (l.getD i z36).f0.f1 then behA V (l.take i) ++ [l.getD i z36] else behA V (l.take i) := by
  unfold behA
  rw [List.take_succ_eq_append_getElem h, List.filter_append, List.getD_eq_getElem?_getD, List.getElem?_eq_getElem h]
  simp only [Option.getD_some, List.filter_cons, List.filter_nil]
  split
  · rename_i hc; rw [if_pos (by simpa using hc)]
  · rename_i hc; rw [if_neg (by simpa using hc)]; simp
theorem behA_len (V : List S34) (l : List S36) : (behA V l).length ≤ l.length := List.length_filter_le _ _
theorem addr0 (g n : Nat) : (⟨g, 0, none⟩ : Addr).add n = ⟨g, n, none⟩ := by cases n <;> simp [Addr.add]
set_option maxHeartbeats 8000000 in
set_option maxRecDepth 100000 in
theorem poolBehind (S : Nat → Prop) (g : Nat) (a : AP) (A : Option Addr) (c : Nat) (V : List S34) (w : World) (hp : PoolS S g a w) (hL : a.L.length ≤ 1000000000000) (hC : Kd.C k34 w A V.length V) (hc : V.length ≤ c) :
    Calls Try.prog 19 #[.pointer (some ⟨g, 0, none⟩), .slice A V.length c] w fun e w' => ∃ v, e = .returned (.tuple #[v, .int .i64 (if rightS V = true then 0 else 2)]) ∧ Kd.R k36 36 w' w.heap.size (fun _ => True) v (if rightS V = true then behA V a.L else []) ∧ Below w.heap.size w w' := by
  obtain ⟨s, h1, rfl, hd, hi⟩ := hp
  have hright := hi.right
  obtain ⟨m, Al, cl, Ak, ck, Aw, cw, hblk, hFL, hcl, _, _, hg, hgl, _⟩ := h1.parts
  have hvl := hC.2.1
  have hR := right_f V hvl (V.length + 1) (by omega)
  have HC := Aside0.mk hC
  have HCL := Aside0.mk hc
  have HR := Aside0.mk hR
  have HFL := Aside0.mk hFL
  have HCLL := Aside0.mk hcl
  have HBLK := Aside0.mk hblk
  have HGL := Aside0.mk hgl
  have HRT := Aside0.mk (show ∀ x ∈ s.L, rightO x = true from fun x hx => hright x (List.mem_append_left _ hx))
  have HLL := Aside0.mk (show s.L.length ≤ 1000000000000 from hL)
  have HVL := Aside0.mk hvl
  clear hC hc hR hFL hcl hblk hgl hright hL hvl h1 hd hi
  cases hrv : rightS V with
  | false =>
    have HRV := Aside0.mk hrv
    clear hrv
    go_enter Try.func19, Try.ntmps19
    go_wp2_with fail
    refine (vector_Right.calls _ A c V false _ HC.out HCL.out (by rw [HR.out, HRV.out])).mono ?_
    rintro e w1 ⟨rfl, hb⟩
    have HB := Aside0.mk hb
    clear hb
    go_wp2
    go_ret2
    exact ⟨_, rfl, by simpa using Kd.R_nil _ _ _ _ _, HB.out⟩
  | true =>
    have HRV := Aside0.mk hrv
    clear hrv
    go_enter Try.func19, Try.ntmps19
    go_wp2_with fail
    refine (vector_Right.calls _ A c V true _ HC.out HCL.out (by rw [HR.out, HRV.out])).mono ?_
    rintro e w1 ⟨rfl, hb⟩
    have HB := Aside0.mk hb
    have c0 : w1.cell? ⟨g, 0, none⟩ = some (.slice Al s.L.length cl) := (blk_cell (blk_below HBLK.out hb) 0).trans rfl
    clear hb
    go_wp2
    clear c0
    go_loopw [6, 21] (fun v6 v21 wr => ∃ i : Nat, v21 = .int .i64 i ∧ i ≤ s.L.length ∧ Aside0 (Kd.R k36 36 wr w.heap.size (fun _ => True) v6 (behA V (s.L.take i))) ∧ Aside0 (Below w.heap.size w wr)) (fun _ v21 _ => s.L.length - (intOf v21).toNat)
    case atStart => exact ⟨0, rfl, by omega, ⟨Kd.R_nil _ _ _ _ _⟩, ⟨HB.out⟩⟩
    case round =>
      obtain ⟨i, rfl, hile, HRi, HBi⟩ := hrel
      obtain ⟨Ao, co, hv6⟩ := Kd.R_slice HRi.out
      subst hv6
      by_cases hlt : i < s.L.length
      · obtain ⟨gl, hgl⟩ := HGL.out (by omega)
        subst hgl
        obtain ⟨ad, cs, had, hcs8, hK, hcell⟩ := Kd.C_get (Kd.C_below (Kd.F_now HFL.out) HBi.out) z36 (i : Int) (by omega) (by omega)
        simp only [Option.some.injEq] at had
        subst had
        simp only [Int.toNat_natCast, show k36.sz = 8 from rfl] at hK hcell
        obtain ⟨x, hx⟩ : ∃ x, s.L.getD i z36 = x := ⟨_, rfl⟩
        rw [hx] at hK
        obtain ⟨A2, c2, A7, c7, rfl, l2, g2, l7, g7⟩ := k36_open hK
        have e0 : wr.cell? ⟨gl, i * 8, none⟩ = some (.string x.f0.f0) := by have := hcell 0 _ rfl; rwa [addr0] at this
        have e1 : wr.cell? ⟨gl, i * 8 + 1, none⟩ = some (.int .i64 x.f0.f1) := by have := hcell 1 _ rfl; rwa [addr0] at this
        have e2 : wr.cell? ⟨gl, i * 8 + 2, none⟩ = some (.slice A2 x.f1.length c2) := by have := hcell 2 _ rfl; rwa [addr0] at this
        have e3 : wr.cell? ⟨gl, i * 8 + 3, none⟩ = some (.string x.f2) := by have := hcell 3 _ rfl; rwa [addr0] at this
        have e4 : wr.cell? ⟨gl, i * 8 + 4, none⟩ = some (.int .i64 x.f3) := by have := hcell 4 _ rfl; rwa [addr0] at this
        have e5 : wr.cell? ⟨gl, i * 8 + 5, none⟩ = some (.string x.f4) := by have := hcell 5 _ rfl; rwa [addr0] at this
        have e6 : wr.cell? ⟨gl, i * 8 + 6, none⟩ = some (.int .i64 x.f5) := by have := hcell 6 _ rfl; rwa [addr0] at this
        have e7 : wr.cell? ⟨gl, i * 8 + 7, none⟩ = some (.slice A7 x.f6.length c7) := by have := hcell 7 _ rfl; rwa [addr0] at this
        have HX := Aside0.mk hx
        have HG2 := Aside0.mk g2
        have HG7 := Aside0.mk g7
        have HL2 := Aside0.mk l2
        have HL7 := Aside0.mk l7
        have HXR := Aside0.mk (rightO_parts (HRT.out x (by rw [← hx]; exact getD_mem hlt)))
        have HSN := Aside0.mk (show behA V (s.L.take (i + 1)) = if atS x.f0.f0 V < x.f0.f1 then behA V (s.L.take i) ++ [x] else behA V (s.L.take i) from by rw [← hx]; exact behA_snoc V s.L i hlt)
        clear hK hcell hx g2 g7 l2 l7
        go_wp2
        obtain ⟨N, hN⟩ : ∃ N, wr.heap.size = N := ⟨_, rfl⟩
        obtain ⟨w3, hw3⟩ : ∃ w3, wr.alloc (.cells #[.string x.f0.f0, .int .i64 x.f0.f1, .slice A2 x.f1.length c2, .string x.f2, .int .i64 x.f3, .string x.f4, .int .i64 x.f5, .slice A7 x.f6.length c7] 36) = w3 := ⟨_, rfl⟩
        rw [hw3, hN]
        have HB3 := Aside0.mk (show Below N wr w3 from by rw [← hw3, ← hN]; exact (Below.refl _ wr).alloc (Nat.le_refl _) _)
        have BK3 := Aside0.mk (show w3.heap[N]? = some (.cells #[.string x.f0.f0, .int .i64 x.f0.f1, .slice A2 x.f1.length c2, .string x.f2, .int .i64 x.f3, .string x.f4, .int .i64 x.f5, .slice A7 x.f6.length c7] 36 (0, 0)) from by rw [← hw3, ← hN]; exact World.alloc_heap_new wr _)
        have HBw3 := Aside0.mk (show Below w.heap.size w w3 from HBi.out.trans (HB3.out.mono (by rw [← hN]; exact HBi.out.size)))
        have HRo3 := Aside0.mk (Kd.R_below HRi.out (show Below wr.heap.size wr w3 from by rw [hN]; exact HB3.out))
        have HG23 := Aside0.mk (Kd.C_below HG2.out (show Below wr.heap.size wr w3 from by rw [hN]; exact HB3.out))
        have HG73 := Aside0.mk (Kd.C_below HG7.out (show Below wr.heap.size wr w3 from by rw [hN]; exact HB3.out))
        clear hw3 e0 e1 e2 e3 e4 e5 e6 e7 HRi
        refine start_ (n := 9) (ds := []) (S := fun w' => w'.cell? ⟨N, 0, none⟩ = some (.string x.f0.f0) ∧ w'.cell? ⟨N, 1, none⟩ = some (.int .i64 x.f0.f1)) _ (by kernel_rfl) rfl rfl ⟨(blk_cell (blk_drew BK3.out) 0).trans rfl, (blk_cell (blk_drew BK3.out) 1).trans rfl⟩ (fun hH => ?_)
        refine XReg.pu 0 25 (h := ?_)
        refine XReg.pu 1 26 (h := ?_)
        refine XReg.pu 2 27 (h := ?_)
        refine XReg.tk 3 28 (h := ?_)
        refine XReg.pu 5 30 (h := ?_)
        refine XReg.pu 6 31 (h := ?_)
        refine XReg.tk 7 32 (h := ?_)
        refine oneL (i := 4) (some 29) rfl rfl (by kernel_rfl) (by decide) (fun Kc hKc => ?_)
        refine goes_ Try.func51 (by kernel_rfl) rfl #[.slice A V.length c, .string x.f0.f0] (by rfl) rfl rfl (by (try simp only [List.map_toArray, List.map_cons, List.map_nil]); first | done | rfl) ?_
        refine (vector_At.calls (V.length + 1) A c V x.f0.f0 (atS x.f0.f0 V) _ (Kd.C_drew (Kd.C_below HC.out HBw3.out)) HCL.out (at_f _ _ HVL.out _ (by omega))).mono ?_
        rintro e' w4 ⟨rfl, hb4⟩
        refine ⟨_, rfl, ?_⟩
        have hb4' : Below w3.heap.size w3 w4 := ⟨hb4.os, hb4.tape, hb4.output, hb4.size, hb4.block⟩
        have HB4 := Aside0.mk (show Below w.heap.size w w4 from HBw3.out.trans (hb4'.mono HBw3.out.size))
        have BK4 := Aside0.mk (blk_below BK3.out hb4')
        have HRo4 := Aside0.mk (Kd.R_below HRo3.out hb4')
        have HG24 := Aside0.mk (Kd.C_below HG23.out hb4')
        have HG74 := Aside0.mk (Kd.C_below HG73.out hb4')
        clear hb4 hb4' HRo3 HG23 HG73 BK3 HG2 HG7
        refine hKc.out _ _ ⟨(blk_cell BK4.out 0).trans rfl, (blk_cell BK4.out 1).trans rfl⟩ (fun hH2 => ?_)
        clear hKc Kc hH
        refine XReg.pu 8 33 (h := ?_)
        refine done_ (by kernel_rfl) ?_
        clear hH2
        have e0 : w4.cell? ⟨N, 0, none⟩ = some (.string x.f0.f0) := (blk_cell BK4.out 0).trans rfl
        have e1 : w4.cell? ⟨N, 1, none⟩ = some (.int .i64 x.f0.f1) := (blk_cell BK4.out 1).trans rfl
        have e2 : w4.cell? ⟨N, 2, none⟩ = some (.slice A2 x.f1.length c2) := (blk_cell BK4.out 2).trans rfl
        have e3 : w4.cell? ⟨N, 3, none⟩ = some (.string x.f2) := (blk_cell BK4.out 3).trans rfl
        have e4 : w4.cell? ⟨N, 4, none⟩ = some (.int .i64 x.f3) := (blk_cell BK4.out 4).trans rfl
        have e5 : w4.cell? ⟨N, 5, none⟩ = some (.string x.f4) := (blk_cell BK4.out 5).trans rfl
        have e6 : w4.cell? ⟨N, 6, none⟩ = some (.int .i64 x.f5) := (blk_cell BK4.out 6).trans rfl
        have e7 : w4.cell? ⟨N, 7, none⟩ = some (.slice A7 x.f6.length c7) := (blk_cell BK4.out 7).trans rfl
        have hib : i < 1000000000000 := by have := HLL.out; omega
        obtain ⟨bq, hbq⟩ : ∃ b, decide (atS x.f0.f0 V < x.f0.f1) = b := ⟨_, rfl⟩
        rw [hbq]
        cases bq with
        | true =>
          have hat : atS x.f0.f0 V < x.f0.f1 := by simpa using hbq
          clear hbq
          have hown : order_own.f x.f0.f0 x.f0.f1 x.f1 x.f2 x.f3 x.f4 x.f5 x.f6 = some (x.f0.f0, x.f0.f1, x.f1, x.f2, x.f3, x.f4, x.f5, x.f6) := by
            unfold order_own.f api_Dot_66.f
            have := HXR.out.2.2.2.1
            have := HXR.out.2.2.2.2
            rw [if_pos (by omega), if_pos (by omega)]
            rfl
          have HOWN := Aside0.mk hown
          have hsn := HSN.out
          rw [if_pos hat] at hsn
          have HSN2 := Aside0.mk hsn
          clear hown hsn HSN hat
          go_wp2_with fail
          refine (order_own.calls x.f0.f0 x.f0.f1 A2 c2 x.f1 x.f2 x.f3 x.f4 x.f5 A7 c7 x.f6 _ _ _ _ _ _ _ _ _ HG24.out HL2.out HG74.out HL7.out HOWN.out).mono ?_
          rintro e' w5 ⟨v2, v7, rfl, hr2, hr7, hb5⟩
          have HB5 := Aside0.mk (show Below w.heap.size w w5 from HB4.out.trans (hb5.mono HB4.out.size))
          have HRo5 := Aside0.mk (Kd.R_below HRo4.out hb5)
          have HM5 := Aside0.mk (show k36.M w5 w.heap.size (fun k => True ∧ some k ≠ (Value.slice Ao (behA V (List.take i s.L)).length co).ownBlock) x [.string x.f0.f0, .int .i64 x.f0.f1, v2, .string x.f2, .int .i64 x.f3, .string x.f4, .int .i64 x.f5, v7] from by
            refine k36_mkM _ _ _ x (Kd.R_lower (Kd.R_mono (Kd.R_bound hr2) (fun j hj => ⟨trivial, fun e => ?_⟩)) HB4.out.size) (Kd.R_lower (Kd.R_mono (Kd.R_bound hr7) (fun j hj => ⟨trivial, fun e => ?_⟩)) HB4.out.size)
            · have := Kd.R_lt HRo4.out j e.symm; have := hj.2.1; omega
            · have := Kd.R_lt HRo4.out j e.symm; have := hj.2.1; omega)
          have HLN := Aside0.mk (show ((behA V (List.take i s.L)).length + 1) * 120 ≤ 140737488355328 from by
            have h1 := behA_len V (s.L.take i)
            have h2 : (s.L.take i).length ≤ i := List.length_take_le _ _
            have h3 := HLL.out
            omega)
          clear hr2 hr7 hb5 e0 e1 e2 e3 e4 e5 e6 e7 HRo4 HB4
          go_wp2_with ((with_reducible refine gate_builtin (b := .append) (xs := #[.tmp 34, .tmp 37]) rfl ?_); at_builtin; refine Kd.R_append k36 (w0 := w) w.heap.size rfl (.tmp 34) (.tmp 37) 22 36 _ 120 rfl Try.underlying22 info36 rfl (by decide) (by omega) _ (behA V (List.take i s.L)) x _ (fun _ => True) (fun k => True ∧ some k ≠ (Value.slice Ao (behA V (List.take i s.L)).length co).ownBlock) rfl rfl HM5.out (fun k hk => hk) (fun _ _ => trivial) HRo5.out HB5.out HB5.out.size HLN.out ?_; intro v1 w6 ho6 hb6 hg6 hat6)
          have HR6 := Aside0.mk ho6
          have HB6 := Aside0.mk hb6
          clear ho6 hb6 hg6 hat6
          go_round
          case rel => exact ⟨i + 1, by go_num, by omega, ⟨by rw [HSN2.out]; exact HR6.out⟩, ⟨HB6.out⟩⟩
          case measure => simp [intOf]; omega
        | false =>
          have hat : ¬ atS x.f0.f0 V < x.f0.f1 := by simpa using hbq
          clear hbq
          have hsn := HSN.out
          rw [if_neg hat] at hsn
          have HSN2 := Aside0.mk hsn
          clear hsn HSN hat
          go_wp2
          go_round
          case rel => exact ⟨i + 1, by go_num, by omega, ⟨by rw [HSN2.out]; exact HRo4.out⟩, ⟨HB4.out⟩⟩
          case measure => simp [intOf]; omega
      · have hlt' : s.L.take i = s.L := List.take_of_length_le (by omega)
        have HT := Aside0.mk hlt'
        clear hlt'
        go_wp2
        go_ret2
        refine ⟨_, rfl, ?_, HBi.out⟩
        show k36.R 36 wr w.heap.size (fun _ => True) (.slice Ao (behA V (List.take i s.L)).length co) _
        rw [HT.out]
        have := HRi.out
        rw [HT.out] at this
        exact this
end Go.Proofs.Ytenbkljgmgdegaa.PO
