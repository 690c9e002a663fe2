/- What the rows of this claim use, out of the texts of this work (RD). No condition beyond those that each statement names. -/
import Derived.Test.YtenbkljgmgdegaaQbOJ
import Derived.Test.YtenbkljgmgdegaaQbPD17
namespace Go.Proofs.Ytenbkljgmgdegaa.PO
open Go.RowKit Go.Proofs.YtenbkljgmgdegaaW.PrintWords Go.Proofs.YtenbkljgmgdegaaW.PrintLast Go.Proofs.YtenbkljgmgdegaaW.PrintMore
open Go.Proofs.Ytenbkljgmgdegaa.XRange
set_option linter.unusedVariables false
set_option linter.unusedSimpArgs false
section
structure RdAt (T : Nat) (w : World) (g : Nat) (A : Option Addr) (c : Nat) (l : List Int) (at_ : Int) (flag : Bool) : Prop where
  blk : w.heap[g]? = some (.cells #[.slice A l.length c, .int .i64 at_, .bool flag] T (0, 0))
  le : l.length ≤ c
  foot : Kd.F (Kd.int .u8) w (fun k => k ≠ g) A l.length l
theorem RdAt.keep {T : Nat} {w w' : World} {g : Nat} {A : Option Addr} {c : Nat} {l : List Int} {at_ : Int} {flag : Bool} (h : RdAt T w g A c l at_ flag) (hk : Keeps (fun _ => False) w w') : RdAt T w' g A c l at_ flag :=
  ⟨(hk.block g (blk_lt h.blk) (fun f => f)).trans h.blk, h.le, Kd.F_step h.foot (fun k _ hlt => hk.block k hlt (fun f => f))⟩
theorem RdAt.again {T : Nat} {w w' : World} {g : Nat} {A : Option Addr} {c : Nat} {l : List Int} {at_ at' : Int} {flag flag' : Bool} (h : RdAt T w g A c l at_ flag) (hb : w'.heap[g]? = some (.cells #[.slice A l.length c, .int .i64 at', .bool flag'] T (0, 0)))
    (hk : Keeps (fun k => k = g) w w') : RdAt T w' g A c l at' flag' :=
  ⟨hb, h.le, Kd.F_step h.foot (fun k hne hlt => hk.block k hlt hne)⟩
theorem RdAt.put {T : Nat} {w : World} {g : Nat} {A : Option Addr} {c : Nat} {l : List Int} {at_ : Int} {flag : Bool} (h : RdAt T w g A c l at_ flag) (a' : Int) : RdAt T (w.setCell ⟨g, 1, none⟩ (.int .i64 a')) g A c l a' flag :=
  ⟨blk_set h.blk 1 _, h.le, Kd.F_far h.foot (fun _ hk => hk) _⟩
theorem RdAt.flag {T : Nat} {w : World} {g : Nat} {A : Option Addr} {c : Nat} {l : List Int} {at_ : Int} {flag : Bool} (h : RdAt T w g A c l at_ flag) (b' : Bool) : RdAt T (w.setCell ⟨g, 2, none⟩ (.bool b')) g A c l at_ b' :=
  ⟨blk_set h.blk 2 _, h.le, Kd.F_far h.foot (fun _ hk => hk) _⟩
def rdNum (k : Nat) (l : List Int) (at_ : Int) (bad : Bool) : Option (Int × Int × Bool) :=
  (wire_TakeNumber.f k l at_).bind fun t => if bad = true then some (0, at_, true) else if t.2.2 = 0 then (if t.1 > 4611686018427387904 then some (0, at_, true) else if 0 ≤ t.1 then some (t.1, t.2.1, false) else none) else some (0, at_, true)
set_option maxHeartbeats 4000000 in
set_option maxRecDepth 100000 in
theorem reader_number (k g : Nat) (A : Option Addr) (c : Nat) (l : List Int) (at_ : Int) (bad : Bool) (r at' : Int) (bad' : Bool) (w : World) (hst : RdAt 117 w g A c l at_ bad) (h : rdNum k l at_ bad = some (r, at', bad')) :
    Calls Try.prog 98 #[.pointer (some ⟨g, 0, none⟩)] w fun e w' => e = .returned (.int .i64 r) ∧ RdAt 117 w' g A c l at' bad' ∧ Keeps (fun k => k = g) w w' := by
  unfold rdNum at h
  obtain ⟨⟨n, next, e⟩, h0, h⟩ := Option.bind_eq_some_iff.mp h
  have H0 := Aside0.mk h0
  have HS := Aside0.mk hst
  have c0 : w.cell? ⟨g, 0, none⟩ = some (.slice A l.length c) := (blk_cell hst.blk 0).trans rfl
  have c1 : w.cell? ⟨g, 1, none⟩ = some (.int .i64 at_) := (blk_cell hst.blk 1).trans rfl
  have c2 : w.cell? ⟨g, 2, none⟩ = some (.bool bad) := (blk_cell hst.blk 2).trans rfl
  have f0 := blk_frozen hst.blk 0
  have f1 := blk_frozen hst.blk 1
  have f2 := blk_frozen hst.blk 2
  have hz : Keeps (fun _ => False) w w := Keeps.refl _ w
  clear h0 hst
  go_enter Try.func98, Try.ntmps98
  go_wp2_with fail
  go_region_held3 (fun w' => w'.cell? ⟨g, 0, none⟩ = some (.slice A l.length c) ∧ w'.cell? ⟨g, 1, none⟩ = some (.int .i64 at_) ∧ Keeps (fun _ => False) w w')
    (first
      | exact ⟨by assumption, by assumption, by assumption⟩
      | exact ⟨by assumption, by assumption, Keeps.drew (by assumption)⟩
      | exact ⟨pw_cell_below hb (by assumption), pw_cell_below hb (by assumption), Keeps.trans (by first | assumption | exact Keeps.drew (by assumption)) (Keeps.of_below hb)⟩)
    ((go_at_call 71; refine (wire_TakeNumber.calls k A c l at_ n next e _ (Kd.F_now (HS.out.keep (by first | assumption | exact Keeps.drew (by assumption))).foot) HS.out.le H0.out).mono ?_; rintro e' w1 ⟨rfl, hb⟩))
  obtain ⟨_, _, hk⟩ := ‹_ ∧ _ ∧ Keeps _ w w1›
  have HK := Aside0.mk hk
  have HS1 := Aside0.mk (HS.out.keep hk)
  have d0 : w1.cell? ⟨g, 0, none⟩ = some (.slice A l.length c) := (blk_cell HS1.out.blk 0).trans rfl
  have d1 : w1.cell? ⟨g, 1, none⟩ = some (.int .i64 at_) := (blk_cell HS1.out.blk 1).trans rfl
  have d2 : w1.cell? ⟨g, 2, none⟩ = some (.bool bad) := (blk_cell HS1.out.blk 2).trans rfl
  have e1 := blk_frozen HS1.out.blk 1
  have e2 := blk_frozen HS1.out.blk 2
  have hkM : Keeps (fun k => k = g) w w1 := ⟨hk.os, hk.tape, hk.output, hk.size, fun k hk' _ => hk.block k hk' (fun f => f)⟩
  have HM := Aside0.mk hkM
  clear c0 c1 c2 f0 f1 f2 hz hk hkM hb
  have h : (if bad = true then some (0, at_, true) else if e = 0 then (if n > 4611686018427387904 then some (0, at_, true) else if 0 ≤ n then some (n, next, false) else none) else some (0, at_, true)) = some (r, at', bad') := h
  by_cases q0 : bad = true
  · subst q0
    rw [if_pos rfl] at h
    simp only [Option.some.injEq, Prod.mk.injEq] at h
    obtain ⟨rfl, rfl, rfl⟩ := h
    go_wp2
    go_ret
    exact ⟨rfl, HS1.out.flag true, HM.out.setCell (.inl rfl) _⟩
  · have q0' : bad = false := by simpa using q0
    subst q0'
    rw [if_neg (by decide)] at h
    by_cases q1 : e = 0
    · rw [if_pos q1] at h
      have q1' : (e != 0) = false := by simpa using q1
      by_cases q2 : n > 4611686018427387904
      · rw [if_pos q2] at h
        simp only [Option.some.injEq, Prod.mk.injEq] at h
        obtain ⟨rfl, rfl, rfl⟩ := h
        have q2' : decide (4611686018427387904 < n) = true := decide_eq_true q2
        clear q1 q2
        go_wp2
        go_ret
        exact ⟨rfl, HS1.out.flag true, HM.out.setCell (.inl rfl) _⟩
      · rw [if_neg q2] at h
        have q2' : decide (4611686018427387904 < n) = false := decide_eq_false q2
        by_cases q3 : 0 ≤ n
        · rw [if_pos q3] at h
          simp only [Option.some.injEq, Prod.mk.injEq] at h
          obtain ⟨rfl, rfl, rfl⟩ := h
          have q4 : IntKind.i64.wrap n = n := by rw [IntKind.wrap_i64]; omega
          clear q1 q2
          go_wp2
          go_ret
          exact ⟨rfl, HS1.out.put next, HM.out.setCell (.inl rfl) _⟩
        · rw [if_neg q3] at h; cases h
    · rw [if_neg q1] at h
      have q1' : (e != 0) = true := by simpa using q1
      simp only [Option.some.injEq, Prod.mk.injEq] at h
      obtain ⟨rfl, rfl, rfl⟩ := h
      clear q1
      go_wp2
      go_ret
      exact ⟨rfl, HS1.out.flag true, HM.out.setCell (.inl rfl) _⟩
def rdText (k : Nat) (l : List Int) (at_ : Int) (bad : Bool) : Option (ByteArray × Int × Bool) :=
  (wire_TakeText.f k l at_ 32).bind fun t => if bad = true then some (⟨#[]⟩, at_, true) else if t.2.2 = 0 then some (t.1, t.2.1, false) else some (⟨#[]⟩, at_, true)
set_option maxHeartbeats 4000000 in
set_option maxRecDepth 100000 in
theorem reader_text (k g : Nat) (A : Option Addr) (c : Nat) (l : List Int) (at_ : Int) (bad : Bool) (r : ByteArray) (at' : Int) (bad' : Bool) (w : World) (hst : RdAt 117 w g A c l at_ bad) (h : rdText k l at_ bad = some (r, at', bad')) :
    Calls Try.prog 97 #[.pointer (some ⟨g, 0, none⟩)] w fun e w' => e = .returned (.string r) ∧ RdAt 117 w' g A c l at' bad' ∧ Keeps (fun k => k = g) w w' := by
  unfold rdText at h
  obtain ⟨⟨n, next, e⟩, h0, h⟩ := Option.bind_eq_some_iff.mp h
  have H0 := Aside0.mk h0
  have HS := Aside0.mk hst
  have c0 : w.cell? ⟨g, 0, none⟩ = some (.slice A l.length c) := (blk_cell hst.blk 0).trans rfl
  have c1 : w.cell? ⟨g, 1, none⟩ = some (.int .i64 at_) := (blk_cell hst.blk 1).trans rfl
  have c2 : w.cell? ⟨g, 2, none⟩ = some (.bool bad) := (blk_cell hst.blk 2).trans rfl
  have f0 := blk_frozen hst.blk 0
  have f1 := blk_frozen hst.blk 1
  have f2 := blk_frozen hst.blk 2
  have hz : Keeps (fun _ => False) w w := Keeps.refl _ w
  clear h0 hst
  go_enter Try.func97, Try.ntmps97
  go_wp2_with fail
  go_region_held3 (fun w' => w'.cell? ⟨g, 0, none⟩ = some (.slice A l.length c) ∧ w'.cell? ⟨g, 1, none⟩ = some (.int .i64 at_) ∧ Keeps (fun _ => False) w w')
    (first
      | exact ⟨by assumption, by assumption, by assumption⟩
      | exact ⟨by assumption, by assumption, Keeps.drew (by assumption)⟩
      | exact ⟨pw_cell_below hb (by assumption), pw_cell_below hb (by assumption), Keeps.trans (by first | assumption | exact Keeps.drew (by assumption)) (Keeps.of_below hb)⟩)
    ((go_at_call 69; refine (wire_TakeText.calls k A c l at_ 32 n next e _ (Kd.F_now (HS.out.keep (by first | assumption | exact Keeps.drew (by assumption))).foot) HS.out.le H0.out).mono ?_; rintro e' w1 ⟨rfl, hb⟩))
  obtain ⟨_, _, hk⟩ := ‹_ ∧ _ ∧ Keeps _ w w1›
  have HK := Aside0.mk hk
  have HS1 := Aside0.mk (HS.out.keep hk)
  have d0 : w1.cell? ⟨g, 0, none⟩ = some (.slice A l.length c) := (blk_cell HS1.out.blk 0).trans rfl
  have d1 : w1.cell? ⟨g, 1, none⟩ = some (.int .i64 at_) := (blk_cell HS1.out.blk 1).trans rfl
  have d2 : w1.cell? ⟨g, 2, none⟩ = some (.bool bad) := (blk_cell HS1.out.blk 2).trans rfl
  have e1 := blk_frozen HS1.out.blk 1
  have e2 := blk_frozen HS1.out.blk 2
  have hkM : Keeps (fun k => k = g) w w1 := ⟨hk.os, hk.tape, hk.output, hk.size, fun k hk' _ => hk.block k hk' (fun f => f)⟩
  have HM := Aside0.mk hkM
  clear c0 c1 c2 f0 f1 f2 hz hk hkM hb
  have h : (if bad = true then some ((⟨#[]⟩ : ByteArray), at_, true) else if e = 0 then some (n, next, false) else some ((⟨#[]⟩ : ByteArray), at_, true)) = some (r, at', bad') := h
  by_cases q0 : bad = true
  · subst q0
    rw [if_pos rfl] at h
    simp only [Option.some.injEq, Prod.mk.injEq] at h
    obtain ⟨rfl, rfl, rfl⟩ := h
    go_wp2
    go_ret
    exact ⟨rfl, HS1.out.flag true, HM.out.setCell (.inl rfl) _⟩
  · have q0' : bad = false := by simpa using q0
    subst q0'
    rw [if_neg (by decide)] at h
    by_cases q1 : e = 0
    · rw [if_pos q1] at h
      have q1' : (e != 0) = false := by simpa using q1
      simp only [Option.some.injEq, Prod.mk.injEq] at h
      obtain ⟨rfl, rfl, rfl⟩ := h
      clear q1
      go_wp2
      go_ret
      exact ⟨rfl, HS1.out.put next, HM.out.setCell (.inl rfl) _⟩
    · rw [if_neg q1] at h
      have q1' : (e != 0) = true := by simpa using q1
      simp only [Option.some.injEq, Prod.mk.injEq] at h
      obtain ⟨rfl, rfl, rfl⟩ := h
      clear q1
      go_wp2
      go_ret
      exact ⟨rfl, HS1.out.flag true, HM.out.setCell (.inl rfl) _⟩
def rdDot (k : Nat) (l : List Int) (at_ : Int) (bad : Bool) : Option (ByteArray × Int × Int × Bool) :=
  (rdText k l at_ bad).bind fun t => (rdNum k l t.2.1 t.2.2).bind fun n => some (t.1, n.1, n.2.1, n.2.2)
set_option maxHeartbeats 4000000 in
set_option maxRecDepth 100000 in
theorem reader_dot (k g : Nat) (A : Option Addr) (c : Nat) (l : List Int) (at_ : Int) (bad : Bool) (r : ByteArray) (n at' : Int) (bad' : Bool) (w : World) (hst : RdAt 117 w g A c l at_ bad) (h : rdDot k l at_ bad = some (r, n, at', bad')) :
    Calls Try.prog 96 #[.pointer (some ⟨g, 0, none⟩)] w fun e w' => e = .returned (.agg #[.string r, .int .i64 n]) ∧ RdAt 117 w' g A c l at' bad' ∧ Keeps (fun k => k = g) w w' := by
  unfold rdDot at h
  obtain ⟨⟨s, a1, b1⟩, h0, h⟩ := Option.bind_eq_some_iff.mp h
  obtain ⟨⟨m, a2, b2⟩, h1, h⟩ := Option.bind_eq_some_iff.mp h
  simp only [Option.some.injEq, Prod.mk.injEq] at h
  obtain ⟨rfl, rfl, rfl, rfl⟩ := h
  have H0 := Aside0.mk h0
  have H1 := Aside0.mk h1
  have hlt := blk_lt hst.blk
  have K0 : Keeps (fun _ => False) w (w.alloc (.cells #[.string ⟨#[]⟩, .int .i64 0] 34)) := (Keeps.refl _ w).alloc _
  have HS := Aside0.mk (hst.keep K0)
  have HE := Aside0.mk (blk_new w (.cells #[.string ⟨#[]⟩, .int .i64 0] 34))
  have HL := Aside0.mk hlt
  have HS0 := Aside0.mk hst
  clear h0 h1 hst K0 hlt
  go_enter Try.func96, Try.ntmps96
  go_wp2_with fail
  refine (reader_text k g A c l at_ bad s a1 b1 _ HS.out H0.out).mono ?_
  rintro e w1 ⟨rfl, hs1, hk1⟩
  have HS1 := Aside0.mk hs1
  have HK1 := Aside0.mk hk1
  clear hs1 hk1
  go_wp2_with fail
  refine (reader_number k g A c l a1 b1 m a2 b2 _ HS1.out H1.out).mono ?_
  rintro e w2 ⟨rfl, hs2, hk2⟩
  have hE2 : w2.heap[w.heap.size]? = some (.cells #[.string ⟨#[]⟩, .int .i64 0] 34 (0, 0)) := by
    have hne : w.heap.size ≠ g := by have := HL.out; omega
    rw [hk2.block _ (by have := HK1.out.size; simp at this; omega) hne, HK1.out.block _ (by simp) hne]
    exact HE.out
  have g0 : w2.cell? ⟨w.heap.size, 0, none⟩ = some (.string ⟨#[]⟩) := (blk_cell hE2 0).trans rfl
  have g1 : w2.cell? ⟨w.heap.size, 1, none⟩ = some (.int .i64 0) := (blk_cell hE2 1).trans rfl
  have g2 := blk_frozen hE2 0
  have g3 := blk_frozen hE2 1
  have HS2 := Aside0.mk hs2
  have HK2 := Aside0.mk hk2
  have HE2 := Aside0.mk hE2
  clear hs2 hk2 hE2
  go_wp2
  have hE3 := blk_set (blk_set HE2.out 0 (.string s)) 1 (.int .i64 m)
  have k0 := (blk_cell hE3 0).trans rfl
  have k1 := (blk_cell hE3 1).trans rfl
  have hne : w.heap.size ≠ g := by have := HL.out; omega
  have hk : Keeps (fun k => k = g) w ((w2.setCell ⟨w.heap.size, 0, none⟩ (.string s)).setCell ⟨w.heap.size, 1, none⟩ (.int .i64 m)) :=
    ((((Keeps.refl _ w).alloc _).trans (HK1.out.trans HK2.out)).setCell (p := ⟨w.heap.size, 0, none⟩) (.inr (Nat.le_refl _)) _).setCell (p := ⟨w.heap.size, 1, none⟩) (.inr (Nat.le_refl _)) _
  exact bodyPost_ret (v := .agg #[.string s, .int .i64 m]) (by simp [results, Try.f96, go_sem, k0, k1]) rfl ⟨rfl, HS0.out.again (blk_far (blk_far HS2.out.blk (Ne.symm hne) _) (Ne.symm hne) _) hk, hk⟩
end
end Go.Proofs.Ytenbkljgmgdegaa.PO
