/- What the rows of this claim use, out of the texts of this work (RD, RT, OK, OC, OG, TP, TS, TY, OD, OF, OT, OX). No condition beyond those that each statement names. -/
import Derived.Laws.CopyRow
import Derived.Laws.Tables
import Derived.Carry
import Derived.Deep.RegionHeld3
import Derived.Test.YtenbkljgmgdegaaQjOJ
import Derived.Test.YtenbkljgmgdegaaQjPD17
import Derived.Test.YtenbkljgmgdegaaQjPD18
import Derived.Test.YtenbkljgmgdegaaQjOH
import Derived.Test.YtenbkljgmgdegaaQjPOx10
import Derived.Test.YtenbkljgmgdegaaQjPOx0
import Derived.Test.YtenbkljgmgdegaaQjPOx7
import Derived.Test.YtenbkljgmgdegaaQjX
import Derived.Test.YtenbkljgmgdegaaQjOV
section
namespace Go.Proofs.Ytenbkljgmgdegaa.PO
open Go.RowKit Go.Proofs.YtenbkljgmgdegaaW.PrintWords Go.Proofs.YtenbkljgmgdegaaW.PrintLast Go.Proofs.YtenbkljgmgdegaaW.PrintMore
open Go.Proofs.Ytenbkljgmgdegaa.XRange
set_option linter.unusedVariables false
set_option linter.unusedSimpArgs false
section
structure RdAt (T : Nat) (w : World) (g : Nat) (A : Option Addr) (c : Nat) (l : List Int) (at_ : Int) (flag : Bool) : Prop where
 blk : w.heap[g]? = some (.cells #[.slice A l.length c, .int .i64 at_, .bool flag] T (0, 0))
 le : l.length ≤ c
 foot : Kd.F (Kd.int .u8) w (fun k => k ≠ g) A l.length l
theorem RdAt.keep {T : Nat} {w w' : World} {g : Nat} {A : Option Addr} {c : Nat} {l : List Int} {at_ : Int} {flag : Bool} (h : RdAt T w g A c l at_ flag) (hk : Keeps (fun _ => False) w w') : RdAt T w' g A c l at_ flag :=
 ⟨(hk.block g (blk_lt h.blk) (fun f => f)).trans h.blk, h.le, Kd.F_step h.foot (fun k _ hlt => hk.block k hlt (fun f => f))⟩
theorem RdAt.again {T : Nat} {w w' : World} {g : Nat} {A : Option Addr} {c : Nat} {l : List Int} {at_ at' : Int} {flag flag' : Bool} (h : RdAt T w g A c l at_ flag) (hb : w'.heap[g]? = some (.cells #[.slice A l.length c, .int .i64 at', .bool flag'] T (0, 0)))
 (hk : Keeps (fun k => k = g) w w') : RdAt T w' g A c l at' flag' :=
 ⟨hb, h.le, Kd.F_step h.foot (fun k hne hlt => hk.block k hlt hne)⟩
theorem RdAt.put {T : Nat} {w : World} {g : Nat} {A : Option Addr} {c : Nat} {l : List Int} {at_ : Int} {flag : Bool} (h : RdAt T w g A c l at_ flag) (a' : Int) : RdAt T (w.setCell ⟨g, 1, none⟩ (.int .i64 a')) g A c l a' flag :=
 ⟨blk_set h.blk 1 _, h.le, Kd.F_far h.foot (fun _ hk => hk) _⟩
theorem RdAt.flag {T : Nat} {w : World} {g : Nat} {A : Option Addr} {c : Nat} {l : List Int} {at_ : Int} {flag : Bool} (h : RdAt T w g A c l at_ flag) (b' : Bool) : RdAt T (w.setCell ⟨g, 2, none⟩ (.bool b')) g A c l at_ b' :=
 ⟨blk_set h.blk 2 _, h.le, Kd.F_far h.foot (fun _ hk => hk) _⟩
def rdNum (k : Nat) (l : List Int) (at_ : Int) (bad : Bool) : Option (Int × Int × Bool) :=
 (wire_TakeNumber.f k l at_).bind fun t => if bad = true then some (0, at_, true) else if t.2.2 = 0 then (if t.1 > 4611686018427387904 then some (0, at_, true) else if 0 ≤ t.1 then some (t.1, t.2.1, false) else none) else some (0, at_, true)
set_option maxHeartbeats 4000000 in
set_option maxRecDepth 100000 in
theorem reader_number (k g : Nat) (A : Option Addr) (c : Nat) (l : List Int) (at_ : Int) (bad : Bool) (r at' : Int) (bad' : Bool) (w : World) (hst : RdAt 117 w g A c l at_ bad) (h : rdNum k l at_ bad = some (r, at', bad')) :
 Calls Try.prog 98 #[.pointer (some ⟨g, 0, none⟩)] w fun e w' => e = .returned (.int .i64 r) ∧ RdAt 117 w' g A c l at' bad' ∧ Keeps (fun k => k = g) w w' := by
 unfold rdNum at h
 obtain ⟨⟨n, next, e⟩, h0, h⟩ := Option.bind_eq_some_iff.mp h
 have H0 := Aside0.mk h0
 have HS := Aside0.mk hst
 have c0 : w.cell? ⟨g, 0, none⟩ = some (.slice A l.length c) := (blk_cell hst.blk 0).trans rfl
 have c1 : w.cell? ⟨g, 1, none⟩ = some (.int .i64 at_) := (blk_cell hst.blk 1).trans rfl
 have c2 : w.cell? ⟨g, 2, none⟩ = some (.bool bad) := (blk_cell hst.blk 2).trans rfl
 have f0 := blk_frozen hst.blk 0
 have f1 := blk_frozen hst.blk 1
 have f2 := blk_frozen hst.blk 2
 have hz : Keeps (fun _ => False) w w := Keeps.refl _ w
 clear h0 hst
 go_enter Try.func98, Try.ntmps98
 go_wp2_with fail
 go_region_held3 (fun w' => w'.cell? ⟨g, 0, none⟩ = some (.slice A l.length c) ∧ w'.cell? ⟨g, 1, none⟩ = some (.int .i64 at_) ∧ Keeps (fun _ => False) w w')
  (first
   | exact ⟨by assumption, by assumption, by assumption⟩
   | exact ⟨by assumption, by assumption, Keeps.drew (by assumption)⟩
   | exact ⟨pw_cell_below hb (by assumption), pw_cell_below hb (by assumption), Keeps.trans (by first | assumption | exact Keeps.drew (by assumption)) (Keeps.of_below hb)⟩)
  ((go_at_call 71; refine (wire_TakeNumber.calls k A c l at_ n next e _ (Kd.F_now (HS.out.keep (by first | assumption | exact Keeps.drew (by assumption))).foot) HS.out.le H0.out).mono ?_; rintro e' w1 ⟨rfl, hb⟩))
 obtain ⟨_, _, hk⟩ := ‹_ ∧ _ ∧ Keeps _ w w1›
 have HK := Aside0.mk hk
 have HS1 := Aside0.mk (HS.out.keep hk)
 have d0 : w1.cell? ⟨g, 0, none⟩ = some (.slice A l.length c) := (blk_cell HS1.out.blk 0).trans rfl
 have d1 : w1.cell? ⟨g, 1, none⟩ = some (.int .i64 at_) := (blk_cell HS1.out.blk 1).trans rfl
 have d2 : w1.cell? ⟨g, 2, none⟩ = some (.bool bad) := (blk_cell HS1.out.blk 2).trans rfl
 have e1 := blk_frozen HS1.out.blk 1
 have e2 := blk_frozen HS1.out.blk 2
 have hkM : Keeps (fun k => k = g) w w1 := ⟨hk.os, hk.tape, hk.output, hk.size, fun k hk' _ => hk.block k hk' (fun f => f)⟩
 have HM := Aside0.mk hkM
 clear c0 c1 c2 f0 f1 f2 hz hk hkM hb
 have h : (if bad = true then some (0, at_, true) else if e = 0 then (if n > 4611686018427387904 then some (0, at_, true) else if 0 ≤ n then some (n, next, false) else none) else some (0, at_, true)) = some (r, at', bad') := h
 by_cases q0 : bad = true
 · subst q0
   rw [if_pos rfl] at h
   simp only [Option.some.injEq, Prod.mk.injEq] at h
   obtain ⟨rfl, rfl, rfl⟩ := h
   go_wp2
   go_ret
   exact ⟨rfl, HS1.out.flag true, HM.out.setCell (.inl rfl) _⟩
 · have q0' : bad = false := by simpa using q0
   subst q0'
   rw [if_neg (by decide)] at h
   by_cases q1 : e = 0
   · rw [if_pos q1] at h
     have q1' : (e != 0) = false := by simpa using q1
     by_cases q2 : n > 4611686018427387904
     · rw [if_pos q2] at h
       simp only [Option.some.injEq, Prod.mk.injEq] at h
       obtain ⟨rfl, rfl, rfl⟩ := h
       have q2' : decide (4611686018427387904 < n) = true := decide_eq_true q2
       clear q1 q2
       go_wp2
       go_ret
       exact ⟨rfl, HS1.out.flag true, HM.out.setCell (.inl rfl) _⟩
     · rw [if_neg q2] at h
       have q2' : decide (4611686018427387904 < n) = false := decide_eq_false q2
       by_cases q3 : 0 ≤ n
       · rw [if_pos q3] at h
         simp only [Option.some.injEq, Prod.mk.injEq] at h
         obtain ⟨rfl, rfl, rfl⟩ := h
         have q4 : IntKind.i64.wrap n = n := by rw [IntKind.wrap_i64]; omega
         clear q1 q2
         go_wp2
         go_ret
         exact ⟨rfl, HS1.out.put next, HM.out.setCell (.inl rfl) _⟩
       · rw [if_neg q3] at h; cases h
   · rw [if_neg q1] at h
     have q1' : (e != 0) = true := by simpa using q1
     simp only [Option.some.injEq, Prod.mk.injEq] at h
     obtain ⟨rfl, rfl, rfl⟩ := h
     clear q1
     go_wp2
     go_ret
     exact ⟨rfl, HS1.out.flag true, HM.out.setCell (.inl rfl) _⟩
def rdText (k : Nat) (l : List Int) (at_ : Int) (bad : Bool) : Option (ByteArray × Int × Bool) :=
 (wire_TakeText.f k l at_ 32).bind fun t => if bad = true then some (⟨#[]⟩, at_, true) else if t.2.2 = 0 then some (t.1, t.2.1, false) else some (⟨#[]⟩, at_, true)
set_option maxHeartbeats 4000000 in
set_option maxRecDepth 100000 in
theorem reader_text (k g : Nat) (A : Option Addr) (c : Nat) (l : List Int) (at_ : Int) (bad : Bool) (r : ByteArray) (at' : Int) (bad' : Bool) (w : World) (hst : RdAt 117 w g A c l at_ bad) (h : rdText k l at_ bad = some (r, at', bad')) :
 Calls Try.prog 97 #[.pointer (some ⟨g, 0, none⟩)] w fun e w' => e = .returned (.string r) ∧ RdAt 117 w' g A c l at' bad' ∧ Keeps (fun k => k = g) w w' := by
 unfold rdText at h
 obtain ⟨⟨n, next, e⟩, h0, h⟩ := Option.bind_eq_some_iff.mp h
 have H0 := Aside0.mk h0
 have HS := Aside0.mk hst
 have c0 : w.cell? ⟨g, 0, none⟩ = some (.slice A l.length c) := (blk_cell hst.blk 0).trans rfl
 have c1 : w.cell? ⟨g, 1, none⟩ = some (.int .i64 at_) := (blk_cell hst.blk 1).trans rfl
 have c2 : w.cell? ⟨g, 2, none⟩ = some (.bool bad) := (blk_cell hst.blk 2).trans rfl
 have f0 := blk_frozen hst.blk 0
 have f1 := blk_frozen hst.blk 1
 have f2 := blk_frozen hst.blk 2
 have hz : Keeps (fun _ => False) w w := Keeps.refl _ w
 clear h0 hst
 go_enter Try.func97, Try.ntmps97
 go_wp2_with fail
 go_region_held3 (fun w' => w'.cell? ⟨g, 0, none⟩ = some (.slice A l.length c) ∧ w'.cell? ⟨g, 1, none⟩ = some (.int .i64 at_) ∧ Keeps (fun _ => False) w w')
  (first
   | exact ⟨by assumption, by assumption, by assumption⟩
   | exact ⟨by assumption, by assumption, Keeps.drew (by assumption)⟩
   | exact ⟨pw_cell_below hb (by assumption), pw_cell_below hb (by assumption), Keeps.trans (by first | assumption | exact Keeps.drew (by assumption)) (Keeps.of_below hb)⟩)
  ((go_at_call 69; refine (wire_TakeText.calls k A c l at_ 32 n next e _ (Kd.F_now (HS.out.keep (by first | assumption | exact Keeps.drew (by assumption))).foot) HS.out.le H0.out).mono ?_; rintro e' w1 ⟨rfl, hb⟩))
 obtain ⟨_, _, hk⟩ := ‹_ ∧ _ ∧ Keeps _ w w1›
 have HK := Aside0.mk hk
 have HS1 := Aside0.mk (HS.out.keep hk)
 have d0 : w1.cell? ⟨g, 0, none⟩ = some (.slice A l.length c) := (blk_cell HS1.out.blk 0).trans rfl
 have d1 : w1.cell? ⟨g, 1, none⟩ = some (.int .i64 at_) := (blk_cell HS1.out.blk 1).trans rfl
 have d2 : w1.cell? ⟨g, 2, none⟩ = some (.bool bad) := (blk_cell HS1.out.blk 2).trans rfl
 have e1 := blk_frozen HS1.out.blk 1
 have e2 := blk_frozen HS1.out.blk 2
 have hkM : Keeps (fun k => k = g) w w1 := ⟨hk.os, hk.tape, hk.output, hk.size, fun k hk' _ => hk.block k hk' (fun f => f)⟩
 have HM := Aside0.mk hkM
 clear c0 c1 c2 f0 f1 f2 hz hk hkM hb
 have h : (if bad = true then some ((⟨#[]⟩ : ByteArray), at_, true) else if e = 0 then some (n, next, false) else some ((⟨#[]⟩ : ByteArray), at_, true)) = some (r, at', bad') := h
 by_cases q0 : bad = true
 · subst q0
   rw [if_pos rfl] at h
   simp only [Option.some.injEq, Prod.mk.injEq] at h
   obtain ⟨rfl, rfl, rfl⟩ := h
   go_wp2
   go_ret
   exact ⟨rfl, HS1.out.flag true, HM.out.setCell (.inl rfl) _⟩
 · have q0' : bad = false := by simpa using q0
   subst q0'
   rw [if_neg (by decide)] at h
   by_cases q1 : e = 0
   · rw [if_pos q1] at h
     have q1' : (e != 0) = false := by simpa using q1
     simp only [Option.some.injEq, Prod.mk.injEq] at h
     obtain ⟨rfl, rfl, rfl⟩ := h
     clear q1
     go_wp2
     go_ret
     exact ⟨rfl, HS1.out.put next, HM.out.setCell (.inl rfl) _⟩
   · rw [if_neg q1] at h
     have q1' : (e != 0) = true := by simpa using q1
     simp only [Option.some.injEq, Prod.mk.injEq] at h
     obtain ⟨rfl, rfl, rfl⟩ := h
     clear q1
     go_wp2
     go_ret
     exact ⟨rfl, HS1.out.flag true, HM.out.setCell (.inl rfl) _⟩
def rdDot (k : Nat) (l : List Int) (at_ : Int) (bad : Bool) : Option (ByteArray × Int × Int × Bool) :=
 (rdText k l at_ bad).bind fun t => (rdNum k l t.2.1 t.2.2).bind fun n => some (t.1, n.1, n.2.1, n.2.2)
set_option maxHeartbeats 4000000 in
set_option maxRecDepth 100000 in
theorem reader_dot (k g : Nat) (A : Option Addr) (c : Nat) (l : List Int) (at_ : Int) (bad : Bool) (r : ByteArray) (n at' : Int) (bad' : Bool) (w : World) (hst : RdAt 117 w g A c l at_ bad) (h : rdDot k l at_ bad = some (r, n, at', bad')) :
 Calls Try.prog 96 #[.pointer (some ⟨g, 0, none⟩)] w fun e w' => e = .returned (.agg #[.string r, .int .i64 n]) ∧ RdAt 117 w' g A c l at' bad' ∧ Keeps (fun k => k = g) w w' := by
 unfold rdDot at h
 obtain ⟨⟨s, a1, b1⟩, h0, h⟩ := Option.bind_eq_some_iff.mp h
 obtain ⟨⟨m, a2, b2⟩, h1, h⟩ := Option.bind_eq_some_iff.mp h
 simp only [Option.some.injEq, Prod.mk.injEq] at h
 obtain ⟨rfl, rfl, rfl, rfl⟩ := h
 have H0 := Aside0.mk h0
 have H1 := Aside0.mk h1
 have hlt := blk_lt hst.blk
 have K0 : Keeps (fun _ => False) w (w.alloc (.cells #[.string ⟨#[]⟩, .int .i64 0] 34)) := (Keeps.refl _ w).alloc _
 have HS := Aside0.mk (hst.keep K0)
 have HE := Aside0.mk (blk_new w (.cells #[.string ⟨#[]⟩, .int .i64 0] 34))
 have HL := Aside0.mk hlt
 have HS0 := Aside0.mk hst
 clear h0 h1 hst K0 hlt
 go_enter Try.func96, Try.ntmps96
 go_wp2_with fail
 refine (reader_text k g A c l at_ bad s a1 b1 _ HS.out H0.out).mono ?_
 rintro e w1 ⟨rfl, hs1, hk1⟩
 have HS1 := Aside0.mk hs1
 have HK1 := Aside0.mk hk1
 clear hs1 hk1
 go_wp2_with fail
 refine (reader_number k g A c l a1 b1 m a2 b2 _ HS1.out H1.out).mono ?_
 rintro e w2 ⟨rfl, hs2, hk2⟩
 have hE2 : w2.heap[w.heap.size]? = some (.cells #[.string ⟨#[]⟩, .int .i64 0] 34 (0, 0)) := by
  have hne : w.heap.size ≠ g := by have := HL.out; omega
  rw [hk2.block _ (by have := HK1.out.size; simp at this; omega) hne, HK1.out.block _ (by simp) hne]
  exact HE.out
 have g0 : w2.cell? ⟨w.heap.size, 0, none⟩ = some (.string ⟨#[]⟩) := (blk_cell hE2 0).trans rfl
 have g1 : w2.cell? ⟨w.heap.size, 1, none⟩ = some (.int .i64 0) := (blk_cell hE2 1).trans rfl
 have g2 := blk_frozen hE2 0
 have g3 := blk_frozen hE2 1
 have HS2 := Aside0.mk hs2
 have HK2 := Aside0.mk hk2
 have HE2 := Aside0.mk hE2
 clear hs2 hk2 hE2
 go_wp2
 have hE3 := blk_set (blk_set HE2.out 0 (.string s)) 1 (.int .i64 m)
 have k0 := (blk_cell hE3 0).trans rfl
 have k1 := (blk_cell hE3 1).trans rfl
 have hne : w.heap.size ≠ g := by have := HL.out; omega
 have hk : Keeps (fun k => k = g) w ((w2.setCell ⟨w.heap.size, 0, none⟩ (.string s)).setCell ⟨w.heap.size, 1, none⟩ (.int .i64 m)) :=
  ((((Keeps.refl _ w).alloc _).trans (HK1.out.trans HK2.out)).setCell (p := ⟨w.heap.size, 0, none⟩) (.inr (Nat.le_refl _)) _).setCell (p := ⟨w.heap.size, 1, none⟩) (.inr (Nat.le_refl _)) _
 exact bodyPost_ret (v := .agg #[.string s, .int .i64 m]) (by simp [results, Try.f96, go_sem, k0, k1]) rfl ⟨rfl, HS0.out.again (blk_far (blk_far HS2.out.blk (Ne.symm hne) _) (Ne.symm hne) _) hk, hk⟩
end
end Go.Proofs.Ytenbkljgmgdegaa.PO
end
section
namespace Go.Proofs.Ytenbkljgmgdegaa.PO
open Go.RowKit Go.Proofs.YtenbkljgmgdegaaW.PrintWords Go.Proofs.YtenbkljgmgdegaaW.PrintLast Go.Proofs.YtenbkljgmgdegaaW.PrintMore
open Go.Proofs.Ytenbkljgmgdegaa.XRange
set_option linter.unusedVariables false
set_option linter.unusedSimpArgs false
def tkNum (k : Nat) (most : Int) (l : List Int) (at_ : Int) (ok : Bool) : Option (Int × Int × Bool) :=
 (pannierref02_TakeNumber.f k l at_).bind fun t => if ok = false then some (0, at_, false) else if t.2.2 = 0 then (if t.1 > most then some (0, at_, false) else if 0 ≤ t.1 then some (t.1, t.2.1, true) else none) else some (0, at_, false)
set_option maxHeartbeats 4000000 in
set_option maxRecDepth 100000 in
theorem taker_number (k g : Nat) (most : Int) (hmost : most ≤ 4611686018427387904) (A : Option Addr) (c : Nat) (l : List Int) (at_ : Int) (ok : Bool) (r at' : Int) (ok' : Bool) (w : World) (hst : RdAt 122 w g A c l at_ ok) (h : tkNum k most l at_ ok = some (r, at', ok')) :
 Calls Try.prog 101 #[.pointer (some ⟨g, 0, none⟩), .int .u64 most] w fun e w' => e = .returned (.int .i64 r) ∧ RdAt 122 w' g A c l at' ok' ∧ Keeps (fun k => k = g) w w' := by
 unfold tkNum at h
 obtain ⟨⟨n, next, e⟩, h0, h⟩ := Option.bind_eq_some_iff.mp h
 have H0 := Aside0.mk h0
 have HS := Aside0.mk hst
 have c0 : w.cell? ⟨g, 0, none⟩ = some (.slice A l.length c) := (blk_cell hst.blk 0).trans rfl
 have c1 : w.cell? ⟨g, 1, none⟩ = some (.int .i64 at_) := (blk_cell hst.blk 1).trans rfl
 have c2 : w.cell? ⟨g, 2, none⟩ = some (.bool ok) := (blk_cell hst.blk 2).trans rfl
 have f0 := blk_frozen hst.blk 0
 have f1 := blk_frozen hst.blk 1
 have f2 := blk_frozen hst.blk 2
 have hz : Keeps (fun _ => False) w w := Keeps.refl _ w
 clear h0 hst
 go_enter Try.func101, Try.ntmps101
 go_wp2_with fail
 go_region_held3 (fun w' => w'.cell? ⟨g, 0, none⟩ = some (.slice A l.length c) ∧ w'.cell? ⟨g, 1, none⟩ = some (.int .i64 at_) ∧ Keeps (fun _ => False) w w')
  (first
   | exact ⟨by assumption, by assumption, by assumption⟩
   | exact ⟨by assumption, by assumption, Keeps.drew (by assumption)⟩
   | exact ⟨pw_cell_below hb (by assumption), pw_cell_below hb (by assumption), Keeps.trans (by first | assumption | exact Keeps.drew (by assumption)) (Keeps.of_below hb)⟩)
  ((go_at_call 117; refine (pannierref02_TakeNumber.calls k A c l at_ n next e _ (Kd.F_now (HS.out.keep (by first | assumption | exact Keeps.drew (by assumption))).foot) HS.out.le H0.out).mono ?_; rintro e' w1 ⟨rfl, hd⟩; have hb := Drawn0.below hd))
 obtain ⟨_, _, hk⟩ := ‹_ ∧ _ ∧ Keeps _ w w1›
 have HK := Aside0.mk hk
 have HS1 := Aside0.mk (HS.out.keep hk)
 have d0 : w1.cell? ⟨g, 0, none⟩ = some (.slice A l.length c) := (blk_cell HS1.out.blk 0).trans rfl
 have d1 : w1.cell? ⟨g, 1, none⟩ = some (.int .i64 at_) := (blk_cell HS1.out.blk 1).trans rfl
 have d2 : w1.cell? ⟨g, 2, none⟩ = some (.bool ok) := (blk_cell HS1.out.blk 2).trans rfl
 have e1 := blk_frozen HS1.out.blk 1
 have e2 := blk_frozen HS1.out.blk 2
 have hkM : Keeps (fun k => k = g) w w1 := ⟨hk.os, hk.tape, hk.output, hk.size, fun k hk' _ => hk.block k hk' (fun f => f)⟩
 have HM := Aside0.mk hkM
 clear c0 c1 c2 f0 f1 f2 hz hk hkM hb
 have h : (if ok = false then some (0, at_, false) else if e = 0 then (if n > most then some (0, at_, false) else if 0 ≤ n then some (n, next, true) else none) else some (0, at_, false)) = some (r, at', ok') := h
 by_cases q0 : ok = false
 · subst q0
   rw [if_pos rfl] at h
   simp only [Option.some.injEq, Prod.mk.injEq] at h
   obtain ⟨rfl, rfl, rfl⟩ := h
   go_wp2
   go_ret
   exact ⟨rfl, HS1.out.flag false, HM.out.setCell (.inl rfl) _⟩
 · have q0' : ok = true := by simpa using q0
   subst q0'
   rw [if_neg (by decide)] at h
   by_cases q1 : e = 0
   · rw [if_pos q1] at h
     have q1' : (e != 0) = false := by simpa using q1
     by_cases q2 : n > most
     · rw [if_pos q2] at h
       simp only [Option.some.injEq, Prod.mk.injEq] at h
       obtain ⟨rfl, rfl, rfl⟩ := h
       have q2' : decide (most < n) = true := decide_eq_true q2
       clear q1 q2
       go_wp2
       go_ret
       exact ⟨rfl, HS1.out.flag false, HM.out.setCell (.inl rfl) _⟩
     · rw [if_neg q2] at h
       have q2' : decide (most < n) = false := decide_eq_false q2
       by_cases q3 : 0 ≤ n
       · rw [if_pos q3] at h
         simp only [Option.some.injEq, Prod.mk.injEq] at h
         obtain ⟨rfl, rfl, rfl⟩ := h
         have q4 : IntKind.i64.wrap n = n := by rw [IntKind.wrap_i64]; omega
         clear q1 q2
         go_wp2
         go_ret
         exact ⟨rfl, HS1.out.put next, HM.out.setCell (.inl rfl) _⟩
       · rw [if_neg q3] at h; cases h
   · rw [if_neg q1] at h
     have q1' : (e != 0) = true := by simpa using q1
     simp only [Option.some.injEq, Prod.mk.injEq] at h
     obtain ⟨rfl, rfl, rfl⟩ := h
     clear q1
     go_wp2
     go_ret
     exact ⟨rfl, HS1.out.flag false, HM.out.setCell (.inl rfl) _⟩
def tkText (k : Nat) (mx : Int) (l : List Int) (at_ : Int) (ok : Bool) : Option (ByteArray × Int × Bool) :=
 (pannierref02_TakeText.f k l at_ mx).bind fun t => if ok = false then some (⟨#[]⟩, at_, false) else if t.2.2 = 0 then some (t.1, t.2.1, true) else some (⟨#[]⟩, at_, false)
set_option maxHeartbeats 4000000 in
set_option maxRecDepth 100000 in
theorem taker_text (k g : Nat) (mx : Int) (A : Option Addr) (c : Nat) (l : List Int) (at_ : Int) (ok : Bool) (r : ByteArray) (at' : Int) (ok' : Bool) (w : World) (hst : RdAt 122 w g A c l at_ ok) (h : tkText k mx l at_ ok = some (r, at', ok')) :
 Calls Try.prog 100 #[.pointer (some ⟨g, 0, none⟩), .int .i64 mx] w fun e w' => e = .returned (.string r) ∧ RdAt 122 w' g A c l at' ok' ∧ Keeps (fun k => k = g) w w' := by
 unfold tkText at h
 obtain ⟨⟨n, next, e⟩, h0, h⟩ := Option.bind_eq_some_iff.mp h
 have H0 := Aside0.mk h0
 have HS := Aside0.mk hst
 have c0 : w.cell? ⟨g, 0, none⟩ = some (.slice A l.length c) := (blk_cell hst.blk 0).trans rfl
 have c1 : w.cell? ⟨g, 1, none⟩ = some (.int .i64 at_) := (blk_cell hst.blk 1).trans rfl
 have c2 : w.cell? ⟨g, 2, none⟩ = some (.bool ok) := (blk_cell hst.blk 2).trans rfl
 have f0 := blk_frozen hst.blk 0
 have f1 := blk_frozen hst.blk 1
 have f2 := blk_frozen hst.blk 2
 have hz : Keeps (fun _ => False) w w := Keeps.refl _ w
 clear h0 hst
 go_enter Try.func100, Try.ntmps100
 go_wp2_with fail
 go_region_held3 (fun w' => w'.cell? ⟨g, 0, none⟩ = some (.slice A l.length c) ∧ w'.cell? ⟨g, 1, none⟩ = some (.int .i64 at_) ∧ Keeps (fun _ => False) w w')
  (first
   | exact ⟨by assumption, by assumption, by assumption⟩
   | exact ⟨by assumption, by assumption, Keeps.drew (by assumption)⟩
   | exact ⟨pw_cell_below hb (by assumption), pw_cell_below hb (by assumption), Keeps.trans (by first | assumption | exact Keeps.drew (by assumption)) (Keeps.of_below hb)⟩)
  ((go_at_call 116; refine (pannierref02_TakeText.calls k A c l at_ mx n next e _ (Kd.F_now (HS.out.keep (by first | assumption | exact Keeps.drew (by assumption))).foot) HS.out.le H0.out).mono ?_; rintro e' w1 ⟨rfl, hd⟩; have hb := Drawn0.below hd))
 obtain ⟨_, _, hk⟩ := ‹_ ∧ _ ∧ Keeps _ w w1›
 have HK := Aside0.mk hk
 have HS1 := Aside0.mk (HS.out.keep hk)
 have d0 : w1.cell? ⟨g, 0, none⟩ = some (.slice A l.length c) := (blk_cell HS1.out.blk 0).trans rfl
 have d1 : w1.cell? ⟨g, 1, none⟩ = some (.int .i64 at_) := (blk_cell HS1.out.blk 1).trans rfl
 have d2 : w1.cell? ⟨g, 2, none⟩ = some (.bool ok) := (blk_cell HS1.out.blk 2).trans rfl
 have e1 := blk_frozen HS1.out.blk 1
 have e2 := blk_frozen HS1.out.blk 2
 have hkM : Keeps (fun k => k = g) w w1 := ⟨hk.os, hk.tape, hk.output, hk.size, fun k hk' _ => hk.block k hk' (fun f => f)⟩
 have HM := Aside0.mk hkM
 clear c0 c1 c2 f0 f1 f2 hz hk hkM hb
 have h : (if ok = false then some ((⟨#[]⟩ : ByteArray), at_, false) else if e = 0 then some (n, next, true) else some ((⟨#[]⟩ : ByteArray), at_, false)) = some (r, at', ok') := h
 by_cases q0 : ok = false
 · subst q0
   rw [if_pos rfl] at h
   simp only [Option.some.injEq, Prod.mk.injEq] at h
   obtain ⟨rfl, rfl, rfl⟩ := h
   go_wp2
   go_ret
   exact ⟨rfl, HS1.out.flag false, HM.out.setCell (.inl rfl) _⟩
 · have q0' : ok = true := by simpa using q0
   subst q0'
   rw [if_neg (by decide)] at h
   by_cases q1 : e = 0
   · rw [if_pos q1] at h
     have q1' : (e != 0) = false := by simpa using q1
     simp only [Option.some.injEq, Prod.mk.injEq] at h
     obtain ⟨rfl, rfl, rfl⟩ := h
     clear q1
     go_wp2
     go_ret
     exact ⟨rfl, HS1.out.put next, HM.out.setCell (.inl rfl) _⟩
   · rw [if_neg q1] at h
     have q1' : (e != 0) = true := by simpa using q1
     simp only [Option.some.injEq, Prod.mk.injEq] at h
     obtain ⟨rfl, rfl, rfl⟩ := h
     clear q1
     go_wp2
     go_ret
     exact ⟨rfl, HS1.out.flag false, HM.out.setCell (.inl rfl) _⟩
def tkDot (k : Nat) (l : List Int) (at_ : Int) (bad : Bool) : Option (ByteArray × Int × Int × Bool) :=
 (tkText k 24 l at_ bad).bind fun t => (tkNum k 4611686018427387904 l t.2.1 t.2.2).bind fun n => some (t.1, n.1, n.2.1, n.2.2)
set_option maxHeartbeats 4000000 in
set_option maxRecDepth 100000 in
theorem taker_dot (k g : Nat) (A : Option Addr) (c : Nat) (l : List Int) (at_ : Int) (bad : Bool) (r : ByteArray) (n at' : Int) (bad' : Bool) (w : World) (hst : RdAt 122 w g A c l at_ bad) (h : tkDot k l at_ bad = some (r, n, at', bad')) :
 Calls Try.prog 99 #[.pointer (some ⟨g, 0, none⟩)] w fun e w' => e = .returned (.agg #[.string r, .int .i64 n]) ∧ RdAt 122 w' g A c l at' bad' ∧ Keeps (fun k => k = g) w w' := by
 unfold tkDot at h
 obtain ⟨⟨s, a1, b1⟩, h0, h⟩ := Option.bind_eq_some_iff.mp h
 obtain ⟨⟨m, a2, b2⟩, h1, h⟩ := Option.bind_eq_some_iff.mp h
 simp only [Option.some.injEq, Prod.mk.injEq] at h
 obtain ⟨rfl, rfl, rfl, rfl⟩ := h
 have H0 := Aside0.mk h0
 have H1 := Aside0.mk h1
 have hlt := blk_lt hst.blk
 have K0 : Keeps (fun _ => False) w (w.alloc (.cells #[.string ⟨#[]⟩, .int .i64 0] 34)) := (Keeps.refl _ w).alloc _
 have HS := Aside0.mk (hst.keep K0)
 have HE := Aside0.mk (blk_new w (.cells #[.string ⟨#[]⟩, .int .i64 0] 34))
 have HL := Aside0.mk hlt
 have HS0 := Aside0.mk hst
 clear h0 h1 hst K0 hlt
 go_enter Try.func99, Try.ntmps99
 go_wp2_with fail
 refine (taker_text k g 24 A c l at_ bad s a1 b1 _ HS.out H0.out).mono ?_
 rintro e w1 ⟨rfl, hs1, hk1⟩
 have HS1 := Aside0.mk hs1
 have HK1 := Aside0.mk hk1
 clear hs1 hk1
 go_wp2_with fail
 refine (taker_number k g 4611686018427387904 (Int.le_refl _) A c l a1 b1 m a2 b2 _ HS1.out H1.out).mono ?_
 rintro e w2 ⟨rfl, hs2, hk2⟩
 have hE2 : w2.heap[w.heap.size]? = some (.cells #[.string ⟨#[]⟩, .int .i64 0] 34 (0, 0)) := by
  have hne : w.heap.size ≠ g := by have := HL.out; omega
  rw [hk2.block _ (by have := HK1.out.size; simp at this; omega) hne, HK1.out.block _ (by simp) hne]
  exact HE.out
 have g0 : w2.cell? ⟨w.heap.size, 0, none⟩ = some (.string ⟨#[]⟩) := (blk_cell hE2 0).trans rfl
 have g1 : w2.cell? ⟨w.heap.size, 1, none⟩ = some (.int .i64 0) := (blk_cell hE2 1).trans rfl
 have g2 := blk_frozen hE2 0
 have g3 := blk_frozen hE2 1
 have HS2 := Aside0.mk hs2
 have HK2 := Aside0.mk hk2
 have HE2 := Aside0.mk hE2
 clear hs2 hk2 hE2
 go_wp2
 have hE3 := blk_set (blk_set HE2.out 0 (.string s)) 1 (.int .i64 m)
 have k0 := (blk_cell hE3 0).trans rfl
 have k1 := (blk_cell hE3 1).trans rfl
 have hne : w.heap.size ≠ g := by have := HL.out; omega
 have hk : Keeps (fun k => k = g) w ((w2.setCell ⟨w.heap.size, 0, none⟩ (.string s)).setCell ⟨w.heap.size, 1, none⟩ (.int .i64 m)) :=
  ((((Keeps.refl _ w).alloc _).trans (HK1.out.trans HK2.out)).setCell (p := ⟨w.heap.size, 0, none⟩) (.inr (Nat.le_refl _)) _).setCell (p := ⟨w.heap.size, 1, none⟩) (.inr (Nat.le_refl _)) _
 exact bodyPost_ret (v := .agg #[.string s, .int .i64 m]) (by simp [results, Try.f99, go_sem, k0, k1]) rfl ⟨rfl, HS0.out.again (blk_far (blk_far HS2.out.blk (Ne.symm hne) _) (Ne.symm hne) _) hk, hk⟩
end Go.Proofs.Ytenbkljgmgdegaa.PO
end
section
namespace Go.Proofs.Ytenbkljgmgdegaa.PO
open Go.RowKit Go.Proofs.YtenbkljgmgdegaaW.PrintWords Go.Proofs.YtenbkljgmgdegaaW.PrintLast Go.Proofs.YtenbkljgmgdegaaW.PrintMore Go.Proofs.Ytenbkljgmgdegaa.XW
set_option linter.unusedVariables false
set_option linter.unusedSimpArgs false
def text32 (b : List Int) (p : Int) : ByteArray × Int × Int :=
 if (takeS b p).2.2 = 0 then (if (takeS b p).1 > 32 then (⟨#[]⟩, 0, 20) else if (takeS b p).1 > (b.length : Int) - (takeS b p).2.1 then (⟨#[]⟩, 0, 20)
  else (strOfNums ((b.take ((takeS b p).2.1 + (takeS b p).1).toNat).drop (takeS b p).2.1.toNat), (takeS b p).2.1 + (takeS b p).1, 0)) else (⟨#[]⟩, 0, 20)
theorem takeText32_f (b : List Int) (hB : isB b) (hb : b.length ≤ 140737488355300) (p : Int) (k : Nat) (hk : 20 ≤ k) : wire_TakeText.f k b p 32 = some (text32 b p) := by
 unfold wire_TakeText.f text32
 rw [takeNumber_f b hB hb p k hk, Option.bind_some]
 by_cases h : (takeS b p).2.2 = 0
 case neg => rw [if_neg h, if_neg h]
 have ho := takeS_ok hB h
 rw [if_pos h, if_pos h, if_neg (by decide), u_id (u := 32) (by omega) (by omega)]
 by_cases h1 : (takeS b p).1 > 32
 · rw [if_pos h1, if_pos h1]
 rw [if_neg h1, if_neg h1, w_id (u := (b.length : Int) - (takeS b p).2.1) (by omega), u_id (by omega) (by omega)]
 by_cases h2 : (takeS b p).1 > (b.length : Int) - (takeS b p).2.1
 · rw [if_pos h2, if_pos h2]
 rw [if_neg h2, if_neg h2, if_pos (by omega), w_id (u := (takeS b p).1) (by omega), w_id (by omega), if_pos (by omega), if_pos (by omega)]
theorem wtext32_f (b : List Int) (s : ByteArray) (hs : s.size ≤ 32) (hb : b.length ≤ 140737488355200) (k : Nat) (hk : 20 ≤ k) : wire_Text.f k b s = some (textS b s) := by
 have := encN_len (s.size : Int)
 unfold wire_Text.f
 rw [u_id (by omega) (by omega), number_f _ (by omega) (by omega) b (by omega) k hk, Option.bind_some, if_pos (by rw [List.length_append]; omega)]
 rfl
theorem take_text32 (a r : List Int) (ha : isB a) (hr : isB r) (s : ByteArray) (hs : s.size ≤ 32) : text32 (a ++ textB s ++ r) (a.length : Int) = (s, ((a ++ textB s).length : Int), 0) := by
 have e : a ++ textB s ++ r = a ++ encN (s.size : Int) ++ (bytesOf s ++ r) := by simp [textB]
 have h := take_enc a (bytesOf s ++ r) ha (app_B (bytes_B s) hr) (s.size : Int) (by omega) (by omega)
 have hl := bytesOf_length s
 have hbl : (a ++ encN (s.size : Int)).length = a.length + (encN (s.size : Int)).length := by simp
 unfold text32
 rw [e, h]
 simp only []
 rw [if_pos trivial, if_neg (by omega), if_neg (by simp [hl]; omega)]
 have e2 : ((a.length : Int) + ((encN (s.size : Int)).length : Int) + (s.size : Int)).toNat = (a ++ encN (s.size : Int) ++ bytesOf s).length := by simp [hl]; omega
 have e3 : ((a.length : Int) + ((encN (s.size : Int)).length : Int)).toNat = (a ++ encN (s.size : Int)).length := by simp; omega
 rw [e2, e3, ← List.append_assoc, List.take_left, List.drop_left, nums_bytes]
 congr 2
 simp [textB, hl]
 omega
theorem text_is32 {b : List Int} (hB : isB b) {p : Int} (h : (text32 b p).2.2 = 0) : 0 ≤ p ∧ p.toNat ≤ b.length ∧ (text32 b p).1.size ≤ 32 ∧ 0 ≤ (text32 b p).2.1 ∧ b.take (text32 b p).2.1.toNat = b.take p.toNat ++ textB (text32 b p).1 := by
 unfold text32 at h ⊢
 by_cases h0 : (takeS b p).2.2 = 0
 case neg => rw [if_neg h0] at h; cases h
 rw [if_pos h0] at h ⊢
 by_cases h1 : (takeS b p).1 > 32
 · rw [if_pos h1] at h; cases h
 by_cases h2 : (takeS b p).1 > (b.length : Int) - (takeS b p).2.1
 · rw [if_neg h1, if_pos h2] at h; cases h
 rw [if_neg h1, if_neg h2]
 have hk := takeS_ok hB h0
 obtain ⟨hp, hpl, ht⟩ := take_is hB h0
 obtain ⟨q, hq⟩ : ∃ q : Nat, (takeS b p).2.1 = (q : Int) := ⟨(takeS b p).2.1.toNat, by omega⟩
 obtain ⟨n, hn⟩ : ∃ n : Nat, (takeS b p).1 = (n : Int) := ⟨(takeS b p).1.toNat, by omega⟩
 simp only [hq, hn] at hk h1 h2 ht ⊢
 simp only [Int.toNat_natCast] at ht
 have e2 : ((q : Int) + (n : Int)).toNat = q + n := by omega
 have hz : (strOfNums ((b.take (q + n)).drop q)).size = n := by rw [strOfNums_size]; simp; omega
 have hbB : isB ((b.take (q + n)).drop q) := fun x hx => hB x (List.mem_of_mem_take (List.mem_of_mem_drop hx))
 refine ⟨hp, hpl, ?_, ?_, ?_⟩
 · show (strOfNums _).size ≤ 32
   rw [e2, Int.toNat_natCast, hz]; omega
 · show (0 : Int) ≤ (q : Int) + (n : Int)
   omega
 · show b.take ((q : Int) + (n : Int)).toNat = _
   unfold textB
   rw [e2, Int.toNat_natCast, hz, bytes_nums hbB, ← List.append_assoc, ← ht]
   have : (b.take (q + n)).take q = b.take q := by rw [List.take_take, Nat.min_eq_left (by omega)]
   rw [← this, List.take_append_drop]
def layO (x : S36) : List Int := textB x.f0.f0 ++ encN x.f0.f1 ++ (layS [] x.f1).1 ++ textB x.f2 ++ textB x.f4 ++ encN x.f3 ++ encN x.f5 ++ encN (x.f6.length : Int) ++ layL [] x.f6
def numR (b : List Int) (p : Int) (bad : Bool) : Int × Int × Bool :=
 if bad = true then (0, p, true) else if (takeS b p).2.2 = 0 then (if (takeS b p).1 > 4611686018427387904 then (0, p, true) else ((takeS b p).1, (takeS b p).2.1, false)) else (0, p, true)
def texR (b : List Int) (p : Int) (bad : Bool) : ByteArray × Int × Bool :=
 if bad = true then (⟨#[]⟩, p, true) else if (text32 b p).2.2 = 0 then ((text32 b p).1, (text32 b p).2.1, false) else (⟨#[]⟩, p, true)
def dotR (b : List Int) (p : Int) (bad : Bool) : S34 × Int × Bool :=
 (⟨(texR b p bad).1, (numR b (texR b p bad).2.1 (texR b p bad).2.2).1⟩, (numR b (texR b p bad).2.1 (texR b p bad).2.2).2.1, (numR b (texR b p bad).2.1 (texR b p bad).2.2).2.2)
def seenR (b : List Int) : Nat → Int → Bool → List S34 → List S34 × Int × Bool
 | 0, p, bad, v => (v, p, bad)
 | c + 1, p, bad, v => seenR b c (dotR b p bad).2.1 (dotR b p bad).2.2 (v ++ [(dotR b p bad).1])
theorem seenR_s (b : List Int) (c : Nat) (p : Int) (bad : Bool) (v : List S34) : seenR b (c + 1) p bad v = seenR b c (dotR b p bad).2.1 (dotR b p bad).2.2 (v ++ [(dotR b p bad).1]) := rfl
theorem numR_at {b : List Int} {p n q : Int} (h : takeS b p = (n, q, 0)) (hn : n ≤ 4611686018427387904) : numR b p false = (n, q, false) := by
 unfold numR; rw [h]; simp; omega
theorem texR_at {b : List Int} {p q : Int} {s : ByteArray} (h : text32 b p = (s, q, 0)) : texR b p false = (s, q, false) := by
 unfold texR; rw [h]; simp
theorem dotR_enc (a r : List Int) (ha : isB a) (hr : isB r) (d : S34) (h0 : d.f0.size ≤ 32) (h1 : 0 ≤ d.f1) (h2 : d.f1 ≤ 4611686018427387904) :
 dotR (a ++ (textB d.f0 ++ encN d.f1) ++ r) (a.length : Int) false = (d, ((a ++ (textB d.f0 ++ encN d.f1)).length : Int), false) := by
 have hB : isB (encN d.f1) := enc_B h1 (by omega)
 have ht := take_text32 a (encN d.f1 ++ r) ha (app_B hB hr) d.f0 h0
 have e1 : a ++ textB d.f0 ++ (encN d.f1 ++ r) = a ++ (textB d.f0 ++ encN d.f1) ++ r := by simp
 rw [e1] at ht
 have hn := take_enc (a ++ textB d.f0) r (app_B ha (textB_B _ (by omega))) hr d.f1 h1 (by omega)
 have e2 : a ++ textB d.f0 ++ encN d.f1 ++ r = a ++ (textB d.f0 ++ encN d.f1) ++ r := by simp
 rw [e2] at hn
 unfold dotR
 rw [texR_at ht]
 show (_, _, _) = _
 rw [numR_at hn h2]
 show (_, _, _) = _
 simp only [Prod.mk.injEq]
 exact ⟨by first | trivial | (cases d; rfl), by simp; omega, trivial⟩
theorem seen_cons (x : S34) (l : List S34) : layL [] (x :: l) = (textB x.f0 ++ encN x.f1) ++ layL [] l := by rw [lay_cons]
def fine32 (l : List S34) : Prop := ∀ x, x ∈ l → x.f0.size ≤ 32 ∧ 0 ≤ x.f1 ∧ x.f1 ≤ 4611686018427387904
theorem seenL_B : ∀ (l : List S34), fine32 l → isB (layL [] l)
 | [], _ => fun x hx => by simp [layL] at hx
 | x :: l, h => by
   have h1 := h x List.mem_cons_self
   rw [seen_cons]
   exact app_B (app_B (textB_B _ (by omega)) (enc_B h1.2.1 (by omega))) (seenL_B l (fun y hy => h y (List.mem_cons_of_mem _ hy)))
theorem seenR_enc (r : List Int) (hr : isB r) : ∀ (l : List S34) (a : List Int) (v : List S34), isB a → fine32 l → seenR (a ++ layL [] l ++ r) l.length (a.length : Int) false v = (v ++ l, ((a ++ layL [] l).length : Int), false)
 | [], a, v, ha, _ => by simp [seenR, layL]
 | x :: l, a, v, ha, hf => by
   have h1 := hf x List.mem_cons_self
   have hf' : fine32 l := fun y hy => hf y (List.mem_cons_of_mem _ hy)
   have hd := dotR_enc a (layL [] l ++ r) ha (app_B (seenL_B l hf') hr) x h1.1 h1.2.1 h1.2.2
   have e1 : a ++ (textB x.f0 ++ encN x.f1) ++ (layL [] l ++ r) = a ++ layL [] (x :: l) ++ r := by rw [seen_cons]; simp
   rw [e1] at hd
   have ih := seenR_enc r hr l (a ++ (textB x.f0 ++ encN x.f1)) (v ++ [x]) (app_B ha (app_B (textB_B _ (by omega)) (enc_B h1.2.1 (by omega)))) hf'
   have e2 : a ++ (textB x.f0 ++ encN x.f1) ++ layL [] l ++ r = a ++ layL [] (x :: l) ++ r := by rw [seen_cons]; simp
   have e3 : a ++ (textB x.f0 ++ encN x.f1) ++ layL [] l = a ++ layL [] (x :: l) := by rw [seen_cons]; simp
   rw [e2, e3] at ih
   rw [List.length_cons, seenR_s, hd, ih]
   simp
theorem vec_enc_at (a r : List Int) (ha : isB a) (hr : isB r) (l : List S34) (h : rightS l = true) : vecS (a ++ (layS [] l).1 ++ r) (a.length : Int) = (l, ((a ++ (layS [] l).1).length : Int), 0) := by
 have hle := (rightS_le h).1
 have hf := right_fine h
 have e : (layS [] l).1 = encN (l.length : Int) ++ layL [] l := by
  unfold layS
  rw [if_pos h, lay_app]
  rfl
 have hB : isB (encN (l.length : Int)) := enc_B (by omega) (by omega)
 have hN := take_enc a (layL [] l ++ r) ha (app_B (lay_B l hf) hr) (l.length : Int) (by omega) (by omega)
 have hT := tl_enc r hr l (a ++ encN (l.length : Int)) [] (app_B ha hB) hf h
 rw [e]
 have e1 : a ++ encN (l.length : Int) ++ (layL [] l ++ r) = a ++ (encN (l.length : Int) ++ layL [] l) ++ r := by simp
 have e2 : a ++ encN (l.length : Int) ++ layL [] l ++ r = a ++ (encN (l.length : Int) ++ layL [] l) ++ r := by simp
 have e3 : a ++ encN (l.length : Int) ++ layL [] l = a ++ (encN (l.length : Int) ++ layL [] l) := by simp
 have e4 : ((a ++ encN (l.length : Int)).length : Int) = (a.length : Int) + ((encN (l.length : Int)).length : Int) := by simp
 rw [e1] at hN
 rw [e2, e3, e4] at hT
 unfold vecS
 rw [hN]
 simp only []
 rw [if_pos trivial, if_neg (by omega), Int.toNat_natCast, hT]
 rfl
theorem vec_is_at {b : List Int} (hB : isB b) {p : Int} (h : (vecS b p).2.2 = 0) : rightS (vecS b p).1 = true ∧ (0 ≤ (vecS b p).2.1 ∧ (vecS b p).2.1 ≤ (b.length : Int)) ∧ b.take (vecS b p).2.1.toNat = b.take p.toNat ++ (layS [] (vecS b p).1).1 := by
 unfold vecS at h ⊢
 by_cases h0 : (takeS b p).2.2 = 0
 case neg => rw [if_neg h0] at h; cases h
 by_cases h1 : (takeS b p).1 > 64
 · rw [if_pos h0, if_pos h1] at h; cases h
 rw [if_pos h0, if_neg h1] at h ⊢
 have hk := takeS_ok hB h0
 obtain ⟨_, _, hn⟩ := take_is hB h0
 obtain ⟨l, e1, e2, e3, e4, e5⟩ := tl_is hB _ _ _ hk.1 hk.2.1 h
 rw [List.nil_append] at e1 e3
 rw [e1]
 refine ⟨e3, e4, ?_⟩
 have hln : (l.length : Int) = (takeS b p).1 := by omega
 unfold layS
 rw [if_pos e3, lay_app, e5, hn, hln]
 simp
theorem numR_is {b : List Int} (hB : isB b) {p : Int} {bad : Bool} (h : (numR b p bad).2.2 = false) : bad = false ∧ 0 ≤ p ∧ p.toNat ≤ b.length ∧ 0 ≤ (numR b p bad).1 ∧ (numR b p bad).1 ≤ 4611686018427387904 ∧ 0 ≤ (numR b p bad).2.1 ∧ (numR b p bad).2.1 ≤ (b.length : Int) ∧ b.take (numR b p bad).2.1.toNat = b.take p.toNat ++ encN (numR b p bad).1 := by
 unfold numR at h ⊢
 cases bad with
 | true => simp at h
 | false =>
   rw [if_neg (by decide)] at h ⊢
   by_cases h0 : (takeS b p).2.2 = 0
   case neg => rw [if_neg h0] at h; cases h
   rw [if_pos h0] at h ⊢
   by_cases h1 : (takeS b p).1 > 4611686018427387904
   · rw [if_pos h1] at h; cases h
   rw [if_neg h1] at ⊢
   have hk := takeS_ok hB h0
   obtain ⟨a1, a2, a3⟩ := take_is hB h0
   exact ⟨rfl, a1, a2, hk.2.2.1, by show (takeS b p).1 ≤ _; omega, hk.1, hk.2.1, a3⟩
theorem texR_is {b : List Int} (hB : isB b) {p : Int} {bad : Bool} (h : (texR b p bad).2.2 = false) : bad = false ∧ 0 ≤ p ∧ p.toNat ≤ b.length ∧ (texR b p bad).1.size ≤ 32 ∧ 0 ≤ (texR b p bad).2.1 ∧ b.take (texR b p bad).2.1.toNat = b.take p.toNat ++ textB (texR b p bad).1 := by
 unfold texR at h ⊢
 cases bad with
 | true => simp at h
 | false =>
   rw [if_neg (by decide)] at h ⊢
   by_cases h0 : (text32 b p).2.2 = 0
   case neg => rw [if_neg h0] at h; cases h
   rw [if_pos h0]
   obtain ⟨a1, a2, a3, a4, a5⟩ := text_is32 hB h0
   exact ⟨rfl, a1, a2, a3, a4, a5⟩
theorem dotR_is {b : List Int} (hB : isB b) {p : Int} {bad : Bool} (h : (dotR b p bad).2.2 = false) : bad = false ∧ 0 ≤ p ∧ 0 ≤ (dotR b p bad).2.1 ∧ (dotR b p bad).2.1 ≤ (b.length : Int) ∧ b.take (dotR b p bad).2.1.toNat = b.take p.toNat ++ (textB (dotR b p bad).1.f0 ++ encN (dotR b p bad).1.f1) := by
 obtain ⟨n1, n2, n3, n4, n5, n6, n7, n8⟩ := numR_is hB (show (numR b (texR b p bad).2.1 (texR b p bad).2.2).2.2 = false from h)
 obtain ⟨t1, t2, t3, t4, t5, t6⟩ := texR_is hB n1
 refine ⟨t1, t2, n6, n7, ?_⟩
 show b.take (numR b (texR b p bad).2.1 (texR b p bad).2.2).2.1.toNat = _
 rw [n8, t6]
 show _ = b.take p.toNat ++ (textB (texR b p bad).1 ++ encN (numR b (texR b p bad).2.1 (texR b p bad).2.2).1)
 simp
theorem seenR_is {b : List Int} (hB : isB b) : ∀ (c : Nat) (p : Int) (bad : Bool) (v : List S34), 0 ≤ p → p ≤ (b.length : Int) → (seenR b c p bad v).2.2 = false →
 bad = false ∧ ∃ l, (seenR b c p bad v).1 = v ++ l ∧ l.length = c ∧ 0 ≤ (seenR b c p bad v).2.1 ∧ (seenR b c p bad v).2.1 ≤ (b.length : Int) ∧ b.take (seenR b c p bad v).2.1.toNat = b.take p.toNat ++ layL [] l
 | 0, p, bad, v, hp, hpl, h => ⟨h, [], by simp [seenR], rfl, hp, hpl, by simp [seenR, layL]⟩
 | c + 1, p, bad, v, hp, hpl, h => by
   rw [seenR_s] at h ⊢
   have hbad : (dotR b p bad).2.2 = false → 0 ≤ (dotR b p bad).2.1 ∧ (dotR b p bad).2.1 ≤ (b.length : Int) := fun h => by
    obtain ⟨_, _, h3, h4, _⟩ := dotR_is hB h; exact ⟨h3, h4⟩
   cases hd : (dotR b p bad).2.2 with
   | true =>
     exfalso
     rw [hd] at h
     have stay : ∀ (c : Nat) (p : Int) (v : List S34), (seenR b c p true v).2.2 = true := by
      intro c
      induction c with
      | zero => intro p v; rfl
      | succ c ih => intro p v; rw [seenR_s]; exact ih _ _
     rw [stay] at h
     cases h
   | false =>
     obtain ⟨d1, d2, d3, d4, d5⟩ := dotR_is hB hd
     rw [hd] at h
     obtain ⟨_, l, e1, e2, e3, e4, e5⟩ := seenR_is hB c _ false _ d3 d4 h
     refine ⟨d1, (dotR b p bad).1 :: l, by rw [e1]; simp, by simp [e2], e3, e4, ?_⟩
     rw [e5, d5, seen_cons]
     simp
def readO (b : List Int) : S36 × Int :=
 if (dotR b 0 false).2.2 = true ∨ (vecS b (dotR b 0 false).2.1).2.2 ≠ 0 then (z36, 80) else
 let c := texR b (vecS b (dotR b 0 false).2.1).2.1 false
 let i := texR b c.2.1 c.2.2
 let kd := numR b i.2.1 i.2.2
 let q := numR b kd.2.1 kd.2.2
 let m := numR b q.2.1 q.2.2
 if m.2.2 = true ∨ kd.1 > 3 ∨ m.1 > 128 then (z36, 80) else
 let s := seenR b m.1.toNat m.2.1 m.2.2 []
 if s.2.2 = true ∨ s.2.1 ≠ (b.length : Int) ∨ rightO ⟨(dotR b 0 false).1, (vecS b (dotR b 0 false).2.1).1, c.1, kd.1, i.1, q.1, s.1⟩ = false then (z36, 80) else
 (⟨(dotR b 0 false).1, (vecS b (dotR b 0 false).2.1).1, c.1, kd.1, i.1, q.1, s.1⟩, 0)
theorem readO_is {b : List Int} (hB : isB b) (h : (readO b).2 = 0) : rightO (readO b).1 = true ∧ layO (readO b).1 = b := by
 unfold readO at h ⊢
 by_cases h0 : (dotR b 0 false).2.2 = true ∨ (vecS b (dotR b 0 false).2.1).2.2 ≠ 0
 · rw [if_pos h0] at h; cases h
 rw [if_neg h0] at h ⊢
 dsimp only at h ⊢
 obtain ⟨c, hc⟩ : ∃ c, texR b (vecS b (dotR b 0 false).2.1).2.1 false = c := ⟨_, rfl⟩
 rw [hc] at h ⊢
 obtain ⟨i, hi⟩ : ∃ i, texR b c.2.1 c.2.2 = i := ⟨_, rfl⟩
 rw [hi] at h ⊢
 obtain ⟨kd, hkd⟩ : ∃ kd, numR b i.2.1 i.2.2 = kd := ⟨_, rfl⟩
 rw [hkd] at h ⊢
 obtain ⟨q, hq⟩ : ∃ q, numR b kd.2.1 kd.2.2 = q := ⟨_, rfl⟩
 rw [hq] at h ⊢
 obtain ⟨m, hm⟩ : ∃ m, numR b q.2.1 q.2.2 = m := ⟨_, rfl⟩
 rw [hm] at h ⊢
 by_cases h1 : m.2.2 = true ∨ kd.1 > 3 ∨ m.1 > 128
 · rw [if_pos h1] at h; cases h
 rw [if_neg h1] at h ⊢
 obtain ⟨s, hs⟩ : ∃ s, seenR b m.1.toNat m.2.1 m.2.2 [] = s := ⟨_, rfl⟩
 rw [hs] at h ⊢
 by_cases h2 : s.2.2 = true ∨ s.2.1 ≠ (b.length : Int) ∨ rightO ⟨(dotR b 0 false).1, (vecS b (dotR b 0 false).2.1).1, c.1, kd.1, i.1, q.1, s.1⟩ = false
 · rw [if_pos h2] at h; cases h
 rw [if_neg h2]
 have hr : rightO ⟨(dotR b 0 false).1, (vecS b (dotR b 0 false).2.1).1, c.1, kd.1, i.1, q.1, s.1⟩ = true := by
  cases hh : rightO ⟨(dotR b 0 false).1, (vecS b (dotR b 0 false).2.1).1, c.1, kd.1, i.1, q.1, s.1⟩ with
  | true => rfl
  | false => exact absurd (Or.inr (Or.inr hh)) h2
 refine ⟨hr, ?_⟩
 have hs2 : s.2.2 = false := by cases hh : s.2.2 with | false => rfl | true => exact absurd (Or.inl hh) h2
 have hse : s.2.1 = (b.length : Int) := Classical.byContradiction (fun hh => h2 (Or.inr (Or.inl hh)))
 have hm2 : m.2.2 = false := by cases hh : m.2.2 with | false => rfl | true => exact absurd (Or.inl hh) h1
 have hv0 : (vecS b (dotR b 0 false).2.1).2.2 = 0 := Classical.byContradiction (fun hh => h0 (Or.inr hh))
 have hd0 : (dotR b 0 false).2.2 = false := by cases hh : (dotR b 0 false).2.2 with | false => rfl | true => exact absurd (Or.inl hh) h0
 obtain ⟨m1, m2, m3, m4, m5, m6, m7, m8⟩ := numR_is hB (show (numR b q.2.1 q.2.2).2.2 = false by rw [hm]; exact hm2)
 obtain ⟨q1, q2, q3, q4, q5, q6, q7, q8⟩ := numR_is hB (show (numR b kd.2.1 kd.2.2).2.2 = false by rw [hq]; exact m1)
 obtain ⟨k1, k2, k3, k4, k5, k6, k7, k8⟩ := numR_is hB (show (numR b i.2.1 i.2.2).2.2 = false by rw [hkd]; exact q1)
 obtain ⟨i1, i2, i3, i4, i5, i6⟩ := texR_is hB (show (texR b c.2.1 c.2.2).2.2 = false by rw [hi]; exact k1)
 obtain ⟨c1, c2, c3, c4, c5, c6⟩ := texR_is hB (show (texR b (vecS b (dotR b 0 false).2.1).2.1 false).2.2 = false by rw [hc]; exact i1)
 obtain ⟨v1, v2, v3⟩ := vec_is_at hB hv0
 obtain ⟨d1, d2, d3, d4, d5⟩ := dotR_is hB hd0
 rw [hm] at m4 m6 m7 m8
 rw [hq] at q8
 rw [hkd] at k8
 rw [hi] at i6
 rw [hc] at c6
 obtain ⟨s1, l, e1, e2, e3, e4, e5⟩ := seenR_is hB m.1.toNat m.2.1 m.2.2 [] m6 m7 (by rw [hs]; exact hs2)
 rw [hs] at e1 e3 e4 e5
 have hl : (s.1.length : Int) = m.1 := by rw [e1]; simp [e2]; omega
 have e6 : b.take s.2.1.toNat = b := by rw [hse, Int.toNat_natCast]; exact List.take_length
 unfold layO
 show textB (dotR b 0 false).1.f0 ++ encN (dotR b 0 false).1.f1 ++ (layS [] (vecS b (dotR b 0 false).2.1).1).1 ++ textB c.1 ++ textB i.1 ++ encN kd.1 ++ encN q.1 ++ encN (s.1.length : Int) ++ layL [] s.1 = b
 have e7 : s.1 = l := by rw [e1]; simp
 rw [hl, e7]
 rw [e6, m8, q8, k8, i6, c6, v3, d5, show b.take (0 : Int).toNat = [] from rfl, List.nil_append] at e5
 simp only [List.append_assoc] at e5 ⊢
 exact e5.symm
theorem dotOk_32 {d : S34} (h : dotOk d = true) : d.f0.size ≤ 24 ∧ 1 ≤ d.f1 ∧ d.f1 ≤ 4611686018427387904 := by
 simp only [dotOk, isNameB, Bool.and_eq_true, decide_eq_true_eq] at h
 omega
theorem seenS_fine (deps : List S34) : ∀ (l : List S34) (p : Option S34), seenS deps p l = true → fine32 l
 | [], p, _ => fun x hx => by cases hx
 | y :: l, p, h => fun x hx => by
   have h' : hasS deps y.f0 y.f1 = true ∧ seenS deps (some y) l = true := by
    unfold seenS at h
    simp only [Bool.and_eq_true] at h
    exact ⟨h.1.1, h.2⟩
   rcases List.mem_cons.1 hx with rfl | hx
   · have h1 := h'.1
     unfold hasS at h1
     simp only [Bool.and_eq_true] at h1
     have h3 : x.f0.size ≤ 24 ∧ 1 ≤ x.f1 ∧ x.f1 ≤ 4611686018427387904 := dotOk_32 h1.1.2
     omega
   · exact seenS_fine deps l (some y) h'.2 x hx
theorem rightO_all {o : S36} (h : rightO o = true) : dotOk o.f0 = true ∧ rightS o.f1 = true ∧ o.f2.size ≤ 32 ∧ o.f4.size ≤ 32 ∧ o.f6.length ≤ 128 ∧ fine32 o.f6 ∧ (1 ≤ o.f3 ∧ o.f3 ≤ 3) ∧ 0 ≤ o.f5 ∧ o.f5 ≤ 9999 := by
 unfold rightO at h
 simp only [Bool.and_eq_true, decide_eq_true_eq] at h
 obtain ⟨⟨⟨⟨⟨⟨⟨h1, h2⟩, h3⟩, h4⟩, h5⟩, h6⟩, h7⟩, h8⟩ := h
 refine ⟨h1, h2, h4.2, h5.2, h6, seenS_fine _ _ _ h7, ?_⟩
 unfold kindS at h8
 by_cases q1 : o.f3 = 1
 · rw [if_pos q1] at h8
   simp only [Bool.and_eq_true, decide_eq_true_eq] at h8
   omega
 · rw [if_neg q1] at h8
   by_cases q2 : o.f3 = 2
   · rw [if_pos q2] at h8
     simp only [Bool.and_eq_true, decide_eq_true_eq] at h8
     omega
   · rw [if_neg q2] at h8
     simp only [Bool.and_eq_true, decide_eq_true_eq] at h8
     omega
theorem layV_B {l : List S34} (h : rightS l = true) : isB (layS [] l).1 := by
 have hle := (rightS_le h).1
 unfold layS
 rw [if_pos h, lay_app]
 exact app_B (app_B (fun x hx => by cases hx) (enc_B (by omega) (by omega))) (lay_B l (right_fine h))
theorem layO_B {x : S36} (h : rightO x = true) : isB (layO x) := by
 obtain ⟨h1, h2, h3, h4, h5, h6, h7, h8, h9⟩ := rightO_all h
 have hd := dotOk_32 h1
 unfold layO
 exact app_B (app_B (app_B (app_B (app_B (app_B (app_B (app_B (textB_B _ (by omega)) (enc_B (by omega) (by omega))) (layV_B h2)) (textB_B _ (by omega))) (textB_B _ (by omega))) (enc_B (by omega) (by omega))) (enc_B (by omega) (by omega))) (enc_B (by omega) (by omega))) (seenL_B _ h6)
theorem readO_enc {x : S36} (h : rightO x = true) : readO (layO x) = (x, 0) := by
 obtain ⟨h1, h2, h3, h4, h5, h6, h7, h8, h9⟩ := rightO_all h
 have hd := dotOk_32 h1
 obtain ⟨D, hD⟩ : ∃ D, textB x.f0.f0 ++ encN x.f0.f1 = D := ⟨_, rfl⟩
 obtain ⟨V, hV⟩ : ∃ V, (layS [] x.f1).1 = V := ⟨_, rfl⟩
 obtain ⟨C, hC⟩ : ∃ C, textB x.f2 = C := ⟨_, rfl⟩
 obtain ⟨I, hI⟩ : ∃ I, textB x.f4 = I := ⟨_, rfl⟩
 obtain ⟨K, hK⟩ : ∃ K, encN x.f3 = K := ⟨_, rfl⟩
 obtain ⟨Q, hQ⟩ : ∃ Q, encN x.f5 = Q := ⟨_, rfl⟩
 obtain ⟨M, hM⟩ : ∃ M, encN (x.f6.length : Int) = M := ⟨_, rfl⟩
 obtain ⟨L, hL⟩ : ∃ L, layL [] x.f6 = L := ⟨_, rfl⟩
 have bD : isB D := by rw [← hD]; exact app_B (textB_B _ (by omega)) (enc_B (by omega) (by omega))
 have bV : isB V := by rw [← hV]; exact layV_B h2
 have bC : isB C := by rw [← hC]; exact textB_B _ (by omega)
 have bI : isB I := by rw [← hI]; exact textB_B _ (by omega)
 have bK : isB K := by rw [← hK]; exact enc_B (by omega) (by omega)
 have bQ : isB Q := by rw [← hQ]; exact enc_B (by omega) (by omega)
 have bM : isB M := by rw [← hM]; exact enc_B (by omega) (by omega)
 have bL : isB L := by rw [← hL]; exact seenL_B _ h6
 have bN : isB ([] : List Int) := fun x hx => by cases hx
 obtain ⟨b, hb⟩ : ∃ b, layO x = b := ⟨_, rfl⟩
 have hbe : b = D ++ V ++ C ++ I ++ K ++ Q ++ M ++ L := by rw [← hb]; unfold layO; rw [hD, hV, hC, hI, hK, hQ, hM, hL]
 have e1 := dotR_enc [] (V ++ C ++ I ++ K ++ Q ++ M ++ L) bN (app_B (app_B (app_B (app_B (app_B (app_B bV bC) bI) bK) bQ) bM) bL) x.f0 (by omega) (by omega) (by omega)
 have e2 := vec_enc_at D (C ++ I ++ K ++ Q ++ M ++ L) bD (app_B (app_B (app_B (app_B (app_B bC bI) bK) bQ) bM) bL) x.f1 h2
 have e3 := take_text32 (D ++ V) (I ++ K ++ Q ++ M ++ L) (app_B bD bV) (app_B (app_B (app_B (app_B bI bK) bQ) bM) bL) x.f2 h3
 have e4 := take_text32 (D ++ V ++ C) (K ++ Q ++ M ++ L) (app_B (app_B bD bV) bC) (app_B (app_B (app_B bK bQ) bM) bL) x.f4 h4
 have e5 := take_enc (D ++ V ++ C ++ I) (Q ++ M ++ L) (app_B (app_B (app_B bD bV) bC) bI) (app_B (app_B bQ bM) bL) x.f3 (by omega) (by omega)
 have e6 := take_enc (D ++ V ++ C ++ I ++ K) (M ++ L) (app_B (app_B (app_B (app_B bD bV) bC) bI) bK) (app_B bM bL) x.f5 (by omega) (by omega)
 have e7 := take_enc (D ++ V ++ C ++ I ++ K ++ Q) L (app_B (app_B (app_B (app_B (app_B bD bV) bC) bI) bK) bQ) bL (x.f6.length : Int) (by omega) (by omega)
 have e8 := seenR_enc [] bN x.f6 (D ++ V ++ C ++ I ++ K ++ Q ++ M) [] (app_B (app_B (app_B (app_B (app_B (app_B bD bV) bC) bI) bK) bQ) bM) h6
 rw [hD] at e1
 rw [hV] at e2
 rw [hC] at e3
 rw [hI] at e4
 rw [hK] at e5
 rw [hQ] at e6
 rw [hM] at e7
 rw [hL] at e8
 rw [show [] ++ D ++ (V ++ C ++ I ++ K ++ Q ++ M ++ L) = b by rw [hbe]; simp] at e1
 rw [show D ++ V ++ (C ++ I ++ K ++ Q ++ M ++ L) = b by rw [hbe]; simp] at e2
 rw [show D ++ V ++ C ++ (I ++ K ++ Q ++ M ++ L) = b by rw [hbe]; simp] at e3
 rw [show D ++ V ++ C ++ I ++ (K ++ Q ++ M ++ L) = b by rw [hbe]; simp] at e4
 rw [show D ++ V ++ C ++ I ++ K ++ (Q ++ M ++ L) = b by rw [hbe]; simp] at e5
 rw [show D ++ V ++ C ++ I ++ K ++ Q ++ (M ++ L) = b by rw [hbe]; simp] at e6
 rw [show D ++ V ++ C ++ I ++ K ++ Q ++ M ++ L = b by rw [hbe]] at e7
 rw [show D ++ V ++ C ++ I ++ K ++ Q ++ M ++ L ++ [] = b by rw [hbe]; simp, show D ++ V ++ C ++ I ++ K ++ Q ++ M ++ L = b by rw [hbe]] at e8
 have e5' := numR_at e5 (by omega)
 have e6' := numR_at e6 (by omega)
 have e7' := numR_at e7 (by omega)
 have e3' := texR_at e3
 have e4' := texR_at e4
 rw [← Int.natCast_add, ← List.length_append] at e5' e6' e7'
 rw [show ((([] : List Int).length : Nat) : Int) = 0 from rfl, List.nil_append] at e1
 unfold readO
 rw [hb, e1]
 dsimp only
 rw [e2]
 dsimp only
 rw [if_neg (by simp), e3']
 dsimp only
 rw [e4']
 dsimp only
 rw [e5']
 dsimp only
 rw [e6']
 dsimp only
 rw [e7']
 dsimp only
 rw [if_neg (by simp; omega), Int.toNat_natCast, e8]
 dsimp only
 rw [List.nil_append, if_neg (by
  have : rightO ⟨x.f0, x.f1, x.f2, x.f3, x.f4, x.f5, x.f6⟩ = true := h
  rw [this]
  simp)]
theorem layDot_f (b : List Int) (d : S34) (h0 : d.f0.size ≤ 32) (h1 : 0 ≤ d.f1) (h2 : d.f1 ≤ 4611686018427387904) (hb : b.length ≤ 140737488355000) (k : Nat) (hk : 20 ≤ k) : order_layDot.f k b d.f0 d.f1 = some (b ++ (textB d.f0 ++ encN d.f1)) := by
 unfold order_layDot.f
 have hl : (textS b d.f0).length ≤ b.length + 9 + d.f0.size := textS_len b d.f0
 rw [wtext32_f b d.f0 h0 (by omega) k hk, Option.bind_some, u_id h1 (by omega), number_f d.f1 h1 (by omega) _ (by omega) k hk, Option.bind_some]
 simp [textS, textB]
def layF (x : S36) : ByteArray × Int := if rightO x = true then (strOfNums (layO x), 0) else (⟨#[]⟩, 2)
theorem textB_len (s : ByteArray) : (textB s).length ≤ 9 + s.size := by
 have h1 := textS_len [] s
 have h3 : (textS [] s).length = (textB s).length := by simp [textS, textB]
 simp only [List.length_nil] at h1
 omega
end Go.Proofs.Ytenbkljgmgdegaa.PO
end
section
namespace Go.Proofs.Ytenbkljgmgdegaa.PO
open Go.RowKit Go.Proofs.YtenbkljgmgdegaaW.PrintWords Go.Proofs.YtenbkljgmgdegaaW.PrintLast Go.Proofs.YtenbkljgmgdegaaW.PrintMore Go.Proofs.Ytenbkljgmgdegaa.XW
set_option linter.unusedVariables false
set_option linter.unusedSimpArgs false
structure AP where
 L : List S36
 K : List S34
 Q : List S36
def ofDot (l : List S36) (d : S34) : Option S36 := l.find? (fun y => decide (y.f0 = d))
structure InvA (s : AP) : Prop where
 once : ((s.L ++ s.Q).map (·.f0)).Nodup
 right : ∀ x ∈ s.L ++ s.Q, rightO x = true
 known : rightS s.K = true
 know : ∀ d : S34, 1 ≤ d.f1 → (d.f1 ≤ atS d.f0 s.K ↔ ∃ y ∈ s.L, y.f0 = d)
 waits : s.Q.length ≤ 256
end Go.Proofs.Ytenbkljgmgdegaa.PO
end
section
namespace Go.Proofs.Ytenbkljgmgdegaa.PO
open Go.RowKit Go.Proofs.YtenbkljgmgdegaaW.PrintWords Go.Proofs.YtenbkljgmgdegaaW.PrintLast Go.Proofs.YtenbkljgmgdegaaW.PrintMore Go.Proofs.Ytenbkljgmgdegaa.XW
set_option linter.unusedVariables false
set_option linter.unusedSimpArgs false
theorem inj_l (x y : ByteArray) : (x.toList = y.toList) ↔ x = y := ⟨bytes_inj, fun h => by rw [h]⟩
theorem inj_b (x y : ByteArray) : (x.toList == y.toList) = decide (x = y) := by rw [Bool.eq_iff_iff]; simp [inj_l]
theorem refSame_l0 (a b : List S34) (hl : a.length = b.length) (ha : a.length ≤ 9223372036854775807) : ∀ (k i : Nat), i ≤ a.length → a.length - i < k →
 pannierref07_Same.l0 k a b (i : Int) = some (decide (a.drop i = b.drop i))
 | 0, i, _, h => by omega
 | k + 1, i, hi, h => by
   unfold pannierref07_Same.l0
   by_cases hlt : i < a.length
   · rw [if_pos (by omega), if_pos (by omega), if_pos (by omega), rd_drop a i hlt, rd_drop b i (by omega)]
     have ih := refSame_l0 a b hl ha k (i + 1) (by omega) (by omega)
     rw [wrap_succ hlt ha, ih]
     obtain ⟨x0, x1⟩ := rd_T34 a i
     obtain ⟨y0, y1⟩ := rd_T34 b i
     simp only [inj_b]
     by_cases e0 : x0 = y0
     · by_cases e1 : x1 = y1
       · subst e0; subst e1; simp
       · simp [e1]
     · simp [e0]
   · rw [if_neg (by omega), List.drop_eq_nil_of_le (by omega), List.drop_eq_nil_of_le (by omega)]
     simp
theorem refSame_f (a b : List S34) (ha : a.length ≤ 9223372036854775807) (k : Nat) (hk : a.length < k) : pannierref07_Same.f k a b = some (decide (a = b)) := by
 unfold pannierref07_Same.f
 by_cases hl : a.length = b.length
 · have := refSame_l0 a b hl ha k 0 (by omega) (by omega)
   rw [if_pos (by omega), show (0 : Int) = ((0 : Nat) : Int) from rfl, this]; simp
 · rw [if_neg (by omega)]
   have : ¬ a = b := fun h => hl (by rw [h])
   simp [this]
end Go.Proofs.Ytenbkljgmgdegaa.PO
end
section
namespace Go.Proofs.Ytenbkljgmgdegaa.PO
open Go.RowKit Go.Proofs.YtenbkljgmgdegaaW.PrintWords Go.Proofs.YtenbkljgmgdegaaW.PrintLast Go.Proofs.YtenbkljgmgdegaaW.PrintMore
open Go.Proofs.Ytenbkljgmgdegaa.XRange Go.Proofs.Ytenbkljgmgdegaa.XMap
set_option linter.unusedVariables false
set_option linter.unusedSimpArgs false
section
variable {P : Program} {md : Region.Mode} {ops : Array Oper} {Q : Exit → Act → World → Prop} {S : World → Prop} {ds : List Nat}
theorem oneL {i : Nat} {oi : Oper} {fuel : Nat} {l : Array Bool} {a : Act} {w : World} (N : Option Tmp) (hi : ops[i]? = some oi) (hN : oi.dst = N) (hc : (Region.ready md ops l == [i]) = true) (hd : i ∉ ds)
 (h : ∀ K : Act → World → Prop, Shut (∀ a' w', S w' → (S w' → wpAnyLast P md ops Q S ds fuel (l.setIfInBounds i true) a' w') → K a' w') → if Region.wanted oi (yielded ops a.tmps) = true then Oper.wp P oi a w K Q else K (a.put N undef) w) :
 wpAnyLast P md ops Q S ds (fuel + 1) l a w := one_ _ hi hN (by simp only [readyB, hc, Bool.true_and, beq_self_eq_true]) hd h
end
def opV (p : S36 × List Value) : Value := .agg p.2.toArray
def dotV (d : S34) : Value := .agg #[.string d.f0, .int .i64 d.f1]
structure PoolAt (G : Nat → Prop) (w : World) (base g : Nat) (vl vk vw : Value) (m : Nat) (L : List S36) (K : List S34) (Q : List S36) (D : List (S34 × (S36 × List Value))) : Prop where
 blk : w.heap[g]? = some (.cells #[vl, vk, vw, .map (some m)] 73 (0, 0))
 hb : base ≤ g
 rl : k36.R 36 w base (fun k => G k ∧ some k ≠ vw.ownBlock) vl L
 rk : k34.R 34 w base G vk K
 rq : k36.R 36 w base (fun k => G k ∧ some k ≠ vl.ownBlock) vw Q
 mp : MapAt w m dotV opV D
 hm : base ≤ m
 vals : ∀ p ∈ D, k36.M w base G p.2.1 p.2.2
theorem info36 : (Try.prog.info? 36).map (fun i => (i.zero, i.size, i.bytes)) = some (some (.agg #[(.string ⟨#[]⟩), (.int .i64 0), .slice none 0 0, (.string ⟨#[]⟩), (.int .i64 0), (.string ⟨#[]⟩), (.int .i64 0), .slice none 0 0]), 8, 120) := by kernel_rfl
theorem k36_E : ∀ q, q ∈ (36 : Nat) :: k36.E → q = 36 ∨ q = 34 := by decide
theorem k36_E' : ∀ q, q ∈ k36.E → q = 34 := by decide
theorem k34_E : ∀ q, q ∈ (34 : Nat) :: k34.E → q = 34 := by decide
theorem keeps_grown {w w1 : World} {row : Option Nat} (h : w.grownBy w1 row) : Keeps (fun k => some k = row) w w1 := ⟨h.os, h.tape, h.output, h.size, fun k hk hne => h.block k hk hne⟩
theorem keeps_weak {M M' : Nat → Prop} {A B : World} (h : Keeps M A B) (hm : ∀ k, M k → M' k) : Keeps M' A B := ⟨h.os, h.tape, h.output, h.size, fun k hk hne => h.block k hk (fun e => hne (hm k e))⟩
section
variable {G : Nat → Prop} {w w1 : World} {base g : Nat} {vl vk vw : Value} {m : Nat} {L : List S36} {K : List S34} {Q : List S36} {D : List (S34 × (S36 × List Value))}
theorem PoolAt.step (h : PoolAt G w base g vl vk vw m L K Q D) (hm : ∀ k, k < w.heap.size → w1.heap[k]? = w.heap[k]?) : PoolAt G w1 base g vl vk vw m L K Q D :=
 ⟨(hm g (blk_lt h.blk)).trans h.blk, h.hb, Kd.R_step h.rl (fun k _ hk => hm k hk), Kd.R_step h.rk (fun k _ hk => hm k hk), Kd.R_step h.rq (fun k _ hk => hm k hk), h.mp.step (hm m h.mp.lt), h.hm, fun p hp => Kd.M_step (h.vals p hp) (fun k _ hk => hm k hk)⟩
theorem PoolAt.below (h : PoolAt G w base g vl vk vw m L K Q D) (hb : Below w.heap.size w w1) : PoolAt G w1 base g vl vk vw m L K Q D := h.step (fun k hk => hb.block k hk)
theorem PoolAt.keeps (h : PoolAt G w base g vl vk vw m L K Q D) (hb : Keeps (fun _ => False) w w1) : PoolAt G w1 base g vl vk vw m L K Q D := h.step (fun k hk => hb.block k hk (fun f => f))
theorem PoolAt.m_g (h : PoolAt G w base g vl vk vw m L K Q D) : m ≠ g := fun e => by
 obtain ⟨es, cl, hm, _⟩ := h.mp.at_
 rw [e, h.blk] at hm
 cases hm
theorem far_cells {w : World} {p : Addr} (u : Value) (k : Nat) (h : k ≠ p.block) : (w.setCell p u).heap[k]? = w.heap[k]? := Below.heap_setCell w p u k h
theorem PoolAt.known (h : PoolAt G w base g vl vk vw m L K Q D) {v0 : Value} {K' : List S34} (hr : k34.R 34 w base G v0 K') : PoolAt G (w.setCell ⟨g, 1, none⟩ v0) base g vl v0 vw m L K' Q D :=
 ⟨blk_set h.blk 1 v0, h.hb, Kd.R_mono (Kd.R_far (Kd.R_types h.rl h.blk (fun q hq => by have := k36_E q hq; omega)) (fun k hk => hk.2) v0) (fun k hk => hk.1),
  Kd.R_mono (Kd.R_far (Kd.R_types hr h.blk (fun q hq => by have := k34_E q hq; omega)) (fun k hk => hk.2) v0) (fun k hk => hk.1),
  Kd.R_mono (Kd.R_far (Kd.R_types h.rq h.blk (fun q hq => by have := k36_E q hq; omega)) (fun k hk => hk.2) v0) (fun k hk => hk.1),
  h.mp.step (far_cells v0 m h.m_g), h.hm, fun p hp => k36.M_mono (fun k hk => hk.1) (Kd.M_far (Kd.M_types (h.vals p hp) h.blk (fun q hq => by have := k36_E' q hq; omega)) (fun k hk => hk.2) v0)⟩
end
end Go.Proofs.Ytenbkljgmgdegaa.PO
end
section
namespace Go.Proofs.Ytenbkljgmgdegaa.PO
open Go.RowKit Go.Proofs.YtenbkljgmgdegaaW.PrintWords Go.Proofs.YtenbkljgmgdegaaW.PrintLast Go.Proofs.YtenbkljgmgdegaaW.PrintMore
open Go.Proofs.Ytenbkljgmgdegaa.XRange Go.Proofs.Ytenbkljgmgdegaa.XMap Go.Proofs.Ytenbkljgmgdegaa.XSeq
set_option linter.unusedVariables false
set_option linter.unusedSimpArgs false
structure PSt where
 L : List S36
 K : List S34
 Q : List S36
 D : List (S34 × (S36 × List Value))
def PoolIn (G : Nat → Prop) (n1 : Nat) (F : Nat → Prop) (base g m : Nat) (s : PSt) (w : World) : Prop :=
 ∃ vl vk vw, PoolAt G w base g vl vk vw m s.L s.K s.Q s.D ∧ F g ∧ (∀ k, vl.ownBlock = some k → F k ∨ n1 ≤ k) ∧ (∀ k, vw.ownBlock = some k → F k ∨ n1 ≤ k)
def JS (G : Nat → Prop) (w1 : World) (F : Nat → Prop) (base g m N8 : Nat) (s : PSt × Int) (w : World) : Prop :=
 Keeps (fun k => F k ∨ k = N8) w1 w ∧ PoolIn G w1.heap.size F base g m s.1 w ∧ w.heap[N8]? = some (.cells #[.int .i64 s.2] 3 (0, 0))
section
variable {G : Nat → Prop} {w w1 : World} {base g : Nat} {vl vk vw : Value} {m : Nat} {L : List S36} {K : List S34} {Q : List S36} {D : List (S34 × (S36 × List Value))}
end
theorem JS.keeps {G : Nat → Prop} {w1 : World} {F : Nat → Prop} {base g m N8 : Nat} {s : PSt × Int} {w w' : World} (h : JS G w1 F base g m N8 s w) (hk : Keeps (fun _ => False) w w') : JS G w1 F base g m N8 s w' := by
 obtain ⟨h1, ⟨vl, vk, vw, hp, h2, h3, h4⟩, h5⟩ := h
 exact ⟨h1.trans (keeps_weak hk (fun _ f => f.elim)), ⟨vl, vk, vw, hp.keeps hk, h2, h3, h4⟩, (hk.block N8 (blk_lt h5) (fun f => f)).trans h5⟩
end Go.Proofs.Ytenbkljgmgdegaa.PO
end
section
namespace Go.Proofs.Ytenbkljgmgdegaa.PO
open Go.RowKit Go.Proofs.YtenbkljgmgdegaaW.PrintWords Go.Proofs.YtenbkljgmgdegaaW.PrintLast Go.Proofs.YtenbkljgmgdegaaW.PrintMore
open Go.Proofs.Ytenbkljgmgdegaa.XRange Go.Proofs.Ytenbkljgmgdegaa.XMap Go.Proofs.Ytenbkljgmgdegaa.XSeq
set_option linter.unusedVariables false
set_option linter.unusedSimpArgs false
section
variable {G G' : Nat → Prop} {w w1 : World} {base g : Nat} {vl vk vw : Value} {m : Nat} {L : List S36} {K : List S34} {Q : List S36} {D : List (S34 × (S36 × List Value))}
theorem PoolAt.move (h : PoolAt G w base g vl vk vw m L K Q D) (hm : ∀ k, (k = g ∨ k = m ∨ G k) → k < w.heap.size → w1.heap[k]? = w.heap[k]?) : PoolAt G w1 base g vl vk vw m L K Q D :=
 ⟨(hm g (.inl rfl) (blk_lt h.blk)).trans h.blk, h.hb, Kd.R_step h.rl (fun k hk hlt => hm k (.inr (.inr hk.1)) hlt), Kd.R_step h.rk (fun k hk hlt => hm k (.inr (.inr hk)) hlt), Kd.R_step h.rq (fun k hk hlt => hm k (.inr (.inr hk.1)) hlt),
  h.mp.step (hm m (.inr (.inl rfl)) h.mp.lt), h.hm, fun p hp => Kd.M_step (h.vals p hp) (fun k hk hlt => hm k (.inr (.inr hk)) hlt)⟩
end
def PoolOwn (S : Nat → Prop) (g : Nat) (s : PSt) (w : World) : Prop := ∃ m vl vk vw, PoolAt S w 0 g vl vk vw m s.L s.K s.Q s.D ∧ S g ∧ S m ∧ ∀ k, S k → k < w.heap.size
theorem PoolOwn.keeps {S M : Nat → Prop} {g : Nat} {s : PSt} {w w1 : World} (h : PoolOwn S g s w) (hk : Keeps M w w1) (hd : ∀ k, S k → ¬ M k) : PoolOwn S g s w1 := by
 obtain ⟨m, vl, vk, vw, h1, h2, h3, h4⟩ := h
 exact ⟨m, vl, vk, vw, h1.move (fun k hkS hlt => hk.block k hlt (hd k (by rcases hkS with rfl | rfl | h; exact h2; exact h3; exact h))), h2, h3, fun k hS => Nat.lt_of_lt_of_le (h4 k hS) hk.size⟩
theorem PoolOwn.below {S : Nat → Prop} {g : Nat} {s : PSt} {w w1 : World} (h : PoolOwn S g s w) (hb : Below w.heap.size w w1) : PoolOwn S g s w1 := h.keeps (Keeps.of_below hb) (fun _ _ f => f)
theorem PoolOwn.step {S : Nat → Prop} {g : Nat} {s : PSt} {w w1 : World} (h : PoolOwn S g s w) (hm : ∀ k, S k → w1.heap[k]? = w.heap[k]?) (hs : w.heap.size ≤ w1.heap.size) : PoolOwn S g s w1 := by
 obtain ⟨m, vl, vk, vw, h1, h2, h3, h4⟩ := h
 exact ⟨m, vl, vk, vw, h1.move (fun k hkS hlt => hm k (by rcases hkS with rfl | rfl | h; exact h2; exact h3; exact h)), h2, h3, fun k hS => Nat.lt_of_lt_of_le (h4 k hS) hs⟩
end Go.Proofs.Ytenbkljgmgdegaa.PO
end
section
namespace Go.Proofs.Ytenbkljgmgdegaa.PO
open Go.RowKit Go.Proofs.YtenbkljgmgdegaaW.PrintWords Go.Proofs.YtenbkljgmgdegaaW.PrintLast Go.Proofs.YtenbkljgmgdegaaW.PrintMore Go.Proofs.Ytenbkljgmgdegaa.XW
open Go.Proofs.Ytenbkljgmgdegaa.XRange Go.Proofs.Ytenbkljgmgdegaa.XMap Go.Proofs.Ytenbkljgmgdegaa.XSeq
set_option linter.unusedVariables false
set_option linter.unusedSimpArgs false
def PSt.ab (s : PSt) : AP := ⟨s.L, s.K, s.Q⟩
def DOk (s : PSt) : Prop := ∀ d, (Go.Proofs.Ytenbkljgmgdegaa.XMap.look s.D d).map (·.1) = ofDot (s.L ++ s.Q) d
def PoolS (S : Nat → Prop) (g : Nat) (a : AP) (w : World) : Prop := ∃ s : PSt, PoolOwn S g s w ∧ s.ab = a ∧ DOk s ∧ InvA a
theorem PoolS.keeps {S M : Nat → Prop} {g : Nat} {a : AP} {w w1 : World} (h : PoolS S g a w) (hk : Keeps M w w1) (hd : ∀ k, S k → ¬ M k) : PoolS S g a w1 := by
 obtain ⟨s, h1, h2⟩ := h
 exact ⟨s, h1.keeps hk hd, h2⟩
theorem PoolS.below {S : Nat → Prop} {g : Nat} {a : AP} {w w1 : World} (h : PoolS S g a w) (hb : Below w.heap.size w w1) : PoolS S g a w1 := h.keeps (Keeps.of_below hb) (fun _ _ f => f)
theorem PoolS.lt {S : Nat → Prop} {g : Nat} {a : AP} {w : World} (h : PoolS S g a w) : ∀ k, S k → k < w.heap.size := by obtain ⟨s, ⟨m, vl, vk, vw, h1, h2, h3, h4⟩, _⟩ := h; exact h4
end Go.Proofs.Ytenbkljgmgdegaa.PO
end
section
namespace Go.Proofs.Ytenbkljgmgdegaa.PO
open Go.RowKit Go.Proofs.YtenbkljgmgdegaaW.PrintWords Go.Proofs.YtenbkljgmgdegaaW.PrintLast Go.Proofs.YtenbkljgmgdegaaW.PrintMore Go.Proofs.Ytenbkljgmgdegaa.XW
open Go.Proofs.Ytenbkljgmgdegaa.XRange Go.Proofs.Ytenbkljgmgdegaa.XMap Go.Proofs.Ytenbkljgmgdegaa.XSeq
set_option linter.unusedVariables false
set_option linter.unusedSimpArgs false
def sA : ByteArray := ⟨#[97]⟩
def sC : ByteArray := ⟨#[99]⟩
def sI : ByteArray := ⟨#[105]⟩
def x1 : S36 := ⟨⟨sA, 2⟩, [⟨sA, 1⟩], sC, 1, sI, 1, []⟩
def x2 : S36 := ⟨⟨sA, 1⟩, [], sC, 1, sI, 1, []⟩
end Go.Proofs.Ytenbkljgmgdegaa.PO
end
section
namespace Go.Proofs.Ytenbkljgmgdegaa.PO
open Go.RowKit Go.Proofs.YtenbkljgmgdegaaW.PrintWords Go.Proofs.YtenbkljgmgdegaaW.PrintLast Go.Proofs.YtenbkljgmgdegaaW.PrintMore Go.Proofs.Ytenbkljgmgdegaa.XW
open Go.Proofs.Ytenbkljgmgdegaa.XRange Go.Proofs.Ytenbkljgmgdegaa.XMap Go.Proofs.Ytenbkljgmgdegaa.XSeq
set_option linter.unusedVariables false
set_option linter.unusedSimpArgs false
structure OpAt (w : World) (p : Addr) (x : S36) (A2 : Option Addr) (c2 : Nat) (A7 : Option Addr) (c7 : Nat) : Prop where
 e0 : w.cell? p = some (.string x.f0.f0)
 e1 : w.cell? ⟨p.block, p.off + 1, none⟩ = some (.int .i64 x.f0.f1)
 e2 : w.cell? ⟨p.block, p.off + 2, none⟩ = some (.slice A2 x.f1.length c2)
 e3 : w.cell? ⟨p.block, p.off + 3, none⟩ = some (.string x.f2)
 e4 : w.cell? ⟨p.block, p.off + 4, none⟩ = some (.int .i64 x.f3)
 e5 : w.cell? ⟨p.block, p.off + 5, none⟩ = some (.string x.f4)
 e6 : w.cell? ⟨p.block, p.off + 6, none⟩ = some (.int .i64 x.f5)
 e7 : w.cell? ⟨p.block, p.off + 7, none⟩ = some (.slice A7 x.f6.length c7)
 l2 : x.f1.length ≤ c2
 g2 : Kd.C k34 w A2 x.f1.length x.f1
 l7 : x.f6.length ≤ c7
 g7 : Kd.C k34 w A7 x.f6.length x.f6
theorem opAt {w : World} {A : Option Addr} {n : Nat} {xs : List S36} (h : Kd.C k36 w A n xs) (i : Nat) (h1 : i < n) : ∃ ad A2 c2 A7 c7, A = some ad ∧ OpAt w (ad.add (i * 8)) (rd_T36 xs i) A2 c2 A7 c7 := by
 obtain ⟨ad, A2, c2, A7, c7, e, x0, x1, x2, x3, x4, x5, x6, x7, l2, g2, l7, g7⟩ := at_T36 h (i : Int) (by omega) (by omega)
 exact ⟨ad, A2, c2, A7, c7, e, ⟨x0, x1, x2, x3, x4, x5, x6, x7, l2, g2, l7, g7⟩⟩
theorem R_apart {α : Type} {d : Kd α} {e base : Nat} {ok M : Nat → Prop} {w w1 : World} {v : Value} {xs : List α} (h : d.R e w base ok v xs) (hk : Keeps M w w1) (hm : ∀ k, M k → k < base) : d.R e w1 base ok v xs :=
 Kd.R_mono (Kd.R_step (Kd.R_bound h) (fun k hk' hlt => hk.block k hlt (fun hM => by have := hm k hM; have := hk'.2.1; omega))) (fun _ hk' => hk'.1)
end Go.Proofs.Ytenbkljgmgdegaa.PO
end
section
namespace Go.Proofs.Ytenbkljgmgdegaa.PO
open Go.RowKit Go.Proofs.YtenbkljgmgdegaaW.PrintWords Go.Proofs.YtenbkljgmgdegaaW.PrintLast Go.Proofs.YtenbkljgmgdegaaW.PrintMore Go.Proofs.Ytenbkljgmgdegaa.XW
open Go.Proofs.Ytenbkljgmgdegaa.XRange Go.Proofs.Ytenbkljgmgdegaa.XMap Go.Proofs.Ytenbkljgmgdegaa.XSeq
set_option linter.unusedVariables false
set_option linter.unusedSimpArgs false
def kAt (w0 : World) : Kd S36 where
 sz := 8
 E := []
 K := fun _ x cs => k36.K w0 x cs
 M := fun _ _ _ x cs => k36.K w0 x cs
 K_len := k36.K_len
 K_one := k36.K_one
 K_below := fun _ h => h
 K_of_M := fun h => h
 M_mono := fun _ h => h
 M_bound := fun h => h
 M_move := fun _ h => h
 M_lower := fun _ h => h
structure OpAt0 (w0 w : World) (p : Addr) (x : S36) (A2 : Option Addr) (c2 : Nat) (A7 : Option Addr) (c7 : Nat) : Prop where
 e0 : w.cell? p = some (.string x.f0.f0)
 e1 : w.cell? ⟨p.block, p.off + 1, none⟩ = some (.int .i64 x.f0.f1)
 e2 : w.cell? ⟨p.block, p.off + 2, none⟩ = some (.slice A2 x.f1.length c2)
 e3 : w.cell? ⟨p.block, p.off + 3, none⟩ = some (.string x.f2)
 e4 : w.cell? ⟨p.block, p.off + 4, none⟩ = some (.int .i64 x.f3)
 e5 : w.cell? ⟨p.block, p.off + 5, none⟩ = some (.string x.f4)
 e6 : w.cell? ⟨p.block, p.off + 6, none⟩ = some (.int .i64 x.f5)
 e7 : w.cell? ⟨p.block, p.off + 7, none⟩ = some (.slice A7 x.f6.length c7)
 l2 : x.f1.length ≤ c2
 g2 : Kd.C k34 w0 A2 x.f1.length x.f1
 l7 : x.f6.length ≤ c7
 g7 : Kd.C k34 w0 A7 x.f6.length x.f6
theorem OpAt.below {w w1 : World} {p : Addr} {x : S36} {A2 A7 : Option Addr} {c2 c7 : Nat} (h : OpAt w p x A2 c2 A7 c7) (hb : Below w.heap.size w w1) : OpAt w1 p x A2 c2 A7 c7 := by
 have st : ∀ {q : Addr} {u : Value}, w.cell? q = some u → w1.cell? q = some u := fun hq => (hb.cell (World.block_lt_of_cell? w _ hq)).trans hq
 exact ⟨st h.e0, st h.e1, st h.e2, st h.e3, st h.e4, st h.e5, st h.e6, st h.e7, h.l2, Kd.C_below h.g2 hb, h.l7, Kd.C_below h.g7 hb⟩
end Go.Proofs.Ytenbkljgmgdegaa.PO
end
