/- What the rows of this claim use, out of the texts of this work (SH). No condition beyond those that each statement names. -/
import Derived.Test.YtjejhgjdmbodiaaZdSG
namespace Go.Proofs.Ytjejhgjdmbodiaa.PO
open Go.RowKit Go.Proofs.YtjejhgjdmbodiaaW.PrintWords Go.Proofs.YtjejhgjdmbodiaaW.PrintLast Go.Proofs.YtjejhgjdmbodiaaW.PrintMore Go.Proofs.Ytjejhgjdmbodiaa.XW
open Go.Proofs.Ytjejhgjdmbodiaa.XRange Go.Proofs.Ytjejhgjdmbodiaa.XMap
set_option linter.unusedVariables false
set_option linter.unusedSimpArgs false
structure TakeR where
 l : List S74
 fr : Fr
 er : Int
 D : List (Whose × Curs)
def curOf (D : List (Whose × Curs)) (k : Whose) : Curs := (XMap.look D k).getD (0, 0)
def curTo (D : List (Whose × Curs)) (f : Fr) : Curs := if (curOf D (f.fa, f.ct)).1 < f.se then (f.se, 0) else curOf D (f.fa, f.ct)
def inTake (who : ByteArray) (D : List (Whose × Curs)) (f : Fr) : TakeR :=
 if (rightF f && decide (f.k = 2) && decide (f.fb = who)) = true then
  if f.se < (curOf D (f.fa, f.ct)).1 then ⟨[], zF, 120, D⟩
  else if curOf D (f.fa, f.ct) = (0, 0) ∧ D.length = 256 then ⟨[], zF, 122, D⟩
  else if f.ix = (curTo D f).2 then ⟨f.op, ⟨3, who, f.fa, f.ct, (curTo D f).1, (curTo D f).2 + 1, 0, [], []⟩, 0, upd D (f.fa, f.ct) ((curTo D f).1, (curTo D f).2 + 1)⟩
  else ⟨[], ⟨3, who, f.fa, f.ct, (curTo D f).1, (curTo D f).2, 0, [], []⟩, 0, upd D (f.fa, f.ct) (curTo D f)⟩
 else ⟨[], zF, 2, D⟩
theorem lookW {w : World} {m : Nat} {D : List (Whose × Curs)} (h : MapAt w m wV cV D) (k : Whose) : (Instr.lookup 86 (.map (some m)) (wV k) false).run Try.prog w = .ok (cV (curOf D k)) w := by
 cases hl : XMap.look D k with
 | none =>
   have h1 := run_lookup_miss Try.underlying86 keysW h k hl _ (zero95 w) false
   have : curOf D k = (0, 0) := by unfold curOf; rw [hl]; rfl
   rw [this]
   exact h1
 | some v =>
   have h1 := run_lookup_hit Try.underlying86 keysW h k v hl false
   have : curOf D k = v := by unfold curOf; rw [hl]; rfl
   rw [this]
   exact h1
def WfD (D : List (Whose × Curs)) : Prop := ∀ p, p ∈ D → 1 ≤ p.2.1
theorem curOf_wf {D : List (Whose × Curs)} (h : WfD D) (k : Whose) : curOf D k = (0, 0) ∨ 1 ≤ (curOf D k).1 := by
 cases hl : XMap.look D k with
 | none => left; unfold curOf; rw [hl]; rfl
 | some v =>
   right
   have h1 : curOf D k = v := by unfold curOf; rw [hl]; rfl
   obtain ⟨i, _, hi, hDi⟩ := find_some hl
   have h2 := h _ (List.getElem_mem hi)
   rw [hDi] at h2
   rw [h1]
   exact h2
theorem Fnil {α : Type} {d : Kd α} {w : World} {ok : Nat → Prop} : Kd.F d w ok none ([] : List α).length [] := fun _ _ => Kd.C_nil _ _
def Own74 (w w' : World) (k : Nat) : Prop := w.heap.size ≤ k ∧ ∃ q, q ∈ 74 :: k74.E ∧ ∃ cells, w'.heap[k]? = some (.cells cells q (0, 0))
def InAns (w : World) (i m : Nat) (who : ByteArray) (D : List (Whose × Curs)) (f : Fr) (e : Ending) (w' : World) : Prop :=
 ∃ A8 c8, e = .returned (.tuple #[.slice A8 (inTake who D f).l.length c8, .agg #[.int .i64 (inTake who D f).fr.k, .string (inTake who D f).fr.fa, .string (inTake who D f).fr.fb, .string (inTake who D f).fr.ct, .int .i64 (inTake who D f).fr.se, .int .i64 (inTake who D f).fr.ix, .int .i64 (inTake who D f).fr.mn, .slice none 0 0, .slice none 0 0], .int .i64 (inTake who D f).er]) ∧
  (inTake who D f).fr.kn = [] ∧ (inTake who D f).fr.op = [] ∧ (inTake who D f).l.length ≤ c8 ∧ Kd.F k74 w' (Own74 w w') A8 (inTake who D f).l.length (inTake who D f).l ∧ InAt w' i m who (inTake who D f).D ∧ Keeps (fun k => k = m) w w'
theorem ans_none {w w' : World} {i m : Nat} {who : ByteArray} {D : List (Whose × Curs)} {f : Fr} (er : Int) (h : inTake who D f = ⟨[], zF, er, D⟩) (hi : InAt w' i m who D) (hk : Keeps (fun k => k = m) w w') :
 InAns w i m who D f (.returned (.tuple #[.slice none 0 0, .agg #[.int .i64 0, .string ⟨#[]⟩, .string ⟨#[]⟩, .string ⟨#[]⟩, .int .i64 0, .int .i64 0, .int .i64 0, .slice none 0 0, .slice none 0 0], .int .i64 er])) w' := by
 unfold InAns
 rw [h]
 exact ⟨none, 0, rfl, rfl, rfl, Nat.le_refl _, Fnil, hi, hk⟩
set_option maxHeartbeats 8000000 in
set_option maxRecDepth 100000 in
theorem inTake_calls (i m : Nat) (who : ByteArray) (D : List (Whose × Curs)) (f : Fr) (A7 : Option Addr) (c7 : Nat) (A8 : Option Addr) (c8 : Nat) (w : World) (h : InAt w i m who D) (hD : D.length ≤ 1000000) (hW : WfD D) (l7 : f.kn.length ≤ c7) (g7 : Kd.C k72 w A7 f.kn.length f.kn) (l8 : f.op.length ≤ c8) (g8 : Kd.C k74 w A8 f.op.length f.op) :
 Calls Try.prog 23 #[.pointer (some ⟨i, 0, none⟩), .agg #[.int .i64 f.k, .string f.fa, .string f.fb, .string f.ct, .int .i64 f.se, .int .i64 f.ix, .int .i64 f.mn, .slice A7 f.kn.length c7, .slice A8 f.op.length c8]] w (InAns w i m who D f) := by
 have HH := Aside0.mk h
 have HL7 := Aside0.mk l7
 have HG7 := Aside0.mk g7
 have HL8 := Aside0.mk l8
 have HG8 := Aside0.mk g8
 have HDL := Aside0.mk hD
 have hiN := blk_lt h.blk
 have hmN := h.mp.lt
 obtain ⟨N, hN⟩ : ∃ N, w.heap.size = N := ⟨_, rfl⟩
 have HWD := Aside0.mk hW
 clear l7 g7 l8 g8 h hD hW
 obtain ⟨w0, hw0⟩ : ∃ w0, (w.alloc (.cells #[.int .i64 f.k, .string f.fa, .string f.fb, .string f.ct, .int .i64 f.se, .int .i64 f.ix, .int .i64 f.mn, .slice A7 f.kn.length c7, .slice A8 f.op.length c8] 34)).alloc (.cells #[.int .i64 0, .string ⟨#[]⟩, .string ⟨#[]⟩, .string ⟨#[]⟩, .int .i64 0, .int .i64 0, .int .i64 0, .slice none 0 0, .slice none 0 0] 34) = w0 := ⟨_, rfl⟩
 have HB0 := Aside0.mk (show Below w.heap.size w w0 from by rw [← hw0]; exact ((Below.refl _ w).alloc (Nat.le_refl _) _).alloc (by simp) _)
 have KX := Aside0.mk (show w0.heap[N]? = some (.cells #[.int .i64 f.k, .string f.fa, .string f.fb, .string f.ct, .int .i64 f.se, .int .i64 f.ix, .int .i64 f.mn, .slice A7 f.kn.length c7, .slice A8 f.op.length c8] 34 (0, 0)) from by rw [← hw0, ← hN]; exact blk_alloc (World.alloc_heap_new w _) _)
 have KZ := Aside0.mk (show w0.heap[N + 1]? = some (.cells #[.int .i64 0, .string ⟨#[]⟩, .string ⟨#[]⟩, .string ⟨#[]⟩, .int .i64 0, .int .i64 0, .int .i64 0, .slice none 0 0, .slice none 0 0] 34 (0, 0)) from by
  rw [← hw0, ← hN]
  have h := World.alloc_heap_new (w.alloc (.cells #[.int .i64 f.k, .string f.fa, .string f.fb, .string f.ct, .int .i64 f.se, .int .i64 f.ix, .int .i64 f.mn, .slice A7 f.kn.length c7, .slice A8 f.op.length c8] 34)) (.cells #[.int .i64 0, .string ⟨#[]⟩, .string ⟨#[]⟩, .string ⟨#[]⟩, .int .i64 0, .int .i64 0, .int .i64 0, .slice none 0 0, .slice none 0 0] 34)
  simpa using h)
 have HI0 := Aside0.mk (HH.out.below HB0.out)
 have HS0 := Aside0.mk (show w0.heap.size = N + 2 from by rw [← hw0, ← hN]; simp)
 go_enter Try.func23, Try.ntmps23
 go_wp2
 first | rw [hw0] | skip
 try rw [hN]
 clear hw0
 have hS : ∀ w' : World, w'.heap[N]? = w0.heap[N]? → w'.heap[i]? = w0.heap[i]? → Cells9 w' N (.int .i64 f.k) (.string f.fa) (.string f.fb) (.string f.ct) (.int .i64 f.se) (.int .i64 f.ix) (.int .i64 f.mn) (.slice A7 f.kn.length c7) (.slice A8 f.op.length c8) ∧ w'.cell? ⟨i, 0, none⟩ = some (.string who) ∧ True := fun w' h1 h2 =>
  ⟨cells9 (h1.trans KX.out), (blk_cell (h2.trans HI0.out.blk) 0).trans rfl, trivial⟩
 have HSS := Aside0.mk hS
 obtain ⟨br, hbr⟩ : ∃ b, rightF f = b := ⟨_, rfl⟩
 have HBR := Aside0.mk hbr
 have hNlt : N < w0.heap.size ∧ i < w0.heap.size := ⟨blk_lt KX.out, blk_lt HI0.out.blk⟩
 clear hS hbr
 refine start_ (n := 18) (ds := []) (S := fun w' => Cells9 w' N (.int .i64 f.k) (.string f.fa) (.string f.fb) (.string f.ct) (.int .i64 f.se) (.int .i64 f.ix) (.int .i64 f.mn) (.slice A7 f.kn.length c7) (.slice A8 f.op.length c8) ∧ w'.cell? ⟨i, 0, none⟩ = some (.string who) ∧ True) _ (by kernel_rfl) rfl rfl (HSS.out _ rfl rfl) (fun hH => ?_)
 refine XReg.tk 0 15 (hy := by (intro w' hS_; obtain ⟨⟨s0, s1, s2, s3, s4, s5, s6, s7, s8⟩, t0, t1⟩ := hS_; go_simp; with_reducible rfl)) (h := ?_)
 refine XReg.one (i := 1) (some 16) rfl rfl (by kernel_rfl) (by decide) (fun Kc hKc => ?_)
 refine goes_ Try.func46 (by kernel_rfl) rfl #[.agg #[.int .i64 f.k, .string f.fa, .string f.fb, .string f.ct, .int .i64 f.se, .int .i64 f.ix, .int .i64 f.mn, .slice A7 f.kn.length c7, .slice A8 f.op.length c8]] (by rfl) rfl rfl (by (try simp only [List.map_toArray, List.map_cons, List.map_nil]); first | done | rfl) ?_
 refine (frRight_calls f A7 c7 A8 c8 _ HL7.out (Kd.C_drew (Kd.C_below HG7.out HB0.out)) HL8.out (Kd.C_drew (Kd.C_below HG8.out HB0.out))).mono ?_
 rw [HBR.out]
 rintro e w1 ⟨rfl, hb⟩
 refine ⟨_, rfl, ?_⟩
 have hb1 : Below w0.heap.size w0 w1 := ⟨hb.os, hb.tape, hb.output, hb.size, hb.block⟩
 have HB1 := Aside0.mk (HB0.out.trans (hb1.mono HB0.out.size))
 have KX1 := Aside0.mk (blk_below KX.out hb1)
 have KZ1 := Aside0.mk (blk_below KZ.out hb1)
 have HI1 := Aside0.mk (HI0.out.below hb1)
 have HS1 := Aside0.mk (show N + 2 ≤ w1.heap.size from by have := hb1.size; have := HS0.out; omega)
 refine hKc.out _ _ (HSS.out _ (hb1.block _ hNlt.1) (hb1.block _ hNlt.2)) (fun hH2 => ?_)
 clear hKc Kc hH hb hb1 HSS KX KZ HI0 HB0 HS0
 cases br with
 | false =>
   refine XReg.pu 2 17 (h := ?_)
   refine XReg.pu 3 18 (h := ?_)
   refine XReg.pn 4 19 (h := ?_)
   refine XReg.pn 5 20 (h := ?_)
   refine XReg.pn 6 21 (h := ?_)
   refine XReg.pu 7 22 (h := ?_)
   refine XReg.pu 8 23 (h := ?_)
   refine XReg.pn 9 24 (h := ?_)
   refine XReg.pn 10 25 (h := ?_)
   refine XReg.pn 11 26 (h := ?_)
   refine XReg.pn 12 27 (h := ?_)
   refine XReg.pn 13 28 (h := ?_)
   refine XReg.pn 14 29 (h := ?_)
   refine XReg.pn 15 30 (h := ?_)
   refine XReg.pu 16 31 (h := ?_)
   refine XReg.pu 17 14 (h := ?_)
   refine done_ (by kernel_rfl) ?_
   have HE := Aside0.mk (show inTake who D f = ⟨[], zF, 2, D⟩ from by unfold inTake; rw [HBR.out]; rfl)
   obtain ⟨e0, e1, e2, e3, e4, e5, e6, e7, e8⟩ := cells9 KZ1.out
   obtain ⟨f0, f1, f2, f3, f4, f5, f6, f7, f8⟩ := froz9 KZ1.out
   go_wp2
   have h9 := set9 KZ1.out (.int .i64 0) (.string ⟨#[]⟩) (.string ⟨#[]⟩) (.string ⟨#[]⟩) (.int .i64 0) (.int .i64 0) (.int .i64 0) (.slice none 0 0) (.slice none 0 0)
   obtain ⟨k0, k1, k2, k3, k4, k5, k6, k7, k8⟩ := cells9 h9
   have hk9 := keeps9 w1 (N + 1) (.int .i64 0) (.string ⟨#[]⟩) (.string ⟨#[]⟩) (.string ⟨#[]⟩) (.int .i64 0) (.int .i64 0) (.int .i64 0) (.slice none 0 0) (.slice none 0 0)
   have hkk : Keeps (fun k => k = m) w _ := Keeps.of_below (below_keeps HB1.out (M := fun k => k = N + 1) (fun k hk => by omega) (by have := (HB1.out).size; omega) hk9)
   exact bodyPost_ret (v := .tuple #[.slice none 0 0, .agg #[.int .i64 0, .string ⟨#[]⟩, .string ⟨#[]⟩, .string ⟨#[]⟩, .int .i64 0, .int .i64 0, .int .i64 0, .slice none 0 0, .slice none 0 0], .int .i64 2]) (by simp [results, Try.f23, go_sem, k0, k1, k2, k3, k4, k5, k6, k7, k8]) rfl (ans_none 2 HE.out (InAt.step HI1.out (hk9.block i (blk_lt (HI1.out).blk) (by omega)) (hk9.block m (HI1.out).mp.lt (by omega))) hkk)
 | true =>
   refine XReg.pu 2 17 (h := ?_)
   refine XReg.pu 3 18 (h := ?_)
   refine XReg.pu 4 19 (h := ?_)
   refine XReg.tk 5 20 (hy := by (intro w' hS_; obtain ⟨⟨s0, s1, s2, s3, s4, s5, s6, s7, s8⟩, t0, t1⟩ := hS_; go_simp; with_reducible rfl)) (h := ?_)
   refine XReg.pu 6 21 (h := ?_)
   by_cases k1 : f.k = 2
   case neg =>
    have q : (f.k != 2) = true := by simpa using k1
    rw [q]
    refine XReg.pu 7 22 (h := ?_)
    refine XReg.pu 8 23 (h := ?_)
    refine XReg.pn 9 24 (h := ?_)
    refine XReg.pn 10 25 (h := ?_)
    refine XReg.pn 11 26 (h := ?_)
    refine XReg.pn 12 27 (h := ?_)
    refine XReg.pn 13 28 (h := ?_)
    refine XReg.pn 14 29 (h := ?_)
    refine XReg.pn 15 30 (h := ?_)
    refine XReg.pu 16 31 (h := ?_)
    refine XReg.pu 17 14 (h := ?_)
    refine done_ (by kernel_rfl) ?_
    have HE := Aside0.mk (show inTake who D f = ⟨[], zF, 2, D⟩ from by unfold inTake; rw [HBR.out]; simp [k1])
    obtain ⟨e0, e1, e2, e3, e4, e5, e6, e7, e8⟩ := cells9 KZ1.out
    obtain ⟨f0, f1, f2, f3, f4, f5, f6, f7, f8⟩ := froz9 KZ1.out
    go_wp2
    have h9 := set9 KZ1.out (.int .i64 0) (.string ⟨#[]⟩) (.string ⟨#[]⟩) (.string ⟨#[]⟩) (.int .i64 0) (.int .i64 0) (.int .i64 0) (.slice none 0 0) (.slice none 0 0)
    obtain ⟨k0, k1, k2, k3, k4, k5, k6, k7, k8⟩ := cells9 h9
    have hk9 := keeps9 w1 (N + 1) (.int .i64 0) (.string ⟨#[]⟩) (.string ⟨#[]⟩) (.string ⟨#[]⟩) (.int .i64 0) (.int .i64 0) (.int .i64 0) (.slice none 0 0) (.slice none 0 0)
    have hkk : Keeps (fun k => k = m) w _ := Keeps.of_below (below_keeps HB1.out (M := fun k => k = N + 1) (fun k hk => by omega) (by have := (HB1.out).size; omega) hk9)
    exact bodyPost_ret (v := .tuple #[.slice none 0 0, .agg #[.int .i64 0, .string ⟨#[]⟩, .string ⟨#[]⟩, .string ⟨#[]⟩, .int .i64 0, .int .i64 0, .int .i64 0, .slice none 0 0, .slice none 0 0], .int .i64 2]) (by simp [results, Try.f23, go_sem, k0, k1, k2, k3, k4, k5, k6, k7, k8]) rfl (ans_none 2 HE.out (InAt.step HI1.out (hk9.block i (blk_lt (HI1.out).blk) (by omega)) (hk9.block m (HI1.out).mp.lt (by omega))) hkk)
   have q1 : (f.k != 2) = false := by simp [k1]
   rw [q1]
   refine XReg.pu 7 22 (h := ?_)
   refine XReg.pu 8 23 (h := ?_)
   refine XReg.pu 9 24 (h := ?_)
   refine XReg.tk 10 25 (hy := by (intro w' hS_; obtain ⟨⟨s0, s1, s2, s3, s4, s5, s6, s7, s8⟩, t0, t1⟩ := hS_; go_simp; with_reducible rfl)) (h := ?_)
   refine XReg.pu 11 26 (h := ?_)
   refine XReg.pu 12 27 (h := ?_)
   refine XReg.pu 13 28 (h := ?_)
   refine XReg.tk 14 29 (hy := by (intro w' hS_; obtain ⟨⟨s0, s1, s2, s3, s4, s5, s6, s7, s8⟩, t0, t1⟩ := hS_; go_simp; with_reducible rfl)) (h := ?_)
   refine XReg.pu 15 30 (h := ?_)
   by_cases k2 : f.fb = who
   case neg =>
    have q : (!(f.fb.toList == who.toList)) = true := by simpa using (fun h => k2 (bytes_inj h))
    rw [q]
    refine XReg.pu 16 31 (h := ?_)
    refine XReg.pu 17 14 (h := ?_)
    refine done_ (by kernel_rfl) ?_
    have HE := Aside0.mk (show inTake who D f = ⟨[], zF, 2, D⟩ from by unfold inTake; rw [HBR.out]; simp [k1, k2])
    obtain ⟨e0, e1, e2, e3, e4, e5, e6, e7, e8⟩ := cells9 KZ1.out
    obtain ⟨f0, f1, f2, f3, f4, f5, f6, f7, f8⟩ := froz9 KZ1.out
    go_wp2
    have h9 := set9 KZ1.out (.int .i64 0) (.string ⟨#[]⟩) (.string ⟨#[]⟩) (.string ⟨#[]⟩) (.int .i64 0) (.int .i64 0) (.int .i64 0) (.slice none 0 0) (.slice none 0 0)
    obtain ⟨k0, k1, k2, k3, k4, k5, k6, k7, k8⟩ := cells9 h9
    have hk9 := keeps9 w1 (N + 1) (.int .i64 0) (.string ⟨#[]⟩) (.string ⟨#[]⟩) (.string ⟨#[]⟩) (.int .i64 0) (.int .i64 0) (.int .i64 0) (.slice none 0 0) (.slice none 0 0)
    have hkk : Keeps (fun k => k = m) w _ := Keeps.of_below (below_keeps HB1.out (M := fun k => k = N + 1) (fun k hk => by omega) (by have := (HB1.out).size; omega) hk9)
    exact bodyPost_ret (v := .tuple #[.slice none 0 0, .agg #[.int .i64 0, .string ⟨#[]⟩, .string ⟨#[]⟩, .string ⟨#[]⟩, .int .i64 0, .int .i64 0, .int .i64 0, .slice none 0 0, .slice none 0 0], .int .i64 2]) (by simp [results, Try.f23, go_sem, k0, k1, k2, k3, k4, k5, k6, k7, k8]) rfl (ans_none 2 HE.out (InAt.step HI1.out (hk9.block i (blk_lt (HI1.out).blk) (by omega)) (hk9.block m (HI1.out).mp.lt (by omega))) hkk)
   have q2 : (!(f.fb.toList == who.toList)) = false := by simp [k2]
   rw [q2]
   refine XReg.pu 16 31 (h := ?_)
   refine XReg.pu 17 14 (h := ?_)
   refine done_ (by kernel_rfl) ?_
   have HT := Aside0.mk (show (rightF f && decide (f.k = 2) && decide (f.fb = who)) = true from by rw [HBR.out]; simp [k1, k2])
   clear q1 q2 hH2
   obtain ⟨n0, n1, n2, n3, n4, n5, n6, n7, n8⟩ := cells9 KX1.out
   go_wp2
   obtain ⟨K1, hK1⟩ : ∃ K1, w1.heap.size = K1 := ⟨_, rfl⟩
   obtain ⟨w2, hw2⟩ : ∃ w2, w1.alloc (.cells #[.string f.fa, .string f.ct] 93) = w2 := ⟨_, rfl⟩
   have hb2 : Below w1.heap.size w1 w2 := by rw [← hw2]; exact (Below.refl _ w1).alloc (Nat.le_refl _) _
   have HB2 := Aside0.mk (HB1.out.trans (hb2.mono HB1.out.size))
   have KX2 := Aside0.mk (blk_below KX1.out hb2)
   have KZ2 := Aside0.mk (blk_below KZ1.out hb2)
   have HI2 := Aside0.mk (HI1.out.below hb2)
   have KK2 := Aside0.mk (show w2.heap[K1]? = some (.cells #[.string f.fa, .string f.ct] 93 (0, 0)) from by rw [← hw2, ← hK1]; exact World.alloc_heap_new w1 _)
   have HS2 := Aside0.mk (show w2.heap.size = K1 + 1 ∧ N + 2 ≤ K1 from ⟨by rw [← hw2, ← hK1]; simp, by rw [← hK1]; exact HS1.out⟩)
   rw [hw2]
   try rw [hK1]
   clear hw2 hK1 hb2 HB1 KX1 KZ1 HI1 HS1 n0 n1 n2 n3 n4 n5 n6 n7 n8
   have hs2 := HS2.out
   obtain ⟨⟨cs, cm⟩, hc⟩ : ∃ c : Curs, curOf D (f.fa, f.ct) = c := ⟨_, rfl⟩
   have HC := Aside0.mk hc
   clear hc
   refine start_ (n := 8) (ds := [7]) (S := fun w' => w'.cell? ⟨i, 1, none⟩ = some (.map (some m)) ∧ w'.cell? ⟨K1, 0, none⟩ = some (.string f.fa) ∧ w'.cell? ⟨K1, 1, none⟩ = some (.string f.ct) ∧ MapAt w' m wV cV D) _ (by kernel_rfl) rfl rfl
    ⟨(blk_cell (blk_drew HI2.out.blk) 1).trans rfl, (blk_cell (blk_drew KK2.out) 0).trans rfl, (blk_cell (blk_drew KK2.out) 1).trans rfl, HI2.out.mp.step rfl⟩ (fun hH => ?_)
   refine XReg.pu 0 38 (h := ?_)
   refine XReg.pu 1 39 (h := ?_)
   refine XReg.pu 2 40 (h := ?_)
   refine XReg.tk 3 41 (h := ?_)
   refine XReg.tk 4 42 (h := ?_)
   refine XReg.tk 5 43 (v := .agg #[.int .i64 cs, .int .i64 cm]) (hy := ?_) (h := ?_)
   · intro w' hS
     obtain ⟨_, _, _, hmp⟩ := hS
     have hl : (Instr.lookup 86 (.map (some m)) (.agg #[.string f.fa, .string f.ct]) false).run Try.prog w' = .ok (.agg #[.int .i64 cs, .int .i64 cm]) w' := by
      have h1 := lookW hmp (f.fa, f.ct)
      rw [HC.out] at h1
      exact h1
     go_simp
   refine XReg.one (i := 6) (some 8) rfl rfl (by kernel_rfl) (by decide) (fun Kc hKc => ?_)
   go_simp
   obtain ⟨w3, hw3⟩ : ∃ w3, (w2.alloc (.cells #[.int .i64 0, .int .i64 0] 95)).drew = w3 := ⟨_, rfl⟩
   have hb3 : Below w2.heap.size w2 w3 := by rw [← hw3]; exact below_drew1 ((Below.refl _ w2).alloc (Nat.le_refl _) _)
   have HB3 := Aside0.mk (HB2.out.trans (hb3.mono HB2.out.size))
   have KX3 := Aside0.mk (blk_below KX2.out hb3)
   have KZ3 := Aside0.mk (blk_below KZ2.out hb3)
   have HI3 := Aside0.mk (HI2.out.below hb3)
   have KK3 := Aside0.mk (blk_below KK2.out hb3)
   have KC3 := Aside0.mk (show w3.heap[K1 + 1]? = some (.cells #[.int .i64 0, .int .i64 0] 95 (0, 0)) from by rw [← hw3, ← hs2.1]; exact World.alloc_heap_new w2 _)
   have HS3 := Aside0.mk (show w3.heap.size = K1 + 2 ∧ N + 2 ≤ K1 from ⟨by rw [← hw3]; simp [hs2.1], hs2.2⟩)
   rw [hw3]
   clear hw3 hb3 HB2 KX2 KZ2 HI2 HS2
   refine hKc.out _ _ ⟨(blk_cell HI3.out.blk 1).trans rfl, (blk_cell KK3.out 0).trans rfl, (blk_cell KK3.out 1).trans rfl, HI3.out.mp⟩ (fun hH2 => ?_)
   clear hKc Kc hH hH2 KK2
   have c0 : w3.cell? ⟨K1 + 1, 0, none⟩ = some (.int .i64 0) := (blk_cell KC3.out 0).trans rfl
   have c1 : w3.cell? ⟨K1 + 1, 1, none⟩ = some (.int .i64 0) := (blk_cell KC3.out 1).trans rfl
   have g0 := blk_frozen KC3.out 0
   have g1 := blk_frozen KC3.out 1
   refine XReg.last (i := 7) none rfl rfl (by kernel_rfl) (by decide) (fun Kc hKc => ?_)
   refine store_last rfl rfl (by first | (go_simp; done) | (go_simp; rfl)) ?_
   refine hKc.out _ _ ?_
   clear hKc Kc c0 c1 g0 g1
   refine done_ (by kernel_rfl) ?_
   obtain ⟨w4, hw4⟩ : ∃ w4, (w3.setCell ⟨K1 + 1, 0, none⟩ (.int .i64 cs)).setCell ⟨K1 + 1, 1, none⟩ (.int .i64 cm) = w4 := ⟨_, rfl⟩
   have hk4 : Keeps (fun k => k = K1 + 1) w3 w4 := by rw [← hw4]; exact Keeps.setCell (M := fun k => k = K1 + 1) (Keeps.setCell (M := fun k => k = K1 + 1) (Keeps.refl _ _) (p := ⟨K1 + 1, 0, none⟩) (.inl rfl) _) (p := ⟨K1 + 1, 1, none⟩) (.inl rfl) _
   have KC4 := Aside0.mk (show w4.heap[K1 + 1]? = some (.cells #[.int .i64 cs, .int .i64 cm] 95 (0, 0)) from by rw [← hw4]; exact blk_set (blk_set KC3.out 0 _) 1 _)
   have hs3 := HS3.out
   have HB4 := Aside0.mk (below_keeps HB3.out (fun k hk => by omega) (by have := HB3.out.size; omega) hk4)
   have KX4 := Aside0.mk ((hk4.block N (blk_lt KX3.out) (by omega)).trans KX3.out)
   have KZ4 := Aside0.mk ((hk4.block (N + 1) (blk_lt KZ3.out) (by omega)).trans KZ3.out)
   have KK4 := Aside0.mk ((hk4.block K1 (blk_lt KK3.out) (by omega)).trans KK3.out)
   have HI4 := Aside0.mk (HI3.out.step (hk4.block i (blk_lt HI3.out.blk) (by omega)) (hk4.block m HI3.out.mp.lt (by omega)))
   have HS4 := Aside0.mk (show K1 + 2 ≤ w4.heap.size ∧ N + 2 ≤ K1 from ⟨by have := hk4.size; omega, hs2.2⟩)
   rw [hw4]
   clear hw4 hk4 hs3 hs2 HB3 KX3 KZ3 KK3 KC3 HI3 HS3
   have hs4 := HS4.out
   obtain ⟨n0, n1, n2, n3, n4, n5, n6, n7, n8⟩ := cells9 KX4.out
   have c0 : w4.cell? ⟨K1 + 1, 0, none⟩ = some (.int .i64 cs) := (blk_cell KC4.out 0).trans rfl
   have c1 : w4.cell? ⟨K1 + 1, 1, none⟩ = some (.int .i64 cm) := (blk_cell KC4.out 1).trans rfl
   by_cases z1 : f.se < cs
   case pos =>
    have q : decide (f.se < cs) = true := by simp [z1]
    have HE := Aside0.mk (show inTake who D f = ⟨[], zF, 120, D⟩ from by unfold inTake; rw [if_pos HT.out, HC.out, if_pos z1])
    obtain ⟨e0, e1, e2, e3, e4, e5, e6, e7, e8⟩ := cells9 KZ4.out
    obtain ⟨f0, f1, f2, f3, f4, f5, f6, f7, f8⟩ := froz9 KZ4.out
    go_wp2
    have h9 := set9 KZ4.out (.int .i64 0) (.string ⟨#[]⟩) (.string ⟨#[]⟩) (.string ⟨#[]⟩) (.int .i64 0) (.int .i64 0) (.int .i64 0) (.slice none 0 0) (.slice none 0 0)
    obtain ⟨k0, k1, k2, k3, k4, k5, k6, k7, k8⟩ := cells9 h9
    have hk9 := keeps9 w4 (N + 1) (.int .i64 0) (.string ⟨#[]⟩) (.string ⟨#[]⟩) (.string ⟨#[]⟩) (.int .i64 0) (.int .i64 0) (.int .i64 0) (.slice none 0 0) (.slice none 0 0)
    have hkk : Keeps (fun k => k = m) w _ := Keeps.of_below (below_keeps HB4.out (M := fun k => k = N + 1) (fun k hk => by omega) (by have := (HB4.out).size; omega) hk9)
    exact bodyPost_ret (v := .tuple #[.slice none 0 0, .agg #[.int .i64 0, .string ⟨#[]⟩, .string ⟨#[]⟩, .string ⟨#[]⟩, .int .i64 0, .int .i64 0, .int .i64 0, .slice none 0 0, .slice none 0 0], .int .i64 120]) (by simp [results, Try.f23, go_sem, k0, k1, k2, k3, k4, k5, k6, k7, k8]) rfl (ans_none 120 HE.out (InAt.step HI4.out (hk9.block i (blk_lt (HI4.out).blk) (by omega)) (hk9.block m (HI4.out).mp.lt (by omega))) hkk)
   have q : decide (f.se < cs) = false := by simp; omega
   have hln := len_at mk86 HI4.out.mp
   have m1 : w4.cell? ⟨i, 1, none⟩ = some (.map (some m)) := (blk_cell HI4.out.blk 1).trans rfl
   have HSZ := Aside0.mk (rightF_sizes HBR.out)
   have HOPS := Aside0.mk (show f.ix ≤ 512 ∧ f.op.length ≤ 8 ∧ ∀ x, x ∈ f.op → x.f1.length ≤ 1000000 ∧ x.f6.length ≤ 1000000 from by
    obtain ⟨_, _, _, _, _, _, hb⟩ := HSZ.out
    unfold bodyF at hb
    rw [if_neg (by omega), if_pos k1] at hb
    simp only [Bool.and_eq_true, decide_eq_true_eq] at hb
    refine ⟨by omega, by omega, fun x hx => ?_⟩
    obtain ⟨_, h1, _, _, h6, _⟩ := rightO_all (rightF_ops HBR.out x hx)
    have h2 := (rightS_le h1).1
    omega)
   have hWF := curOf_wf HWD.out (f.fa, f.ct)
   rw [HC.out] at hWF
   have hse := HSZ.out.2.2.2.1
   have f5 := blk_frozen KC4.out 0
   have f6 := blk_frozen KC4.out 1
   by_cases zc : cs = 0
   · have zm : cm = 0 := by rcases hWF with h | h; exact congrArg Prod.snd h; (simp at h; omega)
     subst zc
     subst zm
     clear hWF
     have HZ1 := Aside0.mk (show ¬ f.se < (0 : Int) from z1)
     by_cases zl : D.length = 256
     · have ql : ((D.length : Int) == 256) = true := by simp [zl]
       have hfl : inTake who D f = ⟨[], zF, 122, D⟩ := by unfold inTake; rw [if_pos HT.out, HC.out, if_neg z1, if_pos ⟨rfl, zl⟩]
       have HFL := Aside0.mk hfl
       clear hfl f5 f6
       have HE := Aside0.mk (show inTake who D f = ⟨[], zF, 122, D⟩ from HFL.out)
       obtain ⟨e0, e1, e2, e3, e4, e5, e6, e7, e8⟩ := cells9 KZ4.out
       obtain ⟨f0, f1, f2, f3, f4, f5, f6, f7, f8⟩ := froz9 KZ4.out
       go_wp2
       have h9 := set9 KZ4.out (.int .i64 0) (.string ⟨#[]⟩) (.string ⟨#[]⟩) (.string ⟨#[]⟩) (.int .i64 0) (.int .i64 0) (.int .i64 0) (.slice none 0 0) (.slice none 0 0)
       obtain ⟨k0, k1, k2, k3, k4, k5, k6, k7, k8⟩ := cells9 h9
       have hk9 := keeps9 w4 (N + 1) (.int .i64 0) (.string ⟨#[]⟩) (.string ⟨#[]⟩) (.string ⟨#[]⟩) (.int .i64 0) (.int .i64 0) (.int .i64 0) (.slice none 0 0) (.slice none 0 0)
       have hkk : Keeps (fun k => k = m) w _ := Keeps.of_below (below_keeps HB4.out (M := fun k => k = N + 1) (fun k hk => by omega) (by have := (HB4.out).size; omega) hk9)
       exact bodyPost_ret (v := .tuple #[.slice none 0 0, .agg #[.int .i64 0, .string ⟨#[]⟩, .string ⟨#[]⟩, .string ⟨#[]⟩, .int .i64 0, .int .i64 0, .int .i64 0, .slice none 0 0, .slice none 0 0], .int .i64 122]) (by simp [results, Try.f23, go_sem, k0, k1, k2, k3, k4, k5, k6, k7, k8]) rfl (ans_none 122 HE.out (InAt.step HI4.out (hk9.block i (blk_lt (HI4.out).blk) (by omega)) (hk9.block m (HI4.out).mp.lt (by omega))) hkk)
     · have ql : ((D.length : Int) == 256) = false := by simp; omega
       have qs : decide ((0 : Int) < f.se) = true := by simp; omega
       have HT1 := Aside0.mk (show curTo D f = (f.se, 0) from by unfold curTo; rw [HC.out, if_pos (by show (0 : Int) < f.se; omega)])
       have HT2 := Aside0.mk (show inTake who D f = (if f.ix = (curTo D f).2 then ⟨f.op, ⟨3, who, f.fa, f.ct, (curTo D f).1, (curTo D f).2 + 1, 0, [], []⟩, 0, upd D (f.fa, f.ct) ((curTo D f).1, (curTo D f).2 + 1)⟩
        else ⟨[], ⟨3, who, f.fa, f.ct, (curTo D f).1, (curTo D f).2, 0, [], []⟩, 0, upd D (f.fa, f.ct) (curTo D f)⟩) from by unfold inTake; rw [if_pos HT.out, HC.out, if_neg z1, if_neg (fun h => zl h.2)])
       clear zl
       by_cases zx : f.ix = 0
       case pos =>
        have qx : (f.ix == 0) = true := by simp [zx]
        have HR := Aside0.mk (show inTake who D f = ⟨f.op, ⟨3, who, f.fa, f.ct, f.se, 1, 0, [], []⟩, 0, upd D (f.fa, f.ct) (f.se, 1)⟩ from by have h := HT2.out; rw [HT1.out, if_pos zx] at h; exact h)
        have HW := Aside0.mk (show wrap64 (0 + 1) = 0 + 1 from by have := HOPS.out.1; have := HSZ.out.2.2.2.2.2.1; unfold wrap64; omega)
        go_wp2_with fail
        obtain ⟨w5, hw5⟩ : ∃ w5, (w4.setCell ⟨K1 + 1, 0, none⟩ (.int .i64 f.se)).setCell ⟨K1 + 1, 1, none⟩ (.int .i64 0) = w5 := ⟨_, rfl⟩
        have hk5 : Keeps (fun k => k = K1 + 1) w4 w5 := by rw [← hw5]; exact Keeps.setCell (M := fun k => k = K1 + 1) (Keeps.setCell (M := fun k => k = K1 + 1) (Keeps.refl _ _) (p := ⟨K1 + 1, 0, none⟩) (.inl rfl) _) (p := ⟨K1 + 1, 1, none⟩) (.inl rfl) _
        have KC5 := Aside0.mk (show w5.heap[K1 + 1]? = some (.cells #[.int .i64 f.se, .int .i64 0] 95 (0, 0)) from by rw [← hw5]; exact blk_set (blk_set KC4.out 0 _) 1 _)
        have HB5 := Aside0.mk (below_keeps HB4.out (fun k hk => by omega) (by have := HB4.out.size; omega) hk5)
        have KX5 := Aside0.mk ((hk5.block N (blk_lt KX4.out) (by omega)).trans KX4.out)
        have KZ5 := Aside0.mk ((hk5.block (N + 1) (blk_lt KZ4.out) (by omega)).trans KZ4.out)
        have KK5 := Aside0.mk ((hk5.block K1 (blk_lt KK4.out) (by omega)).trans KK4.out)
        have HI5 := Aside0.mk (HI4.out.step (hk5.block i (blk_lt HI4.out.blk) (by omega)) (hk5.block m HI4.out.mp.lt (by omega)))
        have HS5 := Aside0.mk (show K1 + 2 ≤ w5.heap.size from by have := hk5.size; omega)
        rw [hw5]
        clear hw5 hk5
        refine (owns_calls f.op A8 c8 w5 (Kd.C_below HG8.out HB5.out) HL8.out (by have := HOPS.out.2.1; omega) HOPS.out.2.2).mono ?_
        rintro e w6 ⟨v0, rfl, hS, hb6⟩
        obtain ⟨B8, d8, rfl⟩ := Kd.S_slice hS
        have HSL := Aside0.mk hS
        have HB6 := Aside0.mk (HB5.out.trans (hb6.mono HB5.out.size))
        have KX6 := Aside0.mk (blk_below KX5.out hb6)
        have KZ6 := Aside0.mk (blk_below KZ5.out hb6)
        have KK6 := Aside0.mk (blk_below KK5.out hb6)
        have KC6 := Aside0.mk (blk_below KC5.out hb6)
        have HI6 := Aside0.mk (HI5.out.below hb6)
        have HS6 := Aside0.mk (show K1 + 2 ≤ w5.heap.size ∧ w5.heap.size ≤ w6.heap.size from ⟨by have := HS5.out; omega, hb6.size⟩)
        have c1 : w6.cell? ⟨K1 + 1, 1, none⟩ = some (.int .i64 0) := (blk_cell KC6.out 1).trans rfl
        have f1 := blk_frozen KC6.out 1
        clear hS hb6 HB5 KX5 KZ5 KK5 KC5 HI5 HS5 n0 n1 n2 n3 n4 n5 n6 n7 n8 m1 c0 hln
        go_wp2
        obtain ⟨w7, hw7⟩ : ∃ w7, w6.setCell ⟨K1 + 1, 1, none⟩ (.int .i64 1) = w7 := ⟨_, rfl⟩
        have hk7 : Keeps (fun k => k = K1 + 1) w6 w7 := by rw [← hw7]; exact Keeps.setCell (M := fun k => k = K1 + 1) (Keeps.refl _ _) (p := ⟨K1 + 1, 1, none⟩) (.inl rfl) _
        have KC7 := Aside0.mk (show w7.heap[K1 + 1]? = some (.cells #[.int .i64 f.se, .int .i64 (1)] 95 (0, 0)) from by rw [← hw7]; exact blk_set KC6.out 1 _)
        have hs6 := HS6.out
        have HB7 := Aside0.mk (below_keeps HB6.out (fun k hk => by omega) HB6.out.size hk7)
        have KX7 := Aside0.mk ((hk7.block N (blk_lt KX6.out) (by omega)).trans KX6.out)
        have KZ7 := Aside0.mk ((hk7.block (N + 1) (blk_lt KZ6.out) (by omega)).trans KZ6.out)
        have KK7 := Aside0.mk ((hk7.block K1 (blk_lt KK6.out) (by omega)).trans KK6.out)
        have HI7 := Aside0.mk (HI6.out.step (hk7.block i (blk_lt HI6.out.blk) (by omega)) (hk7.block m HI6.out.mp.lt (by omega)))
        have HS7 := Aside0.mk (show K1 + 2 ≤ w7.heap.size from by have := hk7.size; omega)
        have HSL7 := Aside0.mk (Kd.S_step (Kd.S_bound HSL.out) (fun k hk hlt => hk7.block k hlt (by have := hk.2.1; omega)))
        first | rw [hw7] | (rw [HW.out, hw7])
        clear hw7 hk7 HB6 KX6 KZ6 KK6 KC6 HI6 HSL c1 f1
        have m1 : w7.cell? ⟨i, 1, none⟩ = some (.map (some m)) := (blk_cell HI7.out.blk 1).trans rfl
        have hsv := HS7.out
        obtain ⟨wd, hwd⟩ : ∃ wd, w7.drew = wd := ⟨_, rfl⟩
        have hbd : Below w7.heap.size w7 wd := by rw [← hwd]; exact below_drew1 (Below.refl _ _)
        have HBd := Aside0.mk (HB7.out.trans (hbd.mono HB7.out.size))
        have KXd := Aside0.mk (blk_below KX7.out hbd)
        have KZd := Aside0.mk (blk_below KZ7.out hbd)
        have KKd := Aside0.mk (blk_below KK7.out hbd)
        have KCd := Aside0.mk (blk_below KC7.out hbd)
        have HId := Aside0.mk (HI7.out.below hbd)
        have HSd := Aside0.mk (show K1 + 2 ≤ wd.heap.size from by have := hbd.size; omega)
        refine start_ (n := 7) (ds := [6]) (S := fun w' => w'.cell? ⟨i, 1, none⟩ = some (.map (some m)) ∧ w'.cell? ⟨K1, 0, none⟩ = some (.string f.fa) ∧ w'.cell? ⟨K1, 1, none⟩ = some (.string f.ct) ∧ w'.cell? ⟨K1 + 1, 0, none⟩ = some (.int .i64 f.se) ∧ w'.cell? ⟨K1 + 1, 1, none⟩ = some (.int .i64 (1))) _ (by kernel_rfl) rfl rfl
         (by rw [hwd]; exact ⟨(blk_cell HId.out.blk 1).trans rfl, (blk_cell KKd.out 0).trans rfl, (blk_cell KKd.out 1).trans rfl, (blk_cell KCd.out 0).trans rfl, (blk_cell KCd.out 1).trans rfl⟩) (fun hH => ?_)
        rw [hwd] at hH ⊢
        refine XReg.pu 0 85 (h := ?_)
        refine XReg.pu 1 86 (h := ?_)
        refine XReg.pu 2 87 (h := ?_)
        refine XReg.tk 3 88 (h := ?_)
        refine XReg.tk 4 89 (h := ?_)
        refine XReg.tk 5 90 (h := ?_)
        obtain ⟨w8, hu8, hm8, hk8⟩ := run_update Try.underlying86 keysW HId.out.mp (f.fa, f.ct) ((f.se, 1) : Curs)
        have hu8' : (Instr.mapUpdate 86 (.map (some m)) (.agg #[.string f.fa, .string f.ct]) (.agg #[.int .i64 f.se, .int .i64 (1)])).run Try.prog wd = .ok () w8 := hu8
        refine XReg.last (i := 6) none rfl rfl (by kernel_rfl) (by decide) (fun Kc hKc => ?_)
        refine skip_ (w1 := ?_) (by rfl) rfl ?_ ?_
        rotate_left
        · go_simp
          rfl
        refine hKc.out _ _ ?_
        clear hKc Kc hu8 hu8' hH m1
        refine done_ (by kernel_rfl) ?_
        have KX8 := Aside0.mk ((hk8.block N (blk_lt KXd.out) (by omega)).trans KXd.out)
        have KZ8 := Aside0.mk ((hk8.block (N + 1) (blk_lt KZd.out) (by omega)).trans KZd.out)
        have KC8 := Aside0.mk ((hk8.block (K1 + 1) (blk_lt KCd.out) (by omega)).trans KCd.out)
        have HI8 := Aside0.mk (show InAt w8 i m who (upd D (f.fa, f.ct) (f.se, 1)) from ⟨(hk8.block i (blk_lt HId.out.blk) HId.out.ne).trans HId.out.blk, hm8⟩)
        have HKA := Aside0.mk (show Keeps (fun k => k = m) w w8 from (Keeps.of_below HBd.out).trans hk8)
        have HSL8 := Aside0.mk (Kd.S_step (Kd.S_step HSL7.out (fun k hk hlt => hbd.block k hlt)) (fun k hk hlt => hk8.block k hlt (by have := hk.2.1; have := HS6.out; omega)))
        clear hm8 hk8 hbd
        go_wp2
        obtain ⟨we, hwe⟩ : ∃ we, w8.drew = we := ⟨_, rfl⟩
        have hbe : Below w8.heap.size w8 we := by rw [← hwe]; exact below_drew1 (Below.refl _ _)
        have KXe := Aside0.mk (blk_below KX8.out hbe)
        have KZe := Aside0.mk (blk_below KZ8.out hbe)
        have KCe := Aside0.mk (blk_below KC8.out hbe)
        have HIe := Aside0.mk (HI8.out.below hbe)
        have HKe := Aside0.mk (HKA.out.trans (Keeps.of_below hbe))
        have HSLe := Aside0.mk (Kd.S_step HSL8.out (fun k hk hlt => hbe.block k hlt))
        refine start_ (n := 17) (ds := [15]) (S := fun w' => Cells9 w' N (.int .i64 f.k) (.string f.fa) (.string f.fb) (.string f.ct) (.int .i64 f.se) (.int .i64 f.ix) (.int .i64 f.mn) (.slice A7 f.kn.length c7) (.slice A8 f.op.length c8) ∧ w'.cell? ⟨i, 0, none⟩ = some (.string who) ∧ w'.cell? ⟨K1 + 1, 0, none⟩ = some (.int .i64 f.se) ∧ w'.cell? ⟨K1 + 1, 1, none⟩ = some (.int .i64 (1))) _ (by kernel_rfl) rfl rfl
         (by rw [hwe]; exact ⟨cells9 KXe.out, (blk_cell HIe.out.blk 0).trans rfl, (blk_cell KCe.out 0).trans rfl, (blk_cell KCe.out 1).trans rfl⟩) (fun hH => ?_)
        rw [hwe] at hH ⊢
        refine XReg.pu 0 91 (h := ?_)
        refine XReg.pu 1 92 (h := ?_)
        refine XReg.pu 2 93 (h := ?_)
        refine XReg.pu 3 94 (h := ?_)
        refine XReg.tk 4 95 (hy := by (intro w' hS_; obtain ⟨⟨s0, s1, s2, s3, s4, s5, s6, s7, s8⟩, t0, t1, t2⟩ := hS_; go_simp; with_reducible rfl)) (h := ?_)
        refine XReg.pu 5 96 (h := ?_)
        refine XReg.tk 6 97 (hy := by (intro w' hS_; obtain ⟨⟨s0, s1, s2, s3, s4, s5, s6, s7, s8⟩, t0, t1, t2⟩ := hS_; go_simp; with_reducible rfl)) (h := ?_)
        refine XReg.pu 7 98 (h := ?_)
        refine XReg.tk 8 99 (hy := by (intro w' hS_; obtain ⟨⟨s0, s1, s2, s3, s4, s5, s6, s7, s8⟩, t0, t1, t2⟩ := hS_; go_simp; with_reducible rfl)) (h := ?_)
        refine XReg.pu 9 100 (h := ?_)
        refine XReg.tk 10 101 (hy := by (intro w' hS_; obtain ⟨⟨s0, s1, s2, s3, s4, s5, s6, s7, s8⟩, t0, t1, t2⟩ := hS_; go_simp; with_reducible rfl)) (h := ?_)
        refine XReg.pu 11 102 (h := ?_)
        refine XReg.tk 12 103 (hy := by (intro w' hS_; obtain ⟨⟨s0, s1, s2, s3, s4, s5, s6, s7, s8⟩, t0, t1, t2⟩ := hS_; go_simp; with_reducible rfl)) (h := ?_)
        refine XReg.pu 13 104 (h := ?_)
        refine XReg.pu 14 4 (h := ?_)
        obtain ⟨e0, e1, e2, e3, e4, e5, e6, e7, e8⟩ := cells9 KZe.out
        obtain ⟨f0, f1, f2, f3, f4, f5, f6, f7, f8⟩ := froz9 KZe.out
        refine XReg.last (i := 15) none rfl rfl (by kernel_rfl) (by decide) (fun Kc hKc => ?_)
        refine store_last rfl rfl (by first | (go_simp; done) | (go_simp; rfl)) ?_
        refine hKc.out _ _ ?_
        clear hKc Kc hH e0 e1 e2 e3 e4 e5 e6 e7 e8 f0 f1 f2 f3 f4 f5 f6 f7 f8
        refine XReg.pu 16 6 (h := ?_)
        refine done_ (by kernel_rfl) ?_
        have h9 := set9 KZe.out (.int .i64 3) (.string who) (.string f.fa) (.string f.ct) (.int .i64 f.se) (.int .i64 (1)) (.int .i64 0) (.slice none 0 0) (.slice none 0 0)
        have hk9 := keeps9 we (N + 1) (.int .i64 3) (.string who) (.string f.fa) (.string f.ct) (.int .i64 f.se) (.int .i64 (1)) (.int .i64 0) (.slice none 0 0) (.slice none 0 0)
        obtain ⟨k0, k1, k2, k3, k4, k5, k6, k7, k8⟩ := cells9 h9
        go_wp2
        have hA := HKe.out
        have hFK : Keeps (fun k => k = m) w _ := ⟨hk9.os.trans hA.os, hk9.tape.trans hA.tape, hk9.output.trans hA.output, Nat.le_trans hA.size hk9.size, fun k hk hne => (hk9.block k (by have := hA.size; omega) (by omega)).trans (hA.block k hk hne)⟩
        have hFI := InAt.step HIe.out (hk9.block i (blk_lt HIe.out.blk) (by omega)) (hk9.block m HIe.out.mp.lt (by omega))
        refine bodyPost_ret (v := .tuple #[.slice B8 f.op.length d8, .agg #[.int .i64 3, .string who, .string f.fa, .string f.ct, .int .i64 f.se, .int .i64 (1), .int .i64 0, .slice none 0 0, .slice none 0 0], .int .i64 0]) (by simp [results, Try.f23, go_sem, k0, k1, k2, k3, k4, k5, k6, k7, k8]) rfl ?_
        unfold InAns
        rw [HR.out]
        have hS9 := Kd.S_step HSLe.out (fun k hk hlt => hk9.block k hlt (by have := hk.2.1; have := HS6.out; omega))
        exact ⟨B8, d8, rfl, rfl, rfl, (Kd.S_reads' hS9).2.1, Kd.F_mono (Kd.S_F (Kd.S_bound hS9)) (fun k hk => ⟨by have := hk.2.1; have := HS6.out; omega, hk.2.2.2⟩), hFI, hFK⟩
       case neg =>
        have qx : (f.ix == 0) = false := by simp [zx]
        have HR := Aside0.mk (show inTake who D f = ⟨[], ⟨3, who, f.fa, f.ct, f.se, 0, 0, [], []⟩, 0, upd D (f.fa, f.ct) (f.se, 0)⟩ from by rw [HT2.out, HT1.out, if_neg zx])
        go_wp2
        obtain ⟨w5, hw5⟩ : ∃ w5, (w4.setCell ⟨K1 + 1, 0, none⟩ (.int .i64 f.se)).setCell ⟨K1 + 1, 1, none⟩ (.int .i64 0) = w5 := ⟨_, rfl⟩
        have hk5 : Keeps (fun k => k = K1 + 1) w4 w5 := by rw [← hw5]; exact Keeps.setCell (M := fun k => k = K1 + 1) (Keeps.setCell (M := fun k => k = K1 + 1) (Keeps.refl _ _) (p := ⟨K1 + 1, 0, none⟩) (.inl rfl) _) (p := ⟨K1 + 1, 1, none⟩) (.inl rfl) _
        have KC5 := Aside0.mk (show w5.heap[K1 + 1]? = some (.cells #[.int .i64 f.se, .int .i64 0] 95 (0, 0)) from by rw [← hw5]; exact blk_set (blk_set KC4.out 0 _) 1 _)
        have HB5 := Aside0.mk (below_keeps HB4.out (fun k hk => by omega) (by have := HB4.out.size; omega) hk5)
        have KX5 := Aside0.mk ((hk5.block N (blk_lt KX4.out) (by omega)).trans KX4.out)
        have KZ5 := Aside0.mk ((hk5.block (N + 1) (blk_lt KZ4.out) (by omega)).trans KZ4.out)
        have KK5 := Aside0.mk ((hk5.block K1 (blk_lt KK4.out) (by omega)).trans KK4.out)
        have HI5 := Aside0.mk (HI4.out.step (hk5.block i (blk_lt HI4.out.blk) (by omega)) (hk5.block m HI4.out.mp.lt (by omega)))
        have HS5 := Aside0.mk (show K1 + 2 ≤ w5.heap.size from by have := hk5.size; omega)
        rw [hw5]
        clear hw5 hk5
        clear n0 n1 n2 n3 n4 n5 n6 n7 n8 m1 c0 c1 hln
        have m1 : w5.cell? ⟨i, 1, none⟩ = some (.map (some m)) := (blk_cell HI5.out.blk 1).trans rfl
        have hsv := HS5.out
        obtain ⟨wd, hwd⟩ : ∃ wd, w5.drew = wd := ⟨_, rfl⟩
        have hbd : Below w5.heap.size w5 wd := by rw [← hwd]; exact below_drew1 (Below.refl _ _)
        have HBd := Aside0.mk (HB5.out.trans (hbd.mono HB5.out.size))
        have KXd := Aside0.mk (blk_below KX5.out hbd)
        have KZd := Aside0.mk (blk_below KZ5.out hbd)
        have KKd := Aside0.mk (blk_below KK5.out hbd)
        have KCd := Aside0.mk (blk_below KC5.out hbd)
        have HId := Aside0.mk (HI5.out.below hbd)
        have HSd := Aside0.mk (show K1 + 2 ≤ wd.heap.size from by have := hbd.size; omega)
        refine start_ (n := 7) (ds := [6]) (S := fun w' => w'.cell? ⟨i, 1, none⟩ = some (.map (some m)) ∧ w'.cell? ⟨K1, 0, none⟩ = some (.string f.fa) ∧ w'.cell? ⟨K1, 1, none⟩ = some (.string f.ct) ∧ w'.cell? ⟨K1 + 1, 0, none⟩ = some (.int .i64 f.se) ∧ w'.cell? ⟨K1 + 1, 1, none⟩ = some (.int .i64 (0))) _ (by kernel_rfl) rfl rfl
         (by rw [hwd]; exact ⟨(blk_cell HId.out.blk 1).trans rfl, (blk_cell KKd.out 0).trans rfl, (blk_cell KKd.out 1).trans rfl, (blk_cell KCd.out 0).trans rfl, (blk_cell KCd.out 1).trans rfl⟩) (fun hH => ?_)
        rw [hwd] at hH ⊢
        refine XReg.pu 0 85 (h := ?_)
        refine XReg.pu 1 86 (h := ?_)
        refine XReg.pu 2 87 (h := ?_)
        refine XReg.tk 3 88 (h := ?_)
        refine XReg.tk 4 89 (h := ?_)
        refine XReg.tk 5 90 (h := ?_)
        obtain ⟨w8, hu8, hm8, hk8⟩ := run_update Try.underlying86 keysW HId.out.mp (f.fa, f.ct) ((f.se, 0) : Curs)
        have hu8' : (Instr.mapUpdate 86 (.map (some m)) (.agg #[.string f.fa, .string f.ct]) (.agg #[.int .i64 f.se, .int .i64 (0)])).run Try.prog wd = .ok () w8 := hu8
        refine XReg.last (i := 6) none rfl rfl (by kernel_rfl) (by decide) (fun Kc hKc => ?_)
        refine skip_ (w1 := ?_) (by rfl) rfl ?_ ?_
        rotate_left
        · go_simp
          rfl
        refine hKc.out _ _ ?_
        clear hKc Kc hu8 hu8' hH m1
        refine done_ (by kernel_rfl) ?_
        have KX8 := Aside0.mk ((hk8.block N (blk_lt KXd.out) (by omega)).trans KXd.out)
        have KZ8 := Aside0.mk ((hk8.block (N + 1) (blk_lt KZd.out) (by omega)).trans KZd.out)
        have KC8 := Aside0.mk ((hk8.block (K1 + 1) (blk_lt KCd.out) (by omega)).trans KCd.out)
        have HI8 := Aside0.mk (show InAt w8 i m who (upd D (f.fa, f.ct) (f.se, 0)) from ⟨(hk8.block i (blk_lt HId.out.blk) HId.out.ne).trans HId.out.blk, hm8⟩)
        have HKA := Aside0.mk (show Keeps (fun k => k = m) w w8 from (Keeps.of_below HBd.out).trans hk8)
        skip
        clear hm8 hk8 hbd
        go_wp2
        obtain ⟨we, hwe⟩ : ∃ we, w8.drew = we := ⟨_, rfl⟩
        have hbe : Below w8.heap.size w8 we := by rw [← hwe]; exact below_drew1 (Below.refl _ _)
        have KXe := Aside0.mk (blk_below KX8.out hbe)
        have KZe := Aside0.mk (blk_below KZ8.out hbe)
        have KCe := Aside0.mk (blk_below KC8.out hbe)
        have HIe := Aside0.mk (HI8.out.below hbe)
        have HKe := Aside0.mk (HKA.out.trans (Keeps.of_below hbe))
        skip
        refine start_ (n := 17) (ds := [15]) (S := fun w' => Cells9 w' N (.int .i64 f.k) (.string f.fa) (.string f.fb) (.string f.ct) (.int .i64 f.se) (.int .i64 f.ix) (.int .i64 f.mn) (.slice A7 f.kn.length c7) (.slice A8 f.op.length c8) ∧ w'.cell? ⟨i, 0, none⟩ = some (.string who) ∧ w'.cell? ⟨K1 + 1, 0, none⟩ = some (.int .i64 f.se) ∧ w'.cell? ⟨K1 + 1, 1, none⟩ = some (.int .i64 (0))) _ (by kernel_rfl) rfl rfl
         (by rw [hwe]; exact ⟨cells9 KXe.out, (blk_cell HIe.out.blk 0).trans rfl, (blk_cell KCe.out 0).trans rfl, (blk_cell KCe.out 1).trans rfl⟩) (fun hH => ?_)
        rw [hwe] at hH ⊢
        refine XReg.pu 0 91 (h := ?_)
        refine XReg.pu 1 92 (h := ?_)
        refine XReg.pu 2 93 (h := ?_)
        refine XReg.pu 3 94 (h := ?_)
        refine XReg.tk 4 95 (hy := by (intro w' hS_; obtain ⟨⟨s0, s1, s2, s3, s4, s5, s6, s7, s8⟩, t0, t1, t2⟩ := hS_; go_simp; with_reducible rfl)) (h := ?_)
        refine XReg.pu 5 96 (h := ?_)
        refine XReg.tk 6 97 (hy := by (intro w' hS_; obtain ⟨⟨s0, s1, s2, s3, s4, s5, s6, s7, s8⟩, t0, t1, t2⟩ := hS_; go_simp; with_reducible rfl)) (h := ?_)
        refine XReg.pu 7 98 (h := ?_)
        refine XReg.tk 8 99 (hy := by (intro w' hS_; obtain ⟨⟨s0, s1, s2, s3, s4, s5, s6, s7, s8⟩, t0, t1, t2⟩ := hS_; go_simp; with_reducible rfl)) (h := ?_)
        refine XReg.pu 9 100 (h := ?_)
        refine XReg.tk 10 101 (hy := by (intro w' hS_; obtain ⟨⟨s0, s1, s2, s3, s4, s5, s6, s7, s8⟩, t0, t1, t2⟩ := hS_; go_simp; with_reducible rfl)) (h := ?_)
        refine XReg.pu 11 102 (h := ?_)
        refine XReg.tk 12 103 (hy := by (intro w' hS_; obtain ⟨⟨s0, s1, s2, s3, s4, s5, s6, s7, s8⟩, t0, t1, t2⟩ := hS_; go_simp; with_reducible rfl)) (h := ?_)
        refine XReg.pu 13 104 (h := ?_)
        refine XReg.pu 14 4 (h := ?_)
        obtain ⟨e0, e1, e2, e3, e4, e5, e6, e7, e8⟩ := cells9 KZe.out
        obtain ⟨f0, f1, f2, f3, f4, f5, f6, f7, f8⟩ := froz9 KZe.out
        refine XReg.last (i := 15) none rfl rfl (by kernel_rfl) (by decide) (fun Kc hKc => ?_)
        refine store_last rfl rfl (by first | (go_simp; done) | (go_simp; rfl)) ?_
        refine hKc.out _ _ ?_
        clear hKc Kc hH e0 e1 e2 e3 e4 e5 e6 e7 e8 f0 f1 f2 f3 f4 f5 f6 f7 f8
        refine XReg.pu 16 6 (h := ?_)
        refine done_ (by kernel_rfl) ?_
        have h9 := set9 KZe.out (.int .i64 3) (.string who) (.string f.fa) (.string f.ct) (.int .i64 f.se) (.int .i64 (0)) (.int .i64 0) (.slice none 0 0) (.slice none 0 0)
        have hk9 := keeps9 we (N + 1) (.int .i64 3) (.string who) (.string f.fa) (.string f.ct) (.int .i64 f.se) (.int .i64 (0)) (.int .i64 0) (.slice none 0 0) (.slice none 0 0)
        obtain ⟨k0, k1, k2, k3, k4, k5, k6, k7, k8⟩ := cells9 h9
        go_wp2
        have hA := HKe.out
        have hFK : Keeps (fun k => k = m) w _ := ⟨hk9.os.trans hA.os, hk9.tape.trans hA.tape, hk9.output.trans hA.output, Nat.le_trans hA.size hk9.size, fun k hk hne => (hk9.block k (by have := hA.size; omega) (by omega)).trans (hA.block k hk hne)⟩
        have hFI := InAt.step HIe.out (hk9.block i (blk_lt HIe.out.blk) (by omega)) (hk9.block m HIe.out.mp.lt (by omega))
        refine bodyPost_ret (v := .tuple #[.slice none 0 0, .agg #[.int .i64 3, .string who, .string f.fa, .string f.ct, .int .i64 f.se, .int .i64 (0), .int .i64 0, .slice none 0 0, .slice none 0 0], .int .i64 0]) (by simp [results, Try.f23, go_sem, k0, k1, k2, k3, k4, k5, k6, k7, k8]) rfl ?_
        unfold InAns
        rw [HR.out]
        exact ⟨none, 0, rfl, rfl, rfl, Nat.le_refl _, Fnil, hFI, hFK⟩
   · have hcz : 1 ≤ cs := by rcases hWF with h | h; (exfalso; exact zc (congrArg Prod.fst h)); exact h
     have HT2 := Aside0.mk (show inTake who D f = (if f.ix = (curTo D f).2 then ⟨f.op, ⟨3, who, f.fa, f.ct, (curTo D f).1, (curTo D f).2 + 1, 0, [], []⟩, 0, upd D (f.fa, f.ct) ((curTo D f).1, (curTo D f).2 + 1)⟩
      else ⟨[], ⟨3, who, f.fa, f.ct, (curTo D f).1, (curTo D f).2, 0, [], []⟩, 0, upd D (f.fa, f.ct) (curTo D f)⟩) from by unfold inTake; rw [if_pos HT.out, HC.out, if_neg z1, if_neg (fun h => zc (congrArg Prod.fst h.1))])
     clear hWF
     by_cases zs : cs < f.se
     · have qs : decide (cs < f.se) = true := by simp [zs]
       have HT1 := Aside0.mk (show curTo D f = (f.se, 0) from by unfold curTo; rw [HC.out, if_pos zs])
       by_cases zx : f.ix = 0
       case pos =>
        have qx : (f.ix == 0) = true := by simp [zx]
        have HR := Aside0.mk (show inTake who D f = ⟨f.op, ⟨3, who, f.fa, f.ct, f.se, 1, 0, [], []⟩, 0, upd D (f.fa, f.ct) (f.se, 1)⟩ from by have h := HT2.out; rw [HT1.out, if_pos zx] at h; exact h)
        have HW := Aside0.mk (show wrap64 (0 + 1) = 0 + 1 from by have := HOPS.out.1; have := HSZ.out.2.2.2.2.2.1; unfold wrap64; omega)
        go_wp2_with fail
        obtain ⟨w5, hw5⟩ : ∃ w5, (w4.setCell ⟨K1 + 1, 0, none⟩ (.int .i64 f.se)).setCell ⟨K1 + 1, 1, none⟩ (.int .i64 0) = w5 := ⟨_, rfl⟩
        have hk5 : Keeps (fun k => k = K1 + 1) w4 w5 := by rw [← hw5]; exact Keeps.setCell (M := fun k => k = K1 + 1) (Keeps.setCell (M := fun k => k = K1 + 1) (Keeps.refl _ _) (p := ⟨K1 + 1, 0, none⟩) (.inl rfl) _) (p := ⟨K1 + 1, 1, none⟩) (.inl rfl) _
        have KC5 := Aside0.mk (show w5.heap[K1 + 1]? = some (.cells #[.int .i64 f.se, .int .i64 0] 95 (0, 0)) from by rw [← hw5]; exact blk_set (blk_set KC4.out 0 _) 1 _)
        have HB5 := Aside0.mk (below_keeps HB4.out (fun k hk => by omega) (by have := HB4.out.size; omega) hk5)
        have KX5 := Aside0.mk ((hk5.block N (blk_lt KX4.out) (by omega)).trans KX4.out)
        have KZ5 := Aside0.mk ((hk5.block (N + 1) (blk_lt KZ4.out) (by omega)).trans KZ4.out)
        have KK5 := Aside0.mk ((hk5.block K1 (blk_lt KK4.out) (by omega)).trans KK4.out)
        have HI5 := Aside0.mk (HI4.out.step (hk5.block i (blk_lt HI4.out.blk) (by omega)) (hk5.block m HI4.out.mp.lt (by omega)))
        have HS5 := Aside0.mk (show K1 + 2 ≤ w5.heap.size from by have := hk5.size; omega)
        rw [hw5]
        clear hw5 hk5
        refine (owns_calls f.op A8 c8 w5 (Kd.C_below HG8.out HB5.out) HL8.out (by have := HOPS.out.2.1; omega) HOPS.out.2.2).mono ?_
        rintro e w6 ⟨v0, rfl, hS, hb6⟩
        obtain ⟨B8, d8, rfl⟩ := Kd.S_slice hS
        have HSL := Aside0.mk hS
        have HB6 := Aside0.mk (HB5.out.trans (hb6.mono HB5.out.size))
        have KX6 := Aside0.mk (blk_below KX5.out hb6)
        have KZ6 := Aside0.mk (blk_below KZ5.out hb6)
        have KK6 := Aside0.mk (blk_below KK5.out hb6)
        have KC6 := Aside0.mk (blk_below KC5.out hb6)
        have HI6 := Aside0.mk (HI5.out.below hb6)
        have HS6 := Aside0.mk (show K1 + 2 ≤ w5.heap.size ∧ w5.heap.size ≤ w6.heap.size from ⟨by have := HS5.out; omega, hb6.size⟩)
        have c1 : w6.cell? ⟨K1 + 1, 1, none⟩ = some (.int .i64 0) := (blk_cell KC6.out 1).trans rfl
        have f1 := blk_frozen KC6.out 1
        clear hS hb6 HB5 KX5 KZ5 KK5 KC5 HI5 HS5 n0 n1 n2 n3 n4 n5 n6 n7 n8 m1 c0 hln
        go_wp2
        obtain ⟨w7, hw7⟩ : ∃ w7, w6.setCell ⟨K1 + 1, 1, none⟩ (.int .i64 1) = w7 := ⟨_, rfl⟩
        have hk7 : Keeps (fun k => k = K1 + 1) w6 w7 := by rw [← hw7]; exact Keeps.setCell (M := fun k => k = K1 + 1) (Keeps.refl _ _) (p := ⟨K1 + 1, 1, none⟩) (.inl rfl) _
        have KC7 := Aside0.mk (show w7.heap[K1 + 1]? = some (.cells #[.int .i64 f.se, .int .i64 (1)] 95 (0, 0)) from by rw [← hw7]; exact blk_set KC6.out 1 _)
        have hs6 := HS6.out
        have HB7 := Aside0.mk (below_keeps HB6.out (fun k hk => by omega) HB6.out.size hk7)
        have KX7 := Aside0.mk ((hk7.block N (blk_lt KX6.out) (by omega)).trans KX6.out)
        have KZ7 := Aside0.mk ((hk7.block (N + 1) (blk_lt KZ6.out) (by omega)).trans KZ6.out)
        have KK7 := Aside0.mk ((hk7.block K1 (blk_lt KK6.out) (by omega)).trans KK6.out)
        have HI7 := Aside0.mk (HI6.out.step (hk7.block i (blk_lt HI6.out.blk) (by omega)) (hk7.block m HI6.out.mp.lt (by omega)))
        have HS7 := Aside0.mk (show K1 + 2 ≤ w7.heap.size from by have := hk7.size; omega)
        have HSL7 := Aside0.mk (Kd.S_step (Kd.S_bound HSL.out) (fun k hk hlt => hk7.block k hlt (by have := hk.2.1; omega)))
        first | rw [hw7] | (rw [HW.out, hw7])
        clear hw7 hk7 HB6 KX6 KZ6 KK6 KC6 HI6 HSL c1 f1
        have m1 : w7.cell? ⟨i, 1, none⟩ = some (.map (some m)) := (blk_cell HI7.out.blk 1).trans rfl
        have hsv := HS7.out
        obtain ⟨wd, hwd⟩ : ∃ wd, w7.drew = wd := ⟨_, rfl⟩
        have hbd : Below w7.heap.size w7 wd := by rw [← hwd]; exact below_drew1 (Below.refl _ _)
        have HBd := Aside0.mk (HB7.out.trans (hbd.mono HB7.out.size))
        have KXd := Aside0.mk (blk_below KX7.out hbd)
        have KZd := Aside0.mk (blk_below KZ7.out hbd)
        have KKd := Aside0.mk (blk_below KK7.out hbd)
        have KCd := Aside0.mk (blk_below KC7.out hbd)
        have HId := Aside0.mk (HI7.out.below hbd)
        have HSd := Aside0.mk (show K1 + 2 ≤ wd.heap.size from by have := hbd.size; omega)
        refine start_ (n := 7) (ds := [6]) (S := fun w' => w'.cell? ⟨i, 1, none⟩ = some (.map (some m)) ∧ w'.cell? ⟨K1, 0, none⟩ = some (.string f.fa) ∧ w'.cell? ⟨K1, 1, none⟩ = some (.string f.ct) ∧ w'.cell? ⟨K1 + 1, 0, none⟩ = some (.int .i64 f.se) ∧ w'.cell? ⟨K1 + 1, 1, none⟩ = some (.int .i64 (1))) _ (by kernel_rfl) rfl rfl
         (by rw [hwd]; exact ⟨(blk_cell HId.out.blk 1).trans rfl, (blk_cell KKd.out 0).trans rfl, (blk_cell KKd.out 1).trans rfl, (blk_cell KCd.out 0).trans rfl, (blk_cell KCd.out 1).trans rfl⟩) (fun hH => ?_)
        rw [hwd] at hH ⊢
        refine XReg.pu 0 85 (h := ?_)
        refine XReg.pu 1 86 (h := ?_)
        refine XReg.pu 2 87 (h := ?_)
        refine XReg.tk 3 88 (h := ?_)
        refine XReg.tk 4 89 (h := ?_)
        refine XReg.tk 5 90 (h := ?_)
        obtain ⟨w8, hu8, hm8, hk8⟩ := run_update Try.underlying86 keysW HId.out.mp (f.fa, f.ct) ((f.se, 1) : Curs)
        have hu8' : (Instr.mapUpdate 86 (.map (some m)) (.agg #[.string f.fa, .string f.ct]) (.agg #[.int .i64 f.se, .int .i64 (1)])).run Try.prog wd = .ok () w8 := hu8
        refine XReg.last (i := 6) none rfl rfl (by kernel_rfl) (by decide) (fun Kc hKc => ?_)
        refine skip_ (w1 := ?_) (by rfl) rfl ?_ ?_
        rotate_left
        · go_simp
          rfl
        refine hKc.out _ _ ?_
        clear hKc Kc hu8 hu8' hH m1
        refine done_ (by kernel_rfl) ?_
        have KX8 := Aside0.mk ((hk8.block N (blk_lt KXd.out) (by omega)).trans KXd.out)
        have KZ8 := Aside0.mk ((hk8.block (N + 1) (blk_lt KZd.out) (by omega)).trans KZd.out)
        have KC8 := Aside0.mk ((hk8.block (K1 + 1) (blk_lt KCd.out) (by omega)).trans KCd.out)
        have HI8 := Aside0.mk (show InAt w8 i m who (upd D (f.fa, f.ct) (f.se, 1)) from ⟨(hk8.block i (blk_lt HId.out.blk) HId.out.ne).trans HId.out.blk, hm8⟩)
        have HKA := Aside0.mk (show Keeps (fun k => k = m) w w8 from (Keeps.of_below HBd.out).trans hk8)
        have HSL8 := Aside0.mk (Kd.S_step (Kd.S_step HSL7.out (fun k hk hlt => hbd.block k hlt)) (fun k hk hlt => hk8.block k hlt (by have := hk.2.1; have := HS6.out; omega)))
        clear hm8 hk8 hbd
        go_wp2
        obtain ⟨we, hwe⟩ : ∃ we, w8.drew = we := ⟨_, rfl⟩
        have hbe : Below w8.heap.size w8 we := by rw [← hwe]; exact below_drew1 (Below.refl _ _)
        have KXe := Aside0.mk (blk_below KX8.out hbe)
        have KZe := Aside0.mk (blk_below KZ8.out hbe)
        have KCe := Aside0.mk (blk_below KC8.out hbe)
        have HIe := Aside0.mk (HI8.out.below hbe)
        have HKe := Aside0.mk (HKA.out.trans (Keeps.of_below hbe))
        have HSLe := Aside0.mk (Kd.S_step HSL8.out (fun k hk hlt => hbe.block k hlt))
        refine start_ (n := 17) (ds := [15]) (S := fun w' => Cells9 w' N (.int .i64 f.k) (.string f.fa) (.string f.fb) (.string f.ct) (.int .i64 f.se) (.int .i64 f.ix) (.int .i64 f.mn) (.slice A7 f.kn.length c7) (.slice A8 f.op.length c8) ∧ w'.cell? ⟨i, 0, none⟩ = some (.string who) ∧ w'.cell? ⟨K1 + 1, 0, none⟩ = some (.int .i64 f.se) ∧ w'.cell? ⟨K1 + 1, 1, none⟩ = some (.int .i64 (1))) _ (by kernel_rfl) rfl rfl
         (by rw [hwe]; exact ⟨cells9 KXe.out, (blk_cell HIe.out.blk 0).trans rfl, (blk_cell KCe.out 0).trans rfl, (blk_cell KCe.out 1).trans rfl⟩) (fun hH => ?_)
        rw [hwe] at hH ⊢
        refine XReg.pu 0 91 (h := ?_)
        refine XReg.pu 1 92 (h := ?_)
        refine XReg.pu 2 93 (h := ?_)
        refine XReg.pu 3 94 (h := ?_)
        refine XReg.tk 4 95 (hy := by (intro w' hS_; obtain ⟨⟨s0, s1, s2, s3, s4, s5, s6, s7, s8⟩, t0, t1, t2⟩ := hS_; go_simp; with_reducible rfl)) (h := ?_)
        refine XReg.pu 5 96 (h := ?_)
        refine XReg.tk 6 97 (hy := by (intro w' hS_; obtain ⟨⟨s0, s1, s2, s3, s4, s5, s6, s7, s8⟩, t0, t1, t2⟩ := hS_; go_simp; with_reducible rfl)) (h := ?_)
        refine XReg.pu 7 98 (h := ?_)
        refine XReg.tk 8 99 (hy := by (intro w' hS_; obtain ⟨⟨s0, s1, s2, s3, s4, s5, s6, s7, s8⟩, t0, t1, t2⟩ := hS_; go_simp; with_reducible rfl)) (h := ?_)
        refine XReg.pu 9 100 (h := ?_)
        refine XReg.tk 10 101 (hy := by (intro w' hS_; obtain ⟨⟨s0, s1, s2, s3, s4, s5, s6, s7, s8⟩, t0, t1, t2⟩ := hS_; go_simp; with_reducible rfl)) (h := ?_)
        refine XReg.pu 11 102 (h := ?_)
        refine XReg.tk 12 103 (hy := by (intro w' hS_; obtain ⟨⟨s0, s1, s2, s3, s4, s5, s6, s7, s8⟩, t0, t1, t2⟩ := hS_; go_simp; with_reducible rfl)) (h := ?_)
        refine XReg.pu 13 104 (h := ?_)
        refine XReg.pu 14 4 (h := ?_)
        obtain ⟨e0, e1, e2, e3, e4, e5, e6, e7, e8⟩ := cells9 KZe.out
        obtain ⟨f0, f1, f2, f3, f4, f5, f6, f7, f8⟩ := froz9 KZe.out
        refine XReg.last (i := 15) none rfl rfl (by kernel_rfl) (by decide) (fun Kc hKc => ?_)
        refine store_last rfl rfl (by first | (go_simp; done) | (go_simp; rfl)) ?_
        refine hKc.out _ _ ?_
        clear hKc Kc hH e0 e1 e2 e3 e4 e5 e6 e7 e8 f0 f1 f2 f3 f4 f5 f6 f7 f8
        refine XReg.pu 16 6 (h := ?_)
        refine done_ (by kernel_rfl) ?_
        have h9 := set9 KZe.out (.int .i64 3) (.string who) (.string f.fa) (.string f.ct) (.int .i64 f.se) (.int .i64 (1)) (.int .i64 0) (.slice none 0 0) (.slice none 0 0)
        have hk9 := keeps9 we (N + 1) (.int .i64 3) (.string who) (.string f.fa) (.string f.ct) (.int .i64 f.se) (.int .i64 (1)) (.int .i64 0) (.slice none 0 0) (.slice none 0 0)
        obtain ⟨k0, k1, k2, k3, k4, k5, k6, k7, k8⟩ := cells9 h9
        go_wp2
        have hA := HKe.out
        have hFK : Keeps (fun k => k = m) w _ := ⟨hk9.os.trans hA.os, hk9.tape.trans hA.tape, hk9.output.trans hA.output, Nat.le_trans hA.size hk9.size, fun k hk hne => (hk9.block k (by have := hA.size; omega) (by omega)).trans (hA.block k hk hne)⟩
        have hFI := InAt.step HIe.out (hk9.block i (blk_lt HIe.out.blk) (by omega)) (hk9.block m HIe.out.mp.lt (by omega))
        refine bodyPost_ret (v := .tuple #[.slice B8 f.op.length d8, .agg #[.int .i64 3, .string who, .string f.fa, .string f.ct, .int .i64 f.se, .int .i64 (1), .int .i64 0, .slice none 0 0, .slice none 0 0], .int .i64 0]) (by simp [results, Try.f23, go_sem, k0, k1, k2, k3, k4, k5, k6, k7, k8]) rfl ?_
        unfold InAns
        rw [HR.out]
        have hS9 := Kd.S_step HSLe.out (fun k hk hlt => hk9.block k hlt (by have := hk.2.1; have := HS6.out; omega))
        exact ⟨B8, d8, rfl, rfl, rfl, (Kd.S_reads' hS9).2.1, Kd.F_mono (Kd.S_F (Kd.S_bound hS9)) (fun k hk => ⟨by have := hk.2.1; have := HS6.out; omega, hk.2.2.2⟩), hFI, hFK⟩
       case neg =>
        have qx : (f.ix == 0) = false := by simp [zx]
        have HR := Aside0.mk (show inTake who D f = ⟨[], ⟨3, who, f.fa, f.ct, f.se, 0, 0, [], []⟩, 0, upd D (f.fa, f.ct) (f.se, 0)⟩ from by rw [HT2.out, HT1.out, if_neg zx])
        go_wp2
        obtain ⟨w5, hw5⟩ : ∃ w5, (w4.setCell ⟨K1 + 1, 0, none⟩ (.int .i64 f.se)).setCell ⟨K1 + 1, 1, none⟩ (.int .i64 0) = w5 := ⟨_, rfl⟩
        have hk5 : Keeps (fun k => k = K1 + 1) w4 w5 := by rw [← hw5]; exact Keeps.setCell (M := fun k => k = K1 + 1) (Keeps.setCell (M := fun k => k = K1 + 1) (Keeps.refl _ _) (p := ⟨K1 + 1, 0, none⟩) (.inl rfl) _) (p := ⟨K1 + 1, 1, none⟩) (.inl rfl) _
        have KC5 := Aside0.mk (show w5.heap[K1 + 1]? = some (.cells #[.int .i64 f.se, .int .i64 0] 95 (0, 0)) from by rw [← hw5]; exact blk_set (blk_set KC4.out 0 _) 1 _)
        have HB5 := Aside0.mk (below_keeps HB4.out (fun k hk => by omega) (by have := HB4.out.size; omega) hk5)
        have KX5 := Aside0.mk ((hk5.block N (blk_lt KX4.out) (by omega)).trans KX4.out)
        have KZ5 := Aside0.mk ((hk5.block (N + 1) (blk_lt KZ4.out) (by omega)).trans KZ4.out)
        have KK5 := Aside0.mk ((hk5.block K1 (blk_lt KK4.out) (by omega)).trans KK4.out)
        have HI5 := Aside0.mk (HI4.out.step (hk5.block i (blk_lt HI4.out.blk) (by omega)) (hk5.block m HI4.out.mp.lt (by omega)))
        have HS5 := Aside0.mk (show K1 + 2 ≤ w5.heap.size from by have := hk5.size; omega)
        rw [hw5]
        clear hw5 hk5
        clear n0 n1 n2 n3 n4 n5 n6 n7 n8 m1 c0 c1 hln
        have m1 : w5.cell? ⟨i, 1, none⟩ = some (.map (some m)) := (blk_cell HI5.out.blk 1).trans rfl
        have hsv := HS5.out
        obtain ⟨wd, hwd⟩ : ∃ wd, w5.drew = wd := ⟨_, rfl⟩
        have hbd : Below w5.heap.size w5 wd := by rw [← hwd]; exact below_drew1 (Below.refl _ _)
        have HBd := Aside0.mk (HB5.out.trans (hbd.mono HB5.out.size))
        have KXd := Aside0.mk (blk_below KX5.out hbd)
        have KZd := Aside0.mk (blk_below KZ5.out hbd)
        have KKd := Aside0.mk (blk_below KK5.out hbd)
        have KCd := Aside0.mk (blk_below KC5.out hbd)
        have HId := Aside0.mk (HI5.out.below hbd)
        have HSd := Aside0.mk (show K1 + 2 ≤ wd.heap.size from by have := hbd.size; omega)
        refine start_ (n := 7) (ds := [6]) (S := fun w' => w'.cell? ⟨i, 1, none⟩ = some (.map (some m)) ∧ w'.cell? ⟨K1, 0, none⟩ = some (.string f.fa) ∧ w'.cell? ⟨K1, 1, none⟩ = some (.string f.ct) ∧ w'.cell? ⟨K1 + 1, 0, none⟩ = some (.int .i64 f.se) ∧ w'.cell? ⟨K1 + 1, 1, none⟩ = some (.int .i64 (0))) _ (by kernel_rfl) rfl rfl
         (by rw [hwd]; exact ⟨(blk_cell HId.out.blk 1).trans rfl, (blk_cell KKd.out 0).trans rfl, (blk_cell KKd.out 1).trans rfl, (blk_cell KCd.out 0).trans rfl, (blk_cell KCd.out 1).trans rfl⟩) (fun hH => ?_)
        rw [hwd] at hH ⊢
        refine XReg.pu 0 85 (h := ?_)
        refine XReg.pu 1 86 (h := ?_)
        refine XReg.pu 2 87 (h := ?_)
        refine XReg.tk 3 88 (h := ?_)
        refine XReg.tk 4 89 (h := ?_)
        refine XReg.tk 5 90 (h := ?_)
        obtain ⟨w8, hu8, hm8, hk8⟩ := run_update Try.underlying86 keysW HId.out.mp (f.fa, f.ct) ((f.se, 0) : Curs)
        have hu8' : (Instr.mapUpdate 86 (.map (some m)) (.agg #[.string f.fa, .string f.ct]) (.agg #[.int .i64 f.se, .int .i64 (0)])).run Try.prog wd = .ok () w8 := hu8
        refine XReg.last (i := 6) none rfl rfl (by kernel_rfl) (by decide) (fun Kc hKc => ?_)
        refine skip_ (w1 := ?_) (by rfl) rfl ?_ ?_
        rotate_left
        · go_simp
          rfl
        refine hKc.out _ _ ?_
        clear hKc Kc hu8 hu8' hH m1
        refine done_ (by kernel_rfl) ?_
        have KX8 := Aside0.mk ((hk8.block N (blk_lt KXd.out) (by omega)).trans KXd.out)
        have KZ8 := Aside0.mk ((hk8.block (N + 1) (blk_lt KZd.out) (by omega)).trans KZd.out)
        have KC8 := Aside0.mk ((hk8.block (K1 + 1) (blk_lt KCd.out) (by omega)).trans KCd.out)
        have HI8 := Aside0.mk (show InAt w8 i m who (upd D (f.fa, f.ct) (f.se, 0)) from ⟨(hk8.block i (blk_lt HId.out.blk) HId.out.ne).trans HId.out.blk, hm8⟩)
        have HKA := Aside0.mk (show Keeps (fun k => k = m) w w8 from (Keeps.of_below HBd.out).trans hk8)
        skip
        clear hm8 hk8 hbd
        go_wp2
        obtain ⟨we, hwe⟩ : ∃ we, w8.drew = we := ⟨_, rfl⟩
        have hbe : Below w8.heap.size w8 we := by rw [← hwe]; exact below_drew1 (Below.refl _ _)
        have KXe := Aside0.mk (blk_below KX8.out hbe)
        have KZe := Aside0.mk (blk_below KZ8.out hbe)
        have KCe := Aside0.mk (blk_below KC8.out hbe)
        have HIe := Aside0.mk (HI8.out.below hbe)
        have HKe := Aside0.mk (HKA.out.trans (Keeps.of_below hbe))
        skip
        refine start_ (n := 17) (ds := [15]) (S := fun w' => Cells9 w' N (.int .i64 f.k) (.string f.fa) (.string f.fb) (.string f.ct) (.int .i64 f.se) (.int .i64 f.ix) (.int .i64 f.mn) (.slice A7 f.kn.length c7) (.slice A8 f.op.length c8) ∧ w'.cell? ⟨i, 0, none⟩ = some (.string who) ∧ w'.cell? ⟨K1 + 1, 0, none⟩ = some (.int .i64 f.se) ∧ w'.cell? ⟨K1 + 1, 1, none⟩ = some (.int .i64 (0))) _ (by kernel_rfl) rfl rfl
         (by rw [hwe]; exact ⟨cells9 KXe.out, (blk_cell HIe.out.blk 0).trans rfl, (blk_cell KCe.out 0).trans rfl, (blk_cell KCe.out 1).trans rfl⟩) (fun hH => ?_)
        rw [hwe] at hH ⊢
        refine XReg.pu 0 91 (h := ?_)
        refine XReg.pu 1 92 (h := ?_)
        refine XReg.pu 2 93 (h := ?_)
        refine XReg.pu 3 94 (h := ?_)
        refine XReg.tk 4 95 (hy := by (intro w' hS_; obtain ⟨⟨s0, s1, s2, s3, s4, s5, s6, s7, s8⟩, t0, t1, t2⟩ := hS_; go_simp; with_reducible rfl)) (h := ?_)
        refine XReg.pu 5 96 (h := ?_)
        refine XReg.tk 6 97 (hy := by (intro w' hS_; obtain ⟨⟨s0, s1, s2, s3, s4, s5, s6, s7, s8⟩, t0, t1, t2⟩ := hS_; go_simp; with_reducible rfl)) (h := ?_)
        refine XReg.pu 7 98 (h := ?_)
        refine XReg.tk 8 99 (hy := by (intro w' hS_; obtain ⟨⟨s0, s1, s2, s3, s4, s5, s6, s7, s8⟩, t0, t1, t2⟩ := hS_; go_simp; with_reducible rfl)) (h := ?_)
        refine XReg.pu 9 100 (h := ?_)
        refine XReg.tk 10 101 (hy := by (intro w' hS_; obtain ⟨⟨s0, s1, s2, s3, s4, s5, s6, s7, s8⟩, t0, t1, t2⟩ := hS_; go_simp; with_reducible rfl)) (h := ?_)
        refine XReg.pu 11 102 (h := ?_)
        refine XReg.tk 12 103 (hy := by (intro w' hS_; obtain ⟨⟨s0, s1, s2, s3, s4, s5, s6, s7, s8⟩, t0, t1, t2⟩ := hS_; go_simp; with_reducible rfl)) (h := ?_)
        refine XReg.pu 13 104 (h := ?_)
        refine XReg.pu 14 4 (h := ?_)
        obtain ⟨e0, e1, e2, e3, e4, e5, e6, e7, e8⟩ := cells9 KZe.out
        obtain ⟨f0, f1, f2, f3, f4, f5, f6, f7, f8⟩ := froz9 KZe.out
        refine XReg.last (i := 15) none rfl rfl (by kernel_rfl) (by decide) (fun Kc hKc => ?_)
        refine store_last rfl rfl (by first | (go_simp; done) | (go_simp; rfl)) ?_
        refine hKc.out _ _ ?_
        clear hKc Kc hH e0 e1 e2 e3 e4 e5 e6 e7 e8 f0 f1 f2 f3 f4 f5 f6 f7 f8
        refine XReg.pu 16 6 (h := ?_)
        refine done_ (by kernel_rfl) ?_
        have h9 := set9 KZe.out (.int .i64 3) (.string who) (.string f.fa) (.string f.ct) (.int .i64 f.se) (.int .i64 (0)) (.int .i64 0) (.slice none 0 0) (.slice none 0 0)
        have hk9 := keeps9 we (N + 1) (.int .i64 3) (.string who) (.string f.fa) (.string f.ct) (.int .i64 f.se) (.int .i64 (0)) (.int .i64 0) (.slice none 0 0) (.slice none 0 0)
        obtain ⟨k0, k1, k2, k3, k4, k5, k6, k7, k8⟩ := cells9 h9
        go_wp2
        have hA := HKe.out
        have hFK : Keeps (fun k => k = m) w _ := ⟨hk9.os.trans hA.os, hk9.tape.trans hA.tape, hk9.output.trans hA.output, Nat.le_trans hA.size hk9.size, fun k hk hne => (hk9.block k (by have := hA.size; omega) (by omega)).trans (hA.block k hk hne)⟩
        have hFI := InAt.step HIe.out (hk9.block i (blk_lt HIe.out.blk) (by omega)) (hk9.block m HIe.out.mp.lt (by omega))
        refine bodyPost_ret (v := .tuple #[.slice none 0 0, .agg #[.int .i64 3, .string who, .string f.fa, .string f.ct, .int .i64 f.se, .int .i64 (0), .int .i64 0, .slice none 0 0, .slice none 0 0], .int .i64 0]) (by simp [results, Try.f23, go_sem, k0, k1, k2, k3, k4, k5, k6, k7, k8]) rfl ?_
        unfold InAns
        rw [HR.out]
        exact ⟨none, 0, rfl, rfl, rfl, Nat.le_refl _, Fnil, hFI, hFK⟩
     · have qs : decide (cs < f.se) = false := by simp [zs]
       have HT1 := Aside0.mk (show curTo D f = (cs, cm) from by unfold curTo; rw [HC.out, if_neg zs])
       by_cases zx : f.ix = cm
       case pos =>
        have qx : (f.ix == cm) = true := by simp [zx]
        have HR := Aside0.mk (show inTake who D f = ⟨f.op, ⟨3, who, f.fa, f.ct, cs, cm + 1, 0, [], []⟩, 0, upd D (f.fa, f.ct) (cs, cm + 1)⟩ from by have h := HT2.out; rw [HT1.out, if_pos zx] at h; exact h)
        have HW := Aside0.mk (show wrap64 (cm + 1) = cm + 1 from by have := HOPS.out.1; have := HSZ.out.2.2.2.2.2.1; unfold wrap64; omega)
        go_wp2_with fail
        obtain ⟨w5, hw5⟩ : ∃ w5, w4 = w5 := ⟨_, rfl⟩
        have hk5 : Keeps (fun k => k = K1 + 1) w4 w5 := by rw [← hw5]; exact Keeps.refl _ _
        have KC5 := Aside0.mk (show w5.heap[K1 + 1]? = some (.cells #[.int .i64 cs, .int .i64 cm] 95 (0, 0)) from by rw [← hw5]; exact KC4.out)
        have HB5 := Aside0.mk (below_keeps HB4.out (fun k hk => by omega) (by have := HB4.out.size; omega) hk5)
        have KX5 := Aside0.mk ((hk5.block N (blk_lt KX4.out) (by omega)).trans KX4.out)
        have KZ5 := Aside0.mk ((hk5.block (N + 1) (blk_lt KZ4.out) (by omega)).trans KZ4.out)
        have KK5 := Aside0.mk ((hk5.block K1 (blk_lt KK4.out) (by omega)).trans KK4.out)
        have HI5 := Aside0.mk (HI4.out.step (hk5.block i (blk_lt HI4.out.blk) (by omega)) (hk5.block m HI4.out.mp.lt (by omega)))
        have HS5 := Aside0.mk (show K1 + 2 ≤ w5.heap.size from by have := hk5.size; omega)
        rw [hw5]
        clear hw5 hk5
        refine (owns_calls f.op A8 c8 w5 (Kd.C_below HG8.out HB5.out) HL8.out (by have := HOPS.out.2.1; omega) HOPS.out.2.2).mono ?_
        rintro e w6 ⟨v0, rfl, hS, hb6⟩
        obtain ⟨B8, d8, rfl⟩ := Kd.S_slice hS
        have HSL := Aside0.mk hS
        have HB6 := Aside0.mk (HB5.out.trans (hb6.mono HB5.out.size))
        have KX6 := Aside0.mk (blk_below KX5.out hb6)
        have KZ6 := Aside0.mk (blk_below KZ5.out hb6)
        have KK6 := Aside0.mk (blk_below KK5.out hb6)
        have KC6 := Aside0.mk (blk_below KC5.out hb6)
        have HI6 := Aside0.mk (HI5.out.below hb6)
        have HS6 := Aside0.mk (show K1 + 2 ≤ w5.heap.size ∧ w5.heap.size ≤ w6.heap.size from ⟨by have := HS5.out; omega, hb6.size⟩)
        have c1 : w6.cell? ⟨K1 + 1, 1, none⟩ = some (.int .i64 cm) := (blk_cell KC6.out 1).trans rfl
        have f1 := blk_frozen KC6.out 1
        clear hS hb6 HB5 KX5 KZ5 KK5 KC5 HI5 HS5 n0 n1 n2 n3 n4 n5 n6 n7 n8 m1 c0 hln
        go_wp2
        obtain ⟨w7, hw7⟩ : ∃ w7, w6.setCell ⟨K1 + 1, 1, none⟩ (.int .i64 (cm + 1)) = w7 := ⟨_, rfl⟩
        have hk7 : Keeps (fun k => k = K1 + 1) w6 w7 := by rw [← hw7]; exact Keeps.setCell (M := fun k => k = K1 + 1) (Keeps.refl _ _) (p := ⟨K1 + 1, 1, none⟩) (.inl rfl) _
        have KC7 := Aside0.mk (show w7.heap[K1 + 1]? = some (.cells #[.int .i64 cs, .int .i64 (cm + 1)] 95 (0, 0)) from by rw [← hw7]; exact blk_set KC6.out 1 _)
        have hs6 := HS6.out
        have HB7 := Aside0.mk (below_keeps HB6.out (fun k hk => by omega) HB6.out.size hk7)
        have KX7 := Aside0.mk ((hk7.block N (blk_lt KX6.out) (by omega)).trans KX6.out)
        have KZ7 := Aside0.mk ((hk7.block (N + 1) (blk_lt KZ6.out) (by omega)).trans KZ6.out)
        have KK7 := Aside0.mk ((hk7.block K1 (blk_lt KK6.out) (by omega)).trans KK6.out)
        have HI7 := Aside0.mk (HI6.out.step (hk7.block i (blk_lt HI6.out.blk) (by omega)) (hk7.block m HI6.out.mp.lt (by omega)))
        have HS7 := Aside0.mk (show K1 + 2 ≤ w7.heap.size from by have := hk7.size; omega)
        have HSL7 := Aside0.mk (Kd.S_step (Kd.S_bound HSL.out) (fun k hk hlt => hk7.block k hlt (by have := hk.2.1; omega)))
        first | rw [hw7] | (rw [HW.out, hw7])
        clear hw7 hk7 HB6 KX6 KZ6 KK6 KC6 HI6 HSL c1 f1
        have m1 : w7.cell? ⟨i, 1, none⟩ = some (.map (some m)) := (blk_cell HI7.out.blk 1).trans rfl
        have hsv := HS7.out
        obtain ⟨wd, hwd⟩ : ∃ wd, w7.drew = wd := ⟨_, rfl⟩
        have hbd : Below w7.heap.size w7 wd := by rw [← hwd]; exact below_drew1 (Below.refl _ _)
        have HBd := Aside0.mk (HB7.out.trans (hbd.mono HB7.out.size))
        have KXd := Aside0.mk (blk_below KX7.out hbd)
        have KZd := Aside0.mk (blk_below KZ7.out hbd)
        have KKd := Aside0.mk (blk_below KK7.out hbd)
        have KCd := Aside0.mk (blk_below KC7.out hbd)
        have HId := Aside0.mk (HI7.out.below hbd)
        have HSd := Aside0.mk (show K1 + 2 ≤ wd.heap.size from by have := hbd.size; omega)
        refine start_ (n := 7) (ds := [6]) (S := fun w' => w'.cell? ⟨i, 1, none⟩ = some (.map (some m)) ∧ w'.cell? ⟨K1, 0, none⟩ = some (.string f.fa) ∧ w'.cell? ⟨K1, 1, none⟩ = some (.string f.ct) ∧ w'.cell? ⟨K1 + 1, 0, none⟩ = some (.int .i64 cs) ∧ w'.cell? ⟨K1 + 1, 1, none⟩ = some (.int .i64 (cm + 1))) _ (by kernel_rfl) rfl rfl
         (by rw [hwd]; exact ⟨(blk_cell HId.out.blk 1).trans rfl, (blk_cell KKd.out 0).trans rfl, (blk_cell KKd.out 1).trans rfl, (blk_cell KCd.out 0).trans rfl, (blk_cell KCd.out 1).trans rfl⟩) (fun hH => ?_)
        rw [hwd] at hH ⊢
        refine XReg.pu 0 85 (h := ?_)
        refine XReg.pu 1 86 (h := ?_)
        refine XReg.pu 2 87 (h := ?_)
        refine XReg.tk 3 88 (h := ?_)
        refine XReg.tk 4 89 (h := ?_)
        refine XReg.tk 5 90 (h := ?_)
        obtain ⟨w8, hu8, hm8, hk8⟩ := run_update Try.underlying86 keysW HId.out.mp (f.fa, f.ct) ((cs, cm + 1) : Curs)
        have hu8' : (Instr.mapUpdate 86 (.map (some m)) (.agg #[.string f.fa, .string f.ct]) (.agg #[.int .i64 cs, .int .i64 (cm + 1)])).run Try.prog wd = .ok () w8 := hu8
        refine XReg.last (i := 6) none rfl rfl (by kernel_rfl) (by decide) (fun Kc hKc => ?_)
        refine skip_ (w1 := ?_) (by rfl) rfl ?_ ?_
        rotate_left
        · go_simp
          rfl
        refine hKc.out _ _ ?_
        clear hKc Kc hu8 hu8' hH m1
        refine done_ (by kernel_rfl) ?_
        have KX8 := Aside0.mk ((hk8.block N (blk_lt KXd.out) (by omega)).trans KXd.out)
        have KZ8 := Aside0.mk ((hk8.block (N + 1) (blk_lt KZd.out) (by omega)).trans KZd.out)
        have KC8 := Aside0.mk ((hk8.block (K1 + 1) (blk_lt KCd.out) (by omega)).trans KCd.out)
        have HI8 := Aside0.mk (show InAt w8 i m who (upd D (f.fa, f.ct) (cs, cm + 1)) from ⟨(hk8.block i (blk_lt HId.out.blk) HId.out.ne).trans HId.out.blk, hm8⟩)
        have HKA := Aside0.mk (show Keeps (fun k => k = m) w w8 from (Keeps.of_below HBd.out).trans hk8)
        have HSL8 := Aside0.mk (Kd.S_step (Kd.S_step HSL7.out (fun k hk hlt => hbd.block k hlt)) (fun k hk hlt => hk8.block k hlt (by have := hk.2.1; have := HS6.out; omega)))
        clear hm8 hk8 hbd
        go_wp2
        obtain ⟨we, hwe⟩ : ∃ we, w8.drew = we := ⟨_, rfl⟩
        have hbe : Below w8.heap.size w8 we := by rw [← hwe]; exact below_drew1 (Below.refl _ _)
        have KXe := Aside0.mk (blk_below KX8.out hbe)
        have KZe := Aside0.mk (blk_below KZ8.out hbe)
        have KCe := Aside0.mk (blk_below KC8.out hbe)
        have HIe := Aside0.mk (HI8.out.below hbe)
        have HKe := Aside0.mk (HKA.out.trans (Keeps.of_below hbe))
        have HSLe := Aside0.mk (Kd.S_step HSL8.out (fun k hk hlt => hbe.block k hlt))
        refine start_ (n := 17) (ds := [15]) (S := fun w' => Cells9 w' N (.int .i64 f.k) (.string f.fa) (.string f.fb) (.string f.ct) (.int .i64 f.se) (.int .i64 f.ix) (.int .i64 f.mn) (.slice A7 f.kn.length c7) (.slice A8 f.op.length c8) ∧ w'.cell? ⟨i, 0, none⟩ = some (.string who) ∧ w'.cell? ⟨K1 + 1, 0, none⟩ = some (.int .i64 cs) ∧ w'.cell? ⟨K1 + 1, 1, none⟩ = some (.int .i64 (cm + 1))) _ (by kernel_rfl) rfl rfl
         (by rw [hwe]; exact ⟨cells9 KXe.out, (blk_cell HIe.out.blk 0).trans rfl, (blk_cell KCe.out 0).trans rfl, (blk_cell KCe.out 1).trans rfl⟩) (fun hH => ?_)
        rw [hwe] at hH ⊢
        refine XReg.pu 0 91 (h := ?_)
        refine XReg.pu 1 92 (h := ?_)
        refine XReg.pu 2 93 (h := ?_)
        refine XReg.pu 3 94 (h := ?_)
        refine XReg.tk 4 95 (hy := by (intro w' hS_; obtain ⟨⟨s0, s1, s2, s3, s4, s5, s6, s7, s8⟩, t0, t1, t2⟩ := hS_; go_simp; with_reducible rfl)) (h := ?_)
        refine XReg.pu 5 96 (h := ?_)
        refine XReg.tk 6 97 (hy := by (intro w' hS_; obtain ⟨⟨s0, s1, s2, s3, s4, s5, s6, s7, s8⟩, t0, t1, t2⟩ := hS_; go_simp; with_reducible rfl)) (h := ?_)
        refine XReg.pu 7 98 (h := ?_)
        refine XReg.tk 8 99 (hy := by (intro w' hS_; obtain ⟨⟨s0, s1, s2, s3, s4, s5, s6, s7, s8⟩, t0, t1, t2⟩ := hS_; go_simp; with_reducible rfl)) (h := ?_)
        refine XReg.pu 9 100 (h := ?_)
        refine XReg.tk 10 101 (hy := by (intro w' hS_; obtain ⟨⟨s0, s1, s2, s3, s4, s5, s6, s7, s8⟩, t0, t1, t2⟩ := hS_; go_simp; with_reducible rfl)) (h := ?_)
        refine XReg.pu 11 102 (h := ?_)
        refine XReg.tk 12 103 (hy := by (intro w' hS_; obtain ⟨⟨s0, s1, s2, s3, s4, s5, s6, s7, s8⟩, t0, t1, t2⟩ := hS_; go_simp; with_reducible rfl)) (h := ?_)
        refine XReg.pu 13 104 (h := ?_)
        refine XReg.pu 14 4 (h := ?_)
        obtain ⟨e0, e1, e2, e3, e4, e5, e6, e7, e8⟩ := cells9 KZe.out
        obtain ⟨f0, f1, f2, f3, f4, f5, f6, f7, f8⟩ := froz9 KZe.out
        refine XReg.last (i := 15) none rfl rfl (by kernel_rfl) (by decide) (fun Kc hKc => ?_)
        refine store_last rfl rfl (by first | (go_simp; done) | (go_simp; rfl)) ?_
        refine hKc.out _ _ ?_
        clear hKc Kc hH e0 e1 e2 e3 e4 e5 e6 e7 e8 f0 f1 f2 f3 f4 f5 f6 f7 f8
        refine XReg.pu 16 6 (h := ?_)
        refine done_ (by kernel_rfl) ?_
        have h9 := set9 KZe.out (.int .i64 3) (.string who) (.string f.fa) (.string f.ct) (.int .i64 cs) (.int .i64 (cm + 1)) (.int .i64 0) (.slice none 0 0) (.slice none 0 0)
        have hk9 := keeps9 we (N + 1) (.int .i64 3) (.string who) (.string f.fa) (.string f.ct) (.int .i64 cs) (.int .i64 (cm + 1)) (.int .i64 0) (.slice none 0 0) (.slice none 0 0)
        obtain ⟨k0, k1, k2, k3, k4, k5, k6, k7, k8⟩ := cells9 h9
        go_wp2
        have hA := HKe.out
        have hFK : Keeps (fun k => k = m) w _ := ⟨hk9.os.trans hA.os, hk9.tape.trans hA.tape, hk9.output.trans hA.output, Nat.le_trans hA.size hk9.size, fun k hk hne => (hk9.block k (by have := hA.size; omega) (by omega)).trans (hA.block k hk hne)⟩
        have hFI := InAt.step HIe.out (hk9.block i (blk_lt HIe.out.blk) (by omega)) (hk9.block m HIe.out.mp.lt (by omega))
        refine bodyPost_ret (v := .tuple #[.slice B8 f.op.length d8, .agg #[.int .i64 3, .string who, .string f.fa, .string f.ct, .int .i64 cs, .int .i64 (cm + 1), .int .i64 0, .slice none 0 0, .slice none 0 0], .int .i64 0]) (by simp [results, Try.f23, go_sem, k0, k1, k2, k3, k4, k5, k6, k7, k8]) rfl ?_
        unfold InAns
        rw [HR.out]
        have hS9 := Kd.S_step HSLe.out (fun k hk hlt => hk9.block k hlt (by have := hk.2.1; have := HS6.out; omega))
        exact ⟨B8, d8, rfl, rfl, rfl, (Kd.S_reads' hS9).2.1, Kd.F_mono (Kd.S_F (Kd.S_bound hS9)) (fun k hk => ⟨by have := hk.2.1; have := HS6.out; omega, hk.2.2.2⟩), hFI, hFK⟩
       case neg =>
        have qx : (f.ix == cm) = false := by simp [zx]
        have HR := Aside0.mk (show inTake who D f = ⟨[], ⟨3, who, f.fa, f.ct, cs, cm, 0, [], []⟩, 0, upd D (f.fa, f.ct) (cs, cm)⟩ from by rw [HT2.out, HT1.out, if_neg zx])
        go_wp2
        obtain ⟨w5, hw5⟩ : ∃ w5, w4 = w5 := ⟨_, rfl⟩
        have hk5 : Keeps (fun k => k = K1 + 1) w4 w5 := by rw [← hw5]; exact Keeps.refl _ _
        have KC5 := Aside0.mk (show w5.heap[K1 + 1]? = some (.cells #[.int .i64 cs, .int .i64 cm] 95 (0, 0)) from by rw [← hw5]; exact KC4.out)
        have HB5 := Aside0.mk (below_keeps HB4.out (fun k hk => by omega) (by have := HB4.out.size; omega) hk5)
        have KX5 := Aside0.mk ((hk5.block N (blk_lt KX4.out) (by omega)).trans KX4.out)
        have KZ5 := Aside0.mk ((hk5.block (N + 1) (blk_lt KZ4.out) (by omega)).trans KZ4.out)
        have KK5 := Aside0.mk ((hk5.block K1 (blk_lt KK4.out) (by omega)).trans KK4.out)
        have HI5 := Aside0.mk (HI4.out.step (hk5.block i (blk_lt HI4.out.blk) (by omega)) (hk5.block m HI4.out.mp.lt (by omega)))
        have HS5 := Aside0.mk (show K1 + 2 ≤ w5.heap.size from by have := hk5.size; omega)
        rw [hw5]
        clear hw5 hk5
        clear n0 n1 n2 n3 n4 n5 n6 n7 n8 m1 c0 c1 hln
        have m1 : w5.cell? ⟨i, 1, none⟩ = some (.map (some m)) := (blk_cell HI5.out.blk 1).trans rfl
        have hsv := HS5.out
        obtain ⟨wd, hwd⟩ : ∃ wd, w5.drew = wd := ⟨_, rfl⟩
        have hbd : Below w5.heap.size w5 wd := by rw [← hwd]; exact below_drew1 (Below.refl _ _)
        have HBd := Aside0.mk (HB5.out.trans (hbd.mono HB5.out.size))
        have KXd := Aside0.mk (blk_below KX5.out hbd)
        have KZd := Aside0.mk (blk_below KZ5.out hbd)
        have KKd := Aside0.mk (blk_below KK5.out hbd)
        have KCd := Aside0.mk (blk_below KC5.out hbd)
        have HId := Aside0.mk (HI5.out.below hbd)
        have HSd := Aside0.mk (show K1 + 2 ≤ wd.heap.size from by have := hbd.size; omega)
        refine start_ (n := 7) (ds := [6]) (S := fun w' => w'.cell? ⟨i, 1, none⟩ = some (.map (some m)) ∧ w'.cell? ⟨K1, 0, none⟩ = some (.string f.fa) ∧ w'.cell? ⟨K1, 1, none⟩ = some (.string f.ct) ∧ w'.cell? ⟨K1 + 1, 0, none⟩ = some (.int .i64 cs) ∧ w'.cell? ⟨K1 + 1, 1, none⟩ = some (.int .i64 (cm))) _ (by kernel_rfl) rfl rfl
         (by rw [hwd]; exact ⟨(blk_cell HId.out.blk 1).trans rfl, (blk_cell KKd.out 0).trans rfl, (blk_cell KKd.out 1).trans rfl, (blk_cell KCd.out 0).trans rfl, (blk_cell KCd.out 1).trans rfl⟩) (fun hH => ?_)
        rw [hwd] at hH ⊢
        refine XReg.pu 0 85 (h := ?_)
        refine XReg.pu 1 86 (h := ?_)
        refine XReg.pu 2 87 (h := ?_)
        refine XReg.tk 3 88 (h := ?_)
        refine XReg.tk 4 89 (h := ?_)
        refine XReg.tk 5 90 (h := ?_)
        obtain ⟨w8, hu8, hm8, hk8⟩ := run_update Try.underlying86 keysW HId.out.mp (f.fa, f.ct) ((cs, cm) : Curs)
        have hu8' : (Instr.mapUpdate 86 (.map (some m)) (.agg #[.string f.fa, .string f.ct]) (.agg #[.int .i64 cs, .int .i64 (cm)])).run Try.prog wd = .ok () w8 := hu8
        refine XReg.last (i := 6) none rfl rfl (by kernel_rfl) (by decide) (fun Kc hKc => ?_)
        refine skip_ (w1 := ?_) (by rfl) rfl ?_ ?_
        rotate_left
        · go_simp
          rfl
        refine hKc.out _ _ ?_
        clear hKc Kc hu8 hu8' hH m1
        refine done_ (by kernel_rfl) ?_
        have KX8 := Aside0.mk ((hk8.block N (blk_lt KXd.out) (by omega)).trans KXd.out)
        have KZ8 := Aside0.mk ((hk8.block (N + 1) (blk_lt KZd.out) (by omega)).trans KZd.out)
        have KC8 := Aside0.mk ((hk8.block (K1 + 1) (blk_lt KCd.out) (by omega)).trans KCd.out)
        have HI8 := Aside0.mk (show InAt w8 i m who (upd D (f.fa, f.ct) (cs, cm)) from ⟨(hk8.block i (blk_lt HId.out.blk) HId.out.ne).trans HId.out.blk, hm8⟩)
        have HKA := Aside0.mk (show Keeps (fun k => k = m) w w8 from (Keeps.of_below HBd.out).trans hk8)
        skip
        clear hm8 hk8 hbd
        go_wp2
        obtain ⟨we, hwe⟩ : ∃ we, w8.drew = we := ⟨_, rfl⟩
        have hbe : Below w8.heap.size w8 we := by rw [← hwe]; exact below_drew1 (Below.refl _ _)
        have KXe := Aside0.mk (blk_below KX8.out hbe)
        have KZe := Aside0.mk (blk_below KZ8.out hbe)
        have KCe := Aside0.mk (blk_below KC8.out hbe)
        have HIe := Aside0.mk (HI8.out.below hbe)
        have HKe := Aside0.mk (HKA.out.trans (Keeps.of_below hbe))
        skip
        refine start_ (n := 17) (ds := [15]) (S := fun w' => Cells9 w' N (.int .i64 f.k) (.string f.fa) (.string f.fb) (.string f.ct) (.int .i64 f.se) (.int .i64 f.ix) (.int .i64 f.mn) (.slice A7 f.kn.length c7) (.slice A8 f.op.length c8) ∧ w'.cell? ⟨i, 0, none⟩ = some (.string who) ∧ w'.cell? ⟨K1 + 1, 0, none⟩ = some (.int .i64 cs) ∧ w'.cell? ⟨K1 + 1, 1, none⟩ = some (.int .i64 (cm))) _ (by kernel_rfl) rfl rfl
         (by rw [hwe]; exact ⟨cells9 KXe.out, (blk_cell HIe.out.blk 0).trans rfl, (blk_cell KCe.out 0).trans rfl, (blk_cell KCe.out 1).trans rfl⟩) (fun hH => ?_)
        rw [hwe] at hH ⊢
        refine XReg.pu 0 91 (h := ?_)
        refine XReg.pu 1 92 (h := ?_)
        refine XReg.pu 2 93 (h := ?_)
        refine XReg.pu 3 94 (h := ?_)
        refine XReg.tk 4 95 (hy := by (intro w' hS_; obtain ⟨⟨s0, s1, s2, s3, s4, s5, s6, s7, s8⟩, t0, t1, t2⟩ := hS_; go_simp; with_reducible rfl)) (h := ?_)
        refine XReg.pu 5 96 (h := ?_)
        refine XReg.tk 6 97 (hy := by (intro w' hS_; obtain ⟨⟨s0, s1, s2, s3, s4, s5, s6, s7, s8⟩, t0, t1, t2⟩ := hS_; go_simp; with_reducible rfl)) (h := ?_)
        refine XReg.pu 7 98 (h := ?_)
        refine XReg.tk 8 99 (hy := by (intro w' hS_; obtain ⟨⟨s0, s1, s2, s3, s4, s5, s6, s7, s8⟩, t0, t1, t2⟩ := hS_; go_simp; with_reducible rfl)) (h := ?_)
        refine XReg.pu 9 100 (h := ?_)
        refine XReg.tk 10 101 (hy := by (intro w' hS_; obtain ⟨⟨s0, s1, s2, s3, s4, s5, s6, s7, s8⟩, t0, t1, t2⟩ := hS_; go_simp; with_reducible rfl)) (h := ?_)
        refine XReg.pu 11 102 (h := ?_)
        refine XReg.tk 12 103 (hy := by (intro w' hS_; obtain ⟨⟨s0, s1, s2, s3, s4, s5, s6, s7, s8⟩, t0, t1, t2⟩ := hS_; go_simp; with_reducible rfl)) (h := ?_)
        refine XReg.pu 13 104 (h := ?_)
        refine XReg.pu 14 4 (h := ?_)
        obtain ⟨e0, e1, e2, e3, e4, e5, e6, e7, e8⟩ := cells9 KZe.out
        obtain ⟨f0, f1, f2, f3, f4, f5, f6, f7, f8⟩ := froz9 KZe.out
        refine XReg.last (i := 15) none rfl rfl (by kernel_rfl) (by decide) (fun Kc hKc => ?_)
        refine store_last rfl rfl (by first | (go_simp; done) | (go_simp; rfl)) ?_
        refine hKc.out _ _ ?_
        clear hKc Kc hH e0 e1 e2 e3 e4 e5 e6 e7 e8 f0 f1 f2 f3 f4 f5 f6 f7 f8
        refine XReg.pu 16 6 (h := ?_)
        refine done_ (by kernel_rfl) ?_
        have h9 := set9 KZe.out (.int .i64 3) (.string who) (.string f.fa) (.string f.ct) (.int .i64 cs) (.int .i64 (cm)) (.int .i64 0) (.slice none 0 0) (.slice none 0 0)
        have hk9 := keeps9 we (N + 1) (.int .i64 3) (.string who) (.string f.fa) (.string f.ct) (.int .i64 cs) (.int .i64 (cm)) (.int .i64 0) (.slice none 0 0) (.slice none 0 0)
        obtain ⟨k0, k1, k2, k3, k4, k5, k6, k7, k8⟩ := cells9 h9
        go_wp2
        have hA := HKe.out
        have hFK : Keeps (fun k => k = m) w _ := ⟨hk9.os.trans hA.os, hk9.tape.trans hA.tape, hk9.output.trans hA.output, Nat.le_trans hA.size hk9.size, fun k hk hne => (hk9.block k (by have := hA.size; omega) (by omega)).trans (hA.block k hk hne)⟩
        have hFI := InAt.step HIe.out (hk9.block i (blk_lt HIe.out.blk) (by omega)) (hk9.block m HIe.out.mp.lt (by omega))
        refine bodyPost_ret (v := .tuple #[.slice none 0 0, .agg #[.int .i64 3, .string who, .string f.fa, .string f.ct, .int .i64 cs, .int .i64 (cm), .int .i64 0, .slice none 0 0, .slice none 0 0], .int .i64 0]) (by simp [results, Try.f23, go_sem, k0, k1, k2, k3, k4, k5, k6, k7, k8]) rfl ?_
        unfold InAns
        rw [HR.out]
        exact ⟨none, 0, rfl, rfl, rfl, Nat.le_refl _, Fnil, hFI, hFK⟩
end Go.Proofs.Ytjejhgjdmbodiaa.PO
