/- What the rows of this claim use, out of the texts of this work (SV). No condition beyond those that each statement names. -/
import Derived.Test.YtjejhgjdmbodiaaZdSZ
namespace Go.Proofs.Ytjejhgjdmbodiaa.PO
open Go.RowKit Go.Proofs.YtjejhgjdmbodiaaW.PrintWords Go.Proofs.YtjejhgjdmbodiaaW.PrintLast Go.Proofs.YtjejhgjdmbodiaaW.PrintMore Go.Proofs.Ytjejhgjdmbodiaa.XW
open Go.Proofs.Ytjejhgjdmbodiaa.XRange Go.Proofs.Ytjejhgjdmbodiaa.XMap
set_option linter.unusedVariables false
set_option linter.unusedSimpArgs false
def MG (G : Nat → Prop) (g : Nat) (w : World) (k : Nat) : Prop := k = g ∨ (G k ∧ ∃ cells, w.heap[k]? = some (.cells cells 99 (0, 0)))
theorem keeps_then {M : Nat → Prop} {A B C : World} (h : Keeps M A B) {b : Nat} (hk : Keeps (fun k => k = b) B C) (hb : b < A.heap.size → M b) : Keeps M A C :=
 ⟨hk.os.trans h.os, hk.tape.trans h.tape, hk.output.trans h.output, Nat.le_trans h.size hk.size, fun k hlt hn => (hk.block k (Nat.lt_of_lt_of_le hlt h.size) (fun e => hn (by rw [e] at hlt ⊢; exact hb hlt))).trans (h.block k hlt hn)⟩
def RefAns (G : Nat → Prop) (w : World) (g : Nat) (who : ByteArray) (E : List (Whose × Curs)) (f : Fr) (e : Ending) (w' : World) : Prop :=
 ∃ A8 c8, e = .returned (.tuple #[.slice A8 (refInTake who E f).l.length c8, .agg #[.int .i64 (refInTake who E f).fr.k, .string (refInTake who E f).fr.fa, .string (refInTake who E f).fr.fb, .string (refInTake who E f).fr.ct, .int .i64 (refInTake who E f).fr.se, .int .i64 (refInTake who E f).fr.ix, .int .i64 (refInTake who E f).fr.mn, .slice none 0 0, .slice none 0 0], .int .i64 (refInTake who E f).er]) ∧
  (refInTake who E f).fr.kn = [] ∧ (refInTake who E f).fr.op = [] ∧ (refInTake who E f).l.length ≤ c8 ∧ Kd.C k74 w' A8 (refInTake who E f).l.length (refInTake who E f).l ∧ RefIn G w' g who (refInTake who E f).D ∧ Keeps (MG G g w) w w'
theorem refAns_none {G : Nat → Prop} {w w' : World} {g : Nat} {who : ByteArray} {E : List (Whose × Curs)} {f : Fr} (er : Int) (h : refInTake who E f = ⟨[], zF, er, E⟩) (hi : RefIn G w' g who E) (hk : Keeps (MG G g w) w w') :
 RefAns G w g who E f (.returned (.tuple #[.slice none 0 0, .agg #[.int .i64 0, .string ⟨#[]⟩, .string ⟨#[]⟩, .string ⟨#[]⟩, .int .i64 0, .int .i64 0, .int .i64 0, .slice none 0 0, .slice none 0 0], .int .i64 er])) w' := by
 unfold RefAns
 rw [h]
 exact ⟨none, 0, rfl, rfl, rfl, Nat.le_refl _, Kd.C_nil _ _, hi, hk⟩
theorem addr0 (b n : Nat) : (Addr.add ⟨b, 0, none⟩ n) = ⟨b, n, none⟩ := by
 by_cases h : n = 0
 · subst h; rfl
 · simp [Addr.add, h]
theorem set_same {α : Type} {l : List α} {i : Nat} {x : α} (h : l[i]? = some x) : l.set i x = l := by
 obtain ⟨h1, h2⟩ := List.getElem?_eq_some_iff.1 h
 rw [← h2, List.set_getElem_self]
theorem r99_cells {W : World} {base n c i : Nat} {ok : Nat → Prop} {ad : Addr} {E : List (Whose × Curs)} {k : Whose} {u : Curs} {b : Nat} (h : Kd.R k99 99 W base ok (.slice (some ad) n c) (E.map toC)) (hE : E[i]? = some (k, u)) (had : ad = ⟨b, 0, none⟩) :
 W.cell? ⟨(ad.add (i * 4)).block, (ad.add (i * 4)).off + 2, none⟩ = some (.int .i64 u.1) ∧ W.cell? ⟨(ad.add (i * 4)).block, (ad.add (i * 4)).off + 3, none⟩ = some (.int .i64 u.2) ∧ W.frozen? ⟨(ad.add (i * 4)).block, (ad.add (i * 4)).off + 2, none⟩ = false ∧ W.frozen? ⟨(ad.add (i * 4)).block, (ad.add (i * 4)).off + 3, none⟩ = false := by
 have hi : i < (E.map toC).length := by rw [List.length_map]; exact (List.getElem?_eq_some_iff.1 hE).1
 have h2 := (j_facts hi).1
 obtain ⟨ad', e, _, _, f2, f3⟩ := at_T99 (Kd.R_reads' h).2.2 (i : Int) h2.1 h2.2
 cases e
 rw [rd_toC hE] at f2 f3
 simp only [Int.toNat_natCast] at f2 f3
 obtain ⟨g, cap, hv, _, _, cells, hg⟩ := Kd.R_form h (by omega)
 simp only [Value.slice.injEq, Option.some.injEq] at hv
 have hgb : g = b := by have := hv.1; rw [had] at this; exact (Addr.mk.inj this).1.symm
 subst hgb
 rw [had, addr0] at f2 f3 ⊢
 exact ⟨f2, f3, blk_frozen hg _, blk_frozen hg _⟩
theorem R99_keep {w w1 : World} {base N : Nat} {ok : Nat → Prop} {v : Value} {xs : List S99} {cs : Array Value} (h : Kd.R k99 99 w base ok v xs) (hk : Keeps (fun k => k = N) w w1) (hN : w.heap[N]? = some (.cells cs 34 (0, 0))) : Kd.R k99 99 w1 base ok v xs := by
 have h2 := Kd.R_types h hN (fun q hq => by
  rw [show (99 :: k99.E) = [99] from rfl] at hq
  rw [List.mem_singleton.1 hq]
  decide)
 exact Kd.R_mono (Kd.R_step h2 (fun k hk2 hlt => hk.block k hlt hk2.2)) (fun k hk2 => hk2.1)
theorem F_nil {α : Type} {d : Kd α} {w : World} {ok : Nat → Prop} : Kd.F d w ok none ([] : List α).length [] := fun _ _ => Kd.C_nil _ _
theorem info99 : (Try.prog.info? 99).map (fun i => (i.zero, i.size, i.bytes)) = some (some (.agg #[.string ⟨#[]⟩, .string ⟨#[]⟩, .int .i64 0, .int .i64 0]), 4, 48) := by kernel_rfl
theorem k99_KM {w : World} {base : Nat} {ok : Nat → Prop} {x : S99} {cs : List Value} (h : k99.K w x cs) : k99.M w base ok x cs := by
 obtain rfl := k99_open h
 exact k99_mkM _ _ _ _
theorem refIn_new {G : Nat → Prop} {w w' : World} {g : Nat} {who : ByteArray} {E : List (Whose × Curs)} (h : RefIn G w g who E) (hb : Below w.heap.size w w') : RefIn G w' g who E := h.below hb
set_option maxHeartbeats 8000000 in
set_option maxRecDepth 100000 in
theorem refInTake_calls (G : Nat → Prop) (g : Nat) (who : ByteArray) (E : List (Whose × Curs)) (f : Fr) (A7 : Option Addr) (c7 : Nat) (A8 : Option Addr) (c8 : Nat) (w : World) (h : RefIn G w g who E) (hE : E.length ≤ 1000000) (hs : srt E) (hG : ∀ k, w.heap.size ≤ k → G k) (l7 : f.kn.length ≤ c7) (g7 : Kd.C k72 w A7 f.kn.length f.kn) (l8 : f.op.length ≤ c8) (g8 : Kd.F k74 w (fun k => k ≠ g ∧ ¬ G k) A8 f.op.length f.op) (m : Nat) (hz : WfF m f) :
 Calls Try.prog 24 #[.pointer (some ⟨g, 0, none⟩), .agg #[.int .i64 f.k, .string f.fa, .string f.fb, .string f.ct, .int .i64 f.se, .int .i64 f.ix, .int .i64 f.mn, .slice A7 f.kn.length c7, .slice A8 f.op.length c8]] w (RefAns G w g who E f) := by
 obtain ⟨ng, A, c, hg, hR⟩ := h
 have HH := Aside0.mk (show RefIn G w g who E from ⟨ng, A, c, hg, hR⟩)
 have HL7 := Aside0.mk l7
 have HG7 := Aside0.mk g7
 have HL8 := Aside0.mk l8
 have HG8 := Aside0.mk g8
 have HEL := Aside0.mk hE
 have HS := Aside0.mk hs
 have HZ := Aside0.mk hz
 have HGG := Aside0.mk hG
 have HGw := Aside0.mk hg
 have HRw := Aside0.mk hR
 have hgN := blk_lt hg
 obtain ⟨N, hN⟩ : ∃ N, w.heap.size = N := ⟨_, rfl⟩
 clear l7 g7 l8 g8 hE hs hz hG hg hR
 obtain ⟨w0, hw0⟩ : ∃ w0, (w.alloc (.cells #[.int .i64 f.k, .string f.fa, .string f.fb, .string f.ct, .int .i64 f.se, .int .i64 f.ix, .int .i64 f.mn, .slice A7 f.kn.length c7, .slice A8 f.op.length c8] 34)).alloc (.cells #[.int .i64 0, .string ⟨#[]⟩, .string ⟨#[]⟩, .string ⟨#[]⟩, .int .i64 0, .int .i64 0, .int .i64 0, .slice none 0 0, .slice none 0 0] 34) = w0 := ⟨_, rfl⟩
 have HB0 := Aside0.mk (show Below w.heap.size w w0 from by rw [← hw0]; exact ((Below.refl _ w).alloc (Nat.le_refl _) _).alloc (by simp) _)
 have KX := Aside0.mk (show w0.heap[N]? = some (.cells #[.int .i64 f.k, .string f.fa, .string f.fb, .string f.ct, .int .i64 f.se, .int .i64 f.ix, .int .i64 f.mn, .slice A7 f.kn.length c7, .slice A8 f.op.length c8] 34 (0, 0)) from by rw [← hw0, ← hN]; exact blk_alloc (World.alloc_heap_new w _) _)
 have KZ := Aside0.mk (show w0.heap[N + 1]? = some (.cells #[.int .i64 0, .string ⟨#[]⟩, .string ⟨#[]⟩, .string ⟨#[]⟩, .int .i64 0, .int .i64 0, .int .i64 0, .slice none 0 0, .slice none 0 0] 34 (0, 0)) from by
  rw [← hw0, ← hN]
  have h := World.alloc_heap_new (w.alloc (.cells #[.int .i64 f.k, .string f.fa, .string f.fb, .string f.ct, .int .i64 f.se, .int .i64 f.ix, .int .i64 f.mn, .slice A7 f.kn.length c7, .slice A8 f.op.length c8] 34)) (.cells #[.int .i64 0, .string ⟨#[]⟩, .string ⟨#[]⟩, .string ⟨#[]⟩, .int .i64 0, .int .i64 0, .int .i64 0, .slice none 0 0, .slice none 0 0] 34)
  simpa using h)
 have HS0 := Aside0.mk (show w0.heap.size = N + 2 from by rw [← hw0, ← hN]; simp)
 obtain ⟨n0, n1, n2, n3, n4, n5, n6, n7, n8⟩ := cells9 KX.out
 obtain ⟨br, hbr⟩ : ∃ b, rightF f = b := ⟨_, rfl⟩
 have HBR := Aside0.mk hbr
 clear hbr
 go_enter Try.func24, Try.ntmps24
 go_wp2_with fail
 first | rw [hw0] | skip
 try rw [hN]
 refine (refRightF_calls f A7 c7 A8 c8 w0 HL7.out (Kd.C_below HG7.out HB0.out) HL8.out (Kd.C_below (Kd.F_now HG8.out) HB0.out) m HZ.out).mono ?_
 rw [HBR.out]
 rintro e w1 ⟨rfl, hb⟩
 have HB1 := Aside0.mk (HB0.out.trans (hb.mono HB0.out.size))
 have KX1 := Aside0.mk (blk_below KX.out hb)
 have KZ1 := Aside0.mk (blk_below KZ.out hb)
 have HS1 := Aside0.mk (show N + 2 ≤ w1.heap.size from by have := hb.size; have := HS0.out; omega)
 clear hb KX KZ HB0 HS0 hw0 n0 n1 n2 n3 n4 n5 n6 n7 n8
 have HI1 := Aside0.mk (HH.out.below HB1.out)
 have HG1 := Aside0.mk (blk_below HGw.out HB1.out)
 go_wp2
 refine start_ (n := 16) (ds := []) (S := fun w' => Cells9 w' N (.int .i64 f.k) (.string f.fa) (.string f.fb) (.string f.ct) (.int .i64 f.se) (.int .i64 f.ix) (.int .i64 f.mn) (.slice A7 f.kn.length c7) (.slice A8 f.op.length c8) ∧ w'.cell? ⟨g, 0, none⟩ = some (.string who) ∧ True) _ (by kernel_rfl) rfl rfl ⟨cells9 (blk_drew KX1.out), (blk_cell (blk_drew HG1.out) 0).trans rfl, trivial⟩ (fun hH => ?_)
 obtain ⟨wd, hwd⟩ : ∃ wd, w1.drew = wd := ⟨_, rfl⟩
 have hbd : Below w1.heap.size w1 wd := by rw [← hwd]; exact below_drew1 (Below.refl _ _)
 have HBd := Aside0.mk (HB1.out.trans (hbd.mono HB1.out.size))
 have KZd := Aside0.mk (blk_below KZ1.out hbd)
 have KXd := Aside0.mk (blk_below KX1.out hbd)
 have HId := Aside0.mk (HI1.out.below hbd)
 have HGd := Aside0.mk (blk_below HG1.out hbd)
 have HSd := Aside0.mk (show N + 2 ≤ wd.heap.size from by have := hbd.size; have := HS1.out; omega)
 rw [hwd] at hH ⊢
 clear hwd hbd HB1 KZ1 KX1 HI1 HG1 HS1
 cases br with
 | false =>
   refine XReg.pu 0 14 (h := ?_)
   refine XReg.pu 1 15 (h := ?_)
   refine XReg.pu 2 16 (h := ?_)
   refine XReg.pn 3 17 (h := ?_)
   refine XReg.pn 4 18 (h := ?_)
   refine XReg.pn 5 19 (h := ?_)
   refine XReg.pu 6 20 (h := ?_)
   refine XReg.pu 7 21 (h := ?_)
   refine XReg.pn 8 22 (h := ?_)
   refine XReg.pn 9 23 (h := ?_)
   refine XReg.pn 10 24 (h := ?_)
   refine XReg.pn 11 25 (h := ?_)
   refine XReg.pn 12 26 (h := ?_)
   refine XReg.pn 13 27 (h := ?_)
   refine XReg.pn 14 28 (h := ?_)
   refine XReg.pu 15 29 (h := ?_)
   refine done_ (by kernel_rfl) ?_
   have HE := Aside0.mk (show refInTake who E f = ⟨[], zF, 2, E⟩ from by unfold refInTake; rw [HBR.out]; rfl)
   obtain ⟨e0, e1, e2, e3, e4, e5, e6, e7, e8⟩ := cells9 KZd.out
   obtain ⟨f0, f1, f2, f3, f4, f5, f6, f7, f8⟩ := froz9 KZd.out
   go_wp2
   have h9 := set9 KZd.out (.int .i64 0) (.string ⟨#[]⟩) (.string ⟨#[]⟩) (.string ⟨#[]⟩) (.int .i64 0) (.int .i64 0) (.int .i64 0) (.slice none 0 0) (.slice none 0 0)
   obtain ⟨k0, k1, k2, k3, k4, k5, k6, k7, k8⟩ := cells9 h9
   have hk9 := keeps9 wd (N + 1) (.int .i64 0) (.string ⟨#[]⟩) (.string ⟨#[]⟩) (.string ⟨#[]⟩) (.int .i64 0) (.int .i64 0) (.int .i64 0) (.slice none 0 0) (.slice none 0 0)
   have hkk : Keeps (MG G g w) w _ := Keeps.of_below (below_keeps HBd.out (M := fun k => k = N + 1) (fun k hk => by omega) (by have := (HBd.out).size; omega) hk9)
   exact bodyPost_ret (v := .tuple #[.slice none 0 0, .agg #[.int .i64 0, .string ⟨#[]⟩, .string ⟨#[]⟩, .string ⟨#[]⟩, .int .i64 0, .int .i64 0, .int .i64 0, .slice none 0 0, .slice none 0 0], .int .i64 2]) (by simp [results, Try.f24, go_sem, k0, k1, k2, k3, k4, k5, k6, k7, k8]) rfl (refAns_none 2 HE.out (refIn_new HH.out (below_keeps HBd.out (M := fun k => k = N + 1) (fun k hk => by omega) (by have := (HBd.out).size; omega) hk9)) hkk)
 | true =>
   refine XReg.pu 0 14 (h := ?_)
   refine XReg.pu 1 15 (h := ?_)
   refine XReg.pu 2 16 (h := ?_)
   refine XReg.pu 3 17 (h := ?_)
   refine XReg.tk 4 18 (hy := by (intro w' hS_; obtain ⟨⟨s0, s1, s2, s3, s4, s5, s6, s7, s8⟩, t0, t1⟩ := hS_; go_simp; with_reducible rfl)) (h := ?_)
   refine XReg.pu 5 19 (h := ?_)
   by_cases k1 : f.k = 2
   case neg =>
    have q : (f.k != 2) = true := by simpa using k1
    rw [q]
    refine XReg.pu 6 20 (h := ?_)
    refine XReg.pu 7 21 (h := ?_)
    refine XReg.pn 8 22 (h := ?_)
    refine XReg.pn 9 23 (h := ?_)
    refine XReg.pn 10 24 (h := ?_)
    refine XReg.pn 11 25 (h := ?_)
    refine XReg.pn 12 26 (h := ?_)
    refine XReg.pn 13 27 (h := ?_)
    refine XReg.pn 14 28 (h := ?_)
    refine XReg.pu 15 29 (h := ?_)
    refine done_ (by kernel_rfl) ?_
    have HE := Aside0.mk (show refInTake who E f = ⟨[], zF, 2, E⟩ from by unfold refInTake; rw [HBR.out]; simp [k1])
    obtain ⟨e0, e1, e2, e3, e4, e5, e6, e7, e8⟩ := cells9 KZd.out
    obtain ⟨f0, f1, f2, f3, f4, f5, f6, f7, f8⟩ := froz9 KZd.out
    go_wp2
    have h9 := set9 KZd.out (.int .i64 0) (.string ⟨#[]⟩) (.string ⟨#[]⟩) (.string ⟨#[]⟩) (.int .i64 0) (.int .i64 0) (.int .i64 0) (.slice none 0 0) (.slice none 0 0)
    obtain ⟨k0, k1, k2, k3, k4, k5, k6, k7, k8⟩ := cells9 h9
    have hk9 := keeps9 wd (N + 1) (.int .i64 0) (.string ⟨#[]⟩) (.string ⟨#[]⟩) (.string ⟨#[]⟩) (.int .i64 0) (.int .i64 0) (.int .i64 0) (.slice none 0 0) (.slice none 0 0)
    have hkk : Keeps (MG G g w) w _ := Keeps.of_below (below_keeps HBd.out (M := fun k => k = N + 1) (fun k hk => by omega) (by have := (HBd.out).size; omega) hk9)
    exact bodyPost_ret (v := .tuple #[.slice none 0 0, .agg #[.int .i64 0, .string ⟨#[]⟩, .string ⟨#[]⟩, .string ⟨#[]⟩, .int .i64 0, .int .i64 0, .int .i64 0, .slice none 0 0, .slice none 0 0], .int .i64 2]) (by simp [results, Try.f24, go_sem, k0, k1, k2, k3, k4, k5, k6, k7, k8]) rfl (refAns_none 2 HE.out (refIn_new HH.out (below_keeps HBd.out (M := fun k => k = N + 1) (fun k hk => by omega) (by have := (HBd.out).size; omega) hk9)) hkk)
   have q1 : (f.k != 2) = false := by simp [k1]
   rw [q1]
   refine XReg.pu 6 20 (h := ?_)
   refine XReg.pu 7 21 (h := ?_)
   refine XReg.pu 8 22 (h := ?_)
   refine XReg.tk 9 23 (hy := by (intro w' hS_; obtain ⟨⟨s0, s1, s2, s3, s4, s5, s6, s7, s8⟩, t0, t1⟩ := hS_; go_simp; with_reducible rfl)) (h := ?_)
   refine XReg.pu 10 24 (h := ?_)
   refine XReg.pu 11 25 (h := ?_)
   refine XReg.pu 12 26 (h := ?_)
   refine XReg.tk 13 27 (hy := by (intro w' hS_; obtain ⟨⟨s0, s1, s2, s3, s4, s5, s6, s7, s8⟩, t0, t1⟩ := hS_; go_simp; with_reducible rfl)) (h := ?_)
   refine XReg.pu 14 28 (h := ?_)
   by_cases k2 : f.fb = who
   case neg =>
    have q : (!(f.fb.toList == who.toList)) = true := by simpa using (fun h => k2 (bytes_inj h))
    rw [q]
    refine XReg.pu 15 29 (h := ?_)
    refine done_ (by kernel_rfl) ?_
    have HE := Aside0.mk (show refInTake who E f = ⟨[], zF, 2, E⟩ from by unfold refInTake; rw [HBR.out]; simp [k1, k2])
    obtain ⟨e0, e1, e2, e3, e4, e5, e6, e7, e8⟩ := cells9 KZd.out
    obtain ⟨f0, f1, f2, f3, f4, f5, f6, f7, f8⟩ := froz9 KZd.out
    go_wp2
    have h9 := set9 KZd.out (.int .i64 0) (.string ⟨#[]⟩) (.string ⟨#[]⟩) (.string ⟨#[]⟩) (.int .i64 0) (.int .i64 0) (.int .i64 0) (.slice none 0 0) (.slice none 0 0)
    obtain ⟨k0, k1, k2, k3, k4, k5, k6, k7, k8⟩ := cells9 h9
    have hk9 := keeps9 wd (N + 1) (.int .i64 0) (.string ⟨#[]⟩) (.string ⟨#[]⟩) (.string ⟨#[]⟩) (.int .i64 0) (.int .i64 0) (.int .i64 0) (.slice none 0 0) (.slice none 0 0)
    have hkk : Keeps (MG G g w) w _ := Keeps.of_below (below_keeps HBd.out (M := fun k => k = N + 1) (fun k hk => by omega) (by have := (HBd.out).size; omega) hk9)
    exact bodyPost_ret (v := .tuple #[.slice none 0 0, .agg #[.int .i64 0, .string ⟨#[]⟩, .string ⟨#[]⟩, .string ⟨#[]⟩, .int .i64 0, .int .i64 0, .int .i64 0, .slice none 0 0, .slice none 0 0], .int .i64 2]) (by simp [results, Try.f24, go_sem, k0, k1, k2, k3, k4, k5, k6, k7, k8]) rfl (refAns_none 2 HE.out (refIn_new HH.out (below_keeps HBd.out (M := fun k => k = N + 1) (fun k hk => by omega) (by have := (HBd.out).size; omega) hk9)) hkk)
   have q2 : (!(f.fb.toList == who.toList)) = false := by simp [k2]
   rw [q2]
   refine XReg.pu 15 29 (h := ?_)
   refine done_ (by kernel_rfl) ?_
   have HT := Aside0.mk (show (rightF f && decide (f.k = 2) && decide (f.fb = who)) = true from by rw [HBR.out]; simp [k1, k2])
   clear q1 q2 hH
   obtain ⟨n0, n1, n2, n3, n4, n5, n6, n7, n8⟩ := cells9 KXd.out
   go_wp2_with fail
   refine (refPlace_calls g who (E.map toC) A c f.fa f.ct wd HGd.out (by have h := (Kd.R_reads' HRw.out).2.2; exact Kd.C_below h HBd.out)).mono ?_
   obtain ⟨⟨ix, has⟩, hp⟩ : ∃ p, placeL (E.map toC) (f.fa, f.ct) = p := ⟨_, rfl⟩
   have HP := Aside0.mk hp
   rw [hp]
   dsimp only
   clear hp
   rintro e w2 ⟨rfl, hb⟩
   have HB2 := Aside0.mk (HBd.out.trans (hb.mono HBd.out.size))
   have KX2 := Aside0.mk (blk_below KXd.out hb)
   have KZ2 := Aside0.mk (blk_below KZd.out hb)
   have HG2 := Aside0.mk (blk_below HGd.out hb)
   have HS2 := Aside0.mk (show N + 2 ≤ w2.heap.size from Nat.le_trans HSd.out hb.size)
   clear hb HBd KXd KZd HId HGd HSd n0 n1 n2 n3 n4 n5 n6 n7 n8
   have HSE := Aside0.mk (rightF_sizes HBR.out).2.2.2.1
   go_upto_region 5 with fail
   obtain ⟨we, hwe⟩ : ∃ we, w2.drew = we := ⟨_, rfl⟩
   have hbe : Below w2.heap.size w2 we := by rw [← hwe]; exact below_drew1 (Below.refl _ _)
   have HBe := Aside0.mk (HB2.out.trans (hbe.mono HB2.out.size))
   have KXe := Aside0.mk (blk_below KX2.out hbe)
   have KZe := Aside0.mk (blk_below KZ2.out hbe)
   have HGe := Aside0.mk (blk_below HG2.out hbe)
   have HSe := Aside0.mk (show N + 2 ≤ we.heap.size from Nat.le_trans HS2.out hbe.size)
   clear hbe HB2 KX2 KZ2 HG2 HS2
   obtain ⟨⟨cs, cm⟩, hcu⟩ : ∃ c : Curs, curOf E (f.fa, f.ct) = c := ⟨_, rfl⟩
   have HCU := Aside0.mk hcu
   clear hcu
   obtain ⟨bb, hbb⟩ : ∃ b : Bool, (has && decide (f.se < cs)) = b := ⟨_, rfl⟩
   have HBB := Aside0.mk hbb
   clear hbb
   go_cut [53] (fun s53 wx => wx = we ∧ s53 = .bool bb)
   case first =>
    cases has with
    | true =>
      obtain ⟨hi1, ⟨u, hi2, hi3⟩, _⟩ := place_some E (f.fa, f.ct) (0, 0) (by rw [HP.out])
      rw [HP.out] at hi1 hi2
      obtain rfl : u = (cs, cm) := by have h := HCU.out; unfold curOf at h; rw [hi3] at h; exact h
      have hin : ix < (E.map toC).length := by rw [List.length_map]; exact hi1
      have hi4 := (j_facts hin).1
      have hr := rd_toC hi2
      obtain ⟨n, hn⟩ : ∃ n, (E.map toC).length = n := ⟨_, rfl⟩
      obtain ⟨ad, rfl, _, _, f2, f3⟩ := at_T99 (Kd.C_below (Kd.R_reads' HRw.out).2.2 HBe.out) (ix : Int) hi4.1 hi4.2
      rw [hr] at f2 f3
      simp only [Int.toNat_natCast] at f2 f3
      have m1 : we.cell? ⟨g, 1, none⟩ = some (.slice (some ad) n c) := by rw [← hn]; exact (blk_cell HGe.out 1).trans rfl
      rw [hn] at hi4
      clear hi1 hi2 hi3 hin hr hn
      go_wp2
      refine start_ (n := 14) (ds := []) (S := fun w' => w'.cell? ⟨g, 1, none⟩ = some (.slice (some ad) n c) ∧ w'.cell? ⟨(ad.add (ix * 4)).block, (ad.add (ix * 4)).off + 2, none⟩ = some (.int .i64 cs) ∧ w'.cell? ⟨N, 4, none⟩ = some (.int .i64 f.se)) _ (by kernel_rfl) rfl rfl (by rw [hwe]; exact ⟨m1, f2, (cells9 KXe.out).e4⟩) (fun hH => ?_)
      rw [hwe] at hH ⊢
      refine XReg.pu 0 40 (h := ?_)
      refine XReg.pu 1 41 (h := ?_)
      refine XReg.pu 2 42 (h := ?_)
      refine XReg.pu 3 43 (h := ?_)
      refine XReg.pu 4 44 (h := ?_)
      refine XReg.tk 5 45 (h := ?_)
      refine XReg.pu 6 46 (h := ?_)
      refine XReg.pu 7 47 (h := ?_)
      refine XReg.pu 8 48 (h := ?_)
      refine XReg.tk 9 49 (h := ?_)
      refine XReg.pu 10 50 (h := ?_)
      refine XReg.tk 11 51 (h := ?_)
      refine XReg.pu 12 52 (h := ?_)
      refine XReg.pu 13 53 (h := ?_)
      refine done_ (by kernel_rfl) ?_
      clear hH
      go_wp2
      go_meet
      exact ⟨rfl, by have := HBB.out; simp only [Bool.true_and] at this; rw [this]⟩
    | false =>
      go_wp2
      refine start_ (n := 14) (ds := []) (S := fun w' => True) _ (by kernel_rfl) rfl rfl trivial (fun hH => ?_)
      rw [hwe]
      clear hH
      refine XReg.pu 0 40 (h := ?_)
      refine XReg.pu 1 41 (h := ?_)
      refine XReg.pn 2 42 (h := ?_)
      refine XReg.pn 3 43 (h := ?_)
      refine XReg.pn 4 44 (h := ?_)
      refine XReg.pn 5 45 (h := ?_)
      refine XReg.pn 6 46 (h := ?_)
      refine XReg.pn 7 47 (h := ?_)
      refine XReg.pn 8 48 (h := ?_)
      refine XReg.pn 9 49 (h := ?_)
      refine XReg.pn 10 50 (h := ?_)
      refine XReg.pn 11 51 (h := ?_)
      refine XReg.pn 12 52 (h := ?_)
      refine XReg.pu 13 53 (h := ?_)
      refine done_ (by kernel_rfl) ?_
      go_wp2
      go_meet
      exact ⟨by first | rfl | exact hwe, by have := HBB.out; simp only [Bool.false_and] at this; rw [this]⟩
   case rest =>
    obtain ⟨rfl, rfl⟩ := hcut
    cases bb with
    | true =>
      obtain ⟨hh, z1⟩ : has = true ∧ f.se < cs := by have h := HBB.out; simp only [Bool.and_eq_true, decide_eq_true_eq] at h; exact h
      have HE := Aside0.mk (show refInTake who E f = ⟨[], zF, 120, E⟩ from by unfold refInTake; rw [if_pos HT.out, HCU.out, if_pos z1])
      obtain ⟨e0, e1, e2, e3, e4, e5, e6, e7, e8⟩ := cells9 KZe.out
      obtain ⟨f0, f1, f2, f3, f4, f5, f6, f7, f8⟩ := froz9 KZe.out
      go_wp2
      have h9 := set9 KZe.out (.int .i64 0) (.string ⟨#[]⟩) (.string ⟨#[]⟩) (.string ⟨#[]⟩) (.int .i64 0) (.int .i64 0) (.int .i64 0) (.slice none 0 0) (.slice none 0 0)
      obtain ⟨k0, k1, k2, k3, k4, k5, k6, k7, k8⟩ := cells9 h9
      have hk9 := keeps9 wc (N + 1) (.int .i64 0) (.string ⟨#[]⟩) (.string ⟨#[]⟩) (.string ⟨#[]⟩) (.int .i64 0) (.int .i64 0) (.int .i64 0) (.slice none 0 0) (.slice none 0 0)
      have hkk : Keeps (MG G g w) w _ := Keeps.of_below (below_keeps HBe.out (M := fun k => k = N + 1) (fun k hk => by omega) (by have := (HBe.out).size; omega) hk9)
      exact bodyPost_ret (v := .tuple #[.slice none 0 0, .agg #[.int .i64 0, .string ⟨#[]⟩, .string ⟨#[]⟩, .string ⟨#[]⟩, .int .i64 0, .int .i64 0, .int .i64 0, .slice none 0 0, .slice none 0 0], .int .i64 120]) (by simp [results, Try.f24, go_sem, k0, k1, k2, k3, k4, k5, k6, k7, k8]) rfl (refAns_none 120 HE.out (refIn_new HH.out (below_keeps HBe.out (M := fun k => k = N + 1) (fun k hk => by omega) (by have := (HBe.out).size; omega) hk9)) hkk)
    | false =>
      have HZ1 := Aside0.mk (show ¬ f.se < cs from fun h => by
       have h2 := HBB.out
       cases hhas : has with
       | true => rw [hhas] at h2; simp [h] at h2
       | false =>
         have h3 := place_look HS.out (f.fa, f.ct) (by rw [HP.out]; exact hhas)
         have h4 := HCU.out
         unfold curOf at h4
         rw [h3] at h4
         have h5 : cs = 0 := (congrArg Prod.fst h4).symm
         have := HSE.out
         omega)
      obtain ⟨n0, n1, n2, n3, n4, n5, n6, n7, n8⟩ := cells9 KXe.out
      go_upto_if 56 with fail
      obtain ⟨E1, hE1⟩ : ∃ l : List (Whose × Curs), (if has = true then E else E.take ix ++ ((f.fa, f.ct), ((0 : Int), (0 : Int))) :: E.drop ix) = l := ⟨_, rfl⟩
      have HE1 := Aside0.mk hE1
      clear hE1
      go_cut [10] (fun s10 wx => ∃ (A1 : Option Addr) (c1 : Nat), Aside0 (wx.heap[g]? = some (.cells #[.string who, .slice A1 E1.length c1] 91 (0, 0))) ∧ Aside0 (Kd.R k99 99 wx 0 G (.slice A1 E1.length c1) (E1.map toC)) ∧ Aside0 (wx.heap[N]? = some (.cells #[.int .i64 f.k, .string f.fa, .string f.fb, .string f.ct, .int .i64 f.se, .int .i64 f.ix, .int .i64 f.mn, .slice A7 f.kn.length c7, .slice A8 f.op.length c8] 34 (0, 0))) ∧ Aside0 (wx.heap[N + 1]? = some (.cells #[.int .i64 0, .string ⟨#[]⟩, .string ⟨#[]⟩, .string ⟨#[]⟩, .int .i64 0, .int .i64 0, .int .i64 0, .slice none 0 0, .slice none 0 0] 34 (0, 0))) ∧ Aside0 (Keeps (MG G g w) w wx) ∧ Aside0 (N + 2 ≤ wx.heap.size) ∧ Aside0 (¬ (XMap.look E (f.fa, f.ct) = none ∧ 256 ≤ E.length)))
      case first =>
       have hlen : (E.map toC).length = E.length := List.length_map ..
       cases has with
       | true =>
         obtain rfl : E = E1 := by have h := HE1.out; rwa [if_pos rfl] at h
         go_wp2
         go_meet
         have h1 := HGe.out
         have h2 := Kd.R_below HRw.out HBe.out
         rw [hlen] at h1 h2
         refine ⟨A, c, ⟨h1⟩, ⟨h2⟩, KXe, KZe, ⟨Keeps.of_below HBe.out⟩, HSe, ⟨fun h => ?_⟩⟩
         obtain ⟨_, ⟨u, _, h5⟩, _⟩ := place_some E (f.fa, f.ct) (0, 0) (by rw [HP.out])
         rw [h5] at h
         cases h.1
       | false =>
         obtain ⟨hq1, hq2⟩ := place_none E (f.fa, f.ct) (0, 0) (by rw [HP.out])
         rw [HP.out] at hq1 hq2
         have HQ1 := Aside0.mk hq1
         have HLK := Aside0.mk (place_look HS.out (f.fa, f.ct) (by rw [HP.out]))
         have hE1 : E.take ix ++ ((f.fa, f.ct), ((0 : Int), (0 : Int))) :: E.drop ix = E1 := by have h := HE1.out; rwa [if_neg (by decide)] at h
         have HE1' := Aside0.mk hE1
         have m1 : wc.cell? ⟨g, 1, none⟩ = some (.slice A E.length c) := by rw [← hlen]; exact (blk_cell HGe.out 1).trans rfl
         clear hq1 hq2 hE1
         by_cases z2 : 256 ≤ E.length
         case pos =>
          have q : decide ((256 : Int) ≤ (E.length : Int)) = true := decide_eq_true (Int.ofNat_le.2 z2)
          clear hlen
          have HE := Aside0.mk (show refInTake who E f = ⟨[], zF, 122, E⟩ from by unfold refInTake; rw [if_pos HT.out, HCU.out, if_neg HZ1.out, if_pos ⟨HLK.out, z2⟩])
          obtain ⟨e0, e1, e2, e3, e4, e5, e6, e7, e8⟩ := cells9 KZe.out
          obtain ⟨f0, f1, f2, f3, f4, f5, f6, f7, f8⟩ := froz9 KZe.out
          go_wp2
          have h9 := set9 KZe.out (.int .i64 0) (.string ⟨#[]⟩) (.string ⟨#[]⟩) (.string ⟨#[]⟩) (.int .i64 0) (.int .i64 0) (.int .i64 0) (.slice none 0 0) (.slice none 0 0)
          obtain ⟨k0, k1, k2, k3, k4, k5, k6, k7, k8⟩ := cells9 h9
          have hk9 := keeps9 wc (N + 1) (.int .i64 0) (.string ⟨#[]⟩) (.string ⟨#[]⟩) (.string ⟨#[]⟩) (.int .i64 0) (.int .i64 0) (.int .i64 0) (.slice none 0 0) (.slice none 0 0)
          have hkk : Keeps (MG G g w) w _ := Keeps.of_below (below_keeps HBe.out (M := fun k => k = N + 1) (fun k hk => by omega) (by have := (HBe.out).size; omega) hk9)
          exact bodyPost_ret (v := .tuple #[.slice none 0 0, .agg #[.int .i64 0, .string ⟨#[]⟩, .string ⟨#[]⟩, .string ⟨#[]⟩, .int .i64 0, .int .i64 0, .int .i64 0, .slice none 0 0, .slice none 0 0], .int .i64 122]) (by simp [results, Try.f24, go_sem, k0, k1, k2, k3, k4, k5, k6, k7, k8]) rfl (refAns_none 122 HE.out (refIn_new HH.out (below_keeps HBe.out (M := fun k => k = N + 1) (fun k hk => by omega) (by have := (HBe.out).size; omega) hk9)) hkk)
         have q : decide ((256 : Int) ≤ (E.length : Int)) = false := decide_eq_false (fun h => z2 (Int.ofNat_le.1 h))
         have HZ2 := Aside0.mk z2
         have HC99 := Aside0.mk (show Kd.R k99 99 wc 0 G (.slice A E.length c) (E.map toC) from by have h2 := Kd.R_below HRw.out HBe.out; rwa [hlen] at h2)
         have hlc : E.length ≤ c := (Kd.R_reads' HC99.out).2.1
         have hb5 : (0 : Int) ≤ (ix : Int) ∧ (ix : Int) ≤ (E.length : Int) ∧ (ix : Int) ≤ (c : Int) := by have := HQ1.out; omega
         clear z2 n0 n1 n2 n3 n4 n5 n6 n7 n8
         go_wp2
         obtain ⟨wg, hwg⟩ : ∃ wg, wc.drew = wg := ⟨_, rfl⟩
         have hbg : Below wc.heap.size wc wg := by rw [← hwg]; exact below_drew1 (Below.refl _ _)
         have HBg := Aside0.mk (HBe.out.trans (hbg.mono HBe.out.size))
         have KXg := Aside0.mk (blk_below KXe.out hbg)
         have KZg := Aside0.mk (blk_below KZe.out hbg)
         have HGg := Aside0.mk (show wg.heap[g]? = some (.cells #[.string who, .slice A E.length c] 91 (0, 0)) from by rw [← hlen]; exact blk_below HGe.out hbg)
         have HCg := Aside0.mk (Kd.R_below HC99.out hbg)
         have HSg := Aside0.mk (show N + 2 ≤ wg.heap.size from Nat.le_trans HSe.out hbg.size)
         have HSw := Aside0.mk (show w.heap.size ≤ wg.heap.size from HBg.out.size)
         refine start_ (n := 15) (ds := []) (S := fun w' => w'.cell? ⟨g, 1, none⟩ = some (.slice A E.length c)) _ (by kernel_rfl) rfl rfl (by rw [hwg]; exact (blk_cell HGg.out 1).trans rfl) (fun hH => ?_)
         rw [hwg] at hH ⊢
         clear hwg hbg m1 hlen
         refine XReg.pu 0 64 (h := ?_)
         refine XReg.pu 1 65 (h := ?_)
         refine XReg.pu 2 66 (h := ?_)
         refine XReg.tk 3 67 (hy := by (intro w' hS_; go_simp; with_reducible rfl)) (h := ?_)
         refine XReg.pu 4 68 (h := ?_)
         refine XReg.pu 5 69 (h := ?_)
         rw [show wrap64 ((E.length : Int) + 1) = (E.length : Int) + 1 from by have := HEL.out; unfold wrap64; omega]
         refine XReg.pu 7 71 (h := ?_)
         refine XReg.pu 8 72 (h := ?_)
         refine XReg.pu 9 73 (h := ?_)
         refine XReg.tk 10 74 (hy := by (intro w' hS_; go_simp; with_reducible rfl)) (h := ?_)
         refine XReg.pu 11 75 (h := ?_)
         refine XReg.pu 12 76 (h := ?_)
         refine XReg.one (i := 6) (some 70) rfl rfl (by kernel_rfl) (by decide) (fun Kc hKc => ?_)
         have hEL := HEL.out
         refine Kd.R_make0_step k99 (w0 := wg) 0 99 (by rfl) rfl 89 (.const (.int .i64 0)) (.tmp 69) rfl ((E.length : Int) + 1) rfl rfl Try.underlying89 _ 48 info99 rfl (by show 0 < 4; omega) (by omega) z99 (ok := fun k => wg.heap.size ≤ k) (okp := fun _ => False) (k99_mkM _ _ _ z99) (fun _ h => h.elim) (Nat.le_refl _) (by omega) (by omega) (Below.refl _ _) (Nat.zero_le _) (fun v1 wh hr2 hb2 hg2 hat2 => ?_)
         have hbh : Below wg.heap.size wg wh := ⟨hg2.os, hg2.tape, hg2.output, hg2.size, fun k hk => hg2.block k hk (by simp)⟩
         have HBh := Aside0.mk hbh
         obtain ⟨A1, d1, rfl⟩ := Kd.R_slice hr2
         have HRh := Aside0.mk (show Kd.R k99 99 wh 0 (fun k => wg.heap.size ≤ k) (.slice A1 0 d1) [] from hr2)
         have HGh := Aside0.mk (blk_below HGg.out hbh)
         refine hKc.out _ _ ((blk_cell HGh.out 1).trans rfl) (fun hH2 => ?_)
         clear hKc Kc hH hr2 hb2 hg2 hat2
         refine XReg.one (i := 13) (some 77) rfl rfl (by kernel_rfl) (by decide) (fun Kc hKc => ?_)
         have hCE : Kd.C k99 wh A (E.map toC).length (E.map toC) := Kd.C_below (Kd.R_reads' HCg.out).2.2 hbh
         have htl : ((E.map toC).take ix).length = ix := by rw [List.length_take, List.length_map]; omega
         have hCt : Kd.C k99 wh A ix ((E.map toC).take ix) := by
          have h := Kd.C_take (m := ix) hCE (by rw [List.length_map]; omega)
          rw [htl] at h
          exact h
         refine Kd.R_append_rows_step k99 (Rr := fun y c => k99.K wh y c) (w0 := wh) 0 (by rfl) (.tmp 70) (.tmp 76) 89 99 _ 48 rfl Try.underlying89 info99 rfl (by show 0 < 4; omega) (by omega) _ [] ((E.map toC).take ix) A ix c
          (fun k => wg.heap.size ≤ k) (fun _ => False) rfl rfl HRh.out hCt (fun y c hyc => k99_KM hyc) (fun _ h => h.elim) (fun k hk => Nat.le_trans hbh.size hk) (Below.refl _ _) (Nat.zero_le _) (by simp; omega) (fun v1 wi hr3 _ hg3 hat3 => ?_)
         have hbi : Below wg.heap.size wg wi := ⟨hg3.os.trans hbh.os, hg3.tape.trans hbh.tape, hg3.output.trans hbh.output, Nat.le_trans hbh.size hg3.size, fun k hk => (hg3.block k (Nat.lt_of_lt_of_le hk hbh.size) (fun e => by have := HRh.out.1 k e.symm; omega)).trans (hbh.block k hk)⟩
         obtain ⟨A3, d3, rfl⟩ := Kd.R_slice hr3
         have htl' : (([] : List S99) ++ List.take ix (E.map toC)).length = ix := by simpa using htl
         have HRi := Aside0.mk (show Kd.R k99 99 wi 0 (fun k => wg.heap.size ≤ k) (.slice A3 ix d3) ((E.map toC).take ix) from by rw [htl'] at hr3; exact hr3)
         have HGi := Aside0.mk (blk_below HGg.out hbi)
         have KXi := Aside0.mk (blk_below KXg.out hbi)
         have KZi := Aside0.mk (blk_below KZg.out hbi)
         have HCi := Aside0.mk (Kd.R_below HCg.out hbi)
         have HSi := Aside0.mk (hbi.size)
         have HBi := Aside0.mk hbi
         refine hKc.out _ _ ((blk_cell HGi.out 1).trans rfl) (fun hH3 => ?_)
         clear hKc Kc hH2 hr3 hg3 hat3 hCt hCE HBh HRh HGh hbh hbi
         refine XReg.pu 14 10 (h := ?_)
         refine done_ (by kernel_rfl) ?_
         clear hH3
         rw [htl']
         obtain ⟨n0, n1, n2, n3, n4, n5, n6, n7, n8⟩ := cells9 KXi.out
         have HSw2 := Aside0.mk (Nat.le_trans HSw.out HSi.out)
         go_upto_region 12 with ((with_reducible refine gate_builtin (b := .append) (xs := #[.tmp 78, .tmp 84]) rfl ?_); at_builtin; refine Kd.R_append k99 (w0 := wi) 0 rfl (.tmp 78) (.tmp 84) 89 99 _ 48 rfl Try.underlying89 info99 rfl (by show 0 < 4; omega) (by omega) _ ((E.map toC).take ix) (toC ((f.fa, f.ct), ((0 : Int), (0 : Int)))) _ (fun k => wg.heap.size ≤ k) (fun _ => False) rfl rfl (k99_mkM _ _ _ _) (fun _ h => h.elim) (fun k hk => Nat.le_trans HSi.out hk) HRi.out (Below.refl _ _) (Nat.zero_le _) (by rw [htl]; have := HEL.out; omega) ?_; intro v1 wj hr4 hbz hg4 hatz; clear hbz hatz; obtain ⟨A4, d4, rfl⟩ := Kd.R_slice hr4; have hl4 : ((E.map toC).take ix ++ [toC ((f.fa, f.ct), ((0 : Int), (0 : Int)))]).length = ix + 1 := (by rw [List.length_append, htl]; rfl); have HR4 := Aside0.mk (show Kd.R k99 99 wj 0 (fun k => wg.heap.size ≤ k) (.slice A4 (ix + 1) d4) ((E.map toC).take ix ++ [toC ((f.fa, f.ct), ((0 : Int), (0 : Int)))]) from (by rw [hl4] at hr4; exact hr4)); have hbj : Below wg.heap.size wg wj := ⟨hg4.os.trans HBi.out.os, hg4.tape.trans HBi.out.tape, hg4.output.trans HBi.out.output, Nat.le_trans HBi.out.size hg4.size, fun k hk => (hg4.block k (Nat.lt_of_lt_of_le hk HBi.out.size) (fun e => (by have := HRi.out.1 k e.symm; omega))).trans (HBi.out.block k hk)⟩; have HBj := Aside0.mk hbj; have HGj := Aside0.mk (blk_below HGg.out hbj); have KXj := Aside0.mk (blk_below KXg.out hbj); have KZj := Aside0.mk (blk_below KZg.out hbj); have HCj := Aside0.mk (Kd.R_below HCg.out hbj); have m2 : wj.cell? ⟨g, 1, none⟩ = some (.slice A E.length c) := (blk_cell HGj.out 1).trans rfl; have fq := blk_frozen HGj.out 1; rw [hl4]; clear hr4 hg4 hbj hl4)
         have HSj := Aside0.mk (HBj.out.size)
         have HDR := Aside0.mk (show E1.map toC = (E.map toC).take ix ++ [toC ((f.fa, f.ct), ((0 : Int), (0 : Int)))] ++ (E.map toC).drop ix from by rw [← HE1'.out]; simp [List.map_take, List.map_drop])
         have HLE := Aside0.mk (show E1.length = ix + 1 + (E.length - ix) from by rw [← HE1'.out, List.length_append, List.length_cons, List.length_take, List.length_drop]; have := HQ1.out; omega)
         clear n0 n1 n2 n3 n4 n5 n6 n7 n8 HRi HGi KXi KZi HCi HBi htl htl'
         cases A with
         | none =>
           have h0 : E.length = 0 ∧ c = 0 := by
            obtain ⟨_, h2⟩ := Kd.R_own HCj.out |>.choose_spec
            rcases h2 with ⟨h3, h4⟩ | ⟨g0, cap, cur, h3, _⟩
            · simp only [Value.slice.injEq] at h3; exact ⟨h3.2.1, h3.2.2⟩
            · cases h3
           obtain rfl : c = 0 := h0.2
           obtain rfl : ix = 0 := by have := HQ1.out; omega
           obtain rfl : E = [] := List.eq_nil_of_length_eq_zero h0.1
           have m2 : wj.cell? ⟨g, 1, none⟩ = some (.slice none 0 0) := m2
           have HCD := Aside0.mk (show Kd.C k99 wj none 0 (((([] : List (Whose × Curs)).map toC)).drop 0) from Kd.C_nil _ _)
           have HAL := Aside0.mk (show ((List.take 0 ((([] : List (Whose × Curs))).map toC) ++ [toC ((f.fa, f.ct), ((0 : Int), (0 : Int)))]).length + 0) * 48 ≤ 140737488355328 from by show (1 + 0) * 48 ≤ _; omega)
           clear h0
           go_wp2_with ((with_reducible refine gate_builtin (b := .append) (xs := #[.tmp 87, .tmp 93]) rfl ?_); at_builtin; refine Kd.R_append_rows k99 (Rr := fun y c => k99.K wj y c) (w0 := wj) 0 rfl (.tmp 87) (.tmp 93) 89 99 _ 48 rfl Try.underlying89 info99 rfl (by show 0 < 4; omega) (by omega) _ _ _ _ _ _ (fun k => wg.heap.size ≤ k) (fun _ => False) rfl rfl HR4.out HCD.out (fun y c hyc => k99_KM hyc) (fun _ h => h.elim) (fun k hk => Nat.le_trans HSj.out hk) (Below.refl _ _) (Nat.zero_le _) HAL.out ?_; intro v1 wk hr5 hbz hg5 hatz; clear hbz hatz; obtain ⟨A5, d5, rfl⟩ := Kd.R_slice hr5; have hbk : Below wg.heap.size wg wk := ⟨hg5.os.trans HBj.out.os, hg5.tape.trans HBj.out.tape, hg5.output.trans HBj.out.output, Nat.le_trans HBj.out.size hg5.size, fun k hk => (hg5.block k (Nat.lt_of_lt_of_le hk HBj.out.size) (fun e => (by have := HR4.out.1 k e.symm; omega))).trans (HBj.out.block k hk)⟩; have HR5 := Aside0.mk hr5; have HBk := Aside0.mk hbk; have HGk := Aside0.mk (blk_below HGg.out hbk); have m2 : wk.cell? ⟨g, 1, none⟩ = some (.slice none 0 0) := (blk_cell HGk.out 1).trans rfl; have fq := blk_frozen HGk.out 1; clear hr5 hg5 hbk)
           go_meet
           have hL1 : E1.length = 1 := by rw [HLE.out]; rfl
           simp only [hL1]
           have hk6 : Keeps (fun k => k = g) wk (wk.setCell ⟨g, 1, none⟩ (.slice A5 1 d5)) := Keeps.setCell (M := fun k => k = g) (Keeps.refl _ wk) (p := ⟨g, 1, none⟩) (.inl rfl) _
           have hr5 : Kd.R k99 99 wk 0 (fun k => wg.heap.size ≤ k) (.slice A5 1 d5) (E1.map toC) := by
            have h := HR5.out
            have h2 : E1.map toC = [toC ((f.fa, f.ct), ((0 : Int), (0 : Int)))] := HDR.out
            rw [h2]
            exact h
           have hG2 : ∀ k, wg.heap.size ≤ k → G k := fun k hk => HGG.out k (Nat.le_trans HSw.out hk)
           have hr6 := Kd.R_far (p := ⟨g, 1, none⟩) (Kd.R_mono hr5 hG2) (fun k hk e => ng (by have e : k = g := e; rw [← e]; exact hk)) (.slice A5 1 d5)
           have hb6 := blk_set HGk.out 1 (.slice A5 1 d5)
           have hkk := (HBg.out.trans (HBk.out.mono HBg.out.size))
           refine ⟨A5, d5, ⟨?_⟩, ⟨?_⟩, ⟨?_⟩, ⟨?_⟩, ⟨?_⟩, ⟨?_⟩, ⟨fun h => HZ2.out h.2⟩⟩
           · exact hb6
           · exact hr6
           · exact (hk6.block N (blk_lt (blk_below KXg.out HBk.out)) (by omega)).trans (blk_below KXg.out HBk.out)
           · exact (hk6.block (N + 1) (blk_lt (blk_below KZg.out HBk.out)) (by omega)).trans (blk_below KZg.out HBk.out)
           · exact (Keeps.of_below hkk).trans ⟨hk6.os, hk6.tape, hk6.output, hk6.size, fun k hk hne => hk6.block k hk (fun e => hne (.inl e))⟩
           · have := HSg.out; have := HBk.out.size; have := hk6.size; omega
         | some ad =>
           have HCD := Aside0.mk (show Kd.C k99 wj (if c = ix then some ad else some (ad.add (ix * 4))) (E.length - ix) ((E.map toC).drop ix) from by
            have h := Kd.C_drop (xs := E.map toC) (m := ix) (c := c) (Kd.R_reads' HCj.out).2.2 (by rw [List.length_map]; exact HQ1.out) (by rw [List.length_map]; exact hlc)
            have hdl : ((E.map toC).drop ix).length = E.length - ix := by rw [List.length_drop, List.length_map]
            rw [hdl] at h
            exact h)
           have HAL := Aside0.mk (show ((List.take ix (List.map toC E) ++ [toC ((f.fa, f.ct), ((0 : Int), (0 : Int)))]).length + (E.length - ix)) * 48 ≤ 140737488355328 from by rw [List.length_append, List.length_take, List.length_cons, List.length_nil]; have := HEL.out; omega)
           go_wp2_with ((with_reducible refine gate_builtin (b := .append) (xs := #[.tmp 87, .tmp 93]) rfl ?_); at_builtin; refine Kd.R_append_rows k99 (Rr := fun y c => k99.K wj y c) (w0 := wj) 0 rfl (.tmp 87) (.tmp 93) 89 99 _ 48 rfl Try.underlying89 info99 rfl (by show 0 < 4; omega) (by omega) _ _ _ _ _ _ (fun k => wg.heap.size ≤ k) (fun _ => False) rfl rfl HR4.out HCD.out (fun y c hyc => k99_KM hyc) (fun _ h => h.elim) (fun k hk => Nat.le_trans HSj.out hk) (Below.refl _ _) (Nat.zero_le _) HAL.out ?_; intro v1 wk hr5 hbz hg5 hatz; clear hbz hatz; obtain ⟨A5, d5, rfl⟩ := Kd.R_slice hr5; have hbk : Below wg.heap.size wg wk := ⟨hg5.os.trans HBj.out.os, hg5.tape.trans HBj.out.tape, hg5.output.trans HBj.out.output, Nat.le_trans HBj.out.size hg5.size, fun k hk => (hg5.block k (Nat.lt_of_lt_of_le hk HBj.out.size) (fun e => (by have := HR4.out.1 k e.symm; omega))).trans (HBj.out.block k hk)⟩; have HR5 := Aside0.mk hr5; have HBk := Aside0.mk hbk; have HGk := Aside0.mk (blk_below HGg.out hbk); have m2 : wk.cell? ⟨g, 1, none⟩ = some (.slice (some ad) E.length c) := (blk_cell HGk.out 1).trans rfl; have fq := blk_frozen HGk.out 1; clear hr5 hg5 hbk)
           all_goals
            rw [show min ix E.length + (E.length - ix + 1) = E1.length from by rw [HLE.out]; have := HQ1.out; omega]
            go_meet
            have hk6 : Keeps (fun k => k = g) wk (wk.setCell ⟨g, 1, none⟩ (.slice A5 E1.length d5)) := Keeps.setCell (M := fun k => k = g) (Keeps.refl _ wk) (p := ⟨g, 1, none⟩) (.inl rfl) _
            have hlen5 : ((E.map toC).take ix ++ [toC ((f.fa, f.ct), ((0 : Int), (0 : Int)))] ++ (E.map toC).drop ix).length = E1.length := by rw [← HDR.out, List.length_map]
            have hr5 : Kd.R k99 99 wk 0 (fun k => wg.heap.size ≤ k) (.slice A5 E1.length d5) (E1.map toC) := by
             have h := HR5.out
             rw [← HDR.out] at h
             rw [show (E1.map toC).length = E1.length from List.length_map ..] at h
             exact h
            have hG2 : ∀ k, wg.heap.size ≤ k → G k := fun k hk => HGG.out k (Nat.le_trans HSw.out hk)
            have hr6 := Kd.R_far (p := ⟨g, 1, none⟩) (Kd.R_mono hr5 hG2) (fun k hk e => ng (by have e : k = g := e; rw [← e]; exact hk)) (.slice A5 E1.length d5)
            have hb6 := blk_set HGk.out 1 (.slice A5 E1.length d5)
            have hkk := (HBg.out.trans (HBk.out.mono HBg.out.size))
            refine ⟨A5, d5, ⟨?_⟩, ⟨?_⟩, ⟨?_⟩, ⟨?_⟩, ⟨?_⟩, ⟨?_⟩, ⟨fun h => HZ2.out h.2⟩⟩
            · exact hb6
            · exact hr6
            · exact (hk6.block N (blk_lt (blk_below KXg.out HBk.out)) (by omega)).trans (blk_below KXg.out HBk.out)
            · exact (hk6.block (N + 1) (blk_lt (blk_below KZg.out HBk.out)) (by omega)).trans (blk_below KZg.out HBk.out)
            · exact (Keeps.of_below hkk).trans ⟨hk6.os, hk6.tape, hk6.output, hk6.size, fun k hk hne => hk6.block k hk (fun e => hne (.inl e))⟩
            · have := HSg.out; have := HBk.out.size; have := hk6.size; omega
      case rest =>
       obtain ⟨A1, c1, HG1, HR1, KX1, KZ1, HK1, HS1, HN1⟩ := hcut
       have hix1 : ix < E1.length ∧ E1[ix]? = some ((f.fa, f.ct), (cs, cm)) ∧ ∀ v, insK E (f.fa, f.ct) v = E1.set ix ((f.fa, f.ct), v) := by
        have he := HE1.out
        cases has with
        | true =>
          rw [if_pos rfl] at he
          obtain ⟨h1, ⟨u, h2, h3⟩, _⟩ := place_some E (f.fa, f.ct) (0, 0) (by rw [HP.out])
          have h5 : ∀ v, insK E (f.fa, f.ct) v = E.set ix ((f.fa, f.ct), v) := fun v => by
           have h := (place_some E (f.fa, f.ct) v (by rw [HP.out])).2.2
           rwa [HP.out] at h
          rw [HP.out] at h1 h2
          have h4 := HCU.out
          unfold curOf at h4
          rw [h3] at h4
          have h4 : u = (cs, cm) := h4
          rw [← he, ← h4]
          exact ⟨h1, h2, h5⟩
        | false =>
          rw [if_neg (by decide)] at he
          have h1 := (place_none E (f.fa, f.ct) (0, 0) (by rw [HP.out])).1
          have h5 : ∀ v, insK E (f.fa, f.ct) v = E.take ix ++ ((f.fa, f.ct), v) :: E.drop ix := fun v => by
           have h := (place_none E (f.fa, f.ct) v (by rw [HP.out])).2
           rwa [HP.out] at h
          rw [HP.out] at h1
          have h3 := place_look HS.out (f.fa, f.ct) (by rw [HP.out])
          have h4 := HCU.out
          unfold curOf at h4
          rw [h3] at h4
          have h4 : (0, 0) = (cs, cm) := h4
          have htl : (E.take ix).length = ix := by rw [List.length_take]; exact Nat.min_eq_left h1
          rw [← he, ← h4]
          refine ⟨?_, ?_, fun v => ?_⟩
          · rw [List.length_append, htl, List.length_cons]; omega
          · rw [List.getElem?_append_right (by rw [htl]; exact Nat.le_refl _), htl, Nat.sub_self]; rfl
          · rw [h5 v, List.set_append_right _ _ (by rw [htl]; exact Nat.le_refl _), htl, Nat.sub_self]; rfl
       have HIX := Aside0.mk hix1
       have HTK := Aside0.mk (show refInTake who E f = (if f.ix = (curTo E f).2 then ⟨f.op, ⟨3, who, f.fa, f.ct, f.se, (curTo E f).2 + 1, 0, [], []⟩, 0, E1.set ix ((f.fa, f.ct), ((curTo E f).1, (curTo E f).2 + 1))⟩
        else ⟨[], ⟨3, who, f.fa, f.ct, f.se, (curTo E f).2, 0, [], []⟩, 0, E1.set ix ((f.fa, f.ct), curTo E f)⟩) from by
         unfold refInTake
         rw [if_pos HT.out, HCU.out, if_neg HZ1.out, if_neg HN1.out, hix1.2.2, hix1.2.2])
       have HCT := Aside0.mk (show curTo E f = (if cs < f.se then (f.se, 0) else (cs, cm)) from by unfold curTo; rw [HCU.out])
       have hix2 := (j_facts hix1.1).1
       clear hix1 HE1 HN1 HBB HRw HGw HGe HBe HSe KXe KZe HP n0 n1 n2 n3 n4 n5 n6 n7 n8
       obtain ⟨⟨zs, zm⟩, hz⟩ : ∃ z : Curs, curTo E f = z := ⟨_, rfl⟩
       have HZC := Aside0.mk hz
       clear hz
       have hrd : rd_T99 (E1.map toC) (ix : Int) = ⟨f.fa, f.ct, cs, cm⟩ := rd_toC HIX.out.2.1
       have hlt2 : ix < (E1.map toC).length := by rw [List.length_map]; exact HIX.out.1
       obtain ⟨b, cap, hv, _, _, hcl, hbt⟩ := Kd.R_form HR1.out (Nat.lt_of_le_of_lt (Nat.zero_le _) hlt2)
       have HNE := Aside0.mk (show b ≠ g ∧ b ≠ N ∧ b ≠ N + 1 from ⟨fun e => by rw [e, HG1.out] at hbt; simp at hbt, fun e => by rw [e, KX1.out] at hbt; simp at hbt, fun e => by rw [e, KZ1.out] at hbt; simp at hbt⟩)
       have HBT := Aside0.mk hbt
       clear hbt
       obtain ⟨ad, hA1, _, _, f2, f3⟩ := at_T99 (Kd.R_reads' HR1.out).2.2 (ix : Int) hix2.1 (by rw [List.length_map]; exact hix2.2)
       rw [hrd] at f2 f3
       simp only [Int.toNat_natCast] at f2 f3
       subst hA1
       have had : ad = ⟨b, 0, none⟩ := by simp only [Value.slice.injEq, Option.some.injEq] at hv; exact hv.1
       have HAD := Aside0.mk (show ad.add (ix * 4) = ⟨b, ix * 4, none⟩ ∧ ad = ⟨b, 0, none⟩ from ⟨by rw [had, addr0], had⟩)
       have HGb := Aside0.mk (show b < w.heap.size → MG G g w b from fun hlt => by
        rcases Classical.em (MG G g w b) with h | h
        · exact h
        · exact .inr ⟨HR1.out.1 b (by rw [had]; rfl), hcl, (HK1.out.block b hlt h).symm.trans HBT.out⟩)
       clear hv had hrd hlt2 f2 f3
       obtain ⟨wd, hwd⟩ : ∃ wd, wc.drew = wd := ⟨_, rfl⟩
       have hbd : Below wc.heap.size wc wd := by rw [← hwd]; exact below_drew1 (Below.refl _ _)
       have HGd := Aside0.mk (blk_below HG1.out hbd)
       have HRd := Aside0.mk (Kd.R_below HR1.out hbd)
       have KXd := Aside0.mk (blk_below KX1.out hbd)
       have KZd := Aside0.mk (blk_below KZ1.out hbd)
       have HKd := Aside0.mk (HK1.out.trans (Keeps.of_below hbd))
       have HSd := Aside0.mk (Nat.le_trans HS1.out hbd.size)
       have hc13 : ∀ W : World, Kd.R k99 99 W 0 G (.slice (some ad) E1.length c1) (E1.map toC) → W.cell? ⟨(ad.add (ix * 4)).block, (ad.add (ix * 4)).off + 2, none⟩ = some (.int .i64 cs) ∧ W.cell? ⟨(ad.add (ix * 4)).block, (ad.add (ix * 4)).off + 3, none⟩ = some (.int .i64 cm) ∧ W.frozen? ⟨(ad.add (ix * 4)).block, (ad.add (ix * 4)).off + 2, none⟩ = false ∧ W.frozen? ⟨(ad.add (ix * 4)).block, (ad.add (ix * 4)).off + 3, none⟩ = false := fun W hR => r99_cells hR HIX.out.2.1 HAD.out.2
       have HC13 := Aside0.mk hc13
       have hcd := hc13 wd HRd.out
       clear hc13 hbd HG1 HR1 KX1 KZ1 HK1 HS1
       go_wp2
       refine start_ (n := 11) (ds := []) (S := fun w' => w'.cell? ⟨g, 1, none⟩ = some (.slice (some ad) E1.length c1) ∧ w'.cell? ⟨(ad.add (ix * 4)).block, (ad.add (ix * 4)).off + 2, none⟩ = some (.int .i64 cs) ∧ w'.cell? ⟨N, 4, none⟩ = some (.int .i64 f.se)) _ (by kernel_rfl) rfl rfl (by rw [hwd]; exact ⟨(blk_cell HGd.out 1).trans rfl, hcd.1, (cells9 KXd.out).e4⟩) (fun hH => ?_)
       rw [hwd] at hH ⊢
       clear hwd
       refine XReg.pu 0 97 (h := ?_)
       refine XReg.pu 1 98 (h := ?_)
       refine XReg.pu 2 99 (h := ?_)
       refine XReg.tk 3 100 (h := ?_)
       refine XReg.pu 4 101 (h := ?_)
       refine XReg.pu 5 102 (h := ?_)
       refine XReg.pu 6 103 (h := ?_)
       refine XReg.tk 7 104 (h := ?_)
       refine XReg.pu 8 105 (h := ?_)
       refine XReg.tk 9 106 (h := ?_)
       refine XReg.pu 10 107 (h := ?_)
       refine done_ (by kernel_rfl) ?_
       clear hH
       go_upto_if 107 with fail
       go_cut [] (fun wx => Aside0 (wx.heap[g]? = some (.cells #[.string who, .slice (some ad) E1.length c1] 91 (0, 0))) ∧ Aside0 (Kd.R k99 99 wx 0 G (.slice (some ad) E1.length c1) ((E1.set ix ((f.fa, f.ct), (zs, zm))).map toC)) ∧ Aside0 (wx.heap[N]? = some (.cells #[.int .i64 f.k, .string f.fa, .string f.fb, .string f.ct, .int .i64 f.se, .int .i64 f.ix, .int .i64 f.mn, .slice A7 f.kn.length c7, .slice A8 f.op.length c8] 34 (0, 0))) ∧ Aside0 (wx.heap[N + 1]? = some (.cells #[.int .i64 0, .string ⟨#[]⟩, .string ⟨#[]⟩, .string ⟨#[]⟩, .int .i64 0, .int .i64 0, .int .i64 0, .slice none 0 0, .slice none 0 0] 34 (0, 0))) ∧ Aside0 (Keeps (MG G g w) w wx) ∧ Aside0 (N + 2 ≤ wx.heap.size))
       case first =>
        by_cases z3 : cs < f.se
        case neg =>
         have q : decide (cs < f.se) = false := decide_eq_false z3
         have hzz : (zs, zm) = (cs, cm) := by rw [← HZC.out, HCT.out, if_neg z3]
         have he : E1.set ix ((f.fa, f.ct), (zs, zm)) = E1 := by rw [hzz]; exact set_same HIX.out.2.1
         go_wp2
         go_meet
         exact ⟨HGd, ⟨by rw [he]; exact HRd.out⟩, KXd, KZd, HKd, HSd⟩
        have q : decide (cs < f.se) = true := decide_eq_true z3
        have hzz : (zs, zm) = (f.se, 0) := by rw [← HZC.out, HCT.out, if_pos z3]
        obtain ⟨rfl, rfl⟩ : zs = f.se ∧ zm = 0 := ⟨congrArg Prod.fst hzz, congrArg Prod.snd hzz⟩
        clear hzz
        obtain ⟨we, hwe⟩ : ∃ we, wd.drew = we := ⟨_, rfl⟩
        have hbe : Below wd.heap.size wd we := by rw [← hwe]; exact below_drew1 (Below.refl _ _)
        have HGe := Aside0.mk (blk_below HGd.out hbe)
        have HRe := Aside0.mk (Kd.R_below HRd.out hbe)
        have KXe := Aside0.mk (blk_below KXd.out hbe)
        have KZe := Aside0.mk (blk_below KZd.out hbe)
        have HKe := Aside0.mk (HKd.out.trans (Keeps.of_below hbe))
        have HSe := Aside0.mk (Nat.le_trans HSd.out hbe.size)
        clear hbe HGd HRd KXd KZd HKd HSd hcd
        go_wp2
        refine start_ (n := 10) (ds := [9]) (S := fun w' => w'.cell? ⟨g, 1, none⟩ = some (.slice (some ad) E1.length c1) ∧ w'.cell? ⟨N, 4, none⟩ = some (.int .i64 f.se)) _ (by kernel_rfl) rfl rfl (by rw [hwe]; exact ⟨(blk_cell HGe.out 1).trans rfl, (cells9 KXe.out).e4⟩) (fun hH => ?_)
        rw [hwe] at hH ⊢
        clear hwe
        refine XReg.pu 0 108 (h := ?_)
        refine XReg.pu 1 109 (h := ?_)
        refine XReg.pu 2 110 (h := ?_)
        refine XReg.tk 3 111 (h := ?_)
        refine XReg.pu 4 112 (h := ?_)
        refine XReg.pu 5 113 (h := ?_)
        refine XReg.tk 6 114 (h := ?_)
        refine XReg.pu 7 115 (h := ?_)
        refine XReg.pu 8 116 (h := ?_)
        obtain ⟨c2, _, g2, _⟩ := HC13.out we HRe.out
        refine XReg.last (i := 9) none rfl rfl (by kernel_rfl) (by decide) (fun Kc hKc => ?_)
        refine store_last rfl rfl (by first | (go_simp; done) | (go_simp; rfl)) ?_
        refine hKc.out _ _ ?_
        clear hKc Kc hH
        refine done_ (by kernel_rfl) ?_
        obtain ⟨wf, hwf⟩ : ∃ wf, we.setCell ⟨(ad.add (ix * 4)).block, (ad.add (ix * 4)).off + 2, none⟩ (.int .i64 f.se) = wf := ⟨_, rfl⟩
        rw [hwf]
        clear c2 g2
        have hkf : Keeps (fun k => k = b) we wf := by
         rw [← hwf, HAD.out.1]
         exact Keeps.setCell (M := fun k => k = b) (Keeps.refl _ we) (p := ⟨b, ix * 4 + 2, none⟩) (.inl rfl) _
        have hRf : Kd.R k99 99 wf 0 G (.slice (some ad) E1.length c1) ((E1.set ix ((f.fa, f.ct), (f.se, cm))).map toC) := by
         rw [← hwf, HAD.out.1]
         have h := (R99_f2 (g := b) (n := E1.length) (by have := HRe.out; rw [HAD.out.2] at this; exact this) ix HIX.out.1 f.se).1
         rw [rd_toC HIX.out.2.1] at h
         rw [HAD.out.2, show (E1.set ix ((f.fa, f.ct), (f.se, cm))).map toC = (E1.map toC).set ix (toC ((f.fa, f.ct), (f.se, cm))) from List.map_set ..]
         exact h
        have hne := HNE.out
        have HGf := Aside0.mk ((hkf.block g (blk_lt HGe.out) (fun e => hne.1 e.symm)).trans HGe.out)
        have KXf := Aside0.mk ((hkf.block N (blk_lt KXe.out) (fun e => hne.2.1 e.symm)).trans KXe.out)
        have KZf := Aside0.mk ((hkf.block (N + 1) (blk_lt KZe.out) (fun e => hne.2.2 e.symm)).trans KZe.out)
        have HKf := Aside0.mk (show Keeps (MG G g w) w wf from keeps_then HKe.out hkf HGb.out)
        have HSf := Aside0.mk (Nat.le_trans HSe.out hkf.size)
        have HRf := Aside0.mk hRf
        have hE2 : (E1.set ix ((f.fa, f.ct), (f.se, cm)))[ix]? = some ((f.fa, f.ct), (f.se, cm)) := List.getElem?_set_self HIX.out.1
        obtain ⟨_, c3, _, g3⟩ := r99_cells hRf hE2 HAD.out.2
        have m1 : wf.cell? ⟨g, 1, none⟩ = some (.slice (some ad) E1.length c1) := (blk_cell HGf.out 1).trans rfl
        clear hkf hRf hwf hne HGe HRe KXe KZe HKe HSe
        go_wp2
        go_meet
        have hkh : Keeps (fun k => k = b) wf (wf.setCell ⟨(ad.add (ix * 4)).block, (ad.add (ix * 4)).off + 3, none⟩ (.int .i64 0)) := by
         rw [HAD.out.1]
         exact Keeps.setCell (M := fun k => k = b) (Keeps.refl _ wf) (p := ⟨b, ix * 4 + 3, none⟩) (.inl rfl) _
        have hRh : Kd.R k99 99 (wf.setCell ⟨(ad.add (ix * 4)).block, (ad.add (ix * 4)).off + 3, none⟩ (.int .i64 0)) 0 G (.slice (some ad) E1.length c1) ((E1.set ix ((f.fa, f.ct), (f.se, 0))).map toC) := by
         rw [HAD.out.1]
         have h := (R99_f3 (g := b) (n := E1.length) (by have := HRf.out; rw [HAD.out.2] at this; exact this) ix HIX.out.1 0).1
         rw [rd_toC hE2] at h
         rw [HAD.out.2, show (E1.set ix ((f.fa, f.ct), (f.se, (0 : Int)))).map toC = ((E1.set ix ((f.fa, f.ct), (f.se, cm))).map toC).set ix (toC ((f.fa, f.ct), (f.se, 0))) from by rw [← List.map_set, List.set_set]]
         exact h
        have hne := HNE.out
        exact ⟨⟨(hkh.block g (blk_lt HGf.out) (fun e => hne.1 e.symm)).trans HGf.out⟩, ⟨hRh⟩, ⟨(hkh.block N (blk_lt KXf.out) (fun e => hne.2.1 e.symm)).trans KXf.out⟩, ⟨(hkh.block (N + 1) (blk_lt KZf.out) (fun e => hne.2.2 e.symm)).trans KZf.out⟩,
         ⟨keeps_then HKf.out hkh HGb.out⟩, ⟨Nat.le_trans HSf.out hkh.size⟩⟩
       case rest =>
        obtain ⟨HG2, HR2, KX2, KZ2, HK2, HS2⟩ := hcut
        obtain ⟨E2, hE2⟩ : ∃ l, E1.set ix ((f.fa, f.ct), (zs, zm)) = l := ⟨_, rfl⟩
        rw [hE2] at HR2
        have hln : E2.length = E1.length := by rw [← hE2, List.length_set]
        have HAT := Aside0.mk (show E2[ix]? = some ((f.fa, f.ct), (zs, zm)) ∧ (∀ u, E1.set ix ((f.fa, f.ct), u) = E2.set ix ((f.fa, f.ct), u)) ∧ E1.length = E2.length from ⟨by rw [← hE2]; exact List.getElem?_set_self HIX.out.1, fun u => by rw [← hE2, List.set_set], hln.symm⟩)
        have HTK2 := Aside0.mk (show refInTake who E f = (if f.ix = zm then ⟨f.op, ⟨3, who, f.fa, f.ct, f.se, zm + 1, 0, [], []⟩, 0, E2.set ix ((f.fa, f.ct), (zs, zm + 1))⟩ else ⟨[], ⟨3, who, f.fa, f.ct, f.se, zm, 0, [], []⟩, 0, E2⟩) from by
         have h := HTK.out
         rw [HZC.out] at h
         rw [h]
         dsimp only
         rw [HAT.out.2.1, HAT.out.2.1, set_same HAT.out.1])
        rw [← hln] at hix2
        have hlt := HIX.out.1
        rw [← hln] at HG2 HR2 hlt
        have HLT := Aside0.mk hlt
        clear hE2 hln HTK HIX HZC HCT HC13 hlt
        obtain ⟨wd, hwd⟩ : ∃ wd, wc.drew = wd := ⟨_, rfl⟩
        have hbd : Below wc.heap.size wc wd := by rw [← hwd]; exact below_drew1 (Below.refl _ _)
        have HGd := Aside0.mk (blk_below HG2.out hbd)
        have HRd := Aside0.mk (Kd.R_below HR2.out hbd)
        have KXd := Aside0.mk (blk_below KX2.out hbd)
        have KZd := Aside0.mk (blk_below KZ2.out hbd)
        have HKd := Aside0.mk (HK2.out.trans (Keeps.of_below hbd))
        have HSd := Aside0.mk (Nat.le_trans HS2.out hbd.size)
        have hcd := r99_cells HRd.out HAT.out.1 HAD.out.2
        clear hbd HG2 HR2 KX2 KZ2 HK2 HS2
        have HIX5 := Aside0.mk (cells9 KXd.out).e5
        go_wp2
        refine start_ (n := 11) (ds := []) (S := fun w' => w'.cell? ⟨g, 1, none⟩ = some (.slice (some ad) E2.length c1) ∧ w'.cell? ⟨(ad.add (ix * 4)).block, (ad.add (ix * 4)).off + 3, none⟩ = some (.int .i64 zm) ∧ w'.cell? ⟨N, 5, none⟩ = some (.int .i64 f.ix)) _ (by kernel_rfl) rfl rfl (by rw [hwd]; exact ⟨(blk_cell HGd.out 1).trans rfl, hcd.2.1, HIX5.out⟩) (fun hH => ?_)
        rw [hwd] at hH ⊢
        clear hwd
        refine XReg.pu 0 124 (h := ?_)
        refine XReg.tk 1 125 (h := ?_)
        refine XReg.pu 2 126 (h := ?_)
        refine XReg.pu 3 127 (h := ?_)
        refine XReg.pu 4 128 (h := ?_)
        refine XReg.tk 5 129 (h := ?_)
        refine XReg.pu 6 130 (h := ?_)
        refine XReg.pu 7 131 (h := ?_)
        refine XReg.pu 8 132 (h := ?_)
        refine XReg.tk 9 133 (h := ?_)
        refine XReg.pu 10 134 (h := ?_)
        refine done_ (by kernel_rfl) ?_
        clear hH HIX5
        go_upto_if 134 with fail
        obtain ⟨T, hT⟩ : ∃ T, refInTake who E f = T := ⟨_, rfl⟩
        have HT3 := Aside0.mk hT
        rw [hT] at HTK2
        clear hT
        go_cut [11] (fun s11 wx => ∃ (B8 : Option Addr) (d8 : Nat), s11 = .slice B8 T.l.length d8 ∧ Aside0 (T.l.length ≤ d8 ∧ Kd.F k74 wx (fun k => k < N) B8 T.l.length T.l) ∧ Aside0 (T.fr = ⟨3, who, f.fa, f.ct, f.se, T.fr.ix, 0, [], []⟩ ∧ T.er = 0 ∧ T.D[ix]? = some ((f.fa, f.ct), (zs, T.fr.ix)) ∧ T.D.length = E2.length) ∧ Aside0 (wx.heap[g]? = some (.cells #[.string who, .slice (some ad) E2.length c1] 91 (0, 0))) ∧ Aside0 (Kd.R k99 99 wx 0 G (.slice (some ad) E2.length c1) (T.D.map toC)) ∧ Aside0 (wx.heap[N]? = some (.cells #[.int .i64 f.k, .string f.fa, .string f.fb, .string f.ct, .int .i64 f.se, .int .i64 f.ix, .int .i64 f.mn, .slice A7 f.kn.length c7, .slice A8 f.op.length c8] 34 (0, 0))) ∧ Aside0 (wx.heap[N + 1]? = some (.cells #[.int .i64 0, .string ⟨#[]⟩, .string ⟨#[]⟩, .string ⟨#[]⟩, .int .i64 0, .int .i64 0, .int .i64 0, .slice none 0 0, .slice none 0 0] 34 (0, 0))) ∧ Aside0 (Keeps (MG G g w) w wx) ∧ Aside0 (N + 2 ≤ wx.heap.size))
        case first =>
         by_cases zx : f.ix = zm
         case neg =>
          have q : (f.ix == zm) = false := by simpa using zx
          have hT : T = _ := HTK2.out
          rw [if_neg zx] at hT
          subst hT
          go_wp2
          go_meet
          exact ⟨none, 0, by first | trivial | rfl, ⟨Nat.le_refl _, F_nil⟩, ⟨by first | trivial | rfl, by first | trivial | rfl, HAT.out.1, by first | trivial | rfl⟩, HGd, HRd, KXd, KZd, HKd, HSd⟩
         have q : (f.ix == zm) = true := by simpa using zx
         have hT : T = _ := HTK2.out
         rw [if_pos zx] at hT
         subst hT
         have HW := Aside0.mk (show wrap64 (zm + 1) = zm + 1 from by
          obtain ⟨_, _, _, _, _, _, hb⟩ := rightF_sizes HBR.out
          unfold bodyF at hb
          rw [if_neg (by omega), if_pos k1] at hb
          simp only [Bool.and_eq_true, decide_eq_true_eq] at hb
          have h6 := (rightF_sizes HBR.out).2.2.2.2.2.1
          unfold wrap64
          omega)
         clear zx
         obtain ⟨_, c3, _, g3⟩ := hcd
         have m1 : wd.cell? ⟨g, 1, none⟩ = some (.slice (some ad) E2.length c1) := (blk_cell HGd.out 1).trans rfl
         obtain ⟨we, hwe⟩ : ∃ we, wd.setCell ⟨(ad.add (ix * 4)).block, (ad.add (ix * 4)).off + 3, none⟩ (.int .i64 (zm + 1)) = we := ⟨_, rfl⟩
         have hke : Keeps (fun k => k = b) wd we := by
          rw [← hwe, HAD.out.1]
          exact Keeps.setCell (M := fun k => k = b) (Keeps.refl _ wd) (p := ⟨b, ix * 4 + 3, none⟩) (.inl rfl) _
         have hRe : Kd.R k99 99 we 0 G (.slice (some ad) E2.length c1) ((E2.set ix ((f.fa, f.ct), (zs, zm + 1))).map toC) := by
          rw [← hwe, HAD.out.1]
          have h := (R99_f3 (g := b) (n := E2.length) (by have := HRd.out; rw [HAD.out.2] at this; exact this) ix HLT.out (zm + 1)).1
          rw [rd_toC HAT.out.1] at h
          rw [HAD.out.2, show (E2.set ix ((f.fa, f.ct), (zs, zm + 1))).map toC = (E2.map toC).set ix (toC ((f.fa, f.ct), (zs, zm + 1))) from List.map_set ..]
          exact h
         have hne := HNE.out
         have HGe := Aside0.mk ((hke.block g (blk_lt HGd.out) (fun e => hne.1 e.symm)).trans HGd.out)
         have KXe := Aside0.mk ((hke.block N (blk_lt KXd.out) (fun e => hne.2.1 e.symm)).trans KXd.out)
         have KZe := Aside0.mk ((hke.block (N + 1) (blk_lt KZd.out) (fun e => hne.2.2 e.symm)).trans KZd.out)
         have HKe := Aside0.mk (show Keeps (MG G g w) w we from keeps_then HKd.out hke HGb.out)
         have HSe := Aside0.mk (Nat.le_trans HSd.out hke.size)
         have HRe := Aside0.mk hRe
         have HF8 := Aside0.mk (Kd.F_mono (Kd.F_step (Kd.F_bound HG8.out) (fun k hk hlt => HKe.out.block k hlt (fun h => h.elim hk.1.1 (fun h => hk.1.2 h.1)))) (fun k hk => (by have := hk.2; omega : k < N)))
         have n8 : we.cell? ⟨N, 8, none⟩ = some (.slice A8 f.op.length c8) := (cells9 KXe.out).e8
         have HWE := Aside0.mk hwe
         clear hke hRe hne hwe
         go_upto_region 19 with fail
         rw [HW.out, HWE.out]
         go_wp2
         go_meet
         exact ⟨A8, c8, by first | trivial | rfl, ⟨HL8.out, HF8.out⟩, ⟨by first | trivial | rfl, by first | trivial | rfl, List.getElem?_set_self HLT.out, List.length_set⟩, HGe, HRe, KXe, KZe, HKe, HSe⟩
        case rest =>
         obtain ⟨B8, d8, rfl, HC8, HTT, HG3, HR3, KX3, KZ3, HK3, HS3⟩ := hcut
         obtain ⟨we, hwe⟩ : ∃ we, wc.drew = we := ⟨_, rfl⟩
         have hbe : Below wc.heap.size wc we := by rw [← hwe]; exact below_drew1 (Below.refl _ _)
         have HGe := Aside0.mk (blk_below HG3.out hbe)
         have HRe := Aside0.mk (Kd.R_below HR3.out hbe)
         have KXe := Aside0.mk (blk_below KX3.out hbe)
         have KZe := Aside0.mk (blk_below KZ3.out hbe)
         have HKe := Aside0.mk (HK3.out.trans (Keeps.of_below hbe))
         have HSe := Aside0.mk (Nat.le_trans HS3.out hbe.size)
         have HCe := Aside0.mk (Kd.F_below HC8.out.2 hbe)
         have HL8' := Aside0.mk HC8.out.1
         have hce := r99_cells HRe.out HTT.out.2.2.1 HAD.out.2
         obtain ⟨xi, hxi⟩ : ∃ x, T.fr.ix = x := ⟨_, rfl⟩
         have HXI := Aside0.mk hxi
         rw [hxi] at hce
         have hce := hce.2.1
         clear hbe hxi HG3 HR3 KX3 KZ3 HK3 HS3 HC8 HGd HRd KXd KZd HKd HSd hcd HTK2
         go_wp2
         refine start_ (n := 23) (ds := [21]) (S := fun w' => Cells9 w' N (.int .i64 f.k) (.string f.fa) (.string f.fb) (.string f.ct) (.int .i64 f.se) (.int .i64 f.ix) (.int .i64 f.mn) (.slice A7 f.kn.length c7) (.slice A8 f.op.length c8) ∧ w'.cell? ⟨g, 0, none⟩ = some (.string who) ∧ w'.cell? ⟨g, 1, none⟩ = some (.slice (some ad) E2.length c1) ∧ w'.cell? ⟨(ad.add (ix * 4)).block, (ad.add (ix * 4)).off + 3, none⟩ = some (.int .i64 xi)) _ (by kernel_rfl) rfl rfl (by rw [hwe]; exact ⟨cells9 KXe.out, (blk_cell HGe.out 0).trans rfl, (blk_cell HGe.out 1).trans rfl, hce⟩) (fun hH => ?_)
         rw [hwe] at hH ⊢
         clear hwe hce
         refine XReg.pu 0 148 (h := ?_)
         refine XReg.pu 1 149 (h := ?_)
         refine XReg.pu 2 150 (h := ?_)
         refine XReg.pu 3 151 (h := ?_)
         refine XReg.tk 4 152 (hy := by (intro w' hS_; obtain ⟨⟨s0, s1, s2, s3, s4, s5, s6, s7, s8⟩, t0, t1, t2⟩ := hS_; go_simp; with_reducible rfl)) (h := ?_)
         refine XReg.pu 5 153 (h := ?_)
         refine XReg.tk 6 154 (hy := by (intro w' hS_; obtain ⟨⟨s0, s1, s2, s3, s4, s5, s6, s7, s8⟩, t0, t1, t2⟩ := hS_; go_simp; with_reducible rfl)) (h := ?_)
         refine XReg.pu 7 155 (h := ?_)
         refine XReg.tk 8 156 (hy := by (intro w' hS_; obtain ⟨⟨s0, s1, s2, s3, s4, s5, s6, s7, s8⟩, t0, t1, t2⟩ := hS_; go_simp; with_reducible rfl)) (h := ?_)
         refine XReg.pu 9 157 (h := ?_)
         refine XReg.tk 10 158 (hy := by (intro w' hS_; obtain ⟨⟨s0, s1, s2, s3, s4, s5, s6, s7, s8⟩, t0, t1, t2⟩ := hS_; go_simp; with_reducible rfl)) (h := ?_)
         refine XReg.pu 11 159 (h := ?_)
         refine XReg.pu 12 160 (h := ?_)
         refine XReg.pu 13 161 (h := ?_)
         refine XReg.tk 14 162 (hy := by (intro w' hS_; obtain ⟨⟨s0, s1, s2, s3, s4, s5, s6, s7, s8⟩, t0, t1, t2⟩ := hS_; go_simp; with_reducible rfl)) (h := ?_)
         refine XReg.pu 15 163 (h := ?_)
         refine XReg.pu 16 164 (h := ?_)
         refine XReg.pu 17 165 (h := ?_)
         refine XReg.tk 18 166 (hy := by (intro w' hS_; obtain ⟨⟨s0, s1, s2, s3, s4, s5, s6, s7, s8⟩, t0, t1, t2⟩ := hS_; go_simp; with_reducible rfl)) (h := ?_)
         refine XReg.pu 19 167 (h := ?_)
         refine XReg.pu 20 4 (h := ?_)
         obtain ⟨e0, e1, e2, e3, e4, e5, e6, e7, e8⟩ := cells9 KZe.out
         obtain ⟨f0, f1, f2, f3, f4, f5, f6, f7, f8⟩ := froz9 KZe.out
         refine XReg.last (i := 21) none rfl rfl (by kernel_rfl) (by decide) (fun Kc hKc => ?_)
         refine store_last rfl rfl (by first | (go_simp; done) | (go_simp; rfl)) ?_
         refine hKc.out _ _ ?_
         clear hKc Kc hH e0 e1 e2 e3 e4 e5 e6 e7 e8 f0 f1 f2 f3 f4 f5 f6 f7 f8
         refine XReg.pu 22 6 (h := ?_)
         refine done_ (by kernel_rfl) ?_
         have h9 := set9 KZe.out (.int .i64 3) (.string who) (.string f.fa) (.string f.ct) (.int .i64 f.se) (.int .i64 xi) (.int .i64 0) (.slice none 0 0) (.slice none 0 0)
         have hk9 := keeps9 we (N + 1) (.int .i64 3) (.string who) (.string f.fa) (.string f.ct) (.int .i64 f.se) (.int .i64 xi) (.int .i64 0) (.slice none 0 0) (.slice none 0 0)
         obtain ⟨k0, k1, k2, k3, k4, k5, k6, k7, k8⟩ := cells9 h9
         go_wp2
         have hA := HKe.out
         have hFK : Keeps (MG G g w) w _ := ⟨hk9.os.trans hA.os, hk9.tape.trans hA.tape, hk9.output.trans hA.output, Nat.le_trans hA.size hk9.size, fun k hk hne => (hk9.block k (by have := hA.size; omega) (by omega)).trans (hA.block k hk hne)⟩
         refine bodyPost_ret (v := .tuple #[.slice B8 T.l.length d8, .agg #[.int .i64 3, .string who, .string f.fa, .string f.ct, .int .i64 f.se, .int .i64 xi, .int .i64 0, .slice none 0 0, .slice none 0 0], .int .i64 0]) (by simp [results, Try.f24, go_sem, k0, k1, k2, k3, k4, k5, k6, k7, k8]) rfl ?_
         unfold RefAns
         rw [HT3.out]
         have hfr := HTT.out.1
         rw [HXI.out] at hfr
         refine ⟨B8, d8, ?_, by rw [hfr], by rw [hfr], HL8'.out, Kd.F_now (Kd.F_step HCe.out (fun k hk hlt => hk9.block k hlt (by omega))), ⟨ng, some ad, c1, ?_, ?_⟩, hFK⟩
         · rw [hfr, HTT.out.2.1]
         · rw [show (T.D.map toC).length = E2.length from by rw [List.length_map]; exact HTT.out.2.2.2]
           exact (hk9.block g (blk_lt HGe.out) (by omega)).trans HGe.out
         · rw [show (T.D.map toC).length = E2.length from by rw [List.length_map]; exact HTT.out.2.2.2]
           exact R99_keep HRe.out hk9 KZe.out
end Go.Proofs.Ytjejhgjdmbodiaa.PO
