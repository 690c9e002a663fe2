/- What the rows of this claim use, out of the texts of this work (GG, SH, GH). No condition beyond those that each statement names. -/
import Derived.Deep.DeepCutAuto
import Derived.Deep.CutBlock
import Derived.Test.YtenbkljgmgdegaaQjGC
import Derived.Test.YtenbkljgmgdegaaQjFU
import Derived.Test.YtenbkljgmgdegaaQjRD
section
namespace Go.Proofs.Ytenbkljgmgdegaa.PO
open Go.RowKit Go.Proofs.YtenbkljgmgdegaaW.PrintWords Go.Proofs.YtenbkljgmgdegaaW.PrintLast Go.Proofs.YtenbkljgmgdegaaW.PrintMore Go.Proofs.Ytenbkljgmgdegaa.XW
open Go.Proofs.Ytenbkljgmgdegaa.XRange
set_option linter.unusedVariables false
set_option linter.unusedSimpArgs false
structure QR (w wq : World) (G g N : Nat) (A : Option Addr) (c : Nat) (l : List Int) (p : Int) (b : Bool) (cs : Array Value) : Prop where
 rd : wq.heap[g]? = some (.cells #[.slice A l.length c, .int .i64 p, .bool b] 100 (0, 0))
 ob : wq.heap[N]? = some (.cells cs 54 (0, 0))
 gb : wq.heap[G]? = some (.cells #[.int .i64 0, .string ⟨#[]⟩, .string ⟨#[]⟩, .string ⟨#[]⟩, .int .i64 0, .int .i64 0, .int .i64 0, .slice none 0 0, .slice none 0 0] 54 (0, 0))
 ft : Kd.F (Kd.int .u8) wq (fun k => k < g) A l.length l
 bl : Below w.heap.size w wq
 le : l.length ≤ c
 lg : G < g
 ln : g < N
 lw : w.heap.size ≤ G
section
variable {w wq w1 : World} {G g N : Nat} {A : Option Addr} {c : Nat} {l : List Int} {p p' : Int} {b b' : Bool} {cs : Array Value}
theorem QR.rdAt (h : QR w wq G g N A c l p b cs) : RdAt 100 wq g A c l p b := ⟨h.rd, h.le, Kd.F_mono h.ft (fun k hk => by have : k < g := hk; omega)⟩
theorem QR.keeps (h : QR w wq G g N A c l p b cs) (hk : Keeps (fun k => g ≤ k) wq w1) (h1 : w1.heap[g]? = some (.cells #[.slice A l.length c, .int .i64 p', .bool b'] 100 (0, 0))) {cs' : Array Value} (h2 : w1.heap[N]? = some (.cells cs' 54 (0, 0))) : QR w w1 G g N A c l p' b' cs' :=
 ⟨h1, h2, (hk.block G (blk_lt h.gb) (by have := h.lg; omega)).trans h.gb, Kd.F_step h.ft (fun k hk' hlt => hk.block k hlt (by have h3 : k < g := hk'; omega)),
  below_keeps h.bl (M := fun k => g ≤ k) (fun k hk => by have := h.lw; have := h.lg; have h3 : g ≤ k := hk; omega) h.bl.size hk, h.le, h.lg, h.ln, h.lw⟩
theorem QR.grown (h : QR w wq G g N A c l p b cs) {row : Option Nat} (hg : wq.grownBy w1 row) (hr : ∀ k, row = some k → N < k) : QR w w1 G g N A c l p b cs :=
 h.keeps (keeps_weak (keeps_grown hg) (fun k hk => by have := hr k hk.symm; have := h.ln; omega)) (blk_grown h.rd hg (fun e => by have := hr g e.symm; have := h.ln; omega)) (blk_grown h.ob hg (fun e => by have := hr N e.symm; omega))
theorem QR.after (h : QR w wq G g N A c l p b cs) (hs : RdAt 100 w1 g A c l p' b') (hk : Keeps (fun k => k = g) wq w1) : QR w w1 G g N A c l p' b' cs :=
 h.keeps (keeps_weak hk (fun k h => by subst h; exact Nat.le_refl _)) hs.blk ((hk.block N (blk_lt h.ob) (by have := h.ln; omega)).trans h.ob)
theorem QR.below (h : QR w wq G g N A c l p b cs) (hb : Below wq.heap.size wq w1) : QR w w1 G g N A c l p b cs :=
 h.keeps (keeps_weak (Keeps.of_below hb (M := fun _ => False)) (fun _ f => f.elim)) (blk_below h.rd hb) (blk_below h.ob hb)
theorem QR.setN (h : QR w wq G g N A c l p b cs) (i : Nat) (u : Value) : QR w (wq.setCell ⟨N, i, none⟩ u) G g N A c l p b (cs.setIfInBounds i u) :=
 h.keeps (Keeps.setCell (M := fun k => g ≤ k) (Keeps.refl _ wq) (p := ⟨N, i, none⟩) (.inl (by have := h.ln; show g ≤ N; omega)) u) (blk_far h.rd (show g ≠ N by have := h.ln; omega) u) (blk_set h.ob i u)
theorem QR.setp (h : QR w wq G g N A c l p b cs) (a' : Int) : QR w (wq.setCell ⟨g, 1, none⟩ (.int .i64 a')) G g N A c l a' b cs :=
 h.keeps (Keeps.setCell (M := fun k => g ≤ k) (Keeps.refl _ wq) (p := ⟨g, 1, none⟩) (.inl (Nat.le_refl _)) _) (blk_set h.rd 1 _) (blk_far h.ob (show N ≠ g by have := h.ln; omega) _)
end
theorem QR.setok {w wq : World} {G g N : Nat} {A : Option Addr} {c : Nat} {l : List Int} {p : Int} {b : Bool} {cs : Array Value} (h : QR w wq G g N A c l p b cs) (b' : Bool) : QR w (wq.setCell ⟨g, 2, none⟩ (.bool b')) G g N A c l p b' cs :=
 h.keeps (Keeps.setCell (M := fun k => g ≤ k) (Keeps.refl _ wq) (p := ⟨g, 2, none⟩) (.inl (Nat.le_refl _)) _) (blk_set h.rd 2 _) (blk_far h.ob (show N ≠ g by have := h.ln; omega) _)
theorem nmR_at {l : List Int} (hB : isB l) (p : Int) (ok : Bool) : (nmR l p ok).2.2 = true → 0 ≤ (nmR l p ok).2.1 ∧ (nmR l p ok).2.1 ≤ (l.length : Int) := by
 intro h
 unfold nmR at h ⊢
 by_cases h0 : ok = false
 · rw [if_pos h0] at h; cases h
 rw [if_neg h0] at h ⊢
 by_cases h1 : (takeS l p).2.2 = 0
 · rw [if_pos h1] at h ⊢
   have ho := takeS_ok hB h1
   by_cases h2 : (takeS l p).1 > 1152921504606846976
   · rw [if_pos h2] at h; cases h
   · rw [if_neg h2]
     exact ⟨ho.1, ho.2.1⟩
 · rw [if_neg h1] at h; cases h
set_option maxHeartbeats 8000000 in
set_option maxRecDepth 100000 in
theorem refReadF_calls (w : World) (s : ByteArray) (hs : s.size ≤ 1000000) :
 Calls Try.prog 33 #[.string s] w fun e w' => ∃ v7 v8, e = .returned (.tuple #[.agg #[.int .i64 (refF (bytesOf s)).1.k, .string (refF (bytesOf s)).1.fa, .string (refF (bytesOf s)).1.fb, .string (refF (bytesOf s)).1.ct, .int .i64 (refF (bytesOf s)).1.se, .int .i64 (refF (bytesOf s)).1.ix, .int .i64 (refF (bytesOf s)).1.mn, v7, v8], .int .i64 (refF (bytesOf s)).2]) ∧ Kd.R k34 34 w' w.heap.size (fun _ => True) v7 (refF (bytesOf s)).1.kn ∧ Kd.R k36 36 w' w.heap.size (fun _ => True) v8 (refF (bytesOf s)).1.op ∧ Below w.heap.size w w' := by
 obtain ⟨⟨kd, body, n, er⟩, ho⟩ : ∃ r, openS (bytesOf s) = r := ⟨_, rfl⟩
 have HO := Aside0.mk ho
 have HSZ := Aside0.mk hs
 have HSL := Aside0.mk (bytesOf_length s)
 obtain ⟨G, hG⟩ : ∃ G, w.heap.size = G := ⟨_, rfl⟩
 clear ho hs
 go_enter Try.func33, Try.ntmps33
 obtain ⟨w0, hw0⟩ : ∃ w0, w.alloc (.cells #[.int .i64 0, .string ⟨#[]⟩, .string ⟨#[]⟩, .string ⟨#[]⟩, .int .i64 0, .int .i64 0, .int .i64 0, .slice none 0 0, .slice none 0 0] 54) = w0 := ⟨_, rfl⟩
 have HB0 := Aside0.mk (show Below w.heap.size w w0 from by rw [← hw0]; exact (Below.refl _ w).alloc (Nat.le_refl _) _)
 have HG0 := Aside0.mk (show w0.heap[G]? = some (.cells #[.int .i64 0, .string ⟨#[]⟩, .string ⟨#[]⟩, .string ⟨#[]⟩, .int .i64 0, .int .i64 0, .int .i64 0, .slice none 0 0, .slice none 0 0] 54 (0, 0)) from by rw [← hw0, ← hG]; exact World.alloc_heap_new w _)
 go_wp2_with fail
 try rw [hw0]
 try rw [hG]
 clear hw0
 refine (refOpen_calls w0 s HSZ.out).mono ?_
 rw [HO.out]
 rintro e w1 ⟨rfl, hb1⟩
 have HB1 := Aside0.mk (HB0.out.trans (hb1.mono HB0.out.size))
 have HG1 := Aside0.mk (blk_below HG0.out hb1)
 clear hb1 HB0 HG0
 have HW1 := Aside0.mk (show w.heap.size ≤ G from by omega)
 by_cases hbad : er ≠ 0 ∨ n ≠ (s.size : Int)
 · have Z0 := Aside0.mk (show refF (bytesOf s) = (zF, 110) from by
    unfold refF
    rw [HO.out]
    dsimp only
    rw [HSL.out, if_pos hbad])
   obtain ⟨e0, e1, e2, e3, e4, e5, e6, e7, e8⟩ := cells9 HG1.out
   obtain ⟨f0, f1, f2, f3, f4, f5, f6, f7, f8⟩ := froz9 HG1.out
   have hcase : (er != 0) = true ∨ (er = 0 ∧ (n != (s.size : Int)) = true) := by
    rcases hbad with h | h
    · exact .inl (by simpa using h)
    · by_cases h0 : er = 0
      · exact .inr ⟨h0, by simpa using h⟩
      · exact .inl (by simpa using h0)
   clear hbad
   rcases hcase with q1 | ⟨rfl, q1⟩
   all_goals
    go_wp2
    have h9 := set9 HG1.out (.int .i64 0) (.string ⟨#[]⟩) (.string ⟨#[]⟩) (.string ⟨#[]⟩) (.int .i64 0) (.int .i64 0) (.int .i64 0) (.slice none 0 0) (.slice none 0 0)
    obtain ⟨k0, k1, k2, k3, k4, k5, k6, k7, k8⟩ := cells9 h9
    have hk := below_keeps HB1.out (M := fun k => k = G) (fun k hk => by subst hk; exact HW1.out) HB1.out.size (keeps9 _ G (.int .i64 0) (.string ⟨#[]⟩) (.string ⟨#[]⟩) (.string ⟨#[]⟩) (.int .i64 0) (.int .i64 0) (.int .i64 0) (.slice none 0 0) (.slice none 0 0))
    rw [Z0.out]
    try rw [hG] at hk
    try rw [hG]
    exact bodyPost_ret (v := .tuple #[.agg #[.int .i64 0, .string ⟨#[]⟩, .string ⟨#[]⟩, .string ⟨#[]⟩, .int .i64 0, .int .i64 0, .int .i64 0, .slice none 0 0, .slice none 0 0], .int .i64 110]) (by simp [results, Try.f33, go_sem, k0, k1, k2, k3, k4, k5, k6, k7, k8]) rfl ⟨.slice none 0 0, .slice none 0 0, rfl, Kd.R_nil _ _ _ _ _, Kd.R_nil _ _ _ _ _, hk⟩
 · have q1 : er = 0 := Classical.byContradiction (fun h => hbad (Or.inl h))
   have q2 : n = (s.size : Int) := Classical.byContradiction (fun h => hbad (Or.inr h))
   subst q1
   subst q2
   have Z1 := Aside0.mk (show ∀ (f : Fr) (ok : Bool), parseR kd (bytesOf body) = (f, ok) → refF (bytesOf s) = if ok = true ∧ layFr f = (s, 0) then (f, 0) else (zF, 110) from fun f ok h => by
    unfold refF
    rw [HO.out]
    dsimp only
    rw [HSL.out, if_neg (by intro h; rcases h with h | h; exact h rfl; exact h rfl), h, nums_bytes])
   clear hbad
   have hcv := Lib.run_convert_string_bytes (P := Try.prog) w1 9 63 5 body Try.underlying9 Try.underlying63 Try.underlying5
   go_upto_region 5 with fail
   clear hcv
   obtain ⟨l, hl⟩ : ∃ l, bytesOf body = l := ⟨_, rfl⟩
   have hsl : body.size = l.length := by rw [← hl]; exact (bytesOf_length body).symm
   have hok := openS_ok (bytes_B s) HO.out
   have hl0 : l.length ≤ 1000000 := by
    have h1 := hok.2.2.1
    obtain ⟨_, _, _, _, p, ht, _, hp4, _, _, _⟩ := hok
    have h2 := text_isM 1048576 (by omega) (bytes_B s) (p := 1) (by rw [ht])
    rw [ht] at h2
    have h3 := congrArg List.length h2.2.2.2.2
    have h4 := HSZ.out
    have h5 := HSL.out
    unfold textB at h3
    simp only [List.length_take, List.length_append] at h3
    rw [bytesOf_length body] at h3
    omega
   have hk0 : 0 ≤ kd ∧ kd ≤ 255 := ⟨hok.1, hok.2.1⟩
   clear hok
   have hv := Kd.conv_V (W := w1) (e := 5) (base := 0) (ok := fun _ => True) body (fun _ _ => trivial) (by omega) (grownCap_ge w1 _ _ _)
   have hb1 := Kd.conv_below (W := w1) (w0 := w1) (base := w1.heap.size) 5 body (Below.refl _ _) (Nat.le_refl _)
   obtain ⟨w2, hw2⟩ : ∃ w2, Lib.bytesWorld w1 5 body = w2 := ⟨_, rfl⟩
   obtain ⟨A, hA⟩ : ∃ A, some (⟨w1.heap.size, 0, none⟩ : Addr) = A := ⟨_, rfl⟩
   obtain ⟨c, hcc⟩ : ∃ c, grownCap w1 body.size 0 5 = c := ⟨_, rfl⟩
   rw [hw2, hA, hcc, hl, hsl] at hv
   rw [hw2] at hb1
   rw [hw2, hA, hcc, hsl]
   have hlc : l.length ≤ c := by rw [← hcc, ← hsl]; exact grownCap_ge w1 _ _ _
   have hF := Kd.V_F hv
   clear hv hw2 hA hcc
   have hB : isB l := by rw [← hl]; exact bytes_B body
   have hlm : l.length ≤ 140737488355300 := by omega
   rw [hl] at Z1
   have HB2 := Aside0.mk (HB1.out.trans (hb1.mono HB1.out.size))
   have HG2 := Aside0.mk (blk_below HG1.out hb1)
   have HF := Aside0.mk hF
   clear hF hb1 HB1 HG1
   go_upto_region 6 with fail
   obtain ⟨w3, hw3⟩ : ∃ w3, (w2.alloc (.cells #[.slice A l.length c, .int .i64 0, .bool true] 100)).alloc (.cells #[.int .i64 kd, .string ⟨#[]⟩, .string ⟨#[]⟩, .string ⟨#[]⟩, .int .i64 0, .int .i64 0, .int .i64 0, .slice none 0 0, .slice none 0 0] 54) = w3 := ⟨_, rfl⟩
   obtain ⟨g, hg⟩ : ∃ g, w2.heap.size = g := ⟨_, rfl⟩
   obtain ⟨F, hF⟩ : ∃ F, g + 1 = F := ⟨_, rfl⟩
   have HGg := Aside0.mk (show G < g from by rw [← hg]; exact blk_lt HG2.out)
   have HT3 := Aside0.mk (show QR w w3 G g F A c l 0 true #[.int .i64 kd, .string ⟨#[]⟩, .string ⟨#[]⟩, .string ⟨#[]⟩, .int .i64 0, .int .i64 0, .int .i64 0, .slice none 0 0, .slice none 0 0] from by
    have ha := World.alloc_heap_new w2 (.cells #[.slice A l.length c, .int .i64 0, .bool true] 100)
    obtain ⟨wa, hwa⟩ : ∃ wa, w2.alloc (.cells #[.slice A l.length c, .int .i64 0, .bool true] 100) = wa := ⟨_, rfl⟩
    have sa : wa.heap.size = g + 1 := by rw [← hwa, World.size_alloc, hg]
    have ba : Below w2.heap.size w2 wa := by rw [← hwa]; exact (Below.refl _ w2).alloc (Nat.le_refl _) _
    rw [hwa] at hw3 ha
    have hd := World.alloc_heap_new wa (.cells #[.int .i64 kd, .string ⟨#[]⟩, .string ⟨#[]⟩, .string ⟨#[]⟩, .int .i64 0, .int .i64 0, .int .i64 0, .slice none 0 0, .slice none 0 0] 54)
    have bd : Below wa.heap.size wa w3 := by rw [← hw3]; exact (Below.refl _ wa).alloc (Nat.le_refl _) _
    rw [hw3] at hd
    have e2 : Below w2.heap.size w2 w3 := ba.trans (bd.mono ba.size)
    rw [hg] at ha
    rw [sa, hF] at hd
    exact ⟨blk_below ha bd, hd, blk_below HG2.out e2, Kd.F_below (Kd.F_mono (Kd.F_bound HF.out) (fun k hk => by rw [← hg]; exact hk.2)) e2, HB2.out.trans (e2.mono HB2.out.size), hlc, HGg.out, by omega, HW1.out⟩)
   try rw [hw3]
   try rw [hg]
   try rw [hF]
   clear hw3 hg HF HG2 HB2
   have hfx := txR_f 24 (by omega) (by omega) l hB hlm 0 true
   have hfs := txR_size 24 (by omega) l hB 0 true
   obtain ⟨⟨fa, p1, b1⟩, hA⟩ : ∃ x, txR 24 l 0 true = x := ⟨_, rfl⟩
   rw [hA] at hfx hfs
   have HA0 := Aside0.mk hA
   have HS0 := Aside0.mk hfs
   go_wp2_with fail
   refine (frt_text 60 g 24 A c l 0 true fa p1 b1 _ HT3.out.rdAt hfx).mono ?_
   rintro e wa ⟨rfl, hra, hka⟩
   have HTa := Aside0.mk (HT3.out.after hra hka)
   have ea : wa.cell? ⟨F, 1, none⟩ = some (.string ⟨#[]⟩) := (blk_cell HTa.out.ob 1).trans rfl
   have fa' := blk_frozen HTa.out.ob 1
   clear hra hka hfx hA HT3
   go_upto_region 7 with fail
   obtain ⟨w4, hw⟩ : ∃ x, wa.setCell ⟨F, 1, none⟩ (.string fa) = x := ⟨_, rfl⟩
   rw [hw]
   have HT4 := Aside0.mk (show QR w w4 G g F A c l p1 b1 #[.int .i64 kd, .string fa, .string ⟨#[]⟩, .string ⟨#[]⟩, .int .i64 0, .int .i64 0, .int .i64 0, .slice none 0 0, .slice none 0 0] from by
    rw [← hw]
    have h := HTa.out.setN 1 (.string fa)
    simp only [List.setIfInBounds_toArray, List.set_cons_zero, List.set_cons_succ] at h
    exact h)
   clear ea fa' hw HTa
   have hfx := txR_f 24 (by omega) (by omega) l hB hlm p1 b1
   have hfs := txR_size 24 (by omega) l hB p1 b1
   obtain ⟨⟨fb, p2, b2⟩, hA⟩ : ∃ x, txR 24 l p1 b1 = x := ⟨_, rfl⟩
   rw [hA] at hfx hfs
   have HA1 := Aside0.mk hA
   have HS1 := Aside0.mk hfs
   go_wp2_with fail
   refine (frt_text 60 g 24 A c l p1 b1 fb p2 b2 _ HT4.out.rdAt hfx).mono ?_
   rintro e wa ⟨rfl, hra, hka⟩
   have HTa := Aside0.mk (HT4.out.after hra hka)
   have ea : wa.cell? ⟨F, 2, none⟩ = some (.string ⟨#[]⟩) := (blk_cell HTa.out.ob 2).trans rfl
   have fa' := blk_frozen HTa.out.ob 2
   clear hra hka hfx hA HT4
   go_upto_region 8 with fail
   obtain ⟨w5, hw⟩ : ∃ x, wa.setCell ⟨F, 2, none⟩ (.string fb) = x := ⟨_, rfl⟩
   rw [hw]
   have HT5 := Aside0.mk (show QR w w5 G g F A c l p2 b2 #[.int .i64 kd, .string fa, .string fb, .string ⟨#[]⟩, .int .i64 0, .int .i64 0, .int .i64 0, .slice none 0 0, .slice none 0 0] from by
    rw [← hw]
    have h := HTa.out.setN 2 (.string fb)
    simp only [List.setIfInBounds_toArray, List.set_cons_zero, List.set_cons_succ] at h
    exact h)
   clear ea fa' hw HTa
   have hfx := txR_f 32 (by omega) (by omega) l hB hlm p2 b2
   have hfs := txR_size 32 (by omega) l hB p2 b2
   obtain ⟨⟨ct, p3, b3⟩, hA⟩ : ∃ x, txR 32 l p2 b2 = x := ⟨_, rfl⟩
   rw [hA] at hfx hfs
   have HA2 := Aside0.mk hA
   have HS2 := Aside0.mk hfs
   go_wp2_with fail
   refine (frt_text 60 g 32 A c l p2 b2 ct p3 b3 _ HT5.out.rdAt hfx).mono ?_
   rintro e wa ⟨rfl, hra, hka⟩
   have HTa := Aside0.mk (HT5.out.after hra hka)
   have ea : wa.cell? ⟨F, 3, none⟩ = some (.string ⟨#[]⟩) := (blk_cell HTa.out.ob 3).trans rfl
   have fa' := blk_frozen HTa.out.ob 3
   clear hra hka hfx hA HT5
   go_upto_region 9 with fail
   obtain ⟨w6, hw⟩ : ∃ x, wa.setCell ⟨F, 3, none⟩ (.string ct) = x := ⟨_, rfl⟩
   rw [hw]
   have HT6 := Aside0.mk (show QR w w6 G g F A c l p3 b3 #[.int .i64 kd, .string fa, .string fb, .string ct, .int .i64 0, .int .i64 0, .int .i64 0, .slice none 0 0, .slice none 0 0] from by
    rw [← hw]
    have h := HTa.out.setN 3 (.string ct)
    simp only [List.setIfInBounds_toArray, List.set_cons_zero, List.set_cons_succ] at h
    exact h)
   clear ea fa' hw HTa
   have hfx := nmR_f l hB hlm p3 b3
   obtain ⟨⟨se, p4, b4⟩, hA⟩ : ∃ x, nmR l p3 b3 = x := ⟨_, rfl⟩
   rw [hA] at hfx
   have HA3 := Aside0.mk hA
   go_wp2_with fail
   refine (frt_number 60 g A c l p3 b3 se p4 b4 _ HT6.out.rdAt hfx).mono ?_
   rintro e wa ⟨rfl, hra, hka⟩
   have HTa := Aside0.mk (HT6.out.after hra hka)
   have ea : wa.cell? ⟨F, 4, none⟩ = some (.int .i64 0) := (blk_cell HTa.out.ob 4).trans rfl
   have fa' := blk_frozen HTa.out.ob 4
   clear hra hka hfx hA HT6
   go_upto_region 10 with fail
   obtain ⟨w7, hw⟩ : ∃ x, wa.setCell ⟨F, 4, none⟩ (.int .i64 se) = x := ⟨_, rfl⟩
   rw [hw]
   have HT7 := Aside0.mk (show QR w w7 G g F A c l p4 b4 #[.int .i64 kd, .string fa, .string fb, .string ct, .int .i64 se, .int .i64 0, .int .i64 0, .slice none 0 0, .slice none 0 0] from by
    rw [← hw]
    have h := HTa.out.setN 4 (.int .i64 se)
    simp only [List.setIfInBounds_toArray, List.set_cons_zero, List.set_cons_succ] at h
    exact h)
   clear ea fa' hw HTa
   have hfx := nmR_f l hB hlm p4 b4
   obtain ⟨⟨ix, p5, b5⟩, hA⟩ : ∃ x, nmR l p4 b4 = x := ⟨_, rfl⟩
   rw [hA] at hfx
   have HA4 := Aside0.mk hA
   go_wp2_with fail
   refine (frt_number 60 g A c l p4 b4 ix p5 b5 _ HT7.out.rdAt hfx).mono ?_
   rintro e wa ⟨rfl, hra, hka⟩
   have HTa := Aside0.mk (HT7.out.after hra hka)
   have ea : wa.cell? ⟨F, 5, none⟩ = some (.int .i64 0) := (blk_cell HTa.out.ob 5).trans rfl
   have fa' := blk_frozen HTa.out.ob 5
   clear hra hka hfx hA HT7
   go_upto_region 11 with fail
   obtain ⟨w8, hw⟩ : ∃ x, wa.setCell ⟨F, 5, none⟩ (.int .i64 ix) = x := ⟨_, rfl⟩
   rw [hw]
   have HT8 := Aside0.mk (show QR w w8 G g F A c l p5 b5 #[.int .i64 kd, .string fa, .string fb, .string ct, .int .i64 se, .int .i64 ix, .int .i64 0, .slice none 0 0, .slice none 0 0] from by
    rw [← hw]
    have h := HTa.out.setN 5 (.int .i64 ix)
    simp only [List.setIfInBounds_toArray, List.set_cons_zero, List.set_cons_succ] at h
    exact h)
   clear ea fa' hw HTa
   have h80 : w8.cell? ⟨F, 0, none⟩ = some (.int .i64 kd) := (blk_cell HT8.out.ob 0).trans rfl
   go_upto_block 0 with fail
   clear h80
   go_cut [10, 11, 12] (fun s10 s11 s12 wx => ∃ (p : Int) (b : Bool) (mn : Int) (V : List S34) (A7 : Option Addr) (c7 : Nat) (SN : List S36) (A8 : Option Addr) (c8 : Nat),
    Aside0 (QR w wx G g F A c l p b #[.int .i64 kd, .string fa, .string fb, .string ct, .int .i64 se, .int .i64 ix, .int .i64 mn, .slice A7 V.length c7, .slice A8 SN.length c8] ∧
     Kd.R k34 34 wx (F + 1) (fun _ => True) (.slice A7 V.length c7) V ∧ Kd.R k36 36 wx (F + 1) (fun _ => True) (.slice A8 SN.length c8) SN ∧
     parseR kd l = (⟨kd, fa, fb, ct, se, ix, mn, V, SN⟩, b) ∧ sizes 1000 V ∧ (∀ x, x ∈ SN → WfO 1000 x)))
   case first =>
    by_cases hk1 : kd = 1
    · have q1 : (kd == 1) = true := by simp [hk1]
      obtain ⟨⟨V, pv, ve⟩, hV⟩ : ∃ x, vecS l p5 = x := ⟨_, rfl⟩
      have HVS := Aside0.mk (show sizes 1000 V from by have h := vecS_ok hB p5 1000 (by omega); rw [hV] at h; exact h)
      have HZP := Aside0.mk (show parseR kd l = (⟨kd, fa, fb, ct, se, ix, 0, V, []⟩, b5 && ve == 0) from by
       unfold parseR
       rw [HA0.out]
       dsimp only
       rw [HA1.out]
       dsimp only
       rw [HA2.out]
       dsimp only
       rw [HA3.out]
       dsimp only
       rw [HA4.out]
       dsimp only
       unfold tailR
       rw [if_pos hk1, hV])
      have HTK := Aside0.mk (show pannierref07_Take.f (l.length + 401) l p5 = some (V, pv, ve) from by rw [refTake_f l hB hlm p5 _ (by omega), hV])
      clear hV hk1
      go_wp2
      refine start_ (n := 16) (ds := []) (S := fun w' => w'.cell? ⟨g, 0, none⟩ = some (.slice A l.length c) ∧ w'.cell? ⟨g, 1, none⟩ = some (.int .i64 p5)) _ (by kernel_rfl) rfl rfl ⟨(blk_cell (blk_drew HT8.out.rd) 0).trans rfl, (blk_cell (blk_drew HT8.out.rd) 1).trans rfl⟩ (fun hH => ?_)
      refine XReg.pu 0 58 (h := ?_)
      refine XReg.pu 1 59 (h := ?_)
      refine XReg.pu 2 60 (h := ?_)
      refine XReg.tk 3 61 (h := ?_)
      refine XReg.pu 4 62 (h := ?_)
      refine XReg.pu 5 63 (h := ?_)
      refine XReg.pu 6 64 (h := ?_)
      refine XReg.tk 7 65 (h := ?_)
      refine XReg.one (i := 8) (some 66) rfl rfl (by kernel_rfl) (by decide) (fun Kc hKc => ?_)
      refine goes_ Try.func76 (by kernel_rfl) rfl #[.slice A l.length c, .int .i64 p5] (by rfl) rfl rfl (by (try simp only [List.map_toArray, List.map_cons, List.map_nil]); first | done | rfl) ?_
      refine (pannierref07_Take.calls (l.length + 401) A c l p5 V pv ve _ (Kd.C_drew (Kd.F_now HT8.out.ft)) HT8.out.le HTK.out).mono ?_
      rintro e wg ⟨vv, rfl, hrg, hbg⟩
      refine ⟨_, rfl, ?_⟩
      have hbg' : Below w8.heap.size w8 wg := (below_drew1 (Below.refl _ w8)).trans hbg
      have HTg := Aside0.mk (HT8.out.below hbg')
      obtain ⟨Av, cv, rfl⟩ := Kd.R_slice hrg
      have HRg := Aside0.mk (show Kd.R k34 34 wg (F + 1) (fun _ => True) (.slice Av V.length cv) V from Kd.R_lower hrg (by have := blk_lt HT8.out.ob; exact this))
      refine hKc.out _ _ ⟨(blk_cell HTg.out.rd 0).trans rfl, (blk_cell HTg.out.rd 1).trans rfl⟩ (fun hH2 => ?_)
      clear hKc Kc hH hrg hbg hbg' HT8 HTK
      refine XReg.pu 9 57 (h := ?_)
      refine XReg.pu 10 67 (h := ?_)
      refine XReg.pu 11 68 (h := ?_)
      refine XReg.pu 12 69 (h := ?_)
      refine XReg.pu 13 10 (h := ?_)
      refine XReg.pu 14 11 (h := ?_)
      refine XReg.pu 15 12 (h := ?_)
      refine done_ (by kernel_rfl) ?_
      clear hH2
      obtain ⟨be, hbe⟩ : ∃ b, (ve == 0) = b := ⟨_, rfl⟩
      have HBE := Aside0.mk hbe
      obtain ⟨we, hwe⟩ : ∃ x, ((wg.setCell ⟨g, 2, none⟩ (.bool (b5 && be))).setCell ⟨F, 7, none⟩ (.slice Av V.length cv)).setCell ⟨g, 1, none⟩ (.int .i64 pv) = x := ⟨_, rfl⟩
      have HWE := Aside0.mk hwe
      have HTe := Aside0.mk (show QR w we G g F A c l pv (b5 && be) #[.int .i64 kd, .string fa, .string fb, .string ct, .int .i64 se, .int .i64 ix, .int .i64 0, .slice Av V.length cv, .slice none 0 0] from by
       rw [← hwe]
       have h := ((HTg.out.setok (b5 && be)).setN 7 (.slice Av V.length cv)).setp pv
       simp only [List.setIfInBounds_toArray, List.set_cons_zero, List.set_cons_succ] at h
       exact h)
      have HRe := Aside0.mk (R_apart HRg.out (show Keeps (fun k => k = g ∨ k = F) wg we from by
       rw [← hwe]
       exact Keeps.setCell (M := fun k => k = g ∨ k = F) (Keeps.setCell (M := fun k => k = g ∨ k = F) (Keeps.setCell (M := fun k => k = g ∨ k = F) (Keeps.refl _ wg) (p := ⟨g, 2, none⟩) (.inl (.inl rfl)) _) (p := ⟨F, 7, none⟩) (.inl (.inr rfl)) _) (p := ⟨g, 1, none⟩) (.inl (.inl rfl)) _) (fun k hk => by have := HTg.out.ln; rcases hk with rfl | rfl <;> omega))
      have c2 : wg.cell? ⟨g, 2, none⟩ = some (.bool b5) := (blk_cell HTg.out.rd 2).trans rfl
      have g2 := blk_frozen HTg.out.rd 2
      have hgF := HTg.out.ln
      have x7 : ∀ u, (wg.setCell ⟨g, 2, none⟩ u).cell? ⟨F, 7, none⟩ = some (.slice none 0 0) := fun u => (blk_cell (blk_far HTg.out.ob (p := ⟨g, 2, none⟩) (by show F ≠ g; omega) u) 7).trans rfl
      have y7 : ∀ u, (wg.setCell ⟨g, 2, none⟩ u).frozen? ⟨F, 7, none⟩ = false := fun u => blk_frozen (blk_far HTg.out.ob (p := ⟨g, 2, none⟩) (by show F ≠ g; omega) u) 7
      have x1 : ∀ u v, ((wg.setCell ⟨g, 2, none⟩ u).setCell ⟨F, 7, none⟩ v).cell? ⟨g, 1, none⟩ = some (.int .i64 p5) := fun u v => (blk_cell (blk_far (blk_set HTg.out.rd 2 u) (p := ⟨F, 7, none⟩) (by show g ≠ F; omega) v) 1).trans rfl
      have y1 : ∀ u v, ((wg.setCell ⟨g, 2, none⟩ u).setCell ⟨F, 7, none⟩ v).frozen? ⟨g, 1, none⟩ = false := fun u v => blk_frozen (blk_far (blk_set HTg.out.rd 2 u) (p := ⟨F, 7, none⟩) (by show g ≠ F; omega) v) 1
      clear hwe hgF HRg HTg
      have hfin : ∃ (p : Int) (b : Bool) (mn : Int) (V' : List S34) (A7 : Option Addr) (c7 : Nat) (SN : List S36) (A8 : Option Addr) (c8 : Nat),
       Aside0 (QR w (((wg.setCell ⟨g, 2, none⟩ (.bool (b5 && be))).setCell ⟨F, 7, none⟩ (.slice Av V.length cv)).setCell ⟨g, 1, none⟩ (.int .i64 pv)) G g F A c l p b #[.int .i64 kd, .string fa, .string fb, .string ct, .int .i64 se, .int .i64 ix, .int .i64 mn, .slice A7 V'.length c7, .slice A8 SN.length c8] ∧
        Kd.R k34 34 (((wg.setCell ⟨g, 2, none⟩ (.bool (b5 && be))).setCell ⟨F, 7, none⟩ (.slice Av V.length cv)).setCell ⟨g, 1, none⟩ (.int .i64 pv)) (F + 1) (fun _ => True) (.slice A7 V'.length c7) V' ∧ Kd.R k36 36 (((wg.setCell ⟨g, 2, none⟩ (.bool (b5 && be))).setCell ⟨F, 7, none⟩ (.slice Av V.length cv)).setCell ⟨g, 1, none⟩ (.int .i64 pv)) (F + 1) (fun _ => True) (.slice A8 SN.length c8) SN ∧
        parseR kd l = (⟨kd, fa, fb, ct, se, ix, mn, V', SN⟩, b) ∧ sizes 1000 V' ∧ (∀ x, x ∈ SN → WfO 1000 x)) := by
       rw [HWE.out]
       exact ⟨pv, _, 0, V, Av, cv, [], none, 0, ⟨HTe.out, HRe.out, Kd.R_nil _ _ _ _ _, by rw [← HBE.out]; exact HZP.out, HVS.out, fun x hx => by cases hx⟩⟩
      have HFIN := Aside0.mk hfin
      clear hfin
      cases b5 <;> cases be <;> (go_wp2; go_meet; exact HFIN.out)
    · have q1 : (kd == 1) = false := by simpa using hk1
      by_cases hk2 : kd = 2
      · have q2 : (kd == 2) = true := by simp [hk2]
        have hfx := nmR_f l hB hlm p5 b5
        obtain ⟨⟨mn, p6, b6⟩, hA⟩ : ∃ x, nmR l p5 b5 = x := ⟨_, rfl⟩
        rw [hA] at hfx
        have hfy := nmR_f l hB hlm p6 b6
        have hrg := nmR_range l hB p6 b6
        have hat := nmR_at hB p6 b6
        obtain ⟨⟨n, p7, b7⟩, hA2⟩ : ∃ x, nmR l p6 b6 = x := ⟨_, rfl⟩
        rw [hA2] at hfy hrg hat
        dsimp only at hrg hat
        obtain ⟨⟨p8, b8, SN⟩, hA3⟩ : ∃ x, opR l n.toNat p7 b7 [] = x := ⟨_, rfl⟩
        have HSS := Aside0.mk (show ∀ x, x ∈ SN → WfO 1000 x from by
         have h := opR_ok hB 1000 (by omega) n.toNat p7 b7 [] (fun x hx => by cases hx)
         rw [hA3] at h
         exact h)
        have HZP := Aside0.mk (show parseR kd l = (⟨kd, fa, fb, ct, se, ix, mn, [], SN⟩, b8) from by
         unfold parseR
         rw [HA0.out]
         dsimp only
         rw [HA1.out]
         dsimp only
         rw [HA2.out]
         dsimp only
         rw [HA3.out]
         dsimp only
         rw [HA4.out]
         dsimp only
         unfold tailR
         rw [if_neg hk1, if_pos hk2, hA]
         dsimp only
         rw [hA2]
         dsimp only
         rw [hA3])
        have HRG := Aside0.mk hrg
        have HAT := Aside0.mk hat
        have HA3 := Aside0.mk hA3
        have HFY := Aside0.mk hfy
        clear hk1 hk2 hA hA2 hA3 hrg hat hfy
        go_wp2_with fail
        refine (frt_number 60 g A c l p5 b5 mn p6 b6 _ HT8.out.rdAt hfx).mono ?_
        rintro e wa ⟨rfl, hra, hka⟩
        have HTa := Aside0.mk (HT8.out.after hra hka)
        have ea : wa.cell? ⟨F, 6, none⟩ = some (.int .i64 0) := (blk_cell HTa.out.ob 6).trans rfl
        have fa' := blk_frozen HTa.out.ob 6
        clear hra hka hfx HT8
        go_upto_region 19 with fail
        obtain ⟨w9, hw⟩ : ∃ x, wa.setCell ⟨F, 6, none⟩ (.int .i64 mn) = x := ⟨_, rfl⟩
        rw [hw]
        have HT9 := Aside0.mk (show QR w w9 G g F A c l p6 b6 #[.int .i64 kd, .string fa, .string fb, .string ct, .int .i64 se, .int .i64 ix, .int .i64 mn, .slice none 0 0, .slice none 0 0] from by
         rw [← hw]
         have h := HTa.out.setN 6 (.int .i64 mn)
         simp only [List.setIfInBounds_toArray, List.set_cons_zero, List.set_cons_succ] at h
         exact h)
        clear ea fa' hw HTa
        go_wp2_with fail
        refine (frt_number 60 g A c l p6 b6 n p7 b7 _ HT9.out.rdAt HFY.out).mono ?_
        rintro e wb ⟨rfl, hrb, hkb⟩
        have HTb := Aside0.mk (HT9.out.after hrb hkb)
        clear hrb hkb HT9
        go_wp2_with fail
        have hops := frt_ops g A c l hB hl0 n HRG.out.1 HRG.out.2 p7 b7 HAT.out wb HTb.out.rdAt
        rw [HA3.out] at hops
        dsimp only at hops
        refine hops.mono ?_
        rintro e wg ⟨A8, c8, rfl, hrg, hkg, hr8⟩
        have HTg := Aside0.mk (HTb.out.after hrg hkg)
        have HRg := Aside0.mk (show Kd.R k36 36 wg (F + 1) (fun _ => True) (.slice A8 SN.length c8) SN from Kd.R_lower hr8 (by have := blk_lt HTb.out.ob; exact this))
        have e8 : wg.cell? ⟨F, 8, none⟩ = some (.slice none 0 0) := (blk_cell HTg.out.ob 8).trans rfl
        have f8 := blk_frozen HTg.out.ob 8
        have HTh := Aside0.mk (show QR w (wg.setCell ⟨F, 8, none⟩ (.slice A8 SN.length c8)) G g F A c l p8 b8 #[.int .i64 kd, .string fa, .string fb, .string ct, .int .i64 se, .int .i64 ix, .int .i64 mn, .slice none 0 0, .slice A8 SN.length c8] from by
         have h := HTg.out.setN 8 (.slice A8 SN.length c8)
         simp only [List.setIfInBounds_toArray, List.set_cons_zero, List.set_cons_succ] at h
         exact h)
        have HRh := Aside0.mk (R_apart HRg.out (Keeps.setCell (M := fun k => k = F) (Keeps.refl _ wg) (p := ⟨F, 8, none⟩) (.inl rfl) (.slice A8 SN.length c8)) (fun k hk => by omega))
        clear hops hrg hkg hr8 HTb HTg HRg
        go_wp2
        go_meet
        exact ⟨p8, b8, mn, [], none, 0, SN, A8, c8, ⟨HTh.out, Kd.R_nil _ _ _ _ _, HRh.out, HZP.out, (fun x hx => by cases hx), HSS.out⟩⟩
      · have q2 : (kd == 2) = false := by simpa using hk2
        have HZP := Aside0.mk (show parseR kd l = (⟨kd, fa, fb, ct, se, ix, 0, [], []⟩, b5) from by
         unfold parseR
         rw [HA0.out]
         dsimp only
         rw [HA1.out]
         dsimp only
         rw [HA2.out]
         dsimp only
         rw [HA3.out]
         dsimp only
         rw [HA4.out]
         dsimp only
         unfold tailR
         rw [if_neg hk1, if_neg hk2])
        clear hk1 hk2
        go_wp2
        go_meet
        exact ⟨p5, b5, 0, [], none, 0, [], none, 0, ⟨HT8.out, Kd.R_nil _ _ _ _ _, Kd.R_nil _ _ _ _ _, HZP.out, (fun x hx => by cases hx), (fun x hx => by cases hx)⟩⟩
   case rest =>
    obtain ⟨p, b, mn, V, A7, c7, SN, A8, c8, H0⟩ := hcut
    have HTE := Aside0.mk H0.out.1
    have HR7 := Aside0.mk H0.out.2.1
    have HR8 := Aside0.mk H0.out.2.2.1
    have HZZ := Aside0.mk (Z1.out _ _ H0.out.2.2.2.1)
    have HWF := Aside0.mk (show WfF 1000 ⟨kd, fa, fb, ct, se, ix, mn, V, SN⟩ from ⟨by show fa.size ≤ 1000; have := HS0.out; omega, by show fb.size ≤ 1000; have := HS1.out; omega, by show ct.size ≤ 1000; have := HS2.out; omega, H0.out.2.2.2.2.1, H0.out.2.2.2.2.2, by omega⟩)
    clear H0 HT8 Z1
    obtain ⟨n0, n1, n2, n3, n4, n5, n6, n7, n8⟩ := cells9 HTE.out.ob
    go_wp2_with fail
    refine (refLayF_calls ⟨kd, fa, fb, ct, se, ix, mn, V, SN⟩ A7 c7 A8 c8 wc (Kd.R_reads' HR7.out).2.1 (Kd.R_reads' HR7.out).2.2 (Kd.R_reads' HR8.out).2.1 (Kd.R_reads' HR8.out).2.2 1000 HWF.out).mono ?_
    obtain ⟨⟨u, le⟩, hu⟩ : ∃ r, layFr ⟨kd, fa, fb, ct, se, ix, mn, V, SN⟩ = r := ⟨_, rfl⟩
    rw [hu] at HZZ ⊢
    rintro e wz ⟨rfl, hbz⟩
    have HTz := Aside0.mk (HTE.out.below hbz)
    have HR7z := Aside0.mk (Kd.R_below HR7.out hbz)
    have HR8z := Aside0.mk (Kd.R_below HR8.out hbz)
    have c2 : wz.cell? ⟨g, 2, none⟩ = some (.bool b) := (blk_cell HTz.out.rd 2).trans rfl
    clear hbz hu n0 n1 n2 n3 n4 n5 n6 n7 n8 HTE HR7 HR8 HWF
    obtain ⟨n0, n1, n2, n3, n4, n5, n6, n7, n8⟩ := cells9 HTz.out.ob
    obtain ⟨e0, e1, e2, e3, e4, e5, e6, e7, e8⟩ := cells9 HTz.out.gb
    obtain ⟨f0, f1, f2, f3, f4, f5, f6, f7, f8⟩ := froz9 HTz.out.gb
    cases b with
    | false =>
      have Z0 := Aside0.mk (show refF (bytesOf s) = (zF, 110) from by rw [HZZ.out, if_neg (by simp)])
      go_wp2
      have h9 := set9 HTz.out.gb (.int .i64 0) (.string ⟨#[]⟩) (.string ⟨#[]⟩) (.string ⟨#[]⟩) (.int .i64 0) (.int .i64 0) (.int .i64 0) (.slice none 0 0) (.slice none 0 0)
      obtain ⟨k0, k1, k2, k3, k4, k5, k6, k7, k8⟩ := cells9 h9
      have hk := below_keeps HTz.out.bl (M := fun k => k = G) (fun k hk => by subst hk; exact HW1.out) HTz.out.bl.size (keeps9 _ G (.int .i64 0) (.string ⟨#[]⟩) (.string ⟨#[]⟩) (.string ⟨#[]⟩) (.int .i64 0) (.int .i64 0) (.int .i64 0) (.slice none 0 0) (.slice none 0 0))
      rw [Z0.out]
      try rw [hG] at hk
      try rw [hG]
      exact bodyPost_ret (v := .tuple #[.agg #[.int .i64 0, .string ⟨#[]⟩, .string ⟨#[]⟩, .string ⟨#[]⟩, .int .i64 0, .int .i64 0, .int .i64 0, .slice none 0 0, .slice none 0 0], .int .i64 110]) (by simp [results, Try.f33, go_sem, k0, k1, k2, k3, k4, k5, k6, k7, k8]) rfl ⟨.slice none 0 0, .slice none 0 0, rfl, Kd.R_nil _ _ _ _ _, Kd.R_nil _ _ _ _ _, hk⟩
    | true =>
    by_cases hle : le = 0
    case neg =>
     have q4 : (le != 0) = true := by simpa using hle
     have Z0 := Aside0.mk (show refF (bytesOf s) = (zF, 110) from by rw [HZZ.out, if_neg (by intro h; have := h.2; simp only [Prod.mk.injEq] at this; exact hle this.2)])
     clear hle
     go_wp2
     have h9 := set9 HTz.out.gb (.int .i64 0) (.string ⟨#[]⟩) (.string ⟨#[]⟩) (.string ⟨#[]⟩) (.int .i64 0) (.int .i64 0) (.int .i64 0) (.slice none 0 0) (.slice none 0 0)
     obtain ⟨k0, k1, k2, k3, k4, k5, k6, k7, k8⟩ := cells9 h9
     have hk := below_keeps HTz.out.bl (M := fun k => k = G) (fun k hk => by subst hk; exact HW1.out) HTz.out.bl.size (keeps9 _ G (.int .i64 0) (.string ⟨#[]⟩) (.string ⟨#[]⟩) (.string ⟨#[]⟩) (.int .i64 0) (.int .i64 0) (.int .i64 0) (.slice none 0 0) (.slice none 0 0))
     rw [Z0.out]
     try rw [hG] at hk
     try rw [hG]
     exact bodyPost_ret (v := .tuple #[.agg #[.int .i64 0, .string ⟨#[]⟩, .string ⟨#[]⟩, .string ⟨#[]⟩, .int .i64 0, .int .i64 0, .int .i64 0, .slice none 0 0, .slice none 0 0], .int .i64 110]) (by simp [results, Try.f33, go_sem, k0, k1, k2, k3, k4, k5, k6, k7, k8]) rfl ⟨.slice none 0 0, .slice none 0 0, rfl, Kd.R_nil _ _ _ _ _, Kd.R_nil _ _ _ _ _, hk⟩
    subst hle
    by_cases hus : u.toList = s.toList
    case neg =>
     have q4 : (u.toList == s.toList) = false := by simp [hus]
     have Z0 := Aside0.mk (show refF (bytesOf s) = (zF, 110) from by rw [HZZ.out, if_neg (by intro h; have := h.2; simp only [Prod.mk.injEq] at this; exact hus (by rw [this.1]))])
     clear hus
     go_wp2
     have h9 := set9 HTz.out.gb (.int .i64 0) (.string ⟨#[]⟩) (.string ⟨#[]⟩) (.string ⟨#[]⟩) (.int .i64 0) (.int .i64 0) (.int .i64 0) (.slice none 0 0) (.slice none 0 0)
     obtain ⟨k0, k1, k2, k3, k4, k5, k6, k7, k8⟩ := cells9 h9
     have hk := below_keeps HTz.out.bl (M := fun k => k = G) (fun k hk => by subst hk; exact HW1.out) HTz.out.bl.size (keeps9 _ G (.int .i64 0) (.string ⟨#[]⟩) (.string ⟨#[]⟩) (.string ⟨#[]⟩) (.int .i64 0) (.int .i64 0) (.int .i64 0) (.slice none 0 0) (.slice none 0 0))
     rw [Z0.out]
     try rw [hG] at hk
     try rw [hG]
     exact bodyPost_ret (v := .tuple #[.agg #[.int .i64 0, .string ⟨#[]⟩, .string ⟨#[]⟩, .string ⟨#[]⟩, .int .i64 0, .int .i64 0, .int .i64 0, .slice none 0 0, .slice none 0 0], .int .i64 110]) (by simp [results, Try.f33, go_sem, k0, k1, k2, k3, k4, k5, k6, k7, k8]) rfl ⟨.slice none 0 0, .slice none 0 0, rfl, Kd.R_nil _ _ _ _ _, Kd.R_nil _ _ _ _ _, hk⟩
    have q4 : (u.toList == s.toList) = true := by simp [hus]
    have Z0 := Aside0.mk (show refF (bytesOf s) = (⟨kd, fa, fb, ct, se, ix, mn, V, SN⟩, 0) from by rw [HZZ.out, if_pos (by exact ⟨rfl, by rw [bytes_inj hus]⟩)])
    clear hus
    go_wp2
    have h9 := set9 HTz.out.gb (.int .i64 kd) (.string fa) (.string fb) (.string ct) (.int .i64 se) (.int .i64 ix) (.int .i64 mn) (.slice A7 V.length c7) (.slice A8 SN.length c8)
    obtain ⟨k0, k1, k2, k3, k4, k5, k6, k7, k8⟩ := cells9 h9
    have hkG := keeps9 wz G (.int .i64 kd) (.string fa) (.string fb) (.string ct) (.int .i64 se) (.int .i64 ix) (.int .i64 mn) (.slice A7 V.length c7) (.slice A8 SN.length c8)
    have hk := below_keeps HTz.out.bl (M := fun k => k = G) (fun k hk => by subst hk; exact HW1.out) HTz.out.bl.size hkG
    have hlo : ∀ k, k = G → k < F + 1 := fun k hk => by have := HTz.out.lg; have := HTz.out.ln; omega
    have hGN : w.heap.size ≤ F + 1 := by have := HTz.out.lg; have := HTz.out.ln; have := HW1.out; omega
    have rv := Kd.R_lower (Kd.R_mono (R_apart HR7z.out hkG hlo) (ok' := fun _ => True) (fun _ _ => trivial)) hGN
    have r7 := Kd.R_lower (Kd.R_mono (R_apart HR8z.out hkG hlo) (ok' := fun _ => True) (fun _ _ => trivial)) hGN
    rw [Z0.out]
    try rw [hG] at hk rv r7
    try rw [hG]
    exact bodyPost_ret (v := .tuple #[.agg #[.int .i64 kd, .string fa, .string fb, .string ct, .int .i64 se, .int .i64 ix, .int .i64 mn, .slice A7 V.length c7, .slice A8 SN.length c8], .int .i64 0]) (by simp [results, Try.f33, go_sem, k0, k1, k2, k3, k4, k5, k6, k7, k8]) rfl ⟨.slice A7 V.length c7, .slice A8 SN.length c8, rfl, rv, r7, hk⟩
end Go.Proofs.Ytenbkljgmgdegaa.PO
end
section
namespace Go.Proofs.Ytenbkljgmgdegaa.PO
open Go.RowKit Go.Proofs.YtenbkljgmgdegaaW.PrintWords Go.Proofs.YtenbkljgmgdegaaW.PrintLast Go.Proofs.YtenbkljgmgdegaaW.PrintMore Go.Proofs.Ytenbkljgmgdegaa.XW
open Go.Proofs.Ytenbkljgmgdegaa.XRange
set_option linter.unusedVariables false
set_option linter.unusedSimpArgs false
def sB : ByteArray := ⟨#[98]⟩
def f0 : Fr := ⟨3, sA, sB, sC, 1, 2, 0, [], []⟩
theorem f0_ok : rightF f0 = true := by
 unfold rightF headF bodyF f0
 rw [show isNameB sA = true by decide, show isNameB sB = true by decide]
 decide
theorem lay0 : ∃ s, layFr f0 = (s, 0) ∧ s.size = 14 ∧ (s.extract 0 10).toList = [3, 8, 1, 97, 1, 98, 1, 99, 1, 2] := by
 refine ⟨strOfNums (sealT 3 (bodyB f0)), ?_, ?_, ?_⟩
 · unfold layFr
   rw [if_pos f0_ok]
   rfl
 · decide +kernel
 · rw [ByteArray.toList_eq]
   decide +kernel
theorem lay0_calls (w : World) (s : ByteArray) (h1 : layFr f0 = (s, 0)) : Calls Try.prog 35 #[.agg #[.int .i64 3, .string ⟨#[97]⟩, .string ⟨#[98]⟩, .string ⟨#[99]⟩, .int .i64 1, .int .i64 2, .int .i64 0, .slice none 0 0, .slice none 0 0]] w fun e w' => e = .returned (.tuple #[.string s, .int .i64 0]) ∧ Below w.heap.size w w' := by
 have h := frLay_calls f0 none 0 none 0 w (Nat.le_refl _) (Kd.C_nil _ _) (Nat.le_refl _) (Kd.C_nil _ _)
 rw [h1] at h
 exact h
theorem read0_calls (w : World) (s : ByteArray) (h1 : layFr f0 = (s, 0)) (h2 : s.size = 14) :
 Calls Try.prog 32 #[.string s] w fun e w' => ∃ A7 c7 A8 c8, e = .returned (.tuple #[.agg #[.int .i64 3, .string ⟨#[97]⟩, .string ⟨#[98]⟩, .string ⟨#[99]⟩, .int .i64 1, .int .i64 2, .int .i64 0, .slice A7 0 c7, .slice A8 0 c8], .int .i64 0]) ∧
  Kd.C k34 w' A7 0 [] ∧ Kd.C k36 w' A8 0 [] ∧ Below w.heap.size w w' := by
 have hr := readF_back f0_ok
 rw [h1] at hr
 dsimp only at hr
 have h := frRead_calls w s (by omega)
 rw [hr] at h
 refine h.mono ?_
 rintro e w' ⟨v7, v8, rfl, hr7, hr8, hb⟩
 obtain ⟨A7, c7, rfl⟩ := Kd.R_slice hr7
 obtain ⟨A8, c8, rfl⟩ := Kd.R_slice hr8
 exact ⟨A7, c7, A8, c8, rfl, (Kd.R_reads' hr7).2.2, (Kd.R_reads' hr8).2.2, hb⟩
set_option maxHeartbeats 8000000 in
set_option maxRecDepth 100000 in
theorem shown14_calls (w : World) : Calls Try.prog 31 #[] w fun e w' => e = .returned (.bool true) ∧ Below w.heap.size w w' := by
 obtain ⟨s0, h1, h2, h3⟩ := lay0
 have H1 := Aside0.mk h1
 have H2 := Aside0.mk h2
 have H3 := Aside0.mk h3
 clear h1 h2 h3
 go_enter Try.func31, Try.ntmps31
 go_wp2_with fail
 obtain ⟨w0, hw0⟩ : ∃ w0, w.alloc (.cells #[.int .i64 3, .string ⟨#[97]⟩, .string ⟨#[98]⟩, .string ⟨#[99]⟩, .int .i64 1, .int .i64 2, .int .i64 0, .slice none 0 0, .slice none 0 0] 54) = w0 := ⟨_, rfl⟩
 obtain ⟨N, hN⟩ : ∃ N, w.heap.size = N := ⟨_, rfl⟩
 have HB0 := Aside0.mk (show Below w.heap.size w w0 from by rw [← hw0]; exact (Below.refl _ w).alloc (Nat.le_refl _) _)
 have HK0 := Aside0.mk (show w0.heap[N]? = some (.cells #[.int .i64 3, .string ⟨#[97]⟩, .string ⟨#[98]⟩, .string ⟨#[99]⟩, .int .i64 1, .int .i64 2, .int .i64 0, .slice none 0 0, .slice none 0 0] 54 (0, 0)) from by rw [← hw0, ← hN]; exact World.alloc_heap_new w _)
 try rw [hw0]
 refine (lay0_calls _ s0 H1.out).mono ?_
 rintro e w1 ⟨rfl, hb1⟩
 have HB1 := Aside0.mk (HB0.out.trans (hb1.mono HB0.out.size))
 have HK1 := Aside0.mk (blk_below HK0.out hb1)
 clear hb1 HB0 HK0 hw0
 go_wp2_with fail
 refine (read0_calls _ s0 H1.out H2.out).mono ?_
 rintro e w2 ⟨A7, c7, A8, c8, rfl, hr7, hr8, hb2⟩
 have HB2 := Aside0.mk (HB1.out.trans (hb2.mono HB1.out.size))
 have HK2 := Aside0.mk (blk_below HK1.out hb2)
 have HR7 := Aside0.mk hr7
 have HR8 := Aside0.mk hr8
 clear hb2 hr7 hr8 HB1 HK1
 go_upto_region 4 with fail
 obtain ⟨M, hM⟩ : ∃ M, w2.heap.size = M := ⟨_, rfl⟩
 obtain ⟨w3, hw3⟩ : ∃ w3, w2.alloc (.cells #[.int .i64 3, .string ⟨#[97]⟩, .string ⟨#[98]⟩, .string ⟨#[99]⟩, .int .i64 1, .int .i64 2, .int .i64 0, .slice A7 0 c7, .slice A8 0 c8] 54) = w3 := ⟨_, rfl⟩
 have hb3 : Below w2.heap.size w2 w3 := by rw [← hw3]; exact (Below.refl _ w2).alloc (Nat.le_refl _) _
 have HB3 := Aside0.mk (HB2.out.trans (hb3.mono HB2.out.size))
 have hk3 := blk_below HK2.out hb3
 have HR7' := Aside0.mk (Kd.C_below HR7.out hb3)
 have HR8' := Aside0.mk (Kd.C_below HR8.out hb3)
 obtain ⟨n0, n1, n2, n3, n4, n5, n6, n7, n8⟩ := cells9 hk3
 obtain ⟨m0, m1, m2, m3, m4, m5, m6, m7, m8⟩ := cells9 (show w3.heap[M]? = some (.cells #[.int .i64 3, .string ⟨#[97]⟩, .string ⟨#[98]⟩, .string ⟨#[99]⟩, .int .i64 1, .int .i64 2, .int .i64 0, .slice A7 0 c7, .slice A8 0 c8] 54 (0, 0)) from by rw [← hw3, ← hM]; exact World.alloc_heap_new w2 _)
 try rw [hw3]
 try rw [hM]
 clear hw3 hb3 hk3 HR7 HR8 HB2 HK2
 have q1 : s0.size = 14 := H2.out
 have q2 : (s0.extract 0 10).toList = [3, 8, 1, 97, 1, 98, 1, 99, 1, 2] := H3.out
 have q3 : (⟨#[3, 8, 1, 97, 1, 98, 1, 99, 1, 2]⟩ : ByteArray).toList = [3, 8, 1, 97, 1, 98, 1, 99, 1, 2] := by rw [ByteArray.toList_eq]
 go_wp2_with fail
 refine (show Calls Try.prog 34 _ w3 _ from refEqualF_calls f0 none 0 none 0 f0 A7 c7 A8 c8 w3 (Nat.le_refl _) (Kd.C_nil _ _) (Nat.le_refl _) (Kd.C_nil _ _) (Nat.zero_le _) HR7'.out (Nat.zero_le _) HR8'.out).mono ?_
 rw [eqR_iff.2 rfl]
 rintro e w4 ⟨rfl, hb4⟩
 have HB4 := Aside0.mk (HB3.out.trans (hb4.mono HB3.out.size))
 clear n0 n1 n2 n3 n4 n5 n6 n7 n8 m0 m1 m2 m3 m4 m5 m6 m7 m8 hb4 HB3
 go_wp2
 go_ret
 exact ⟨rfl, by first | exact HB4.out | (rw [← hN]; exact HB4.out)⟩
end Go.Proofs.Ytenbkljgmgdegaa.PO
end
section
namespace Go.Proofs.Ytenbkljgmgdegaa.PO
open Go.RowKit Go.Proofs.YtenbkljgmgdegaaW.PrintWords Go.Proofs.YtenbkljgmgdegaaW.PrintLast Go.Proofs.YtenbkljgmgdegaaW.PrintMore Go.Proofs.Ytenbkljgmgdegaa.XW
open Go.Proofs.Ytenbkljgmgdegaa.XRange
set_option linter.unusedVariables false
set_option linter.unusedSimpArgs false
set_option maxHeartbeats 8000000 in
set_option maxRecDepth 100000 in
theorem frameReads_calls (w : World) (t : ByteArray) (ht : t.size ≤ 140737488351232) :
 Calls Try.prog 9 #[.string t] w fun e w' => e = .returned (.bool true) ∧ Below w.heap.size w w' := by
 obtain ⟨N, hN⟩ : ∃ N, w.heap.size = N := ⟨_, rfl⟩
 go_enter Try.func9, Try.ntmps9
 go_wp2_with fail
 refine (shown14_calls _).mono ?_
 rintro e w1 ⟨rfl, hb1⟩
 have HB1 := Aside0.mk hb1
 clear hb1
 obtain ⟨u, hu⟩ : ∃ u, t.extract 0 (min (t.size : Int) 100000).toNat = u := ⟨_, rfl⟩
 have HU := Aside0.mk (show u.size ≤ 100000 from by rw [← hu]; simp; omega)
 have ht1 : t.size ≤ 9223372036854775807 := by omega
 go_wp2_with fail
 try rw [hu]
 refine (frRead_calls w1 u (by have := HU.out; omega)).mono ?_
 rintro e w2 ⟨v7, v8, rfl, hr7, hr8, hb2⟩
 have heq := refF_eq (bytes_B u)
 obtain ⟨⟨y, er⟩, hy⟩ : ∃ r, readF (bytesOf u) = r := ⟨_, rfl⟩
 rw [hy] at hr7 hr8 heq ⊢
 dsimp only at hr7 hr8 ⊢
 have HEQ := Aside0.mk heq
 obtain ⟨B7, d7, rfl⟩ := Kd.R_slice hr7
 obtain ⟨B8, d8, rfl⟩ := Kd.R_slice hr8
 have HR7 := Aside0.mk hr7
 have HR8 := Aside0.mk hr8
 have HB2 := Aside0.mk (HB1.out.trans (hb2.mono HB1.out.size))
 clear hb2 hr7 hr8 heq hy HB1
 go_upto_region 4 with fail
 obtain ⟨M, hM⟩ : ∃ M, w2.heap.size = M := ⟨_, rfl⟩
 obtain ⟨w3, hw3⟩ : ∃ w3, w2.alloc (.cells #[.int .i64 y.k, .string y.fa, .string y.fb, .string y.ct, .int .i64 y.se, .int .i64 y.ix, .int .i64 y.mn, .slice B7 y.kn.length d7, .slice B8 y.op.length d8] 54) = w3 := ⟨_, rfl⟩
 have hb3 : Below w2.heap.size w2 w3 := by rw [← hw3]; exact (Below.refl _ w2).alloc (Nat.le_refl _) _
 have HB3 := Aside0.mk (HB2.out.trans (hb3.mono HB2.out.size))
 have HM3 := Aside0.mk (show w3.heap[M]? = some (.cells #[.int .i64 y.k, .string y.fa, .string y.fb, .string y.ct, .int .i64 y.se, .int .i64 y.ix, .int .i64 y.mn, .slice B7 y.kn.length d7, .slice B8 y.op.length d8] 54 (0, 0)) from by rw [← hw3, ← hM]; exact World.alloc_heap_new w2 _)
 have HC7 := Aside0.mk (Kd.C_below (Kd.R_reads' HR7.out).2.2 hb3)
 have HC8 := Aside0.mk (Kd.C_below (Kd.R_reads' HR8.out).2.2 hb3)
 have HD7 := Aside0.mk (Kd.R_reads' HR7.out).2.1
 have HD8 := Aside0.mk (Kd.R_reads' HR8.out).2.1
 try rw [hw3]
 try rw [hM]
 clear hw3 hM hb3 HR7 HR8 HB2
 go_wp2_with fail
 try rw [hu]
 clear hu ht1 ht
 refine (refReadF_calls w3 u (by have := HU.out; omega)).mono ?_
 rw [HEQ.out]
 rintro e w4 ⟨v7, v8, rfl, hr7, hr8, hb4⟩
 dsimp only at hr7 hr8
 obtain ⟨E7, k7', rfl⟩ := Kd.R_slice hr7
 obtain ⟨E8, k8', rfl⟩ := Kd.R_slice hr8
 have HR7 := Aside0.mk hr7
 have HR8 := Aside0.mk hr8
 have HB4 := Aside0.mk (HB3.out.trans (hb4.mono HB3.out.size))
 have HM4 := Aside0.mk (blk_below HM3.out hb4)
 have HC74 := Aside0.mk (Kd.C_below HC7.out hb4)
 have HC84 := Aside0.mk (Kd.C_below HC8.out hb4)
 clear hb4 hr7 hr8 HB3 HM3 HC7 HC8
 go_upto_region 5 with fail
 obtain ⟨M2, hM⟩ : ∃ M, w4.heap.size = M := ⟨_, rfl⟩
 obtain ⟨w5, hw5⟩ : ∃ x, w4.alloc (.cells #[.int .i64 y.k, .string y.fa, .string y.fb, .string y.ct, .int .i64 y.se, .int .i64 y.ix, .int .i64 y.mn, .slice E7 y.kn.length k7', .slice E8 y.op.length k8'] 54) = x := ⟨_, rfl⟩
 have hb5 : Below w4.heap.size w4 w5 := by rw [← hw5]; exact (Below.refl _ w4).alloc (Nat.le_refl _) _
 have HB5 := Aside0.mk (HB4.out.trans (hb5.mono HB4.out.size))
 obtain ⟨m0, m1, m2, m3, m4, m5, m6, m7, m8⟩ := cells9 (blk_below HM4.out hb5)
 obtain ⟨n0, n1, n2, n3, n4, n5, n6, n7, n8⟩ := cells9 (show w5.heap[M2]? = some (.cells #[.int .i64 y.k, .string y.fa, .string y.fb, .string y.ct, .int .i64 y.se, .int .i64 y.ix, .int .i64 y.mn, .slice E7 y.kn.length k7', .slice E8 y.op.length k8'] 54 (0, 0)) from by rw [← hw5, ← hM]; exact World.alloc_heap_new w4 _)
 have HC75 := Aside0.mk (Kd.C_below HC74.out hb5)
 have HC85 := Aside0.mk (Kd.C_below HC84.out hb5)
 have HE7 := Aside0.mk (Kd.C_below (Kd.R_reads' HR7.out).2.2 hb5)
 have HE8 := Aside0.mk (Kd.C_below (Kd.R_reads' HR8.out).2.2 hb5)
 have HK7 := Aside0.mk (Kd.R_reads' HR7.out).2.1
 have HK8 := Aside0.mk (Kd.R_reads' HR8.out).2.1
 try rw [hw5]
 try rw [hM]
 clear hw5 hM hb5 HR7 HR8 HB4 HM4 HC74 HC84
 go_wp2_with fail
 refine (refEqualF_calls y B7 d7 B8 d8 y E7 k7' E8 k8' w5 HD7.out HC75.out HD8.out HC85.out HK7.out HE7.out HK8.out HE8.out).mono ?_
 rw [eqR_iff.2 rfl]
 rintro e w6 ⟨rfl, hb6⟩
 have HB6 := Aside0.mk (HB5.out.trans (hb6.mono HB5.out.size))
 clear hb6 m0 m1 m2 m3 m4 m5 m6 m7 m8 n0 n1 n2 n3 n4 n5 n6 n7 n8
 go_wp2
 go_ret
 exact ⟨by first | rfl | simp, by first | exact HB6.out | (rw [← hN]; exact HB6.out)⟩
end Go.Proofs.Ytenbkljgmgdegaa.PO
end
