/- What the rows of this claim use, out of the texts of this work (FS, FT). No condition beyond those that each statement names. -/
import Derived.Deep.DeepCutAuto
import Derived.Deep.CutBlock
import Derived.Test.YtenbkljgmgdegaaQjFH
import Derived.Test.YtenbkljgmgdegaaQjOR
section
namespace Go.Proofs.Ytenbkljgmgdegaa.PO
open Go.RowKit Go.Proofs.YtenbkljgmgdegaaW.PrintWords Go.Proofs.YtenbkljgmgdegaaW.PrintLast Go.Proofs.YtenbkljgmgdegaaW.PrintMore Go.Proofs.Ytenbkljgmgdegaa.XW
open Go.Proofs.Ytenbkljgmgdegaa.XRange
set_option linter.unusedVariables false
set_option linter.unusedSimpArgs false
def zF : Fr := ⟨0, ⟨#[]⟩, ⟨#[]⟩, ⟨#[]⟩, 0, 0, 0, [], []⟩
def opsQ (l : List Int) : Nat → Int → Bool → List S36 → Int × Bool × List S36
 | 0, p, bad, o => (p, bad, o)
 | k + 1, p, bad, o => if bad = false then opsQ l k (texQ 1048576 l p bad).2.1 ((texQ 1048576 l p bad).2.2 || (readO (bytesOf (texQ 1048576 l p bad).1)).2 != 0) (o ++ [(readO (bytesOf (texQ 1048576 l p bad).1)).1]) else (p, bad, o)
def restQ (k : Int) (l : List Int) (p : Int) (bad : Bool) : Int × Bool × Int × List S34 × List S36 :=
 if bad = true then (p, true, 0, [], [])
 else if k = 1 then ((vecS l p).2.1, (vecS l p).2.2 != 0, 0, (vecS l p).1, [])
 else if k = 2 then
  let m := numQ l p bad
  let n := numQ l m.2.1 m.2.2
  let o := opsQ l n.1.toNat n.2.1 n.2.2 []
  (o.1, o.2.1, m.1, [], o.2.2)
 else (p, false, 0, [], [])
def readB (k : Int) (l : List Int) : Fr × Int :=
 let a := texQ 24 l 0 false
 let b := texQ 24 l a.2.1 a.2.2
 let c := texQ 32 l b.2.1 b.2.2
 let d := numQ l c.2.1 c.2.2
 let i := numQ l d.2.1 d.2.2
 let r := restQ k l i.2.1 i.2.2
 let f : Fr := ⟨k, a.1, b.1, c.1, d.1, i.1, r.2.2.1, r.2.2.2.1, r.2.2.2.2⟩
 if r.2.1 = true ∨ r.1 ≠ l.length ∨ rightF f = false then (zF, 110) else (f, 0)
def readF (s : List Int) : Fr × Int := if (openS s).2.2.2 ≠ 0 ∨ (openS s).2.2.1 ≠ s.length then (zF, 110) else readB (openS s).1 (bytesOf (openS s).2.1)
theorem openS_ok {l : List Int} (hB : isB l) {kd n : Int} {body : ByteArray} (h : openS l = (kd, body, n, 0)) :
 0 ≤ kd ∧ kd ≤ 255 ∧ body.size ≤ 1048576 ∧ 0 < l.length ∧ ∃ p, textM 1048576 l 1 = (body, p, 0) ∧ 0 ≤ p ∧ p + 4 ≤ (l.length : Int) ∧ n = p + 4 ∧ kd = rd l 0 ∧ sumB (l.take p.toNat) = (l.take (p + 4).toNat).drop p.toNat := by
 unfold openS at h
 by_cases h0 : l.length = 0
 · rw [if_pos h0] at h; cases h
 obtain ⟨⟨t, p, e⟩, ht⟩ : ∃ r, textM 1048576 l 1 = r := ⟨_, rfl⟩
 rw [if_neg h0, ht] at h
 dsimp only at h
 by_cases h1 : e = 0
 case neg => rw [if_neg h1] at h; cases h
 rw [if_pos h1] at h
 subst h1
 obtain ⟨q1, q2, q3, q4, q5⟩ := text_isM 1048576 (by omega) hB (p := 1) (by rw [ht])
 rw [ht] at q3 q4 q5
 dsimp only at q3 q4 q5
 by_cases h2 : (l.length : Int) - p < 4
 · rw [if_pos h2] at h; cases h
 rw [if_neg h2] at h
 by_cases h3 : sumB (l.take p.toNat) = (l.take (p + 4).toNat).drop p.toNat
 case neg => rw [if_neg h3] at h; cases h
 rw [if_pos h3] at h
 simp only [Prod.mk.injEq] at h
 obtain ⟨e1, e2, e3, _⟩ := h
 have hr : 0 ≤ rd l 0 ∧ rd l 0 ≤ 255 := by
  cases l with
  | nil => exact absurd rfl h0
  | cons a r => have := hB a (by simp); simp [rd]; omega
 rw [← e1, ← e2]
 exact ⟨hr.1, hr.2, by omega, by omega, p, ht, q4, by omega, e3.symm, rfl, h3⟩
structure QS (w W : World) (G g F : Nat) (A : Option Addr) (c : Nat) (l : List Int) (p : Int) (bad : Bool) (cs : Array Value) : Prop where
 rf : RF W g A c l p bad
 fb : W.heap[F]? = some (.cells cs 54 (0, 0))
 gb : W.heap[G]? = some (.cells #[.int .i64 0, .string ⟨#[]⟩, .string ⟨#[]⟩, .string ⟨#[]⟩, .int .i64 0, .int .i64 0, .int .i64 0, .slice none 0 0, .slice none 0 0] 54 (0, 0))
 bl : Below w.heap.size w W
 gg : G < g
 gf : g + 2 < F
 lw : w.heap.size ≤ G
section
variable {w W W1 : World} {G g F : Nat} {A : Option Addr} {c : Nat} {l : List Int} {p p' : Int} {bad bad' : Bool} {cs : Array Value}
theorem QS.after (h : QS w W G g F A c l p bad cs) (hr : RF W1 g A c l p' bad') (hk : Keeps (fun k => k = g + 1 ∨ k = g + 2) W W1) : QS w W1 G g F A c l p' bad' cs :=
 ⟨hr, (hk.block _ (blk_lt h.fb) (fun f => by have := h.gf; omega)).trans h.fb, (hk.block _ (blk_lt h.gb) (fun f => by have := h.gg; omega)).trans h.gb,
  below_keeps h.bl (fun m hm => by have := h.gg; have := h.lw; omega) h.bl.size hk, h.gg, h.gf, h.lw⟩
theorem QS.below (h : QS w W G g F A c l p bad cs) (hb : Below W.heap.size W W1) : QS w W1 G g F A c l p bad cs :=
 ⟨h.rf.below hb, blk_below h.fb hb, blk_below h.gb hb, h.bl.trans (hb.mono h.bl.size), h.gg, h.gf, h.lw⟩
theorem QS.setAD (h : QS w W G g F A c l p bad cs) (p' : Int) (bad' : Bool) : QS w ((W.setCell ⟨g + 1, 0, none⟩ (.int .i64 p')).setCell ⟨g + 2, 0, none⟩ (.bool bad')) G g F A c l p' bad' cs :=
 h.after ⟨blk_far (p := ⟨g + 2, 0, none⟩) (blk_far (p := ⟨g + 1, 0, none⟩) h.rf.b (by show g ≠ g + 1; omega) _) (by show g ≠ g + 2; omega) _,
  blk_far (p := ⟨g + 2, 0, none⟩) (blk_set h.rf.a 0 _) (by show g + 1 ≠ g + 2; omega) _, blk_set (blk_far (p := ⟨g + 1, 0, none⟩) h.rf.d (by show g + 2 ≠ g + 1; omega) _) 0 _, h.rf.le,
  Kd.F_far (Kd.F_far h.rf.foot (p := ⟨g + 1, 0, none⟩) (fun k hk => by have h2 : k < g := hk; show k ≠ g + 1; omega) _) (p := ⟨g + 2, 0, none⟩) (fun k hk => by have h2 : k < g := hk; show k ≠ g + 2; omega) _⟩
  (Keeps.setCell (M := fun k => k = g + 1 ∨ k = g + 2) (Keeps.setCell (M := fun k => k = g + 1 ∨ k = g + 2) (Keeps.refl _ W) (p := ⟨g + 1, 0, none⟩) (.inl (.inl rfl)) _) (p := ⟨g + 2, 0, none⟩) (.inl (.inr rfl)) _)
theorem QS.setD (h : QS w W G g F A c l p bad cs) (bad' : Bool) : QS w (W.setCell ⟨g + 2, 0, none⟩ (.bool bad')) G g F A c l p bad' cs :=
 h.after ⟨blk_far (p := ⟨g + 2, 0, none⟩) h.rf.b (by show g ≠ g + 2; omega) _,
  blk_far (p := ⟨g + 2, 0, none⟩) h.rf.a (by show g + 1 ≠ g + 2; omega) _, blk_set h.rf.d 0 _, h.rf.le,
  Kd.F_far h.rf.foot (p := ⟨g + 2, 0, none⟩) (fun k hk => by have h2 : k < g := hk; show k ≠ g + 2; omega) _⟩
  (Keeps.setCell (M := fun k => k = g + 1 ∨ k = g + 2) (Keeps.refl _ W) (p := ⟨g + 2, 0, none⟩) (.inl (.inr rfl)) _)
theorem QS.grown (h : QS w W G g F A c l p bad cs) {row : Option Nat} (hg : W.grownBy W1 row) (hr : ∀ k, row = some k → F < k) : QS w W1 G g F A c l p bad cs :=
 have hk : Keeps (fun k => F < k) W W1 := keeps_weak (keeps_grown hg) (fun k hk => hr k hk.symm)
 ⟨h.rf.keep hk (fun k hk => by have := h.gf; omega), blk_grown h.fb hg (fun e => by have := hr F e.symm; omega), blk_grown h.gb hg (fun e => by have := hr G e.symm; have := h.gg; have := h.gf; omega),
  below_keeps h.bl (M := fun k => F < k) (fun k hk => by have := h.lw; have := h.gg; have := h.gf; have h3 : F < k := hk; omega) h.bl.size hk, h.gg, h.gf, h.lw⟩
theorem QS.setF (h : QS w W G g F A c l p bad cs) (i : Nat) (u : Value) : QS w (W.setCell ⟨F, i, none⟩ u) G g F A c l p bad (cs.setIfInBounds i u) :=
 ⟨h.rf.keep (Keeps.setCell (M := fun k => k = F) (Keeps.refl _ W) (p := ⟨F, i, none⟩) (.inl rfl) u) (fun k hk => by rw [hk]; exact h.gf), blk_set h.fb i u, blk_far (p := ⟨F, i, none⟩) h.gb (by have := h.gg; have := h.gf; show G ≠ F; omega) u,
  below_set h.bl (by have := h.gg; have := h.gf; have := h.lw; omega), h.gg, h.gf, h.lw⟩
end
theorem texQ_size {l : List Int} (hB : isB l) (p : Int) (bad : Bool) : (texQ 1048576 l p bad).1.size ≤ 1048576 := by
 show (textM 1048576 l p).1.size ≤ 1048576
 by_cases h : (textM 1048576 l p).2.2 = 0
 · have := (text_isM 1048576 (by omega) hB h).2.2.1
   omega
 · unfold textM at h ⊢
   split
   · rename_i h1
     rw [if_pos h1] at h
     split
     · exact Nat.zero_le _
     · rename_i h2
       rw [if_neg h2] at h
       split
       · exact Nat.zero_le _
       · rename_i h3
         rw [if_neg h3] at h
         exact absurd rfl h
   · exact Nat.zero_le _
theorem texQ_step {l : List Int} (hB : isB l) (p : Int) (bad : Bool) : (texQ 1048576 l p bad).2.2 = false → bad = false ∧ p + 1 ≤ (texQ 1048576 l p bad).2.1 ∧ (texQ 1048576 l p bad).2.1 ≤ (l.length : Int) := by
 intro h
 have h' : (bad || (textM 1048576 l p).2.2 != 0) = false := h
 have h0 : (textM 1048576 l p).2.2 = 0 := by
  by_cases h4 : (textM 1048576 l p).2.2 = 0
  · exact h4
  · have : ((textM 1048576 l p).2.2 != 0) = true := by simpa using h4
    rw [this] at h'
    simp at h'
 have hb : bad = false := by cases bad with | false => rfl | true => simp at h'
 have ht := text_isM 1048576 (by omega) hB h0
 have hle := textM_le (m := 1048576) (b := l) hB (p := p) (q := (textM 1048576 l p).2.1) (t := (textM 1048576 l p).1) (by omega) (by rw [← h0])
 refine ⟨hb, ?_, hle⟩
 show p + 1 ≤ (textM 1048576 l p).2.1
 have hl := congrArg List.length ht.2.2.2.2
 have hx : 1 ≤ (textB (textM 1048576 l p).1).length := by
  simp [textB, encN]
 rw [List.length_take, List.length_append, List.length_take] at hl
 have := ht.1
 have := ht.2.1
 have := ht.2.2.2.1
 omega
theorem numQ_ok {l : List Int} (hB : isB l) (p : Int) (bad : Bool) : 0 ≤ (numQ l p bad).1 ∧ (numQ l p bad).1 ≤ 1152921504606846976 ∧ ((numQ l p bad).2.2 = false → 0 ≤ (numQ l p bad).2.1 ∧ (numQ l p bad).2.1 ≤ (l.length : Int)) := by
 have h := takeS_nonneg hB p
 have ho := fun h0 => takeS_ok hB (p := p) h0
 unfold numQ
 refine ⟨?_, ?_, fun h2 => ?_⟩
 · dsimp only; split <;> omega
 · dsimp only; split <;> omega
 · dsimp only at h2 ⊢
   have h3 : (takeS l p).2.2 = 0 := by
    by_cases h4 : (takeS l p).2.2 = 0
    · exact h4
    · have : ((takeS l p).2.2 != 0) = true := by simpa using h4
      rw [this] at h2
      simp at h2
   exact ⟨(ho h3).1, (ho h3).2.1⟩
set_option maxHeartbeats 8000000 in
set_option maxRecDepth 100000 in
theorem frRead_calls (w : World) (s : ByteArray) (hs : s.size ≤ 1000000) :
 Calls Try.prog 32 #[.string s] w fun e w' => ∃ v7 v8, e = .returned (.tuple #[.agg #[.int .i64 (readF (bytesOf s)).1.k, .string (readF (bytesOf s)).1.fa, .string (readF (bytesOf s)).1.fb, .string (readF (bytesOf s)).1.ct, .int .i64 (readF (bytesOf s)).1.se, .int .i64 (readF (bytesOf s)).1.ix, .int .i64 (readF (bytesOf s)).1.mn, v7, v8], .int .i64 (readF (bytesOf s)).2]) ∧
  Kd.R k34 34 w' w.heap.size (fun _ => True) v7 (readF (bytesOf s)).1.kn ∧ Kd.R k36 36 w' w.heap.size (fun _ => True) v8 (readF (bytesOf s)).1.op ∧ Below w.heap.size w w' := by
 obtain ⟨⟨kd, body, n, er⟩, ho⟩ : ∃ r, openS (bytesOf s) = r := ⟨_, rfl⟩
 have HO := Aside0.mk ho
 have HSZ := Aside0.mk hs
 have HSL := Aside0.mk (bytesOf_length s)
 obtain ⟨G, hG⟩ : ∃ G, w.heap.size = G := ⟨_, rfl⟩
 clear ho hs
 go_enter Try.func32, Try.ntmps32
 obtain ⟨w0, hw0⟩ : ∃ w0, w.alloc (.cells #[.int .i64 0, .string ⟨#[]⟩, .string ⟨#[]⟩, .string ⟨#[]⟩, .int .i64 0, .int .i64 0, .int .i64 0, .slice none 0 0, .slice none 0 0] 54) = w0 := ⟨_, rfl⟩
 have HB0 := Aside0.mk (show Below w.heap.size w w0 from by rw [← hw0]; exact (Below.refl _ w).alloc (Nat.le_refl _) _)
 have HG0 := Aside0.mk (show w0.heap[G]? = some (.cells #[.int .i64 0, .string ⟨#[]⟩, .string ⟨#[]⟩, .string ⟨#[]⟩, .int .i64 0, .int .i64 0, .int .i64 0, .slice none 0 0, .slice none 0 0] 54 (0, 0)) from by rw [← hw0, ← hG]; exact World.alloc_heap_new w _)
 go_wp2_with fail
 try rw [hw0]
 try rw [hG]
 clear hw0
 refine (open2_calls w0 s HSZ.out).mono ?_
 rw [HO.out]
 rintro e w1 ⟨rfl, hb1⟩
 have HB1 := Aside0.mk (HB0.out.trans (hb1.mono HB0.out.size))
 have HG1 := Aside0.mk (blk_below HG0.out hb1)
 clear hb1 HB0 HG0
 have HW1 := Aside0.mk (show w.heap.size ≤ G from by omega)
 by_cases hbad : er ≠ 0 ∨ n ≠ (s.size : Int)
 · have Z0 := Aside0.mk (show readF (bytesOf s) = (zF, 110) from by
    unfold readF
    rw [HO.out]
    dsimp only
    rw [HSL.out, if_pos hbad])
   obtain ⟨e0, e1, e2, e3, e4, e5, e6, e7, e8⟩ := cells9 HG1.out
   obtain ⟨f0, f1, f2, f3, f4, f5, f6, f7, f8⟩ := froz9 HG1.out
   have hcase : (er != 0) = true ∨ (er = 0 ∧ (n != (s.size : Int)) = true) := by
    rcases hbad with h | h
    · exact .inl (by simpa using h)
    · by_cases h0 : er = 0
      · exact .inr ⟨h0, by simpa using h⟩
      · exact .inl (by simpa using h0)
   clear hbad
   rcases hcase with q1 | ⟨rfl, q1⟩
   all_goals
    go_wp2
    have h9 := set9 HG1.out (.int .i64 0) (.string ⟨#[]⟩) (.string ⟨#[]⟩) (.string ⟨#[]⟩) (.int .i64 0) (.int .i64 0) (.int .i64 0) (.slice none 0 0) (.slice none 0 0)
    obtain ⟨k0, k1, k2, k3, k4, k5, k6, k7, k8⟩ := cells9 h9
    have hk := below_keeps HB1.out (M := fun k => k = G) (fun k hk => by subst hk; exact HW1.out) HB1.out.size (keeps9 w1 G (.int .i64 0) (.string ⟨#[]⟩) (.string ⟨#[]⟩) (.string ⟨#[]⟩) (.int .i64 0) (.int .i64 0) (.int .i64 0) (.slice none 0 0) (.slice none 0 0))
    rw [Z0.out]
    try rw [hG] at hk
    try rw [hG]
    exact bodyPost_ret (v := .tuple #[.agg #[.int .i64 0, .string ⟨#[]⟩, .string ⟨#[]⟩, .string ⟨#[]⟩, .int .i64 0, .int .i64 0, .int .i64 0, .slice none 0 0, .slice none 0 0], .int .i64 110]) (by simp [results, Try.f32, go_sem, k0, k1, k2, k3, k4, k5, k6, k7, k8]) rfl ⟨.slice none 0 0, .slice none 0 0, rfl, Kd.R_nil _ _ _ _ _, Kd.R_nil _ _ _ _ _, hk⟩
 · have q1 : er = 0 := Classical.byContradiction (fun h => hbad (Or.inl h))
   have q2 : n = (s.size : Int) := Classical.byContradiction (fun h => hbad (Or.inr h))
   subst q1
   subst q2
   have Z1 := Aside0.mk (show readF (bytesOf s) = readB kd (bytesOf body) from by
    unfold readF
    rw [HO.out]
    dsimp only
    rw [HSL.out, if_neg (by intro h; rcases h with h | h; exact h rfl; exact h rfl)])
   clear hbad
   go_wp2_with fail
   rw [Lib.run_convert_string_bytes _ 9 63 5 body Try.underlying9 Try.underlying63 Try.underlying5]
   obtain ⟨l, hl⟩ : ∃ l, bytesOf body = l := ⟨_, rfl⟩
   have hsl : body.size = l.length := by rw [← hl]; exact (bytesOf_length body).symm
   have hok := openS_ok (bytes_B s) HO.out
   have hl0 : l.length ≤ 1048576 := by have := hok.2.2.1; omega
   have hk0 : 0 ≤ kd ∧ kd ≤ 255 := ⟨hok.1, hok.2.1⟩
   clear hok
   have hv := Kd.conv_V (W := w1) (e := 5) (base := 0) (ok := fun _ => True) body (fun _ _ => trivial) (by omega) (grownCap_ge w1 _ _ _)
   have hb1 := Kd.conv_below (W := w1) (w0 := w1) (base := w1.heap.size) 5 body (Below.refl _ _) (Nat.le_refl _)
   obtain ⟨w2, hw2⟩ : ∃ w2, Lib.bytesWorld w1 5 body = w2 := ⟨_, rfl⟩
   obtain ⟨A, hA⟩ : ∃ A, some (⟨w1.heap.size, 0, none⟩ : Addr) = A := ⟨_, rfl⟩
   obtain ⟨c, hcc⟩ : ∃ c, grownCap w1 body.size 0 5 = c := ⟨_, rfl⟩
   rw [hw2, hA, hcc, hl, hsl] at hv
   rw [hw2] at hb1
   rw [hw2, hA, hcc, hsl]
   have hlc : l.length ≤ c := by rw [← hcc, ← hsl]; exact grownCap_ge w1 _ _ _
   have hF := Kd.V_F hv
   clear hv hw2 hA hcc
   have hB : isB l := by rw [← hl]; exact bytes_B body
   have hlm : l.length ≤ 140737488355300 := by omega
   have HB2 := Aside0.mk (HB1.out.trans (hb1.mono HB1.out.size))
   have HG2 := Aside0.mk (blk_below HG1.out hb1)
   have HF := Aside0.mk hF
   clear hF hb1 HB1 HG1
   go_wp2_with fail
   obtain ⟨w3, hw3⟩ : ∃ w3, (((w2.alloc (.cells #[.slice A l.length c] 63)).alloc (.cells #[.int .i64 0] 3)).alloc (.cells #[.bool false] 4)).alloc (.cells #[.int .i64 kd, .string ⟨#[]⟩, .string ⟨#[]⟩, .string ⟨#[]⟩, .int .i64 0, .int .i64 0, .int .i64 0, .slice none 0 0, .slice none 0 0] 54) = w3 := ⟨_, rfl⟩
   obtain ⟨g, hg⟩ : ∃ g, w2.heap.size = g := ⟨_, rfl⟩
   obtain ⟨F, hF⟩ : ∃ F, g + 3 = F := ⟨_, rfl⟩
   have HGg := Aside0.mk (show G < g from by rw [← hg]; exact blk_lt HG2.out)
   have HT3 := Aside0.mk (show QS w w3 G g F A c l 0 false #[.int .i64 kd, .string ⟨#[]⟩, .string ⟨#[]⟩, .string ⟨#[]⟩, .int .i64 0, .int .i64 0, .int .i64 0, .slice none 0 0, .slice none 0 0] from by
    have ha := World.alloc_heap_new w2 (.cells #[.slice A l.length c] 63)
    obtain ⟨wa, hwa⟩ : ∃ wa, w2.alloc (.cells #[.slice A l.length c] 63) = wa := ⟨_, rfl⟩
    have sa : wa.heap.size = g + 1 := by rw [← hwa, World.size_alloc, hg]
    have ba : Below w2.heap.size w2 wa := by rw [← hwa]; exact (Below.refl _ w2).alloc (Nat.le_refl _) _
    rw [hwa] at hw3 ha
    have hb := World.alloc_heap_new wa (.cells #[.int .i64 0] 3)
    obtain ⟨wb, hwb⟩ : ∃ wb, wa.alloc (.cells #[.int .i64 0] 3) = wb := ⟨_, rfl⟩
    have sb : wb.heap.size = g + 2 := by rw [← hwb, World.size_alloc, sa]
    have bb : Below wa.heap.size wa wb := by rw [← hwb]; exact (Below.refl _ wa).alloc (Nat.le_refl _) _
    rw [hwb] at hw3 hb
    have hc := World.alloc_heap_new wb (.cells #[.bool false] 4)
    obtain ⟨wc, hwc⟩ : ∃ wc, wb.alloc (.cells #[.bool false] 4) = wc := ⟨_, rfl⟩
    have sc : wc.heap.size = g + 3 := by rw [← hwc, World.size_alloc, sb]
    have bc : Below wb.heap.size wb wc := by rw [← hwc]; exact (Below.refl _ wb).alloc (Nat.le_refl _) _
    rw [hwc] at hw3 hc
    have hd := World.alloc_heap_new wc (.cells #[.int .i64 kd, .string ⟨#[]⟩, .string ⟨#[]⟩, .string ⟨#[]⟩, .int .i64 0, .int .i64 0, .int .i64 0, .slice none 0 0, .slice none 0 0] 54)
    have bd : Below wc.heap.size wc w3 := by rw [← hw3]; exact (Below.refl _ wc).alloc (Nat.le_refl _) _
    rw [hw3] at hd
    have e2 : Below w2.heap.size w2 w3 := ((ba.trans (bb.mono ba.size)).trans (bc.mono (ba.trans (bb.mono ba.size)).size)).trans (bd.mono ((ba.trans (bb.mono ba.size)).trans (bc.mono (ba.trans (bb.mono ba.size)).size)).size)
    rw [hg] at ha
    rw [sa] at hb
    rw [sb] at hc
    rw [sc, hF] at hd
    refine ⟨⟨blk_below (blk_below (blk_below ha bb) bc) bd, blk_below (blk_below hb bc) bd, blk_below hc bd, hlc, ?_⟩, hd, blk_below HG2.out e2, HB2.out.trans (e2.mono HB2.out.size), HGg.out, by omega, HW1.out⟩
    exact Kd.F_below (Kd.F_mono (Kd.F_bound HF.out) (fun k hk => by rw [← hg]; exact hk.2)) e2)
   try rw [hw3]
   try rw [hg]
   rw [show g + 1 + 1 = g + 2 from rfl] at *
   try rw [show g + 2 + 1 = F from hF]
   clear hw3 hg HF HG2 HB2
   refine (texQ_calls 24 (by omega) (by omega) g A c l hB hlm 0 false _ HT3.out.rf).mono ?_
   rintro e w4 ⟨rfl, hr4, hk4⟩
   have HT4 := Aside0.mk (HT3.out.after hr4 hk4)
   obtain ⟨⟨fa, p1, b1⟩, hA1⟩ : ∃ x, texQ 24 l 0 false = x := ⟨_, rfl⟩
   rw [hA1] at HT4 ⊢
   have HA1 := Aside0.mk hA1
   have e1 : w4.cell? ⟨F, 1, none⟩ = some (.string ⟨#[]⟩) := (blk_cell HT4.out.fb 1).trans rfl
   have f1 := blk_frozen HT4.out.fb 1
   clear hr4 hk4 hA1 HT3
   go_wp2_with fail
   obtain ⟨w5, hw5⟩ : ∃ x, w4.setCell ⟨F, 1, none⟩ (.string fa) = x := ⟨_, rfl⟩
   rw [hw5]
   have HT5 := Aside0.mk (show QS w w5 G g F A c l p1 b1 #[.int .i64 kd, .string fa, .string ⟨#[]⟩, .string ⟨#[]⟩, .int .i64 0, .int .i64 0, .int .i64 0, .slice none 0 0, .slice none 0 0] from by
    rw [← hw5]
    have h := HT4.out.setF 1 (.string fa)
    simp only [List.setIfInBounds_toArray, List.set_cons_zero, List.set_cons_succ] at h
    exact h)
   clear e1 f1 hw5 HT4
   refine (texQ_calls 24 (by omega) (by omega) g A c l hB hlm p1 b1 _ HT5.out.rf).mono ?_
   rintro e w6 ⟨rfl, hr, hk⟩
   have HT6 := Aside0.mk (HT5.out.after hr hk)
   obtain ⟨⟨fb, p2, b2⟩, hA⟩ : ∃ x, texQ 24 l p1 b1 = x := ⟨_, rfl⟩
   rw [hA] at HT6 ⊢
   have HA2 := Aside0.mk hA
   have e2 : w6.cell? ⟨F, 2, none⟩ = some (.string ⟨#[]⟩) := (blk_cell HT6.out.fb 2).trans rfl
   have f2 := blk_frozen HT6.out.fb 2
   clear hr hk hA HT5
   go_wp2_with fail
   obtain ⟨w7, hw7⟩ : ∃ x, w6.setCell ⟨F, 2, none⟩ (.string fb) = x := ⟨_, rfl⟩
   rw [hw7]
   have HT7 := Aside0.mk (show QS w w7 G g F A c l p2 b2 #[.int .i64 kd, .string fa, .string fb, .string ⟨#[]⟩, .int .i64 0, .int .i64 0, .int .i64 0, .slice none 0 0, .slice none 0 0] from by
    rw [← hw7]
    have h := HT6.out.setF 2 (.string fb)
    simp only [List.setIfInBounds_toArray, List.set_cons_zero, List.set_cons_succ] at h
    exact h)
   clear e2 f2 hw7 HT6
   refine (texQ_calls 32 (by omega) (by omega) g A c l hB hlm p2 b2 _ HT7.out.rf).mono ?_
   rintro e w8 ⟨rfl, hr, hk⟩
   have HT8 := Aside0.mk (HT7.out.after hr hk)
   obtain ⟨⟨ct, p3, b3⟩, hA⟩ : ∃ x, texQ 32 l p2 b2 = x := ⟨_, rfl⟩
   rw [hA] at HT8 ⊢
   have HA3 := Aside0.mk hA
   have e3 : w8.cell? ⟨F, 3, none⟩ = some (.string ⟨#[]⟩) := (blk_cell HT8.out.fb 3).trans rfl
   have f3 := blk_frozen HT8.out.fb 3
   clear hr hk hA HT7
   go_wp2_with fail
   obtain ⟨w9, hw9⟩ : ∃ x, w8.setCell ⟨F, 3, none⟩ (.string ct) = x := ⟨_, rfl⟩
   rw [hw9]
   have HT9 := Aside0.mk (show QS w w9 G g F A c l p3 b3 #[.int .i64 kd, .string fa, .string fb, .string ct, .int .i64 0, .int .i64 0, .int .i64 0, .slice none 0 0, .slice none 0 0] from by
    rw [← hw9]
    have h := HT8.out.setF 3 (.string ct)
    simp only [List.setIfInBounds_toArray, List.set_cons_zero, List.set_cons_succ] at h
    exact h)
   clear e3 f3 hw9 HT8
   refine (numQ_calls g A c l hB hlm p3 b3 _ HT9.out.rf).mono ?_
   rintro e w10 ⟨rfl, hr, hk⟩
   have HT10 := Aside0.mk (HT9.out.after hr hk)
   obtain ⟨⟨se, p4, b4⟩, hA⟩ : ∃ x, numQ l p3 b3 = x := ⟨_, rfl⟩
   rw [hA] at HT10 ⊢
   have HA4 := Aside0.mk hA
   have e4 : w10.cell? ⟨F, 4, none⟩ = some (.int .i64 0) := (blk_cell HT10.out.fb 4).trans rfl
   have f4 := blk_frozen HT10.out.fb 4
   clear hr hk hA HT9
   go_wp2_with fail
   obtain ⟨w11, hw11⟩ : ∃ x, w10.setCell ⟨F, 4, none⟩ (.int .i64 se) = x := ⟨_, rfl⟩
   rw [hw11]
   have HT11 := Aside0.mk (show QS w w11 G g F A c l p4 b4 #[.int .i64 kd, .string fa, .string fb, .string ct, .int .i64 se, .int .i64 0, .int .i64 0, .slice none 0 0, .slice none 0 0] from by
    rw [← hw11]
    have h := HT10.out.setF 4 (.int .i64 se)
    simp only [List.setIfInBounds_toArray, List.set_cons_zero, List.set_cons_succ] at h
    exact h)
   clear e4 f4 hw11 HT10
   refine (numQ_calls g A c l hB hlm p4 b4 _ HT11.out.rf).mono ?_
   rintro e w12 ⟨rfl, hr, hk⟩
   have HT12 := Aside0.mk (HT11.out.after hr hk)
   obtain ⟨⟨ix, p5, b5⟩, hA⟩ : ∃ x, numQ l p4 b4 = x := ⟨_, rfl⟩
   rw [hA] at HT12 ⊢
   have HA5 := Aside0.mk hA
   have e5 : w12.cell? ⟨F, 5, none⟩ = some (.int .i64 0) := (blk_cell HT12.out.fb 5).trans rfl
   have f5 := blk_frozen HT12.out.fb 5
   clear hr hk hA HT11
   go_upto_block 0 with fail
   obtain ⟨w13, hw13⟩ : ∃ x, w12.setCell ⟨F, 5, none⟩ (.int .i64 ix) = x := ⟨_, rfl⟩
   rw [hw13]
   have HT13 := Aside0.mk (show QS w w13 G g F A c l p5 b5 #[.int .i64 kd, .string fa, .string fb, .string ct, .int .i64 se, .int .i64 ix, .int .i64 0, .slice none 0 0, .slice none 0 0] from by
    rw [← hw13]
    have h := HT12.out.setF 5 (.int .i64 ix)
    simp only [List.setIfInBounds_toArray, List.set_cons_zero, List.set_cons_succ] at h
    exact h)
   clear e5 f5 hw13 HT12
   have HHL := Aside0.mk hl
   clear hl
   go_cut [14, 15, 16, 17, 18, 19, 20] (fun s14 s15 s16 s17 s18 s19 s20 wx => ∃ (p : Int) (b : Bool) (mn : Int) (V : List S34) (A7 : Option Addr) (c7 : Nat) (SN : List S36) (A8 : Option Addr) (c8 : Nat),
    Aside0 (QS w wx G g F A c l p b #[.int .i64 kd, .string fa, .string fb, .string ct, .int .i64 se, .int .i64 ix, .int .i64 mn, .slice A7 V.length c7, .slice A8 SN.length c8] ∧
     Kd.R k34 34 wx (F + 1) (fun _ => True) (.slice A7 V.length c7) V ∧ Kd.R k36 36 wx (F + 1) (fun _ => True) (.slice A8 SN.length c8) SN ∧
     readF (bytesOf s) = if (b = true ∨ p ≠ (l.length : Int) ∨ rightF ⟨kd, fa, fb, ct, se, ix, mn, V, SN⟩ = false) then (zF, 110) else (⟨kd, fa, fb, ct, se, ix, mn, V, SN⟩, 0)))
   case first =>
    have c2 : w13.cell? ⟨g + 2, 0, none⟩ = some (.bool b5) := (blk_cell HT13.out.rf.d 0).trans rfl
    have c1 : w13.cell? ⟨g + 1, 0, none⟩ = some (.int .i64 p5) := (blk_cell HT13.out.rf.a 0).trans rfl
    have c0 : w13.cell? ⟨g, 0, none⟩ = some (.slice A l.length c) := (blk_cell HT13.out.rf.b 0).trans rfl
    have g2 := blk_frozen HT13.out.rf.d 0
    have g1 := blk_frozen HT13.out.rf.a 0
    have e0 : w13.cell? ⟨F, 0, none⟩ = some (.int .i64 kd) := (blk_cell HT13.out.fb 0).trans rfl
    have e7 : w13.cell? ⟨F, 7, none⟩ = some (.slice none 0 0) := (blk_cell HT13.out.fb 7).trans rfl
    have e6 : w13.cell? ⟨F, 6, none⟩ = some (.int .i64 0) := (blk_cell HT13.out.fb 6).trans rfl
    have f7 := blk_frozen HT13.out.fb 7
    have f6 := blk_frozen HT13.out.fb 6
    have hcase : b5 = true ∨ (b5 = false ∧ kd = 1) ∨ (b5 = false ∧ kd = 2) ∨ (b5 = false ∧ ¬ kd = 1 ∧ ¬ kd = 2) := by
     cases b5 with
     | true => exact .inl rfl
     | false => by_cases h1 : kd = 1
                · exact .inr (.inl ⟨rfl, h1⟩)
                · by_cases h2 : kd = 2
                  · exact .inr (.inr (.inl ⟨rfl, h2⟩))
                  · exact .inr (.inr (.inr ⟨rfl, h1, h2⟩))
    rcases hcase with hq | ⟨hq, hq1⟩ | ⟨hq, hq2⟩ | ⟨hq, hq1, hq2⟩
    · subst hq
      have ZZ := Aside0.mk (show readF (bytesOf s) = if (true = true ∨ p5 ≠ (l.length : Int) ∨ rightF ⟨kd, fa, fb, ct, se, ix, 0, [], []⟩ = false) then (zF, 110) else (⟨kd, fa, fb, ct, se, ix, 0, [], []⟩, 0) from by
       rw [Z1.out, HHL.out]
       unfold readB
       rw [HA1.out]
       dsimp only
       rw [HA2.out]
       dsimp only
       rw [HA3.out]
       dsimp only
       rw [HA4.out]
       dsimp only
       rw [HA5.out]
       dsimp only
       unfold restQ
       rw [if_pos (show true = true from rfl), if_pos (.inl rfl)]
       try rw [if_pos (.inl rfl)])
      go_wp2
      go_meet
      exact ⟨p5, true, 0, [], none, 0, [], none, 0, ⟨HT13.out, Kd.R_nil _ _ _ _ _, Kd.R_nil _ _ _ _ _, ZZ.out⟩⟩
    · subst hq
      subst hq1
      go_wp2_with fail
      obtain ⟨⟨V, p6, ve⟩, hV⟩ : ∃ x, vecS l p5 = x := ⟨_, rfl⟩
      refine (vector_Take.calls 400 A c l p5 V p6 ve _ (Kd.F_now HT13.out.rf.foot) HT13.out.rf.le (by rw [take_f l hB hlm p5 400 (by omega), hV])).mono ?_
      rintro e w14 ⟨vv, rfl, hr14, hb14⟩
      have HT14 := Aside0.mk (HT13.out.below hb14)
      have HR14 := Aside0.mk (show Kd.R k34 34 w14 (F + 1) (fun _ => True) vv V from Kd.R_lower hr14 (by have := blk_lt HT13.out.fb; exact this))
      have HV := Aside0.mk hV
      obtain ⟨A7, c7, rfl⟩ := Kd.R_slice HR14.out
      obtain ⟨be, hbe⟩ : ∃ b, (ve != 0) = b := ⟨_, rfl⟩
      have ZZ := Aside0.mk (show readF (bytesOf s) = if (be = true ∨ p6 ≠ (l.length : Int) ∨ rightF ⟨1, fa, fb, ct, se, ix, 0, V, []⟩ = false) then (zF, 110) else (⟨1, fa, fb, ct, se, ix, 0, V, []⟩, 0) from by
       rw [Z1.out, HHL.out]
       unfold readB
       rw [HA1.out]
       dsimp only
       rw [HA2.out]
       dsimp only
       rw [HA3.out]
       dsimp only
       rw [HA4.out]
       dsimp only
       rw [HA5.out]
       dsimp only
       unfold restQ
       rw [if_neg (show ¬ (false = true) from by simp), if_pos rfl, hV]
       dsimp only
       rw [hbe])
      clear hr14 hb14 hV HT13 e0 e6 e7 f6 f7 c0 c1 c2 g1 g2
      have c2 : w14.cell? ⟨g + 2, 0, none⟩ = some (.bool false) := (blk_cell HT14.out.rf.d 0).trans rfl
      have c1 : w14.cell? ⟨g + 1, 0, none⟩ = some (.int .i64 p5) := (blk_cell HT14.out.rf.a 0).trans rfl
      have g2 := blk_frozen HT14.out.rf.d 0
      have g1 := blk_frozen HT14.out.rf.a 0
      have e7 : w14.cell? ⟨F, 7, none⟩ = some (.slice none 0 0) := (blk_cell HT14.out.fb 7).trans rfl
      have f7 := blk_frozen HT14.out.fb 7
      have HTm := Aside0.mk (show QS w (((w14.setCell ⟨F, 7, none⟩ (.slice A7 V.length c7)).setCell ⟨g + 1, 0, none⟩ (.int .i64 p6)).setCell ⟨g + 2, 0, none⟩ (.bool be)) G g F A c l p6 be #[.int .i64 1, .string fa, .string fb, .string ct, .int .i64 se, .int .i64 ix, .int .i64 0, .slice A7 V.length c7, .slice none 0 0] from by
       have h := (HT14.out.setF 7 (.slice A7 V.length c7)).setAD p6 be
       simp only [List.setIfInBounds_toArray, List.set_cons_zero, List.set_cons_succ] at h
       exact h)
      have HRm := Aside0.mk (show Kd.R k34 34 (((w14.setCell ⟨F, 7, none⟩ (.slice A7 V.length c7)).setCell ⟨g + 1, 0, none⟩ (.int .i64 p6)).setCell ⟨g + 2, 0, none⟩ (.bool be)) (F + 1) (fun _ => True) (.slice A7 V.length c7) V from
       R_apart HR14.out (M := fun k => k ≤ F) (Keeps.setCell (M := fun k => k ≤ F) (Keeps.setCell (M := fun k => k ≤ F) (Keeps.setCell (M := fun k => k ≤ F) (Keeps.refl _ w14) (p := ⟨F, 7, none⟩) (.inl (Nat.le_refl _)) _) (p := ⟨g + 1, 0, none⟩) (.inl (by have := HT14.out.gf; show g + 1 ≤ F; omega)) _) (p := ⟨g + 2, 0, none⟩) (.inl (by have := HT14.out.gf; show g + 2 ≤ F; omega)) _) (fun k hk => by omega))
      clear hF hk0
      cases be with
      | true =>
        go_wp2
        go_meet
        exact ⟨p6, true, 0, V, A7, c7, [], none, 0, ⟨HTm.out, HRm.out, Kd.R_nil _ _ _ _ _, ZZ.out⟩⟩
      | false =>
        go_wp2
        go_meet
        exact ⟨p6, false, 0, V, A7, c7, [], none, 0, ⟨HTm.out, HRm.out, Kd.R_nil _ _ _ _ _, ZZ.out⟩⟩
    · subst hq
      subst hq2
      go_wp2_with fail
      refine (numQ_calls g A c l hB hlm p5 false _ HT13.out.rf).mono ?_
      rintro e w14 ⟨rfl, hr, hk⟩
      have HT14 := Aside0.mk (HT13.out.after hr hk)
      obtain ⟨⟨mn, p6, b6⟩, hA⟩ : ∃ x, numQ l p5 false = x := ⟨_, rfl⟩
      rw [hA] at HT14 ⊢
      have HA6 := Aside0.mk hA
      clear hr hk hA HT13 e0 e6 e7 f6 f7 c0 c1 c2 g1 g2
      have e6 : w14.cell? ⟨F, 6, none⟩ = some (.int .i64 0) := (blk_cell HT14.out.fb 6).trans rfl
      have f6 := blk_frozen HT14.out.fb 6
      go_wp2_with fail
      obtain ⟨w15, hw15⟩ : ∃ x, w14.setCell ⟨F, 6, none⟩ (.int .i64 mn) = x := ⟨_, rfl⟩
      rw [hw15]
      have HT15 := Aside0.mk (show QS w w15 G g F A c l p6 b6 #[.int .i64 2, .string fa, .string fb, .string ct, .int .i64 se, .int .i64 ix, .int .i64 mn, .slice none 0 0, .slice none 0 0] from by
       rw [← hw15]
       have h := HT14.out.setF 6 (.int .i64 mn)
       simp only [List.setIfInBounds_toArray, List.set_cons_zero, List.set_cons_succ] at h
       exact h)
      clear e6 f6 hw15 HT14
      refine (numQ_calls g A c l hB hlm p6 b6 _ HT15.out.rf).mono ?_
      rintro e w16 ⟨rfl, hr, hk⟩
      have HT16 := Aside0.mk (HT15.out.after hr hk)
      have hnb := numQ_ok hB p6 b6
      obtain ⟨⟨n, p7, b7⟩, hA⟩ : ∃ x, numQ l p6 b6 = x := ⟨_, rfl⟩
      rw [hA] at HT16 hnb ⊢
      dsimp only at hnb
      have HN0 : 0 ≤ n := hnb.1
      have HN1 : n ≤ 1152921504606846976 := hnb.2.1
      have HPB := Aside0.mk hnb.2.2
      have HA7 := Aside0.mk hA
      have Z2 := Aside0.mk (show ∀ (p : Int) (b : Bool) (sn : List S36), opsQ l n.toNat p7 b7 [] = (p, b, sn) → readF (bytesOf s) = if (b = true ∨ p ≠ (l.length : Int) ∨ rightF ⟨2, fa, fb, ct, se, ix, mn, [], sn⟩ = false) then (zF, 110) else (⟨2, fa, fb, ct, se, ix, mn, [], sn⟩, 0) from by
       intro p b sn ho
       rw [Z1.out, HHL.out]
       unfold readB
       rw [HA1.out]
       dsimp only
       rw [HA2.out]
       dsimp only
       rw [HA3.out]
       dsimp only
       rw [HA4.out]
       dsimp only
       rw [HA5.out]
       dsimp only
       unfold restQ
       rw [if_neg (show ¬ (false = true) from by simp), if_neg (show ¬ ((2 : Int) = 1) from by omega), if_pos rfl]
       simp only [HA6.out, HA7.out, ho])
      clear hr hk hA hnb HT15 hk0 hF
      go_wp2_with fail
      go_loopw [18, 19, 20] (fun v18 v19 v20 wr => ∃ i : Int, v18 = .int .i64 i ∧ 0 ≤ i ∧ i ≤ n ∧ Aside0 (∃ (p : Int) (b : Bool) (sn : List S36) (A8 : Option Addr) (c8 : Nat),
       QS w wr G g F A c l p b #[.int .i64 2, .string fa, .string fb, .string ct, .int .i64 se, .int .i64 ix, .int .i64 mn, .slice none 0 0, .slice A8 sn.length c8] ∧
       Kd.R k36 36 wr (F + 1) (fun _ => True) (.slice A8 sn.length c8) sn ∧ opsQ l n.toNat p7 b7 [] = opsQ l (n - i).toNat p b sn ∧
       (b = false → (sn.length : Int) ≤ p ∧ p ≤ (l.length : Int)) ∧ sn.length ≤ l.length + 1)) (fun v18 _ _ _ => (n - intOf v18).toNat)
      case atStart => exact ⟨0, rfl, by omega, HN0, ⟨p7, b7, [], none, 0, HT16.out, Kd.R_nil _ _ _ _ _, by rw [Int.sub_zero], fun h => ⟨(HPB.out h).1, (HPB.out h).2⟩, by simp⟩⟩
      case round =>
       clear HT16
       obtain ⟨i, rfl, hi0, hile, HI0⟩ := hrel
       obtain ⟨p, b, sn, A8, c8, ht, hr8, hop, hpb, hsl2⟩ := HI0.out
       have HT := Aside0.mk ht
       have HR8 := Aside0.mk hr8
       have HOP := Aside0.mk hop
       have HPB2 := Aside0.mk hpb
       have HSN := Aside0.mk hsl2
       clear ht hr8 hop hpb hsl2 HI0
       have c2 : wr.cell? ⟨g + 2, 0, none⟩ = some (.bool b) := (blk_cell HT.out.rf.d 0).trans rfl
       by_cases hlt : i < n ∧ b = false
       · obtain ⟨hlt, hb0⟩ := hlt
         subst hb0
         go_wp2_with fail
         refine (texQ_calls 1048576 (by omega) (by omega) g A c l hB hlm p false _ HT.out.rf).mono ?_
         rintro e wa ⟨rfl, hra, hka⟩
         have HTa := Aside0.mk (HT.out.after hra hka)
         have HR8a := Aside0.mk (R_apart HR8.out hka (fun k hk => by have := HT.out.gf; rcases hk with rfl | rfl <;> omega))
         have hts := texQ_size hB p false
         have hto := texQ_step hB p false
         obtain ⟨⟨tx0, pp, bb⟩, hA⟩ : ∃ x, texQ 1048576 l p false = x := ⟨_, rfl⟩
         rw [hA] at HTa hts hto ⊢
         dsimp only at hts hto
         have HTO := Aside0.mk hto
         have HAT := Aside0.mk hA
         clear hra hka hA hto HT HR8 c2
         go_wp2_with fail
         refine (read43 _ tx0 (by omega)).mono ?_
         rintro e wb ⟨v2, v7, rfl, hv2, hv7, hbb⟩
         obtain ⟨⟨x, er2⟩, hX⟩ : ∃ r, readO (bytesOf tx0) = r := ⟨_, rfl⟩
         rw [hX] at hv2 hv7 ⊢
         dsimp only at hv2 hv7 ⊢
         have HX := Aside0.mk hX
         have HTb := Aside0.mk (HTa.out.below hbb)
         have HR8b := Aside0.mk (Kd.R_below HR8a.out hbb)
         have HFa := Aside0.mk (blk_lt HTa.out.fb)
         have HOWN := Aside0.mk (fun k (hk : (Value.slice A8 sn.length c8).ownBlock = some k) => Kd.R_lt HR8a.out k hk)
         obtain ⟨A2, cc2, rfl⟩ := Kd.R_slice hv2
         obtain ⟨A7, cc7, rfl⟩ := Kd.R_slice hv7
         have HV2 := Aside0.mk hv2
         have HV7 := Aside0.mk hv7
         clear hv2 hv7 hbb hX HTa HR8a
         go_upto_region 24 with fail
         obtain ⟨wd, hwd⟩ : ∃ wd, wb.alloc (.cells #[.string x.f0.f0, .int .i64 x.f0.f1, .slice A2 x.f1.length cc2, .string x.f2, .int .i64 x.f3, .string x.f4, .int .i64 x.f5, .slice A7 x.f6.length cc7] 36) = wd := ⟨_, rfl⟩
         obtain ⟨J, hJ⟩ : ∃ J, wb.heap.size = J := ⟨_, rfl⟩
         have hbd : Below wb.heap.size wb wd := by rw [← hwd]; exact (Below.refl _ wb).alloc (Nat.le_refl _) _
         have HJd := Aside0.mk (show wd.heap[J]? = some (.cells #[.string x.f0.f0, .int .i64 x.f0.f1, .slice A2 x.f1.length cc2, .string x.f2, .int .i64 x.f3, .string x.f4, .int .i64 x.f5, .slice A7 x.f6.length cc7] 36 (0, 0)) from by rw [← hwd, ← hJ]; exact World.alloc_heap_new wb _)
         have HTd := Aside0.mk (HTb.out.below hbd)
         have HR8d := Aside0.mk (Kd.R_below HR8b.out hbd)
         have HJF := Aside0.mk (show F < J from by rw [← hJ]; exact blk_lt HTb.out.fb)
         have HV2d := Aside0.mk (Kd.R_below HV2.out hbd)
         have HV7d := Aside0.mk (Kd.R_below HV7.out hbd)
         try rw [hwd]
         try rw [hJ]
         clear hwd hJ hbd HTb HR8b HV2 HV7
         have c2 : wd.cell? ⟨g + 2, 0, none⟩ = some (.bool bb) := (blk_cell HTd.out.rf.d 0).trans rfl
         have g2 := blk_frozen HTd.out.rf.d 0
         obtain ⟨be, hbe⟩ : ∃ b, (er2 != 0) = b := ⟨_, rfl⟩
         have HBE := Aside0.mk hbe
         obtain ⟨we, hwe⟩ : ∃ we, wd.setCell ⟨g + 2, 0, none⟩ (.bool (bb || be)) = we := ⟨_, rfl⟩
         have HWE := Aside0.mk hwe
         clear hwe
         go_cut [] (fun wx => wx = we)
         case first =>
          cases bb with
          | true => go_wp2; go_meet; exact HWE.out
          | false => cases be <;> (go_wp2; go_meet; exact HWE.out)
         case rest =>
          obtain rfl := hcut
          have HTe := Aside0.mk (show QS w wc G g F A c l pp (bb || be) #[.int .i64 2, .string fa, .string fb, .string ct, .int .i64 se, .int .i64 ix, .int .i64 mn, .slice none 0 0, .slice A8 sn.length c8] from by
           rw [← HWE.out]
           exact HTd.out.setD (bb || be))
          have hkd : Keeps (fun k => k = g + 2) wd wc := by
           rw [← HWE.out]
           exact Keeps.setCell (M := fun k => k = g + 2) (Keeps.refl _ wd) (p := ⟨g + 2, 0, none⟩) (.inl rfl) _
          have hgF := HTd.out.gf
          have hJF := HJF.out
          have hFa := HFa.out
          have HJe := Aside0.mk ((hkd.block J (blk_lt HJd.out) (by omega)).trans HJd.out)
          have HR8e := Aside0.mk (R_apart HR8d.out hkd (fun k hk => by omega))
          have HV2e := Aside0.mk (R_apart HV2d.out hkd (fun k hk => by omega))
          have HV7e := Aside0.mk (R_apart HV7d.out hkd (fun k hk => by omega))
          have HM := Aside0.mk (show k36.M wc (F + 1) (fun k => True ∧ some k ≠ (Value.slice A8 sn.length c8).ownBlock) x [.string x.f0.f0, .int .i64 x.f0.f1, .slice A2 x.f1.length cc2, .string x.f2, .int .i64 x.f3, .string x.f4, .int .i64 x.f5, .slice A7 x.f6.length cc7] from by
           refine k36_mkM _ _ _ x (Kd.R_lower (Kd.R_mono (Kd.R_bound HV2e.out) (fun j hj => ⟨trivial, fun e => ?_⟩)) (by omega)) (Kd.R_lower (Kd.R_mono (Kd.R_bound HV7e.out) (fun j hj => ⟨trivial, fun e => ?_⟩)) (by omega))
           · have := HOWN.out j e.symm; have := hj.2.1; omega
           · have := HOWN.out j e.symm; have := hj.2.1; omega)
          have HLN := Aside0.mk (show (sn.length + 1) * 120 ≤ 140737488355328 from by have := HSN.out; omega)
          clear hkd HR8d HTd HJd HV2d HV7d HV2e HV7e c2 g2
          obtain ⟨m0, m1, m2, m3, m4, m5, m6, m7⟩ := cells8 HJe.out
          have e8 : wc.cell? ⟨F, 8, none⟩ = some (.slice A8 sn.length c8) := (blk_cell HTe.out.fb 8).trans rfl
          have HFw := Aside0.mk (blk_lt HTe.out.fb)
          have HLO := Aside0.mk (show ∀ k, (Value.slice A8 sn.length c8).ownBlock = some k → F < k from fun k hk => ((Kd.R_bound HR8e.out).1 k hk).2.1)
          clear hgF hJF hFa
          go_wp2_with ((with_reducible refine gate_builtin (b := .append) (xs := #[.tmp 107, .tmp 109]) rfl ?_); at_builtin; refine Kd.R_append k36 (w0 := wc) (F + 1) rfl (.tmp 107) (.tmp 109) 22 36 _ 120 rfl Try.underlying22 info36 rfl (by decide) (by omega) _ sn x _ (fun _ => True) (fun k => True ∧ some k ≠ (Value.slice A8 sn.length c8).ownBlock) rfl rfl HM.out (fun k hk => hk) (fun _ _ => trivial) HR8e.out (Below.refl _ _) HFw.out HLN.out ?_; intro v1 w6 ho6 hb6 hg6 hat6; have HTg := Aside0.mk (HTe.out.grown hg6 (fun k hk => HLO.out k hk)); have HRg := Aside0.mk ho6; obtain ⟨A1, d1, rfl⟩ := Kd.R_slice ho6; clear ho6 hb6 hg6 hat6; have e8 : w6.cell? ⟨F, 8, none⟩ = some (.slice A8 sn.length c8) := (blk_cell HTg.out.fb 8).trans rfl; have f8 := blk_frozen HTg.out.fb 8)
          have hln : (sn ++ [x]).length = sn.length + 1 := by simp
          obtain ⟨w7, hw7⟩ : ∃ wz, w6.setCell ⟨F, 8, none⟩ (.slice A1 (sn.length + 1) d1) = wz := ⟨_, rfl⟩
          rw [hw7]
          have HTh := Aside0.mk (show QS w w7 G g F A c l pp (bb || be) #[.int .i64 2, .string fa, .string fb, .string ct, .int .i64 se, .int .i64 ix, .int .i64 mn, .slice none 0 0, .slice A1 (sn ++ [x]).length d1] from by
           rw [← hw7]
           rw [hln]
           have h := HTg.out.setF 8 (.slice A1 (sn.length + 1) d1)
           simp only [List.setIfInBounds_toArray, List.set_cons_zero, List.set_cons_succ] at h
           exact h)
          have HRh := Aside0.mk (R_apart HRg.out (show Keeps (fun k => k = F) w6 w7 from by
           rw [← hw7]
           exact Keeps.setCell (M := fun k => k = F) (Keeps.refl _ w6) (p := ⟨F, 8, none⟩) (.inl rfl) _) (fun k hk => by omega))
          have HON := Aside0.mk (show opsQ l n.toNat p7 b7 [] = opsQ l (n - (i + 1)).toNat pp (bb || be) (sn ++ [x]) from by
           rw [HOP.out, show (n - i).toNat = (n - (i + 1)).toNat + 1 from by omega]
           show (if false = false then _ else _) = _
           rw [if_pos rfl, HAT.out]
           dsimp only
           rw [HX.out]
           dsimp only
           rw [HBE.out])
          clear hw7 HTg HRg
          clear hln
          try go_round
          case rel => exact ⟨i + 1, by go_num, by omega, by omega, ⟨pp, bb || be, sn ++ [x], A1, d1, HTh.out, HRh.out, HON.out, fun h => by
           have hbb : bb = false := by cases bb with | false => rfl | true => cases h
           have h1 := HTO.out hbb
           have h2 := HPB2.out (by first | trivial | rfl)
           rw [List.length_append]
           simp only [List.length_cons, List.length_nil]
           omega, by
           have h2 := HPB2.out (by first | trivial | rfl)
           rw [List.length_append]
           simp only [List.length_cons, List.length_nil]
           omega⟩⟩
          case measure => simp [intOf]; omega
       · have HZ := Aside0.mk (Z2.out p b sn (by
          rw [HOP.out]
          by_cases h0 : b = false
          · have : i = n := Classical.byContradiction (fun h => hlt ⟨by omega, h0⟩)
            rw [this, Int.sub_self]
            rfl
          · cases hk : (n - i).toNat with
            | zero => rfl
            | succ k => show (if b = false then _ else _) = _; rw [if_neg h0]))
         have hcase : (decide (i < n) = false) ∨ (decide (i < n) = true ∧ b = true) := by
          by_cases h : i < n
          · right
            refine ⟨by simpa using h, ?_⟩
            cases b with
            | true => rfl
            | false => exact absurd ⟨h, rfl⟩ hlt
          · left
            simpa using h
         clear hlt
         rcases hcase with q1 | ⟨q1, rfl⟩
         all_goals
          go_wp2
          go_meet
          exact ⟨p, _, mn, [], none, 0, sn, A8, c8, ⟨HT.out, Kd.R_nil _ _ _ _ _, HR8.out, HZ.out⟩⟩
    · subst hq
      have ZZ := Aside0.mk (show readF (bytesOf s) = if (false = true ∨ p5 ≠ (l.length : Int) ∨ rightF ⟨kd, fa, fb, ct, se, ix, 0, [], []⟩ = false) then (zF, 110) else (⟨kd, fa, fb, ct, se, ix, 0, [], []⟩, 0) from by
       rw [Z1.out, HHL.out]
       unfold readB
       rw [HA1.out]
       dsimp only
       rw [HA2.out]
       dsimp only
       rw [HA3.out]
       dsimp only
       rw [HA4.out]
       dsimp only
       rw [HA5.out]
       dsimp only
       unfold restQ
       rw [if_neg (show ¬ (false = true) from by simp), if_neg hq1, if_neg hq2])
      have q1 : (kd == 1) = false := by simpa using hq1
      have q2 : (kd == 2) = false := by simpa using hq2
      go_wp2
      go_meet
      exact ⟨p5, false, 0, [], none, 0, [], none, 0, ⟨HT13.out, Kd.R_nil _ _ _ _ _, Kd.R_nil _ _ _ _ _, ZZ.out⟩⟩
   case rest =>
    clear HT13
    obtain ⟨p, b, mn, V, A7, c7, SN, A8, c8, H0⟩ := hcut
    have HTE := Aside0.mk H0.out.1
    have HR7 := Aside0.mk H0.out.2.1
    have HR8 := Aside0.mk H0.out.2.2.1
    have ZZ := Aside0.mk H0.out.2.2.2
    clear H0
    have c2 : wc.cell? ⟨g + 2, 0, none⟩ = some (.bool b) := (blk_cell HTE.out.rf.d 0).trans rfl
    have c1 : wc.cell? ⟨g + 1, 0, none⟩ = some (.int .i64 p) := (blk_cell HTE.out.rf.a 0).trans rfl
    have c0 : wc.cell? ⟨g, 0, none⟩ = some (.slice A l.length c) := (blk_cell HTE.out.rf.b 0).trans rfl
    have HK1 := Aside0.mk hk0
    clear hk0 hF
    by_cases hbp : b = true ∨ (b = false ∧ p ≠ (l.length : Int))
    · have Z0 := Aside0.mk (show readF (bytesOf s) = (zF, 110) from by
       rw [ZZ.out, if_pos (by rcases hbp with h | h; exact .inl h; exact .inr (.inl h.2))])
      obtain ⟨e0, e1, e2, e3, e4, e5, e6, e7, e8⟩ := cells9 HTE.out.gb
      obtain ⟨f0, f1, f2, f3, f4, f5, f6, f7, f8⟩ := froz9 HTE.out.gb
      have hcase : b = true ∨ (b = false ∧ (p != (l.length : Int)) = true) := by
       rcases hbp with h | ⟨h, h'⟩
       · exact .inl h
       · exact .inr ⟨h, by simpa using h'⟩
      clear hbp
      rcases hcase with rfl | ⟨rfl, q3⟩
      · go_wp2
        have h9 := set9 HTE.out.gb (.int .i64 0) (.string ⟨#[]⟩) (.string ⟨#[]⟩) (.string ⟨#[]⟩) (.int .i64 0) (.int .i64 0) (.int .i64 0) (.slice none 0 0) (.slice none 0 0)
        obtain ⟨k0, k1, k2, k3, k4, k5, k6, k7, k8⟩ := cells9 h9
        have hk := below_keeps HTE.out.bl (M := fun k => k = G) (fun k hk => by subst hk; exact HW1.out) HTE.out.bl.size (keeps9 _ G (.int .i64 0) (.string ⟨#[]⟩) (.string ⟨#[]⟩) (.string ⟨#[]⟩) (.int .i64 0) (.int .i64 0) (.int .i64 0) (.slice none 0 0) (.slice none 0 0))
        rw [Z0.out]
        try rw [hG] at hk
        try rw [hG]
        exact bodyPost_ret (v := .tuple #[.agg #[.int .i64 0, .string ⟨#[]⟩, .string ⟨#[]⟩, .string ⟨#[]⟩, .int .i64 0, .int .i64 0, .int .i64 0, .slice none 0 0, .slice none 0 0], .int .i64 110]) (by simp [results, Try.f32, go_sem, k0, k1, k2, k3, k4, k5, k6, k7, k8]) rfl ⟨.slice none 0 0, .slice none 0 0, rfl, Kd.R_nil _ _ _ _ _, Kd.R_nil _ _ _ _ _, hk⟩
      · go_wp2
        have h9 := set9 HTE.out.gb (.int .i64 0) (.string ⟨#[]⟩) (.string ⟨#[]⟩) (.string ⟨#[]⟩) (.int .i64 0) (.int .i64 0) (.int .i64 0) (.slice none 0 0) (.slice none 0 0)
        obtain ⟨k0, k1, k2, k3, k4, k5, k6, k7, k8⟩ := cells9 h9
        have hk := below_keeps HTE.out.bl (M := fun k => k = G) (fun k hk => by subst hk; exact HW1.out) HTE.out.bl.size (keeps9 _ G (.int .i64 0) (.string ⟨#[]⟩) (.string ⟨#[]⟩) (.string ⟨#[]⟩) (.int .i64 0) (.int .i64 0) (.int .i64 0) (.slice none 0 0) (.slice none 0 0))
        rw [Z0.out]
        try rw [hG] at hk
        try rw [hG]
        exact bodyPost_ret (v := .tuple #[.agg #[.int .i64 0, .string ⟨#[]⟩, .string ⟨#[]⟩, .string ⟨#[]⟩, .int .i64 0, .int .i64 0, .int .i64 0, .slice none 0 0, .slice none 0 0], .int .i64 110]) (by simp [results, Try.f32, go_sem, k0, k1, k2, k3, k4, k5, k6, k7, k8]) rfl ⟨.slice none 0 0, .slice none 0 0, rfl, Kd.R_nil _ _ _ _ _, Kd.R_nil _ _ _ _ _, hk⟩
    have hb0 : b = false := by cases b with | false => rfl | true => exact absurd (Or.inl rfl) hbp
    have hpl : p = (l.length : Int) := Classical.byContradiction (fun h => hbp (Or.inr ⟨hb0, h⟩))
    subst hb0
    clear hbp
    have HPL := Aside0.mk hpl
    have q3 : (p != (l.length : Int)) = false := by simp [hpl]
    clear hpl
    obtain ⟨n0, n1, n2, n3, n4, n5, n6, n7, n8⟩ := cells9 HTE.out.fb
    go_wp2_with fail
    obtain ⟨br, hbr⟩ : ∃ br, rightF ⟨kd, fa, fb, ct, se, ix, mn, V, SN⟩ = br := ⟨_, rfl⟩
    have HBR := Aside0.mk hbr
    clear hbr
    refine (frRight_calls ⟨kd, fa, fb, ct, se, ix, mn, V, SN⟩ A7 c7 A8 c8 _ (Kd.R_reads' HR7.out).2.1 (Kd.R_reads' HR7.out).2.2 (Kd.R_reads' HR8.out).2.1 (Kd.R_reads' HR8.out).2.2).mono ?_
    rintro e wz ⟨rfl, hbz⟩
    rw [HBR.out]
    have HTz := Aside0.mk (HTE.out.below hbz)
    have HR7z := Aside0.mk (Kd.R_below HR7.out hbz)
    have HR8z := Aside0.mk (Kd.R_below HR8.out hbz)
    clear hbz n0 n1 n2 n3 n4 n5 n6 n7 n8 c0 c1 c2 HTE HR7 HR8
    obtain ⟨n0, n1, n2, n3, n4, n5, n6, n7, n8⟩ := cells9 HTz.out.fb
    obtain ⟨e0, e1, e2, e3, e4, e5, e6, e7, e8⟩ := cells9 HTz.out.gb
    obtain ⟨f0, f1, f2, f3, f4, f5, f6, f7, f8⟩ := froz9 HTz.out.gb
    cases br with
    | false =>
      have Z0 := Aside0.mk (show readF (bytesOf s) = (zF, 110) from by rw [ZZ.out, if_pos (.inr (.inr HBR.out))])
      go_wp2
      have h9 := set9 HTz.out.gb (.int .i64 0) (.string ⟨#[]⟩) (.string ⟨#[]⟩) (.string ⟨#[]⟩) (.int .i64 0) (.int .i64 0) (.int .i64 0) (.slice none 0 0) (.slice none 0 0)
      obtain ⟨k0, k1, k2, k3, k4, k5, k6, k7, k8⟩ := cells9 h9
      have hk := below_keeps HTz.out.bl (M := fun k => k = G) (fun k hk => by subst hk; exact HW1.out) HTz.out.bl.size (keeps9 _ G (.int .i64 0) (.string ⟨#[]⟩) (.string ⟨#[]⟩) (.string ⟨#[]⟩) (.int .i64 0) (.int .i64 0) (.int .i64 0) (.slice none 0 0) (.slice none 0 0))
      rw [Z0.out]
      try rw [hG] at hk
      try rw [hG]
      exact bodyPost_ret (v := .tuple #[.agg #[.int .i64 0, .string ⟨#[]⟩, .string ⟨#[]⟩, .string ⟨#[]⟩, .int .i64 0, .int .i64 0, .int .i64 0, .slice none 0 0, .slice none 0 0], .int .i64 110]) (by simp [results, Try.f32, go_sem, k0, k1, k2, k3, k4, k5, k6, k7, k8]) rfl ⟨.slice none 0 0, .slice none 0 0, rfl, Kd.R_nil _ _ _ _ _, Kd.R_nil _ _ _ _ _, hk⟩
    | true =>
      have Z0 := Aside0.mk (show readF (bytesOf s) = (⟨kd, fa, fb, ct, se, ix, mn, V, SN⟩, 0) from by
       rw [ZZ.out, if_neg (by
        intro h
        rcases h with h | h | h
        · cases h
        · exact h HPL.out
        · rw [HBR.out] at h; cases h)])
      go_wp2
      have h9 := set9 HTz.out.gb (.int .i64 kd) (.string fa) (.string fb) (.string ct) (.int .i64 se) (.int .i64 ix) (.int .i64 mn) (.slice A7 V.length c7) (.slice A8 SN.length c8)
      obtain ⟨k0, k1, k2, k3, k4, k5, k6, k7, k8⟩ := cells9 h9
      have hkG := keeps9 wz G (.int .i64 kd) (.string fa) (.string fb) (.string ct) (.int .i64 se) (.int .i64 ix) (.int .i64 mn) (.slice A7 V.length c7) (.slice A8 SN.length c8)
      have hk := below_keeps HTz.out.bl (M := fun k => k = G) (fun k hk => by subst hk; exact HW1.out) HTz.out.bl.size hkG
      have hlo : ∀ k, k = G → k < F + 1 := fun k hk => by have := HTz.out.gg; have := HTz.out.gf; omega
      have hGN : w.heap.size ≤ F + 1 := by have := HTz.out.gg; have := HTz.out.gf; have := HW1.out; omega
      have rv := Kd.R_lower (Kd.R_mono (R_apart HR7z.out hkG hlo) (ok' := fun _ => True) (fun _ _ => trivial)) hGN
      have r7 := Kd.R_lower (Kd.R_mono (R_apart HR8z.out hkG hlo) (ok' := fun _ => True) (fun _ _ => trivial)) hGN
      rw [Z0.out]
      try rw [hG] at hk rv r7
      try rw [hG]
      exact bodyPost_ret (v := .tuple #[.agg #[.int .i64 kd, .string fa, .string fb, .string ct, .int .i64 se, .int .i64 ix, .int .i64 mn, .slice A7 V.length c7, .slice A8 SN.length c8], .int .i64 0]) (by simp [results, Try.f32, go_sem, k0, k1, k2, k3, k4, k5, k6, k7, k8]) rfl ⟨.slice A7 V.length c7, .slice A8 SN.length c8, rfl, rv, r7, hk⟩
end Go.Proofs.Ytenbkljgmgdegaa.PO
end
section
namespace Go.Proofs.Ytenbkljgmgdegaa.PO
open Go.RowKit Go.Proofs.YtenbkljgmgdegaaW.PrintWords Go.Proofs.YtenbkljgmgdegaaW.PrintLast Go.Proofs.YtenbkljgmgdegaaW.PrintMore Go.Proofs.Ytenbkljgmgdegaa.XW
set_option linter.unusedVariables false
set_option linter.unusedSimpArgs false
theorem ne0_false {e : Int} (h : (e != 0) = false) : e = 0 := by simpa using h
theorem texQ_is {l : List Int} (hB : isB l) {m : Int} (hm : 0 ≤ m) {p q : Int} {bad : Bool} {t : ByteArray} (h : texQ m l p bad = (t, q, false)) :
 bad = false ∧ 0 ≤ p ∧ (t.size : Int) ≤ m ∧ 0 ≤ q ∧ q ≤ (l.length : Int) ∧ l.take q.toNat = l.take p.toNat ++ textB t := by
 unfold texQ at h
 obtain ⟨⟨t', q', e⟩, ht⟩ : ∃ r, textM m l p = r := ⟨_, rfl⟩
 rw [ht] at h
 simp only [Prod.mk.injEq] at h
 obtain ⟨rfl, rfl, h3⟩ := h
 rw [Bool.or_eq_false_iff] at h3
 have he := ne0_false h3.2
 subst he
 have hi := text_isM m hm hB (p := p) (by rw [ht])
 rw [ht] at hi
 exact ⟨h3.1, hi.1, hi.2.2.1, hi.2.2.2.1, textM_le hB hm ht, hi.2.2.2.2⟩
theorem numQ_is {l : List Int} (hB : isB l) {p q n : Int} {bad : Bool} (h : numQ l p bad = (n, q, false)) :
 bad = false ∧ 0 ≤ p ∧ 0 ≤ n ∧ n ≤ 1152921504606846976 ∧ 0 ≤ q ∧ q ≤ (l.length : Int) ∧ l.take q.toNat = l.take p.toNat ++ encN n := by
 unfold numQ at h
 obtain ⟨⟨n', q', e⟩, ht⟩ : ∃ r, takeS l p = r := ⟨_, rfl⟩
 rw [ht] at h
 simp only [Prod.mk.injEq] at h
 obtain ⟨h1, rfl, h3⟩ := h
 rw [Bool.or_eq_false_iff, Bool.or_eq_false_iff] at h3
 have he := ne0_false h3.1.2
 subst he
 have hn : ¬ n' > 1152921504606846976 := by simpa using h3.2
 rw [if_pos (by omega)] at h1
 subst h1
 have ho := takeS_ok hB (p := p) (by rw [ht])
 have hi := take_is hB (p := p) (by rw [ht])
 rw [ht] at ho hi
 exact ⟨h3.1.1, hi.1, ho.2.2.1, by omega, ho.1, ho.2.1, hi.2.2⟩
theorem textS_app (b : List Int) (s : ByteArray) : textS b s = b ++ textB s := by simp [textS, textB]
theorem layOps_app : ∀ (l : List S36) (b : List Int), layOps b l = b ++ layOps [] l
 | [], b => by simp [layOps]
 | x :: l, b => by
   rw [layOps, layOps_app l, layOps, layOps_app l (textS [] _), textS_app, textS_app]
   simp
theorem layOps_cons (x : S36) (l : List S36) : layOps [] (x :: l) = textB (layF x).1 ++ layOps [] l := by
 rw [layOps, layOps_app l, textS_app]
 simp
theorem opsQ_is {l : List Int} (hB : isB l) : ∀ (k : Nat) (p : Int) (bad : Bool) (o : List S36) (q : Int) (o' : List S36), 0 ≤ p → p ≤ (l.length : Int) → opsQ l k p bad o = (q, false, o') →
 ∃ L, o' = o ++ L ∧ (bad = false → L.length = k) ∧ 0 ≤ q ∧ q ≤ (l.length : Int) ∧ l.take q.toNat = l.take p.toNat ++ layOps [] L
 | 0, p, bad, o, q, o', hp, hpl, h => by
   unfold opsQ at h
   simp only [Prod.mk.injEq] at h
   obtain ⟨rfl, rfl, rfl⟩ := h
   exact ⟨[], by simp, by simp, hp, hpl, by simp [layOps]⟩
 | k + 1, p, bad, o, q, o', hp, hpl, h => by
   unfold opsQ at h
   by_cases hb : bad = false
   case neg =>
    rw [if_neg hb] at h
    simp only [Prod.mk.injEq] at h
    exact absurd h.2.1 hb
   rw [if_pos hb] at h
   obtain ⟨⟨t, pp, bb⟩, ht⟩ : ∃ r, texQ 1048576 l p bad = r := ⟨_, rfl⟩
   rw [ht] at h
   dsimp only at h
   obtain ⟨⟨x, e⟩, hx⟩ : ∃ r, readO (bytesOf t) = r := ⟨_, rfl⟩
   rw [hx] at h
   dsimp only at h
   have hnb : (bb || e != 0) = false := by
    cases k with
    | zero =>
      unfold opsQ at h
      simp only [Prod.mk.injEq] at h
      exact h.2.1
    | succ k =>
      unfold opsQ at h
      by_cases h2 : (bb || e != 0) = false
      · exact h2
      · rw [if_neg h2] at h
        simp only [Prod.mk.injEq] at h
        exact absurd h.2.1 h2
   have hbb := Bool.or_eq_false_iff.1 hnb
   rw [hnb] at h
   rw [hbb.1] at ht
   obtain ⟨_, _, _, q0, q1, q2⟩ := texQ_is hB (by omega) ht
   obtain ⟨L, e1, e2, e3, e4, e5⟩ := opsQ_is hB k pp false _ q o' q0 q1 h
   have hez := ne0_false hbb.2
   subst hez
   have hr := readO_is (bytes_B t) (by rw [hx])
   rw [hx] at hr
   have hl : (layF x).1 = t := by
    unfold layF
    rw [if_pos hr.1]
    show strOfNums (layO x) = t
    rw [hr.2]
    exact nums_bytes t
   refine ⟨x :: L, by rw [e1]; simp, fun _ => by rw [List.length_cons, e2 rfl], e3, e4, ?_⟩
   rw [e5, q2, layOps_cons, hl]
   simp
theorem len0 {α : Type} {l : List α} (h : l.length = 0) : l = [] := List.eq_nil_of_length_eq_zero h
theorem headB_eq (f : Fr) : headB f = textB f.fa ++ textB f.fb ++ textB f.ct ++ encN f.se ++ encN f.ix := by
 unfold headB
 rw [textS_app, textS_app, textS_app]
 simp
theorem readB_is {l : List Int} (hB : isB l) (k : Int) (h : (readB k l).2 = 0) : rightF (readB k l).1 = true ∧ (readB k l).1.k = k ∧ bodyB (readB k l).1 = l := by
 unfold readB at h ⊢
 obtain ⟨⟨fa, p1, b1⟩, h1⟩ : ∃ r, texQ 24 l 0 false = r := ⟨_, rfl⟩
 rw [h1] at h ⊢
 dsimp only at h ⊢
 obtain ⟨⟨fb, p2, b2⟩, h2⟩ : ∃ r, texQ 24 l p1 b1 = r := ⟨_, rfl⟩
 rw [h2] at h ⊢
 dsimp only at h ⊢
 obtain ⟨⟨ct, p3, b3⟩, h3⟩ : ∃ r, texQ 32 l p2 b2 = r := ⟨_, rfl⟩
 rw [h3] at h ⊢
 dsimp only at h ⊢
 obtain ⟨⟨se, p4, b4⟩, h4⟩ : ∃ r, numQ l p3 b3 = r := ⟨_, rfl⟩
 rw [h4] at h ⊢
 dsimp only at h ⊢
 obtain ⟨⟨ix, p5, b5⟩, h5⟩ : ∃ r, numQ l p4 b4 = r := ⟨_, rfl⟩
 rw [h5] at h ⊢
 dsimp only at h ⊢
 obtain ⟨⟨p, b, mn, kn, op⟩, hr⟩ : ∃ r, restQ k l p5 b5 = r := ⟨_, rfl⟩
 rw [hr] at h ⊢
 dsimp only at h ⊢
 by_cases hc : b = true ∨ p ≠ (l.length : Int) ∨ rightF ⟨k, fa, fb, ct, se, ix, mn, kn, op⟩ = false
 · rw [if_pos hc] at h; cases h
 rw [if_neg hc]
 have hb : b = false := by cases b with | false => rfl | true => exact absurd (Or.inl rfl) hc
 have hp : p = (l.length : Int) := Classical.byContradiction (fun h => hc (Or.inr (Or.inl h)))
 have hR : rightF ⟨k, fa, fb, ct, se, ix, mn, kn, op⟩ = true := by
  cases hx : rightF ⟨k, fa, fb, ct, se, ix, mn, kn, op⟩ with
  | true => rfl
  | false => exact absurd (Or.inr (Or.inr hx)) hc
 subst hb
 subst hp
 refine ⟨hR, rfl, ?_⟩
 have hb5 : b5 = false := by
  cases b5 with
  | false => rfl
  | true =>
    unfold restQ at hr
    rw [if_pos rfl] at hr
    simp at hr
 subst hb5
 obtain ⟨rfl, _, _, _, a5, c5, d5⟩ := numQ_is hB h5
 obtain ⟨rfl, _, _, _, a4, c4, d4⟩ := numQ_is hB h4
 obtain ⟨rfl, _, _, a3, c3, d3⟩ := texQ_is hB (by omega) h3
 obtain ⟨rfl, _, _, a2, c2, d2⟩ := texQ_is hB (by omega) h2
 obtain ⟨_, _, _, a1, c1, d1⟩ := texQ_is hB (by omega) h1
 have hh : l.take p5.toNat = headB ⟨k, fa, fb, ct, se, ix, mn, kn, op⟩ := by
  rw [headB_eq, d5, d4, d3, d2, d1]
  simp
 have hall : l.take ((l.length : Int)).toNat = l := by simp
 unfold restQ at hr
 rw [if_neg (by simp)] at hr
 unfold bodyB
 dsimp only
 by_cases k1 : k = 1
 · rw [if_pos k1] at hr ⊢
   simp only [Prod.mk.injEq] at hr
   obtain ⟨e1, e2, e3, e4, e5⟩ := hr
   have hv := vec_is_at hB (ne0_false e2)
   rw [e1, e4, hall] at hv
   rw [hv.2.2, hh]
 · rw [if_neg k1] at hr ⊢
   by_cases k2 : k = 2
   · rw [if_pos k2] at hr ⊢
     obtain ⟨⟨m, p6, b6⟩, h6⟩ : ∃ r, numQ l p5 false = r := ⟨_, rfl⟩
     obtain ⟨⟨n, p7, b7⟩, h7⟩ : ∃ r, numQ l p6 b6 = r := ⟨_, rfl⟩
     obtain ⟨⟨p8, b8, o⟩, h8⟩ : ∃ r, opsQ l n.toNat p7 b7 [] = r := ⟨_, rfl⟩
     simp only [h6, h7, h8, Prod.mk.injEq] at hr
     obtain ⟨rfl, rfl, rfl, rfl, rfl⟩ := hr
     have hb7 : b7 = false := by
      cases b7 with
      | false => rfl
      | true =>
        exfalso
        have : ∀ k, (opsQ l k p7 true []).2.1 = true := fun k => by
         cases k with
         | zero => rfl
         | succ k => unfold opsQ; rw [if_neg (by simp)]
        have h9 := this n.toNat
        rw [h8] at h9
        cases h9
     subst hb7
     obtain ⟨rfl, _, n0, _, a7, c7, d7⟩ := numQ_is hB h7
     obtain ⟨_, _, m0, _, a6, c6, d6⟩ := numQ_is hB h6
     obtain ⟨L, e1, e2, e3, e4, e5⟩ := opsQ_is hB n.toNat p7 false [] _ _ a7 c7 h8
     rw [hall, d7, d6, hh] at e5
     have e2' := e2 rfl
     rw [List.nil_append] at e1
     rw [layOps_app, e1, show (L.length : Int) = n from by omega]
     exact e5.symm
   · rw [if_neg k2] at hr ⊢
     simp only [Prod.mk.injEq] at hr
     rw [← hh, hr.1, hall]
theorem rd_zero {l : List Int} (h : 0 < l.length) : l.take 1 = [rd l 0] := by
 cases l with
 | nil => simp at h
 | cons a r => simp [rd]
theorem readF_is {s : List Int} (hB : isB s) (h : (readF s).2 = 0) : rightF (readF s).1 = true ∧ layFr (readF s).1 = (strOfNums s, 0) := by
 obtain ⟨⟨kd, body, n, er⟩, ho⟩ : ∃ r, openS s = r := ⟨_, rfl⟩
 unfold readF at h ⊢
 rw [ho] at h ⊢
 dsimp only at h ⊢
 by_cases hc : er ≠ 0 ∨ n ≠ (s.length : Int)
 · rw [if_pos hc] at h; cases h
 rw [if_neg hc] at h ⊢
 have q1 : er = 0 := Classical.byContradiction (fun h => hc (Or.inl h))
 have q2 : n = (s.length : Int) := Classical.byContradiction (fun h => hc (Or.inr h))
 subst q1
 obtain ⟨_, _, _, hl0, p, ht, hp0, hpl, hn, hkd, hs⟩ := openS_ok hB ho
 obtain ⟨r1, r2, r3⟩ := readB_is (bytes_B body) kd h
 refine ⟨r1, ?_⟩
 have hi := text_isM 1048576 (by omega) hB (p := 1) (by rw [ht])
 rw [ht] at hi
 have h4 := hi.2.2.2.2
 dsimp only at h4
 rw [show (1 : Int).toNat = 1 from rfl, rd_zero hl0, ← hkd] at h4
 unfold layFr
 rw [if_pos r1, r2, r3]
 have hz : ((bytesOf body).length : Int) = (body.size : Int) := by rw [bytesOf_length]
 have hp4 : (p + 4).toNat = s.length := by omega
 rw [hp4, List.take_length, h4] at hs
 have e : s = s.take p.toNat ++ s.drop p.toNat := (List.take_append_drop _ _).symm
 rw [h4, ← hs] at e
 show (strOfNums (sealT kd (bytesOf body)), (0 : Int)) = _
 unfold sealT
 rw [hz]
 have e' : kd :: encN (body.size : Int) ++ bytesOf body = [kd] ++ textB body := by simp [textB]
 rw [e', ← e]
end Go.Proofs.Ytenbkljgmgdegaa.PO
end
