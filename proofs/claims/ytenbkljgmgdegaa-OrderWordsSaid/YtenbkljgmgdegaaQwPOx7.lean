/- What the rows of this claim use, out of the texts of this work (POx7). No condition beyond those that each statement names. -/
import Derived.Test.YtenbkljgmgdegaaQwPOx0
namespace Go.Proofs.Ytenbkljgmgdegaa.PO
open Go.RowKit Go.Proofs.YtenbkljgmgdegaaW.PrintWords Go.Proofs.YtenbkljgmgdegaaW.PrintLast Go.Proofs.YtenbkljgmgdegaaW.PrintMore
attribute [local go_sem] max2_int min2_int max_two min_two max_three min_three max_four min_four   -- for this text's walks alone
set_option linter.unusedVariables false
set_option linter.unusedSimpArgs false
section
open Go.Proofs.Ytenbkljgmgdegaa.XRange Go.Proofs.Ytenbkljgmgdegaa.XHeld
attribute [local go_sem] Oper.semAt_some
theorem vector_together.calls (A0 A1 : Option Addr) (n0 c0 n1 c1 : Nat) (w : World) :
 Calls Try.prog 107 #[.slice A0 n0 c0, .slice A1 n1 c1] w fun e w' => e = .returned (.func (.func 129) #[] #[.pointer (some ⟨w.heap.size, 0, none⟩), .pointer (some ⟨w.heap.size + 1, 0, none⟩)]) ∧
  w' = (w.alloc (.cells #[.slice A0 n0 c0] 23)).alloc (.cells #[.slice A1 n1 c1] 23) := by
 go_enter Try.func107, Try.ntmps107
 go_wp2
 go_ret
 exact ⟨rfl, rfl⟩
def mrg : List S34 → List S34 → List (ByteArray × Int × Int)
 | [], [] => []
 | [], y :: b => (y.f0, 0, y.f1) :: mrg [] b
 | x :: a, [] => (x.f0, x.f1, 0) :: mrg a []
 | x :: a, y :: b => if Op.bytesLess x.f0.toList y.f0.toList = true then (x.f0, x.f1, 0) :: mrg a (y :: b)
    else if Op.bytesLess y.f0.toList x.f0.toList = true then (y.f0, 0, y.f1) :: mrg (x :: a) b
    else (x.f0, x.f1, y.f1) :: mrg a b
termination_by a b => a.length + b.length
def lenAt (W : World) (b : Nat) : Nat := match W.cell? ⟨b, 0, none⟩ with | some (.slice _ n _) => n | _ => 0
def encs3 (x : ByteArray × Int × Int) : Array Value := #[.string x.1, .agg #[.int .i64 x.2.1, .int .i64 x.2.2]]
def Holds (K : Nat → Prop) (W : World) (B : Nat) (xs : List S34) : Prop := ∃ A c, W.heap[B]? = some (.cells #[.slice A xs.length c] 23 (0, 0)) ∧ xs.length ≤ c ∧ Kd.C k34 W A xs.length xs ∧ ∀ ad, A = some ad → 0 < xs.length → K ad.block
theorem holds_cell {K : Nat → Prop} {W : World} {B : Nat} {xs : List S34} (h : Holds K W B xs) : ∃ A c, W.cell? ⟨B, 0, none⟩ = some (.slice A xs.length c) ∧ W.frozen? ⟨B, 0, none⟩ = false ∧ Aside0 (W.heap[B]? = some (.cells #[.slice A xs.length c] 23 (0, 0))) ∧ Aside0 (xs.length ≤ c) ∧ Aside0 (Kd.C k34 W A xs.length xs) ∧ Aside0 (∀ ad, A = some ad → 0 < xs.length → K ad.block) := by
 obtain ⟨A, c, h1, h2, h3, h4⟩ := h
 exact ⟨A, c, (blk_cell h1 0).trans rfl, blk_frozen h1 0, ⟨h1⟩, ⟨h2⟩, ⟨h3⟩, ⟨h4⟩⟩
theorem add_zero' (ad : Addr) : ad.add 0 = ad := by simp [Addr.add]
theorem in_new {wr : World} {o : Obj} {W2 : World} (h : wr.alloc o = W2) {a : Addr} {v : Value} (hc : wr.cell? a = some v) : W2.cell? a = some v := by
 rw [← h]; exact (World.cell?_of_block (w := wr) (Below.heap_alloc wr o _ (World.block_lt_of_cell? wr a hc))).trans hc
theorem in_new_f {wr : World} {o : Obj} {W2 : World} (h : wr.alloc o = W2) {a : Addr} {v : Value} (hc : wr.cell? a = some v) (hf : wr.frozen? a = false) : W2.frozen? a = false := by
 rw [← h]; exact (World.frozen?_of_block (w := wr) (Below.heap_alloc wr o _ (World.block_lt_of_cell? wr a hc))).trans hf
theorem new_cell {wr : World} {cs : Array Value} {t : TypeId} {W2 : World} (h : wr.alloc (.cells cs t) = W2) (i : Nat) : W2.cell? ⟨wr.heap.size, i, none⟩ = cs[i]? := by
 rw [← h]; exact blk_cell (blk_new wr _) i
theorem new_frozen {wr : World} {cs : Array Value} {t : TypeId} {W2 : World} (h : wr.alloc (.cells cs t) = W2) (i : Nat) : W2.frozen? ⟨wr.heap.size, i, none⟩ = false := by
 rw [← h]; exact blk_frozen (blk_new wr _) i
theorem drop_one {W : World} {ad : Addr} {y : S34} {b : List S34} {c : Nat} (h : Kd.C k34 W (some ad) (y :: b).length (y :: b)) (hc : (y :: b).length ≤ c) :
 ∃ B', (∀ w, (Instr.slice 23 (.slice (some ad) (b.length + 1) c) (some (.int .i64 1)) none none).run Try.prog w = .ok (.slice B' b.length (c - 1)) w) ∧ Kd.C k34 W B' b.length b ∧ (∀ a', B' = some a' → a'.block = ad.block) := by
 refine ⟨if c = 1 then some ad else (some ad).map (·.add (1 * k34.sz)), ?_, by simpa using Kd.C_drop h (m := 1) (by simp) hc, ?_⟩
 · intro w
   obtain ⟨i0, hi, _, hsz, _⟩ := info_parts info34
   have hel : Try.prog.elem 23 = 34 := by simp [Program.elem, Try.underlying23]
   rw [run_slice_l w 23 (some ad) (b.length + 1) c (by rw [hel]; exact Try.underlying23) .i64 1 (by omega) (by omega), hel]
   have hk : k34.sz = 2 := rfl
   simp [sizeOf, typeInfo, hi, hsz, sliced, Result.andThen, hk]
 · intro a' ha'
   split at ha'
   · cases ha'; rfl
   · cases ha'; simp only [Addr.add]; split <;> rfl
theorem C_block {W W1 : World} {A : Option Addr} {n : Nat} {xs : List S34} (h : Kd.C k34 W A n xs) (hb : ∀ ad, A = some ad → 0 < n → W1.heap[ad.block]? = W.heap[ad.block]?) : Kd.C k34 W1 A n xs :=
 ⟨h.1, h.2.1, fun hn => by
  obtain ⟨ad, e, hc⟩ := h.2.2 hn
  refine ⟨ad, e, fun j p hj => ?_⟩
  obtain ⟨c, hs, hr, hcell⟩ := hc j p hj
  refine ⟨c, hs, hr, fun i u hu => ?_⟩
  have := hcell i u hu
  rw [← this]
  exact World.cell?_of_block (w := W) (by
   have hb' := hb ad e hn
   simp only [Addr.add]; split <;> exact hb')⟩
theorem after_one {wr W2 W3 : World} {g k Bx : Nat} {u v sx : Value} (hW2 : wr.alloc (.cells #[.int .i64 0, .int .i64 0] 130) = W2) (hg : wr.heap.size = g)
 (hW3 : (((W2.drewN k).setCell ⟨g, 0, none⟩ u).setCell ⟨g, 1, none⟩ v).setCell ⟨Bx, 0, none⟩ sx = W3) :
 Keeps (fun i => i = Bx) wr W3 ∧ ∀ old : Value, wr.heap[Bx]? = some (.cells #[old] 23 (0, 0)) → W3.heap[Bx]? = some (.cells #[sx] 23 (0, 0)) := by
 subst hW3 hW2 hg
 constructor
 · refine Keeps.setCell (M := fun i => i = Bx) (A := wr) (Keeps.setCell (A := wr) (Keeps.setCell (A := wr) ?_ (p := ⟨wr.heap.size, 0, none⟩) (.inr (Nat.le_refl _)) _) (p := ⟨wr.heap.size, 1, none⟩) (.inr (Nat.le_refl _)) _) (p := ⟨Bx, 0, none⟩) (.inl rfl) _
   exact ⟨rfl, rfl, rfl, by simp, fun i hi _ => Below.heap_alloc _ _ _ hi⟩
 · intro old h
   have hne : Bx ≠ wr.heap.size := by have := blk_lt h; omega
   have h1 := blk_far (blk_far (blk_drewN (blk_alloc h (.cells #[.int .i64 0, .int .i64 0] 130)) k) (p := ⟨wr.heap.size, 0, none⟩) hne u) (p := ⟨wr.heap.size, 1, none⟩) hne v
   exact blk_set h1 0 sx
theorem holds_other {K M : Nat → Prop} {W W1 : World} {B : Nat} {xs : List S34} (h : Holds (fun k => K k ∧ ¬ M k) W B xs) (hB : ¬ M B) (hk : Keeps M W W1) (hlt : ∀ k, K k → k < W.heap.size) : Holds (fun k => K k ∧ ¬ M k) W1 B xs := by
 obtain ⟨A, c, h1, h2, h3, h4⟩ := h
 exact ⟨A, c, (hk.block B (blk_lt h1) hB).trans h1, h2, C_block h3 (fun ad e hn => hk.block _ (hlt _ (h4 ad e hn).1) (h4 ad e hn).2), h4⟩
theorem holds_cut {K M : Nat → Prop} {W W1 : World} {B : Nat} {A' : Option Addr} {c : Nat} {xs : List S34} (h1 : W1.heap[B]? = some (.cells #[.slice A' xs.length c] 23 (0, 0))) (h2 : xs.length ≤ c) (h3 : Kd.C k34 W A' xs.length xs)
 (h4 : ∀ ad, A' = some ad → 0 < xs.length → K ad.block ∧ ¬ M ad.block) (hk : Keeps M W W1) (hlt : ∀ k, K k → k < W.heap.size) : Holds (fun k => K k ∧ ¬ M k) W1 B xs :=
 ⟨A', c, h1, h2, C_block h3 (fun ad e hn => hk.block _ (hlt _ (h4 ad e hn).1) (h4 ad e hn).2), h4⟩
theorem holds_kept {K M : Nat → Prop} {W W1 : World} {B : Nat} {xs : List S34} (h : Holds (fun k => K k ∧ ¬ M k) W B xs) (hB : K B) (hk : KeepOn K W W1) : Holds (fun k => K k ∧ ¬ M k) W1 B xs := by
 obtain ⟨A, c, h1, h2, h3, h4⟩ := h
 exact ⟨A, c, (hk.2 B hB).trans h1, h2, C_block h3 (fun ad e hn => hk.2 _ (h4 ad e hn).1), h4⟩
theorem lenAt_holds {K : Nat → Prop} {W : World} {B : Nat} {xs : List S34} (h : Holds K W B xs) : lenAt W B = xs.length := by
 obtain ⟨A, c, h1, _⟩ := h
 simp only [lenAt, blk_cell h1 0]; rfl
theorem mrg_y (y : S34) (b : List S34) : mrg [] (y :: b) = (y.f0, 0, y.f1) :: mrg [] b := by rw [mrg]
theorem mrg_x (x : S34) (a : List S34) : mrg (x :: a) [] = (x.f0, x.f1, 0) :: mrg a [] := by rw [mrg]
theorem mrg_xy (x : S34) (a : List S34) (y : S34) (b : List S34) : mrg (x :: a) (y :: b) = if Op.bytesLess x.f0.toList y.f0.toList = true then (x.f0, x.f1, 0) :: mrg a (y :: b) else if Op.bytesLess y.f0.toList x.f0.toList = true then (y.f0, 0, y.f1) :: mrg (x :: a) b else (x.f0, x.f1, y.f1) :: mrg a b := by rw [mrg]
theorem mrg_le (a b : List S34) : a.length ≤ (mrg a b).length ∧ b.length ≤ (mrg a b).length := by
 induction a, b using mrg.induct with
 | case1 => simp
 | case2 y b ih => rw [mrg_y]; simp only [List.length_cons, List.length_nil] at ih ⊢; omega
 | case3 x a ih => rw [mrg_x]; simp only [List.length_cons, List.length_nil] at ih ⊢; omega
 | case4 x a y b h ih => rw [mrg_xy, if_pos h]; simp only [List.length_cons] at ih ⊢; omega
 | case5 x a y b h h2 ih => rw [mrg_xy, if_neg h, if_pos h2]; simp only [List.length_cons] at ih ⊢; omega
 | case6 x a y b h h2 ih => rw [mrg_xy, if_neg h, if_neg h2]; simp only [List.length_cons] at ih ⊢; omega
set_option maxHeartbeats 16000000 in
set_option maxRecDepth 100000 in
theorem together1_seq (n : Nat) (Kp : Nat → Prop) (Ba Bb : Nat) (l0 l1 : List S34) (w : World) (hne : Ba ≠ Bb) (hKa : Kp Ba) (hKb : Kp Bb)
 (hK : ∀ k, Kp k → k < w.heap.size) (hlen : (mrg l0 l1).length ≤ 1000000) (ha : Holds (fun k => Kp k ∧ ¬ (k = Ba ∨ k = Bb)) w Ba l0) (hb : Holds (fun k => Kp k ∧ ¬ (k = Ba ∨ k = Bb)) w Bb l1) :
 SeqC n Try.prog 129 #[.pointer (some ⟨Ba, 0, none⟩), .pointer (some ⟨Bb, 0, none⟩)] encs3 Kp (fun k => k = Ba ∨ k = Bb) (fun xs => xs = mrg l0 l1) (fun pre => pre <+: mrg l0 l1) (mrg l0 l1).length w := by
 intro l J Jx W hW hJ hJx hY h0
 have HJ := Aside0.mk hJ
 have HJx := Aside0.mk hJx
 have HY := Aside0.mk hY
 have HKK := Aside0.mk hK
 have HNE := Aside0.mk hne
 have HKA := Aside0.mk hKa
 have HLEN := Aside0.mk hlen
 have HKB := Aside0.mk hKb
 have HW := Aside0.mk hW
 obtain ⟨ml, hml⟩ : ∃ ml, mrg l0 l1 = ml := ⟨_, rfl⟩
 rw [hml] at HY
 have HML := Aside0.mk hml
 have H0 := Aside0.mk h0
 have hA0 := holds_other (M := fun _ => False) (K := fun k => Kp k ∧ ¬ (k = Ba ∨ k = Bb)) (by obtain ⟨A, c, h1, h2, h3, h4⟩ := ha; exact ⟨A, c, h1, h2, h3, fun ad e hn => ⟨h4 ad e hn, fun f => f⟩⟩) (fun f => f) hW (fun k hk => hK k hk.1)
 have hB0 := holds_other (M := fun _ => False) (K := fun k => Kp k ∧ ¬ (k = Ba ∨ k = Bb)) (by obtain ⟨A, c, h1, h2, h3, h4⟩ := hb; exact ⟨A, c, h1, h2, h3, fun ad e hn => ⟨h4 ad e hn, fun f => f⟩⟩) (fun f => f) hW (fun k hk => hK k hk.1)
 have HA0 := Aside0.mk (show Holds (fun k => Kp k ∧ ¬ (k = Ba ∨ k = Bb)) W Ba l0 from by obtain ⟨A, c, h1, h2, h3, h4⟩ := hA0; exact ⟨A, c, h1, h2, h3, fun ad e hn => (h4 ad e hn).1⟩)
 have HB0 := Aside0.mk (show Holds (fun k => Kp k ∧ ¬ (k = Ba ∨ k = Bb)) W Bb l1 from by obtain ⟨A, c, h1, h2, h3, h4⟩ := hB0; exact ⟨A, c, h1, h2, h3, fun ad e hn => (h4 ad e hn).1⟩)
 clear hlen hJ hJx hY hK hml hW h0 ha hb hA0 hB0 hKa hKb
 simp only [HML.out]
 refine callsIn_of_wp Try.func129 rfl trivial ?_ rfl
 simp only [Try.ntmps129, List.size_toArray, List.length_cons, List.length_nil, Nat.reduceAdd, Nat.reduceSub, Array.replicate_succ, Array.replicate_zero, List.push_toArray, List.append_toArray, List.nil_append, List.cons_append, Array.size_append]
 gi_wp2
 gi_loopw [] (fun wr => ∃ pre a b, Aside0 (pre ++ mrg a b = ml) ∧ Aside0 (Holds (fun k => Kp k ∧ ¬ (k = Ba ∨ k = Bb)) wr Ba a) ∧ Aside0 (Holds (fun k => Kp k ∧ ¬ (k = Ba ∨ k = Bb)) wr Bb b) ∧ Aside0 (J pre wr) ∧ Aside0 (w.heap.size ≤ wr.heap.size)) (fun wr => lenAt wr Ba + lenAt wr Bb)
 case atStart => exact ⟨[], l0, l1, ⟨HML.out⟩, HA0, HB0, H0, ⟨HW.out.size⟩⟩
 case round =>
  obtain ⟨pre, a, b, HP, HA, HB, HJR, HSZ⟩ := hrel
  obtain ⟨A, ca, c1, f1, HA1, HA2, HA3, HA4⟩ := holds_cell HA.out
  obtain ⟨B, cb, c2, f2, HB1, HB2, HB3, HB4⟩ := holds_cell HB.out
  have hla : a.length ≤ 1000000 := by have h1 := (mrg_le a b).1; have h2 := congrArg List.length HP.out; have h3 := HLEN.out; rw [HML.out] at h3; simp only [List.length_append] at h2; omega
  have hlb : b.length ≤ 1000000 := by have h1 := (mrg_le a b).2; have h2 := congrArg List.length HP.out; have h3 := HLEN.out; rw [HML.out] at h3; simp only [List.length_append] at h2; omega
  cases a with
  | nil =>
    cases b with
    | nil =>
      simp only [List.length_nil] at c1 c2
      gi_wp2
      go_end0
      have hm : mrg [] [] = [] := by simp [mrg]
      exact ⟨⟨_, rfl⟩, .inl ⟨pre, by rw [← HP.out, hm, List.append_nil], HJR.out⟩⟩
    | cons y b =>
      simp only [List.length_nil, List.length_cons] at c1 c2
      have hbl : b.length + 1 ≤ 1000000 := hlb
      obtain ⟨ady, ey, hy0, hy1⟩ := at_T34 HB3.out 0 (by omega) (by simp)
      cases ey
      simp only [rd_T34, Int.toNat_zero, Nat.zero_mul, List.getD_cons_zero, add_zero'] at hy0 hy1
      obtain ⟨B', hcuty, hC', hB'⟩ := drop_one HB3.out HB2.out
      have HCy := Aside0.mk hC'
      have HBy := Aside0.mk hB'
      clear hC' hB'
      gi_wp2
      obtain ⟨W2, hW2⟩ : ∃ W2, wr.alloc (.cells #[.int .i64 0, .int .i64 0] 130) = W2 := ⟨_, rfl⟩
      rw [hW2]
      obtain ⟨g, hg⟩ : ∃ g, wr.heap.size = g := ⟨_, rfl⟩
      have p0 : W2.cell? ⟨g, 0, none⟩ = some (.int .i64 0) := by rw [← hg]; exact new_cell hW2 0
      have p1 : W2.cell? ⟨g, 1, none⟩ = some (.int .i64 0) := by rw [← hg]; exact new_cell hW2 1
      have q0 : W2.frozen? ⟨g, 0, none⟩ = false := by rw [← hg]; exact new_frozen hW2 0
      have q1 : W2.frozen? ⟨g, 1, none⟩ = false := by rw [← hg]; exact new_frozen hW2 1
      replace f1 := in_new_f hW2 c1 f1
      replace f2 := in_new_f hW2 c2 f2
      replace c1 := in_new hW2 c1
      replace c2 := in_new hW2 c2
      replace hy0 := in_new hW2 hy0
      replace hy1 := in_new hW2 hy1
      rw [hg]
      have ga : g ≠ Ba := by have := blk_lt HA1.out; omega
      have gb : g ≠ Bb := by have := blk_lt HB1.out; omega
      have ga' := Ne.symm ga
      have gb' := Ne.symm gb
      have hne' := Ne.symm hne
      have HW2 := Aside0.mk hW2
      have HG := Aside0.mk hg
      clear hW2 hg
      refine wpIn_region_quiet_lit rfl (by kernel_rfl) (by kernel_rfl) ?_
      repeat (refine wpQuietIn_step (fun _ _ _ _ => trivial) (fun K hK => ?_); go_simp; refine hK _ ?_; clear hK K)
      refine wpQuietIn_nil ?_
      intro _ hw'
      obtain ⟨nq1, hw''⟩ := hw'
      subst hw''
      gi_wp2
      refine wpIn_region_quiet_lit rfl (by kernel_rfl) (by kernel_rfl) ?_
      repeat (refine wpQuietIn_step (fun _ _ _ _ => trivial) (fun K hK => ?_); go_simp; refine hK _ ?_; clear hK K)
      refine wpQuietIn_nil ?_
      intro _ hw'
      obtain ⟨nq2, hw''⟩ := hw'
      subst hw''
      gi_wp2
      gi_region
      generalize hW3 : World.setCell _ _ _ = W3
      have p0' : W3.cell? ⟨g, 0, none⟩ = some (.int .i64 0) := by subst hW3; go_simp
      have p1' : W3.cell? ⟨g, 1, none⟩ = some (.int .i64 y.f1) := by subst hW3; go_simp
      obtain ⟨hk1, hs1⟩ := after_one HW2.out HG.out hW3
      have hk3 : Keeps (fun k => k = Ba ∨ k = Bb) wr W3 := ⟨hk1.os, hk1.tape, hk1.output, hk1.size, fun i hi hm => hk1.block i hi (fun e => hm (.inr e))⟩
      have hltr : ∀ k, Kp k → k < wr.heap.size := fun k hk => by have := HKK.out k hk; have := HSZ.out; omega
      have HA' : Aside0 (Holds (fun k => Kp k ∧ ¬ (k = Ba ∨ k = Bb)) W3 Ba ([])) := ⟨by obtain ⟨A0, c0, h1, h2, h3, h4⟩ := HA.out; exact ⟨A0, c0, (hk1.block Ba (blk_lt h1) hne).trans h1, h2, C_block h3 (fun ad e hn => hk3.block _ (hltr _ (h4 ad e hn).1) (h4 ad e hn).2), h4⟩⟩
      have HB' : Aside0 (Holds (fun k => Kp k ∧ ¬ (k = Ba ∨ k = Bb)) W3 Bb b) := ⟨holds_cut (c := cb - 1) (hs1 _ HB1.out) (by have := HB2.out; simp only [List.length_cons] at this; omega) HCy.out (fun ad e hn => by rw [HBy.out ad e]; exact HB4.out _ rfl (by simp)) hk3 hltr⟩
      have hJ3 : J pre W3 := HJ.out _ _ _ HJR.out hk3
      have hm : ml = pre ++ (y.f0, (0 : Int), y.f1) :: mrg [] b := by rw [← HP.out, mrg_y]
      obtain ⟨fn, tmps, asg, bdy, hyy, hR⟩ := HY.out pre (y.f0, (0 : Int), y.f1) W3 hJ3 (by rw [hm]; simp)
      simp only [encs3] at hyy
      have HM := Aside0.mk hm
      have HK3 := Aside0.mk hk3
      clear hm hJ3 hk3 hW3
      gi_wp2
      refine ⟨(fun h => by cases h), hR.mono ?_⟩
      rintro e W4 (⟨rfl, hJ4, hk4⟩ | ⟨rfl, hJx4⟩)
      · have HJ4 := Aside0.mk hJ4
        have HA4' := Aside0.mk (holds_kept HA'.out HKA.out hk4)
        have HB4' := Aside0.mk (holds_kept HB'.out HKB.out hk4)
        have HK4 := Aside0.mk hk4
        clear hJ4 hk4
        gi_wp2
        go_roundw
        case rel => exact ⟨pre ++ [(y.f0, (0 : Int), y.f1)], [], b, ⟨by rw [HM.out]; simp⟩, HA4', HB4', HJ4, ⟨by have := HK4.out.1; have := HK3.out.size; have := HSZ.out; omega⟩⟩
        case measure => rw [lenAt_holds HA4'.out, lenAt_holds HB4'.out, lenAt_holds HA.out, lenAt_holds HB.out]; simp only [List.length_cons]; omega
      · have HJX := Aside0.mk hJx4
        clear hJx4
        gi_wp2
        refine bodyPost_ret (results_none rfl _ _ _) rfl ?_
        exact ⟨⟨_, rfl⟩, .inr ⟨pre ++ [(y.f0, (0 : Int), y.f1)], ⟨mrg [] b, by rw [HM.out]; simp⟩, HJX.out⟩⟩
  | cons x a =>
    cases b with
    | nil =>
      simp only [List.length_nil, List.length_cons] at c1 c2
      have hal : a.length + 1 ≤ 1000000 := hla
      obtain ⟨adx, ex, hx0, hx1⟩ := at_T34 HA3.out 0 (by omega) (by simp)
      cases ex
      simp only [rd_T34, Int.toNat_zero, Nat.zero_mul, List.getD_cons_zero, add_zero'] at hx0 hx1
      obtain ⟨A', hcutx, hC', hA'⟩ := drop_one HA3.out HA2.out
      have HCx := Aside0.mk hC'
      have HBx := Aside0.mk hA'
      clear hC' hA'
      gi_wp2
      obtain ⟨W2, hW2⟩ : ∃ W2, wr.alloc (.cells #[.int .i64 0, .int .i64 0] 130) = W2 := ⟨_, rfl⟩
      rw [hW2]
      obtain ⟨g, hg⟩ : ∃ g, wr.heap.size = g := ⟨_, rfl⟩
      have p0 : W2.cell? ⟨g, 0, none⟩ = some (.int .i64 0) := by rw [← hg]; exact new_cell hW2 0
      have p1 : W2.cell? ⟨g, 1, none⟩ = some (.int .i64 0) := by rw [← hg]; exact new_cell hW2 1
      have q0 : W2.frozen? ⟨g, 0, none⟩ = false := by rw [← hg]; exact new_frozen hW2 0
      have q1 : W2.frozen? ⟨g, 1, none⟩ = false := by rw [← hg]; exact new_frozen hW2 1
      replace f1 := in_new_f hW2 c1 f1
      replace f2 := in_new_f hW2 c2 f2
      replace c1 := in_new hW2 c1
      replace c2 := in_new hW2 c2
      replace hx0 := in_new hW2 hx0
      replace hx1 := in_new hW2 hx1
      rw [hg]
      have ga : g ≠ Ba := by have := blk_lt HA1.out; omega
      have gb : g ≠ Bb := by have := blk_lt HB1.out; omega
      have ga' := Ne.symm ga
      have gb' := Ne.symm gb
      have hne' := Ne.symm hne
      have HW2 := Aside0.mk hW2
      have HG := Aside0.mk hg
      clear hW2 hg
      refine wpIn_region_quiet_lit rfl (by kernel_rfl) (by kernel_rfl) ?_
      repeat (refine wpQuietIn_step (fun _ _ _ _ => trivial) (fun K hK => ?_); go_simp; refine hK _ ?_; clear hK K)
      refine wpQuietIn_nil ?_
      intro _ hw'
      obtain ⟨nq1, hw''⟩ := hw'
      subst hw''
      gi_wp2
      gi_region
      generalize hW3 : World.setCell _ _ _ = W3
      have p0' : W3.cell? ⟨g, 0, none⟩ = some (.int .i64 x.f1) := by subst hW3; go_simp
      have p1' : W3.cell? ⟨g, 1, none⟩ = some (.int .i64 0) := by subst hW3; go_simp
      obtain ⟨hk1, hs1⟩ := after_one HW2.out HG.out hW3
      have hk3 : Keeps (fun k => k = Ba ∨ k = Bb) wr W3 := ⟨hk1.os, hk1.tape, hk1.output, hk1.size, fun i hi hm => hk1.block i hi (fun e => hm (.inl e))⟩
      have hltr : ∀ k, Kp k → k < wr.heap.size := fun k hk => by have := HKK.out k hk; have := HSZ.out; omega
      have HA' : Aside0 (Holds (fun k => Kp k ∧ ¬ (k = Ba ∨ k = Bb)) W3 Ba a) := ⟨holds_cut (c := ca - 1) (hs1 _ HA1.out) (by have := HA2.out; simp only [List.length_cons] at this; omega) HCx.out (fun ad e hn => by rw [HBx.out ad e]; exact HA4.out _ rfl (by simp)) hk3 hltr⟩
      have HB' : Aside0 (Holds (fun k => Kp k ∧ ¬ (k = Ba ∨ k = Bb)) W3 Bb ([])) := ⟨by obtain ⟨A0, c0, h1, h2, h3, h4⟩ := HB.out; exact ⟨A0, c0, (hk1.block Bb (blk_lt h1) (Ne.symm hne)).trans h1, h2, C_block h3 (fun ad e hn => hk3.block _ (hltr _ (h4 ad e hn).1) (h4 ad e hn).2), h4⟩⟩
      have hJ3 : J pre W3 := HJ.out _ _ _ HJR.out hk3
      have hm : ml = pre ++ (x.f0, x.f1, (0 : Int)) :: mrg a [] := by rw [← HP.out, mrg_x]
      obtain ⟨fn, tmps, asg, bdy, hyy, hR⟩ := HY.out pre (x.f0, x.f1, (0 : Int)) W3 hJ3 (by rw [hm]; simp)
      simp only [encs3] at hyy
      have HM := Aside0.mk hm
      have HK3 := Aside0.mk hk3
      clear hm hJ3 hk3 hW3
      gi_wp2
      refine ⟨(fun h => by cases h), hR.mono ?_⟩
      rintro e W4 (⟨rfl, hJ4, hk4⟩ | ⟨rfl, hJx4⟩)
      · have HJ4 := Aside0.mk hJ4
        have HA4' := Aside0.mk (holds_kept HA'.out HKA.out hk4)
        have HB4' := Aside0.mk (holds_kept HB'.out HKB.out hk4)
        have HK4 := Aside0.mk hk4
        clear hJ4 hk4
        gi_wp2
        go_roundw
        case rel => exact ⟨pre ++ [(x.f0, x.f1, (0 : Int))], a, [], ⟨by rw [HM.out]; simp⟩, HA4', HB4', HJ4, ⟨by have := HK4.out.1; have := HK3.out.size; have := HSZ.out; omega⟩⟩
        case measure => rw [lenAt_holds HA4'.out, lenAt_holds HB4'.out, lenAt_holds HA.out, lenAt_holds HB.out]; simp only [List.length_cons]; omega
      · have HJX := Aside0.mk hJx4
        clear hJx4
        gi_wp2
        refine bodyPost_ret (results_none rfl _ _ _) rfl ?_
        exact ⟨⟨_, rfl⟩, .inr ⟨pre ++ [(x.f0, x.f1, (0 : Int))], ⟨mrg a [], by rw [HM.out]; simp⟩, HJX.out⟩⟩
    | cons y b =>
      by_cases hxy : Op.bytesLess x.f0.toList y.f0.toList = true
      · simp only [List.length_nil, List.length_cons] at c1 c2
        have hal : a.length + 1 ≤ 1000000 := hla
        obtain ⟨adx, ex, hx0, hx1⟩ := at_T34 HA3.out 0 (by omega) (by simp)
        cases ex
        simp only [rd_T34, Int.toNat_zero, Nat.zero_mul, List.getD_cons_zero, add_zero'] at hx0 hx1
        obtain ⟨A', hcutx, hC', hA'⟩ := drop_one HA3.out HA2.out
        have HCx := Aside0.mk hC'
        have HBx := Aside0.mk hA'
        clear hC' hA'
        have hbl : b.length + 1 ≤ 1000000 := hlb
        obtain ⟨ady, ey, hy0, hy1⟩ := at_T34 HB3.out 0 (by omega) (by simp)
        cases ey
        simp only [rd_T34, Int.toNat_zero, Nat.zero_mul, List.getD_cons_zero, add_zero'] at hy0 hy1
        obtain ⟨B', hcuty, hC', hB'⟩ := drop_one HB3.out HB2.out
        have HCy := Aside0.mk hC'
        have HBy := Aside0.mk hB'
        clear hC' hB'
        gi_wp2
        obtain ⟨W2, hW2⟩ : ∃ W2, wr.alloc (.cells #[.int .i64 0, .int .i64 0] 130) = W2 := ⟨_, rfl⟩
        rw [hW2]
        obtain ⟨g, hg⟩ : ∃ g, wr.heap.size = g := ⟨_, rfl⟩
        have p0 : W2.cell? ⟨g, 0, none⟩ = some (.int .i64 0) := by rw [← hg]; exact new_cell hW2 0
        have p1 : W2.cell? ⟨g, 1, none⟩ = some (.int .i64 0) := by rw [← hg]; exact new_cell hW2 1
        have q0 : W2.frozen? ⟨g, 0, none⟩ = false := by rw [← hg]; exact new_frozen hW2 0
        have q1 : W2.frozen? ⟨g, 1, none⟩ = false := by rw [← hg]; exact new_frozen hW2 1
        replace f1 := in_new_f hW2 c1 f1
        replace f2 := in_new_f hW2 c2 f2
        replace c1 := in_new hW2 c1
        replace c2 := in_new hW2 c2
        replace hx0 := in_new hW2 hx0
        replace hx1 := in_new hW2 hx1
        replace hy0 := in_new hW2 hy0
        replace hy1 := in_new hW2 hy1
        rw [hg]
        have ga : g ≠ Ba := by have := blk_lt HA1.out; omega
        have gb : g ≠ Bb := by have := blk_lt HB1.out; omega
        have ga' := Ne.symm ga
        have gb' := Ne.symm gb
        have hne' := Ne.symm hne
        have HW2 := Aside0.mk hW2
        have HG := Aside0.mk hg
        clear hW2 hg
        refine wpIn_region_quiet_lit rfl (by kernel_rfl) (by kernel_rfl) ?_
        repeat (refine wpQuietIn_step (fun _ _ _ _ => trivial) (fun K hK => ?_); go_simp; refine hK _ ?_; clear hK K)
        refine wpQuietIn_nil ?_
        intro _ hw'
        obtain ⟨nq1, hw''⟩ := hw'
        subst hw''
        gi_wp2
        gi_region
        generalize hW3 : World.setCell _ _ _ = W3
        have p0' : W3.cell? ⟨g, 0, none⟩ = some (.int .i64 x.f1) := by subst hW3; go_simp
        have p1' : W3.cell? ⟨g, 1, none⟩ = some (.int .i64 0) := by subst hW3; go_simp
        obtain ⟨hk1, hs1⟩ := after_one HW2.out HG.out hW3
        have hk3 : Keeps (fun k => k = Ba ∨ k = Bb) wr W3 := ⟨hk1.os, hk1.tape, hk1.output, hk1.size, fun i hi hm => hk1.block i hi (fun e => hm (.inl e))⟩
        have hltr : ∀ k, Kp k → k < wr.heap.size := fun k hk => by have := HKK.out k hk; have := HSZ.out; omega
        have HA' : Aside0 (Holds (fun k => Kp k ∧ ¬ (k = Ba ∨ k = Bb)) W3 Ba a) := ⟨holds_cut (c := ca - 1) (hs1 _ HA1.out) (by have := HA2.out; simp only [List.length_cons] at this; omega) HCx.out (fun ad e hn => by rw [HBx.out ad e]; exact HA4.out _ rfl (by simp)) hk3 hltr⟩
        have HB' : Aside0 (Holds (fun k => Kp k ∧ ¬ (k = Ba ∨ k = Bb)) W3 Bb (y :: b)) := ⟨by obtain ⟨A0, c0, h1, h2, h3, h4⟩ := HB.out; exact ⟨A0, c0, (hk1.block Bb (blk_lt h1) (Ne.symm hne)).trans h1, h2, C_block h3 (fun ad e hn => hk3.block _ (hltr _ (h4 ad e hn).1) (h4 ad e hn).2), h4⟩⟩
        have hJ3 : J pre W3 := HJ.out _ _ _ HJR.out hk3
        have hm : ml = pre ++ (x.f0, x.f1, (0 : Int)) :: mrg a (y :: b) := by rw [← HP.out, mrg_xy, if_pos hxy]
        obtain ⟨fn, tmps, asg, bdy, hyy, hR⟩ := HY.out pre (x.f0, x.f1, (0 : Int)) W3 hJ3 (by rw [hm]; simp)
        simp only [encs3] at hyy
        have HM := Aside0.mk hm
        have HK3 := Aside0.mk hk3
        clear hm hJ3 hk3 hW3
        gi_wp2
        refine ⟨(fun h => by cases h), hR.mono ?_⟩
        rintro e W4 (⟨rfl, hJ4, hk4⟩ | ⟨rfl, hJx4⟩)
        · have HJ4 := Aside0.mk hJ4
          have HA4' := Aside0.mk (holds_kept HA'.out HKA.out hk4)
          have HB4' := Aside0.mk (holds_kept HB'.out HKB.out hk4)
          have HK4 := Aside0.mk hk4
          clear hJ4 hk4
          gi_wp2
          go_roundw
          case rel => exact ⟨pre ++ [(x.f0, x.f1, (0 : Int))], a, (y :: b), ⟨by rw [HM.out]; simp⟩, HA4', HB4', HJ4, ⟨by have := HK4.out.1; have := HK3.out.size; have := HSZ.out; omega⟩⟩
          case measure => rw [lenAt_holds HA4'.out, lenAt_holds HB4'.out, lenAt_holds HA.out, lenAt_holds HB.out]; simp only [List.length_cons]; omega
        · have HJX := Aside0.mk hJx4
          clear hJx4
          gi_wp2
          refine bodyPost_ret (results_none rfl _ _ _) rfl ?_
          exact ⟨⟨_, rfl⟩, .inr ⟨pre ++ [(x.f0, x.f1, (0 : Int))], ⟨mrg a (y :: b), by rw [HM.out]; simp⟩, HJX.out⟩⟩
      · replace hxy := Bool.eq_false_iff.mpr hxy
        by_cases hyx : Op.bytesLess y.f0.toList x.f0.toList = true
        · simp only [List.length_nil, List.length_cons] at c1 c2
          have hal : a.length + 1 ≤ 1000000 := hla
          obtain ⟨adx, ex, hx0, hx1⟩ := at_T34 HA3.out 0 (by omega) (by simp)
          cases ex
          simp only [rd_T34, Int.toNat_zero, Nat.zero_mul, List.getD_cons_zero, add_zero'] at hx0 hx1
          obtain ⟨A', hcutx, hC', hA'⟩ := drop_one HA3.out HA2.out
          have HCx := Aside0.mk hC'
          have HBx := Aside0.mk hA'
          clear hC' hA'
          have hbl : b.length + 1 ≤ 1000000 := hlb
          obtain ⟨ady, ey, hy0, hy1⟩ := at_T34 HB3.out 0 (by omega) (by simp)
          cases ey
          simp only [rd_T34, Int.toNat_zero, Nat.zero_mul, List.getD_cons_zero, add_zero'] at hy0 hy1
          obtain ⟨B', hcuty, hC', hB'⟩ := drop_one HB3.out HB2.out
          have HCy := Aside0.mk hC'
          have HBy := Aside0.mk hB'
          clear hC' hB'
          gi_wp2
          obtain ⟨W2, hW2⟩ : ∃ W2, wr.alloc (.cells #[.int .i64 0, .int .i64 0] 130) = W2 := ⟨_, rfl⟩
          rw [hW2]
          obtain ⟨g, hg⟩ : ∃ g, wr.heap.size = g := ⟨_, rfl⟩
          have p0 : W2.cell? ⟨g, 0, none⟩ = some (.int .i64 0) := by rw [← hg]; exact new_cell hW2 0
          have p1 : W2.cell? ⟨g, 1, none⟩ = some (.int .i64 0) := by rw [← hg]; exact new_cell hW2 1
          have q0 : W2.frozen? ⟨g, 0, none⟩ = false := by rw [← hg]; exact new_frozen hW2 0
          have q1 : W2.frozen? ⟨g, 1, none⟩ = false := by rw [← hg]; exact new_frozen hW2 1
          replace f1 := in_new_f hW2 c1 f1
          replace f2 := in_new_f hW2 c2 f2
          replace c1 := in_new hW2 c1
          replace c2 := in_new hW2 c2
          replace hx0 := in_new hW2 hx0
          replace hx1 := in_new hW2 hx1
          replace hy0 := in_new hW2 hy0
          replace hy1 := in_new hW2 hy1
          rw [hg]
          have ga : g ≠ Ba := by have := blk_lt HA1.out; omega
          have gb : g ≠ Bb := by have := blk_lt HB1.out; omega
          have ga' := Ne.symm ga
          have gb' := Ne.symm gb
          have hne' := Ne.symm hne
          have HW2 := Aside0.mk hW2
          have HG := Aside0.mk hg
          clear hW2 hg
          refine wpIn_region_quiet_lit rfl (by kernel_rfl) (by kernel_rfl) ?_
          repeat (refine wpQuietIn_step (fun _ _ _ _ => trivial) (fun K hK => ?_); go_simp; refine hK _ ?_; clear hK K)
          refine wpQuietIn_nil ?_
          intro _ hw'
          obtain ⟨nq1, hw''⟩ := hw'
          subst hw''
          gi_wp2
          refine wpIn_region_quiet_lit rfl (by kernel_rfl) (by kernel_rfl) ?_
          repeat (refine wpQuietIn_step (fun _ _ _ _ => trivial) (fun K hK => ?_); go_simp; refine hK _ ?_; clear hK K)
          refine wpQuietIn_nil ?_
          intro _ hw'
          obtain ⟨nq2, hw''⟩ := hw'
          subst hw''
          gi_wp2
          gi_region
          generalize hW3 : World.setCell _ _ _ = W3
          have p0' : W3.cell? ⟨g, 0, none⟩ = some (.int .i64 0) := by subst hW3; go_simp
          have p1' : W3.cell? ⟨g, 1, none⟩ = some (.int .i64 y.f1) := by subst hW3; go_simp
          obtain ⟨hk1, hs1⟩ := after_one HW2.out HG.out hW3
          have hk3 : Keeps (fun k => k = Ba ∨ k = Bb) wr W3 := ⟨hk1.os, hk1.tape, hk1.output, hk1.size, fun i hi hm => hk1.block i hi (fun e => hm (.inr e))⟩
          have hltr : ∀ k, Kp k → k < wr.heap.size := fun k hk => by have := HKK.out k hk; have := HSZ.out; omega
          have HA' : Aside0 (Holds (fun k => Kp k ∧ ¬ (k = Ba ∨ k = Bb)) W3 Ba (x :: a)) := ⟨by obtain ⟨A0, c0, h1, h2, h3, h4⟩ := HA.out; exact ⟨A0, c0, (hk1.block Ba (blk_lt h1) hne).trans h1, h2, C_block h3 (fun ad e hn => hk3.block _ (hltr _ (h4 ad e hn).1) (h4 ad e hn).2), h4⟩⟩
          have HB' : Aside0 (Holds (fun k => Kp k ∧ ¬ (k = Ba ∨ k = Bb)) W3 Bb b) := ⟨holds_cut (c := cb - 1) (hs1 _ HB1.out) (by have := HB2.out; simp only [List.length_cons] at this; omega) HCy.out (fun ad e hn => by rw [HBy.out ad e]; exact HB4.out _ rfl (by simp)) hk3 hltr⟩
          have hJ3 : J pre W3 := HJ.out _ _ _ HJR.out hk3
          have hm : ml = pre ++ (y.f0, (0 : Int), y.f1) :: mrg (x :: a) b := by rw [← HP.out, mrg_xy, if_neg (by rw [hxy]; decide), if_pos hyx]
          obtain ⟨fn, tmps, asg, bdy, hyy, hR⟩ := HY.out pre (y.f0, (0 : Int), y.f1) W3 hJ3 (by rw [hm]; simp)
          simp only [encs3] at hyy
          have HM := Aside0.mk hm
          have HK3 := Aside0.mk hk3
          clear hm hJ3 hk3 hW3
          gi_wp2
          refine ⟨(fun h => by cases h), hR.mono ?_⟩
          rintro e W4 (⟨rfl, hJ4, hk4⟩ | ⟨rfl, hJx4⟩)
          · have HJ4 := Aside0.mk hJ4
            have HA4' := Aside0.mk (holds_kept HA'.out HKA.out hk4)
            have HB4' := Aside0.mk (holds_kept HB'.out HKB.out hk4)
            have HK4 := Aside0.mk hk4
            clear hJ4 hk4
            gi_wp2
            go_roundw
            case rel => exact ⟨pre ++ [(y.f0, (0 : Int), y.f1)], (x :: a), b, ⟨by rw [HM.out]; simp⟩, HA4', HB4', HJ4, ⟨by have := HK4.out.1; have := HK3.out.size; have := HSZ.out; omega⟩⟩
            case measure => rw [lenAt_holds HA4'.out, lenAt_holds HB4'.out, lenAt_holds HA.out, lenAt_holds HB.out]; simp only [List.length_cons]; omega
          · have HJX := Aside0.mk hJx4
            clear hJx4
            gi_wp2
            refine bodyPost_ret (results_none rfl _ _ _) rfl ?_
            exact ⟨⟨_, rfl⟩, .inr ⟨pre ++ [(y.f0, (0 : Int), y.f1)], ⟨mrg (x :: a) b, by rw [HM.out]; simp⟩, HJX.out⟩⟩
        · replace hyx := Bool.eq_false_iff.mpr hyx
          simp only [List.length_nil, List.length_cons] at c1 c2
          have hal : a.length + 1 ≤ 1000000 := hla
          obtain ⟨adx, ex, hx0, hx1⟩ := at_T34 HA3.out 0 (by omega) (by simp)
          cases ex
          simp only [rd_T34, Int.toNat_zero, Nat.zero_mul, List.getD_cons_zero, add_zero'] at hx0 hx1
          obtain ⟨A', hcutx, hC', hA'⟩ := drop_one HA3.out HA2.out
          have HCx := Aside0.mk hC'
          have HBx := Aside0.mk hA'
          clear hC' hA'
          have hbl : b.length + 1 ≤ 1000000 := hlb
          obtain ⟨ady, ey, hy0, hy1⟩ := at_T34 HB3.out 0 (by omega) (by simp)
          cases ey
          simp only [rd_T34, Int.toNat_zero, Nat.zero_mul, List.getD_cons_zero, add_zero'] at hy0 hy1
          obtain ⟨B', hcuty, hC', hB'⟩ := drop_one HB3.out HB2.out
          have HCy := Aside0.mk hC'
          have HBy := Aside0.mk hB'
          clear hC' hB'
          gi_wp2
          obtain ⟨W2, hW2⟩ : ∃ W2, wr.alloc (.cells #[.int .i64 0, .int .i64 0] 130) = W2 := ⟨_, rfl⟩
          rw [hW2]
          obtain ⟨g, hg⟩ : ∃ g, wr.heap.size = g := ⟨_, rfl⟩
          have p0 : W2.cell? ⟨g, 0, none⟩ = some (.int .i64 0) := by rw [← hg]; exact new_cell hW2 0
          have p1 : W2.cell? ⟨g, 1, none⟩ = some (.int .i64 0) := by rw [← hg]; exact new_cell hW2 1
          have q0 : W2.frozen? ⟨g, 0, none⟩ = false := by rw [← hg]; exact new_frozen hW2 0
          have q1 : W2.frozen? ⟨g, 1, none⟩ = false := by rw [← hg]; exact new_frozen hW2 1
          replace f1 := in_new_f hW2 c1 f1
          replace f2 := in_new_f hW2 c2 f2
          replace c1 := in_new hW2 c1
          replace c2 := in_new hW2 c2
          replace hx0 := in_new hW2 hx0
          replace hx1 := in_new hW2 hx1
          replace hy0 := in_new hW2 hy0
          replace hy1 := in_new hW2 hy1
          rw [hg]
          have ga : g ≠ Ba := by have := blk_lt HA1.out; omega
          have gb : g ≠ Bb := by have := blk_lt HB1.out; omega
          have ga' := Ne.symm ga
          have gb' := Ne.symm gb
          have hne' := Ne.symm hne
          have HW2 := Aside0.mk hW2
          have HG := Aside0.mk hg
          clear hW2 hg
          refine wpIn_region_quiet_lit rfl (by kernel_rfl) (by kernel_rfl) ?_
          repeat (refine wpQuietIn_step (fun _ _ _ _ => trivial) (fun K hK => ?_); go_simp; refine hK _ ?_; clear hK K)
          refine wpQuietIn_nil ?_
          intro _ hw'
          obtain ⟨nq1, hw''⟩ := hw'
          subst hw''
          gi_wp2
          refine wpIn_region_quiet_lit rfl (by kernel_rfl) (by kernel_rfl) ?_
          repeat (refine wpQuietIn_step (fun _ _ _ _ => trivial) (fun K hK => ?_); go_simp; refine hK _ ?_; clear hK K)
          refine wpQuietIn_nil ?_
          intro _ hw'
          obtain ⟨nq2, hw''⟩ := hw'
          subst hw''
          gi_wp2
          have hgx := HA4.out _ rfl (by simp)
          have hgy := HB4.out _ rfl (by simp)
          have gx : g ≠ adx.block := by have h1 := HKK.out _ hgx.1; have h2 := HSZ.out; have h3 := HG.out; omega
          have gy : g ≠ ady.block := by have h1 := HKK.out _ hgy.1; have h2 := HSZ.out; have h3 := HG.out; omega
          have gya : Ba ≠ ady.block := fun h => hgy.2 (.inl h.symm)
          clear hgx hgy
          refine wpIn_wide.2 ?_
          refine AnyG.begin (G := Till 19 20 (fun w => w.cell? ⟨Ba, 0, none⟩ = some (.slice (some adx) (a.length + 1) ca) ∧ w.cell? adx = some (.string x.f0) ∧ w.cell? ⟨adx.block, adx.off + 1, none⟩ = some (.int .i64 x.f1)) (fun w => w.cell? ⟨Bb, 0, none⟩ = some (.slice (some ady) (b.length + 1) cb) ∧ w.cell? ady = some (.string y.f0) ∧ w.cell? ⟨ady.block, ady.off + 1, none⟩ = some (.int .i64 y.f1))) (by kernel_rfl) ⟨fun _ => ⟨by go_simp, by go_simp, by go_simp⟩, fun _ => ⟨by go_simp, by go_simp, by go_simp⟩⟩ (fun hG => ?_)
          refine AnyG.take 0 19 (v := ?v0) (Till.set (by decide) (by decide)) Till.a rfl rfl (by kernel_rfl) (by kernel_rfl) (by kernel_rfl) (by kernel_rfl) (by kernel_rfl) (fun _ _ _ h => h) hG (by rfl) ?y0 (fun hG => ?_)
          case y0 => (intro w hSw; obtain ⟨hS1, hS2, hS3⟩ := hSw; go_simp; all_goals with_reducible rfl)
          try simp only [Act.put, List.setIfInBounds_toArray, List.set_cons_zero, List.set_cons_succ]
          refine AnyG.take 1 19 (v := ?v1) (Till.set (by decide) (by decide)) Till.a rfl rfl (by kernel_rfl) (by kernel_rfl) (by kernel_rfl) (by kernel_rfl) (by kernel_rfl) (fun _ _ _ h => h) hG (by rfl) ?y1 (fun hG => ?_)
          case y1 => (intro w hSw; obtain ⟨hS1, hS2, hS3⟩ := hSw; go_simp; all_goals with_reducible rfl)
          try simp only [Act.put, List.setIfInBounds_toArray, List.set_cons_zero, List.set_cons_succ]
          refine AnyG.take 2 19 (v := ?v2) (Till.set (by decide) (by decide)) Till.a rfl rfl (by kernel_rfl) (by kernel_rfl) (by kernel_rfl) (by kernel_rfl) (by kernel_rfl) (fun _ _ _ h => h) hG (by rfl) ?y2 (fun hG => ?_)
          case y2 => (intro w hSw; obtain ⟨hS1, hS2, hS3⟩ := hSw; go_simp; all_goals with_reducible rfl)
          try simp only [Act.put, List.setIfInBounds_toArray, List.set_cons_zero, List.set_cons_succ]
          refine AnyG.take 3 19 (v := ?v3) (Till.set (by decide) (by decide)) Till.a rfl rfl (by kernel_rfl) (by kernel_rfl) (by kernel_rfl) (by kernel_rfl) (by kernel_rfl) (fun _ _ _ h => h) hG (by rfl) ?y3 (fun hG => ?_)
          case y3 => (intro w hSw; obtain ⟨hS1, hS2, hS3⟩ := hSw; go_simp; all_goals with_reducible rfl)
          try simp only [Act.put, List.setIfInBounds_toArray, List.set_cons_zero, List.set_cons_succ]
          refine AnyG.take 4 19 (v := ?v4) (Till.set (by decide) (by decide)) Till.a rfl rfl (by kernel_rfl) (by kernel_rfl) (by kernel_rfl) (by kernel_rfl) (by kernel_rfl) (fun _ _ _ h => h) hG (by rfl) ?y4 (fun hG => ?_)
          case y4 => (intro w hSw; obtain ⟨hS1, hS2, hS3⟩ := hSw; go_simp; all_goals with_reducible rfl)
          try simp only [Act.put, List.setIfInBounds_toArray, List.set_cons_zero, List.set_cons_succ]
          refine AnyG.take 5 19 (v := ?v5) (Till.set (by decide) (by decide)) Till.a rfl rfl (by kernel_rfl) (by kernel_rfl) (by kernel_rfl) (by kernel_rfl) (by kernel_rfl) (fun _ _ _ h => h) hG (by rfl) ?y5 (fun hG => ?_)
          case y5 => (intro w hSw; obtain ⟨hS1, hS2, hS3⟩ := hSw; go_simp; all_goals with_reducible rfl)
          try simp only [Act.put, List.setIfInBounds_toArray, List.set_cons_zero, List.set_cons_succ]
          refine AnyG.take 6 19 (v := ?v6) (Till.set (by decide) (by decide)) Till.a rfl rfl (by kernel_rfl) (by kernel_rfl) (by kernel_rfl) (by kernel_rfl) (by kernel_rfl) (fun _ _ _ h => h) hG (by rfl) ?y6 (fun hG => ?_)
          case y6 => (intro w hSw; obtain ⟨hS1, hS2, hS3⟩ := hSw; go_simp; all_goals with_reducible rfl)
          try simp only [Act.put, List.setIfInBounds_toArray, List.set_cons_zero, List.set_cons_succ]
          refine AnyG.take 7 19 (v := ?v7) (Till.set (by decide) (by decide)) Till.a rfl rfl (by kernel_rfl) (by kernel_rfl) (by kernel_rfl) (by kernel_rfl) (by kernel_rfl) (fun _ _ _ h => h) hG (by rfl) ?y7 (fun hG => ?_)
          case y7 => (intro w hSw; obtain ⟨hS1, hS2, hS3⟩ := hSw; go_simp; all_goals with_reducible rfl)
          try simp only [Act.put, List.setIfInBounds_toArray, List.set_cons_zero, List.set_cons_succ]
          refine AnyG.take 13 19 (v := ?v13) (Till.set (by decide) (by decide)) Till.a rfl rfl (by kernel_rfl) (by kernel_rfl) (by kernel_rfl) (by kernel_rfl) (by kernel_rfl) (fun _ _ _ h => h) hG (by rfl) ?y13 (fun hG => ?_)
          case y13 => (intro w hSw; obtain ⟨hS1, hS2, hS3⟩ := hSw; go_simp; all_goals with_reducible rfl)
          try simp only [Act.put, List.setIfInBounds_toArray, List.set_cons_zero, List.set_cons_succ]
          refine AnyG.take 14 19 (v := ?v14) (Till.set (by decide) (by decide)) Till.a rfl rfl (by kernel_rfl) (by kernel_rfl) (by kernel_rfl) (by kernel_rfl) (by kernel_rfl) (fun _ _ _ h => h) hG (by rfl) ?y14 (fun hG => ?_)
          case y14 => (intro w hSw; obtain ⟨hS1, hS2, hS3⟩ := hSw; go_simp; all_goals with_reducible rfl)
          try simp only [Act.put, List.setIfInBounds_toArray, List.set_cons_zero, List.set_cons_succ]
          refine AnyG.take 8 20 (v := ?v8) (Till.set (by decide) (by decide)) Till.b rfl rfl (by kernel_rfl) (by kernel_rfl) (by kernel_rfl) (by kernel_rfl) (by kernel_rfl) (fun _ _ _ h => h) hG (by rfl) ?y8 (fun hG => ?_)
          case y8 => (intro w hSw; obtain ⟨hS1, hS2, hS3⟩ := hSw; go_simp; all_goals with_reducible rfl)
          try simp only [Act.put, List.setIfInBounds_toArray, List.set_cons_zero, List.set_cons_succ]
          refine AnyG.take 9 20 (v := ?v9) (Till.set (by decide) (by decide)) Till.b rfl rfl (by kernel_rfl) (by kernel_rfl) (by kernel_rfl) (by kernel_rfl) (by kernel_rfl) (fun _ _ _ h => h) hG (by rfl) ?y9 (fun hG => ?_)
          case y9 => (intro w hSw; obtain ⟨hS1, hS2, hS3⟩ := hSw; go_simp; all_goals with_reducible rfl)
          try simp only [Act.put, List.setIfInBounds_toArray, List.set_cons_zero, List.set_cons_succ]
          refine AnyG.take 10 20 (v := ?v10) (Till.set (by decide) (by decide)) Till.b rfl rfl (by kernel_rfl) (by kernel_rfl) (by kernel_rfl) (by kernel_rfl) (by kernel_rfl) (fun _ _ _ h => h) hG (by rfl) ?y10 (fun hG => ?_)
          case y10 => (intro w hSw; obtain ⟨hS1, hS2, hS3⟩ := hSw; go_simp; all_goals with_reducible rfl)
          try simp only [Act.put, List.setIfInBounds_toArray, List.set_cons_zero, List.set_cons_succ]
          refine AnyG.take 11 20 (v := ?v11) (Till.set (by decide) (by decide)) Till.b rfl rfl (by kernel_rfl) (by kernel_rfl) (by kernel_rfl) (by kernel_rfl) (by kernel_rfl) (fun _ _ _ h => h) hG (by rfl) ?y11 (fun hG => ?_)
          case y11 => (intro w hSw; obtain ⟨hS1, hS2, hS3⟩ := hSw; go_simp; all_goals with_reducible rfl)
          try simp only [Act.put, List.setIfInBounds_toArray, List.set_cons_zero, List.set_cons_succ]
          refine AnyG.take 12 20 (v := ?v12) (Till.set (by decide) (by decide)) Till.b rfl rfl (by kernel_rfl) (by kernel_rfl) (by kernel_rfl) (by kernel_rfl) (by kernel_rfl) (fun _ _ _ h => h) hG (by rfl) ?y12 (fun hG => ?_)
          case y12 => (intro w hSw; obtain ⟨hS1, hS2, hS3⟩ := hSw; go_simp; all_goals with_reducible rfl)
          try simp only [Act.put, List.setIfInBounds_toArray, List.set_cons_zero, List.set_cons_succ]
          refine AnyG.take 15 20 (v := ?v15) (Till.set (by decide) (by decide)) Till.b rfl rfl (by kernel_rfl) (by kernel_rfl) (by kernel_rfl) (by kernel_rfl) (by kernel_rfl) (fun _ _ _ h => h) hG (by rfl) ?y15 (fun hG => ?_)
          case y15 => (intro w hSw; obtain ⟨hS1, hS2, hS3⟩ := hSw; go_simp; all_goals with_reducible rfl)
          try simp only [Act.put, List.setIfInBounds_toArray, List.set_cons_zero, List.set_cons_succ]
          refine AnyG.take 16 20 (v := ?v16) (Till.set (by decide) (by decide)) Till.b rfl rfl (by kernel_rfl) (by kernel_rfl) (by kernel_rfl) (by kernel_rfl) (by kernel_rfl) (fun _ _ _ h => h) hG (by rfl) ?y16 (fun hG => ?_)
          case y16 => (intro w hSw; obtain ⟨hS1, hS2, hS3⟩ := hSw; go_simp; all_goals with_reducible rfl)
          try simp only [Act.put, List.setIfInBounds_toArray, List.set_cons_zero, List.set_cons_succ]
          refine AnyG.take 17 20 (v := ?v17) (Till.set (by decide) (by decide)) Till.b rfl rfl (by kernel_rfl) (by kernel_rfl) (by kernel_rfl) (by kernel_rfl) (by kernel_rfl) (fun _ _ _ h => h) hG (by rfl) ?y17 (fun hG => ?_)
          case y17 => (intro w hSw; obtain ⟨hS1, hS2, hS3⟩ := hSw; go_simp; all_goals with_reducible rfl)
          try simp only [Act.put, List.setIfInBounds_toArray, List.set_cons_zero, List.set_cons_succ]
          clear hG
          refine AnyG.one 18 (by kernel_rfl) rfl (fun K hK => ?_)
          go_simp
          refine hK.out _ _ ⟨fun _ => ⟨?s1, ?s2, ?s3⟩, fun _ => ⟨?s4, ?s5, ?s6⟩⟩ (fun _ => ?_)
          case s1 => (first | (go_simp; done) | (simp [*, World.cell?_setCell_far]; done) | (rw [World.cell?_setCell_far _ _ _ _ (by assumption), World.cell?_setCell_far _ _ _ _ (by assumption)]; go_simp; done))
          case s2 => (first | (go_simp; done) | (simp [*, World.cell?_setCell_far]; done) | (rw [World.cell?_setCell_far _ _ _ _ (by assumption), World.cell?_setCell_far _ _ _ _ (by assumption)]; go_simp; done))
          case s3 => (first | (go_simp; done) | (simp [*, World.cell?_setCell_far]; done) | (rw [World.cell?_setCell_far _ _ _ _ (by assumption), World.cell?_setCell_far _ _ _ _ (by assumption)]; go_simp; done))
          case s4 => (first | (go_simp; done) | (simp [*, World.cell?_setCell_far]; done) | (rw [World.cell?_setCell_far _ _ _ _ (by assumption), World.cell?_setCell_far _ _ _ _ (by assumption)]; go_simp; done))
          case s5 => (first | (go_simp; done) | (simp [*, World.cell?_setCell_far]; done) | (rw [World.cell?_setCell_far _ _ _ _ (by assumption), World.cell?_setCell_far _ _ _ _ (by assumption)]; go_simp; done))
          case s6 => (first | (go_simp; done) | (simp [*, World.cell?_setCell_far]; done) | (rw [World.cell?_setCell_far _ _ _ _ (by assumption), World.cell?_setCell_far _ _ _ _ (by assumption)]; go_simp; done))
          clear hK K
          try simp only [Act.put, List.setIfInBounds_toArray, List.set_cons_zero, List.set_cons_succ]
          refine AnyG.one 19 (by kernel_rfl) rfl (fun K hK => ?_)
          go_simp
          refine hK.out _ _ ⟨fun h => absurd h (by decide), fun _ => ⟨?s4, ?s5, ?s6⟩⟩ (fun _ => ?_)
          case s4 => (first | (go_simp; done) | (simp [*, World.cell?_setCell_far]; done))
          case s5 => (first | (go_simp; done) | (simp [*, World.cell?_setCell_far]; done))
          case s6 => (first | (go_simp; done) | (simp [*, World.cell?_setCell_far]; done))
          clear hK K
          try simp only [Act.put, List.setIfInBounds_toArray, List.set_cons_zero, List.set_cons_succ]
          refine AnyG.one 20 (by kernel_rfl) rfl (fun K hK => ?_)
          go_simp
          refine hK.out _ _ ⟨fun h => absurd h (by decide), fun h => absurd h (by decide)⟩ (fun _ => ?_)
          clear hK K
          try simp only [Act.put, List.setIfInBounds_toArray, List.set_cons_zero, List.set_cons_succ]
          refine AnyG.done (by kernel_rfl) ?_
          clear gx gy gya
          generalize hW3 : World.setCell _ _ _ = W3
          have p0' : W3.cell? ⟨g, 0, none⟩ = some (.int .i64 x.f1) := by subst hW3; go_simp
          have p1' : W3.cell? ⟨g, 1, none⟩ = some (.int .i64 y.f1) := by subst hW3; go_simp
          generalize hW3a : World.setCell (World.setCell (World.setCell (World.drewN W2 _) ⟨g, 0, none⟩ _) ⟨g, 1, none⟩ _) ⟨Ba, 0, none⟩ _ = W3a at hW3
          obtain ⟨hk1, hs1⟩ := after_one HW2.out HG.out hW3a
          have hk3 : Keeps (fun k => k = Ba ∨ k = Bb) wr W3 := by
           rw [← hW3]
           exact Keeps.setCell ⟨hk1.os, hk1.tape, hk1.output, hk1.size, fun i hi hm => hk1.block i hi (fun e => hm (.inl e))⟩ (.inl (.inr rfl)) _
          have hltr : ∀ k, Kp k → k < wr.heap.size := fun k hk => by have := HKK.out k hk; have := HSZ.out; omega
          have hA9 : W3.heap[Ba]? = some (.cells #[.slice A' a.length (ca - 1)] 23 (0, 0)) := by rw [← hW3]; exact blk_far (hs1 _ HA1.out) hne _
          have hB9 : W3.heap[Bb]? = some (.cells #[.slice B' b.length (cb - 1)] 23 (0, 0)) := by rw [← hW3]; exact blk_set ((hk1.block Bb (blk_lt HB1.out) (Ne.symm hne)).trans HB1.out) 0 _
          have HA' : Aside0 (Holds (fun k => Kp k ∧ ¬ (k = Ba ∨ k = Bb)) W3 Ba a) := ⟨holds_cut (c := ca - 1) hA9 (by have := HA2.out; simp only [List.length_cons] at this; omega) HCx.out (fun ad e hn => by rw [HBx.out ad e]; exact HA4.out _ rfl (by simp)) hk3 hltr⟩
          have HB' : Aside0 (Holds (fun k => Kp k ∧ ¬ (k = Ba ∨ k = Bb)) W3 Bb b) := ⟨holds_cut (c := cb - 1) hB9 (by have := HB2.out; simp only [List.length_cons] at this; omega) HCy.out (fun ad e hn => by rw [HBy.out ad e]; exact HB4.out _ rfl (by simp)) hk3 hltr⟩
          have hJ3 : J pre W3 := HJ.out _ _ _ HJR.out hk3
          have hm : ml = pre ++ (x.f0, x.f1, y.f1) :: mrg a b := by rw [← HP.out, mrg_xy, if_neg (by rw [hxy]; decide), if_neg (by rw [hyx]; decide)]
          obtain ⟨fn, tmps, asg, bdy, hyy, hR⟩ := HY.out pre (x.f0, x.f1, y.f1) W3 hJ3 (by rw [hm]; simp)
          simp only [encs3] at hyy
          have HM := Aside0.mk hm
          have HK3 := Aside0.mk hk3
          clear hm hJ3 hk3 hW3
          gi_wp2
          refine ⟨(fun h => by cases h), hR.mono ?_⟩
          rintro e W4 (⟨rfl, hJ4, hk4⟩ | ⟨rfl, hJx4⟩)
          · have HJ4 := Aside0.mk hJ4
            have HA4' := Aside0.mk (holds_kept HA'.out HKA.out hk4)
            have HB4' := Aside0.mk (holds_kept HB'.out HKB.out hk4)
            have HK4 := Aside0.mk hk4
            clear hJ4 hk4
            gi_wp2
            go_roundw
            case rel => exact ⟨pre ++ [(x.f0, x.f1, y.f1)], a, b, ⟨by rw [HM.out]; simp⟩, HA4', HB4', HJ4, ⟨by have := HK4.out.1; have := HK3.out.size; have := HSZ.out; omega⟩⟩
            case measure => rw [lenAt_holds HA4'.out, lenAt_holds HB4'.out, lenAt_holds HA.out, lenAt_holds HB.out]; simp only [List.length_cons]; omega
          · have HJX := Aside0.mk hJx4
            clear hJx4
            gi_wp2
            refine bodyPost_ret (results_none rfl _ _ _) rfl ?_
            exact ⟨⟨_, rfl⟩, .inr ⟨pre ++ [(x.f0, x.f1, y.f1)], ⟨mrg a b, by rw [HM.out]; simp⟩, HJX.out⟩⟩
theorem below_keeps {n0 : Nat} {M : Nat → Prop} {w A A' : World} (h : Below n0 w A) (hM : ∀ m, M m → n0 ≤ m) (hn : n0 ≤ A.heap.size) (hk : Keeps M A A') : Below n0 w A' :=
 h.trans ⟨hk.os, hk.tape, hk.output, hk.size, fun i hi => hk.block i (by omega) (fun hm => by have := hM i hm; omega)⟩
theorem keeps_heap {M : Nat → Prop} {A A' : World} {i : Nat} {o : Obj} (h : A.heap[i]? = some o) (hm : ¬ M i) (hk : Keeps M A A') : A'.heap[i]? = some o := (hk.block i (blk_lt h) hm).trans h
theorem C_lt {w : World} {ad : Addr} {n : Nat} {xs : List S34} (h : Kd.C k34 w (some ad) n xs) (hn : 0 < n) : ad.block < w.heap.size := by
 obtain ⟨ad', c, e, hl, hK, hc0⟩ := Kd.C_get h z34 0 (by omega) (by omega)
 cases e
 obtain rfl := k34_open hK
 have := World.block_lt_of_cell? w _ (hc0 0 _ rfl)
 have hb : (ad.add ((0 : Int).toNat * k34.sz + 0)).block = ad.block := by simp only [Addr.add]; split <;> rfl
 rw [hb] at this
 exact this
theorem holds_boxes {n0 : Nat} {w w1 : World} {A0 A1 : Option Addr} {c0 c1 : Nat} {l0 l1 : List S34} (hn : n0 = w.heap.size) (hb : Below n0 w w1) (h0 : Kd.C k34 w A0 l0.length l0) (h1 : Kd.C k34 w A1 l1.length l1) (hc0 : l0.length ≤ c0) (hc1 : l1.length ≤ c1) :
 Holds (fun k => (k < n0 ∨ k = w1.heap.size ∨ k = w1.heap.size + 1) ∧ ¬ (k = w1.heap.size ∨ k = w1.heap.size + 1)) ((w1.alloc (.cells #[.slice A0 l0.length c0] 23)).alloc (.cells #[.slice A1 l1.length c1] 23)) w1.heap.size l0 ∧
 Holds (fun k => (k < n0 ∨ k = w1.heap.size ∨ k = w1.heap.size + 1) ∧ ¬ (k = w1.heap.size ∨ k = w1.heap.size + 1)) ((w1.alloc (.cells #[.slice A0 l0.length c0] 23)).alloc (.cells #[.slice A1 l1.length c1] 23)) (w1.heap.size + 1) l1 := by
 subst hn
 have hB : Below w.heap.size w ((w1.alloc (.cells #[.slice A0 l0.length c0] 23)).alloc (.cells #[.slice A1 l1.length c1] 23)) := (hb.alloc hb.size _).alloc (by have := hb.size; simp; omega) _
 have hs := hb.size
 refine ⟨⟨A0, c0, blk_alloc (blk_new _ _) _, hc0, Kd.C_below h0 hB, fun ad e hn => ?_⟩, ⟨A1, c1, ?_, hc1, Kd.C_below h1 hB, fun ad e hn => ?_⟩⟩
 · subst e; have := C_lt h0 hn; exact ⟨.inl this, by omega⟩
 · have := blk_new (w1.alloc (.cells #[.slice A0 l0.length c0] 23)) (.cells #[.slice A1 l1.length c1] 23); simpa using this
 · subst e; have := C_lt h1 hn; exact ⟨.inl this, by omega⟩
theorem leave_mark {n : Nat} {P : Program} {fn : Func} {tmps : Array Value} {R : Ending → World → Prop} {D : Nat} {w : World} (hD : w.heap[D]? = some (.deferred (some [])))
 (hr : ∃ v, (results fn tmps).run P (w.putObj D (.deferred none)) = .ok v (w.putObj D (.deferred none)) ∧ R (.returned v) (w.putObj D (.deferred none))) :
 LeavesInM Fence.wide n P fn tmps R [{ target := .collected D, args := #[] }] .returning w := ⟨by simp, .inl ⟨_, _, rfl, run_takeDeferred hD, hr⟩⟩
theorem below_put {n0 : Nat} {w W : World} {D : Nat} {o : Obj} (h : Below n0 w W) (hD : n0 ≤ D) (hn : n0 ≤ W.heap.size) : Below n0 w (W.putObj D o) :=
 below_keeps h (M := fun k => k = D) (fun m e => by omega) hn (keeps_putObj _ W D o rfl)
def TestInv (ok : List (ByteArray × Int × Int) → Prop) (n0 : Nat) (w : World) (pre : List (ByteArray × Int × Int)) (W : World) : Prop :=
 ok pre ∧ Below n0 w W ∧ W.heap[n0]? = some (.cells #[.bool false] 4 (0, 0))
theorem testInv_abide {ok} {n0 : Nat} {w : World} {M : Nat → Prop} (hM : ∀ m, M m → n0 < m) : Abide M (TestInv ok n0 w) := fun s A A' h hk =>
 ⟨h.1, below_keeps h.2.1 (fun m hm => Nat.le_of_lt (hM m hm)) (Nat.le_of_lt (blk_lt h.2.2)) hk, keeps_heap h.2.2 (fun hm => by have := hM _ hm; omega) hk⟩
end
end Go.Proofs.Ytenbkljgmgdegaa.PO
