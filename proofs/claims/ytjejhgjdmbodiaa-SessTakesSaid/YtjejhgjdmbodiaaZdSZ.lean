/- What the rows of this claim use, out of the texts of this work (SZ, PQ10, SR, ST, SU). No condition beyond those that each statement names. -/
import Derived.Sort.CutIn
import Derived.Test.YtjejhgjdmbodiaaZdSQ
import Derived.Test.YtjejhgjdmbodiaaZdUPD10
import Derived.Test.YtjejhgjdmbodiaaZdUOJ
import Derived.Test.YtjejhgjdmbodiaaZdUOV
import Derived.Test.YtjejhgjdmbodiaaZdUPOx0
section
namespace Go.Proofs.Ytjejhgjdmbodiaa.PO
open Go.RowKit Go.Sort Go.Proofs.YtjejhgjdmbodiaaW.PrintWords Go.Proofs.YtjejhgjdmbodiaaW.PrintLast Go.Proofs.YtjejhgjdmbodiaaW.PrintMore Go.Proofs.Ytjejhgjdmbodiaa.XW
open Go.Proofs.Ytjejhgjdmbodiaa.XRange Go.Proofs.Ytjejhgjdmbodiaa.XMap Go.Proofs.Ytjejhgjdmbodiaa.XRangeW Go.Proofs.Ytjejhgjdmbodiaa.XColl
set_option linter.unusedVariables false
set_option linter.unusedSimpArgs false
def headI (who : ByteArray) (n : Nat) : List Int := textS [] who ++ encN (n : Int)
def txtI (b : List Int) (p : Whose × Curs) : List Int := textS (textS b p.1.1) p.1.2
def curI (b : List Int) (p : Whose × Curs) : List Int := txtI b p ++ encN p.2.1 ++ encN p.2.2
def layI (who : ByteArray) (n : Nat) (xs : List (Whose × Curs)) : List Int := xs.foldl curI (headI who n)
def SzC (p : Whose × Curs) : Prop := p.1.1.size ≤ 32 ∧ p.1.2.size ≤ 32 ∧ 0 ≤ p.2.1 ∧ p.2.1 ≤ 1152921504606846976 ∧ 0 ≤ p.2.2 ∧ p.2.2 ≤ 1000000
theorem txtI_len {b : List Int} {p : Whose × Curs} (h : SzC p) : (txtI b p).length ≤ b.length + 82 := by
 have h1 := textS_len b p.1.1
 have h2 := textS_len (textS b p.1.1) p.1.2
 unfold txtI
 have := h.1; have := h.2.1
 omega
theorem curI_len {b : List Int} {p : Whose × Curs} (h : SzC p) : (curI b p).length ≤ b.length + 100 := by
 have h1 := txtI_len (b := b) h
 have h2 := encN_len p.2.1
 have h3 := encN_len p.2.2
 unfold curI
 rw [List.length_append, List.length_append]
 omega
theorem headI_len {who : ByteArray} {n : Nat} (h : who.size ≤ 32) : (headI who n).length ≤ 50 := by
 have h1 := textS_len [] who
 have h2 := encN_len (n : Int)
 unfold headI
 rw [List.length_append]
 simp only [List.length_nil] at h1
 omega
theorem layI_len {who : ByteArray} {n : Nat} (h : who.size ≤ 32) : ∀ {xs : List (Whose × Curs)} {b : List Int}, (∀ p, p ∈ xs → SzC p) → (xs.foldl curI b).length ≤ b.length + 100 * xs.length
 | [], b, _ => by simp
 | p :: xs, b, hw => by
   have h1 := curI_len (b := b) (hw p List.mem_cons_self)
   have h2 := layI_len (n := n) h (xs := xs) (b := curI b p) (fun q hq => hw q (List.mem_cons_of_mem _ hq))
   rw [List.foldl_cons, List.length_cons]
   omega
theorem C_keepR {w w1 : World} {base : Nat} {ok : Nat → Prop} {A : Option Addr} {n c : Nat} {xs : List Int} {p : Nat} {cs : Array Value} (h : Kd.R (Kd.int .u8) 5 w base ok (.slice A n c) xs) (hp : w.heap[p]? = some (.cells cs 100 (0, 0))) (hk : Keeps (fun k => k = p) w w1) : Kd.R (Kd.int .u8) 5 w1 base ok (.slice A n c) xs := by
 have h2 := Kd.R_types h hp (fun q hq => by
  rw [show (5 :: (Kd.int IntKind.u8).E) = [5] from rfl] at hq
  rw [List.mem_singleton.1 hq]
  decide)
 exact Kd.R_mono (Kd.R_step h2 (fun k hk2 hlt => hk.block k hlt hk2.2)) (fun k hk2 => hk2.1)
theorem wnum_f {b : List Int} {n : Int} (h0 : 0 ≤ n) (h1 : n ≤ 1152921504606846976) (hb : b.length ≤ 200000000) : wire_Number.f 200 b (IntKind.u64.wrap n) = some (b ++ encN n) := by
 rw [u_id h0 (by omega)]
 exact number_f _ h0 (by omega) _ (by omega) 200 (by omega)
theorem rising53_calls (i : Nat) (w : World) : Calls Try.prog 53 #[.pointer (some ⟨i, 0, none⟩)] w fun e w' => e = .returned (.func (.func 82) #[] #[.pointer (some ⟨w.heap.size, 0, none⟩)]) ∧ w' = w.alloc (.cells #[.pointer (some ⟨i, 0, none⟩)] 46) := by
 go_enter Try.func53, Try.ntmps53
 go_wp2
 go_ret
 exact ⟨rfl, rfl⟩
def LayJ (w : World) (p B : Nat) (b0 : List Int) (xs : List (Whose × Curs)) (W : World) : Prop :=
 Below w.heap.size w W ∧ p < B ∧ (∀ q, q ∈ xs → SzC q) ∧ ∃ A c, W.heap[p]? = some (.cells #[.slice A (xs.foldl curI b0).length c] 100 (0, 0)) ∧ Kd.R (Kd.int .u8) 5 W w.heap.size (fun k => k ≠ B ∧ k ≠ B + 1) (.slice A (xs.foldl curI b0).length c) (xs.foldl curI b0)
theorem LayJ.keep {w : World} {p B n0 : Nat} {b0 : List Int} {xs : List (Whose × Curs)} {W W' : World} {M : Nat → Prop} (h : LayJ w p B b0 xs W) (hn : w.heap.size ≤ n0) (hB : w.heap.size ≤ B) (hk : KeepsW n0 M W W') (hM : ∀ k, M k → k = B ∨ k = B + 1) : LayJ w p B b0 xs W' := by
 obtain ⟨h1, hp, hz, A, c, h3, h4⟩ := h
 refine ⟨⟨hk.os.trans h1.os, hk.tape.trans h1.tape, hk.output.trans h1.output, Nat.le_trans h1.size hk.size, fun k hlt => (hk.block k (Nat.lt_of_lt_of_le hlt h1.size) (fun hm => by have := hM k hm; omega) (fun h => by omega)).trans (h1.block k hlt)⟩, hp, hz, A, c, (hk.block p (blk_lt h3) (fun hm => by have := hM p hm; omega) (fun h => not_walk_cells h3 h.2)).trans h3, ?_⟩
 refine Kd.R_mono (Kd.R_step (Kd.R_bound h4) (fun k hk2 hlt => hk.block k hlt (fun hm => ?_) (fun h => ?_))) (fun k hk2 => hk2.1)
 · have := hM k hm
   have := hk2.1
   omega
 · obtain ⟨_, _, _, q, _, cells, hc⟩ := hk2
   exact not_walk_cells hc h.2
set_option maxHeartbeats 8000000 in
set_option maxRecDepth 100000 in
theorem inLay_calls (i m : Nat) (who : ByteArray) (D : List (Whose × Curs)) (w : World) (hI : InAt w i m who D) (hwho : who.size ≤ 32) (hL : D.length ≤ 1000000) (hwf : ∀ k, k ∈ D.map (·.1) → SzC (k, curOf D k)) :
 Calls Try.prog 27 #[.pointer (some ⟨i, 0, none⟩)] w fun e w' => ∃ xs, RisesTo D xs ∧ e = .returned (.string (strOfNums (layI who D.length xs))) ∧ Below w.heap.size w w' := by
 have HI := Aside0.mk hI
 have HWH := Aside0.mk hwho
 have HL := Aside0.mk hL
 have HWF := Aside0.mk hwf
 have HIM := Aside0.mk (show i < w.heap.size ∧ m < w.heap.size from ⟨blk_lt hI.blk, hI.mp.lt⟩)
 clear hI hwho hL hwf
 refine (callsIn_wide (n := 7)).1 ?_
 refine callsIn_of_wp_marks Try.func27 rfl trivial ?_ rfl
 simp only [Try.ntmps27, List.size_toArray, List.length_cons, List.length_nil, Nat.reduceAdd, Nat.reduceSub, Array.replicate_succ, Array.replicate_zero, List.push_toArray, List.append_toArray, List.nil_append, List.cons_append]
 obtain ⟨L0, hL0⟩ : ∃ L, textS [] who = L := ⟨_, rfl⟩
 have hl0 : L0.length ≤ 50 := by rw [← hL0]; have h1 := textS_len [] who; have := HWH.out; simp only [List.length_nil] at h1; omega
 have HT := Aside0.mk (show wire_Text.f 200 [] who = some L0 from by rw [← hL0]; exact wtext32_f [] who HWH.out (by simp) 200 (by omega))
 obtain ⟨LH, hLH⟩ : ∃ L, headI who D.length = L := ⟨_, rfl⟩
 have HN := Aside0.mk (show wire_Number.f 200 L0 (IntKind.u64.wrap (D.length : Int)) = some LH from by
  rw [← hLH]
  unfold headI
  rw [hL0]
  exact wnum_f (by omega) (by have := HL.out; omega) (by omega))
 have HLH := Aside0.mk hLH
 clear hL0 hl0 hLH
 gi_upto_region 3 with fail
 gi_cut [3] from 4 (fun s3 wx => ∃ (p : Nat) (A : Option Addr) (c : Nat), s3 = .pointer (some ⟨p, 0, none⟩) ∧ Aside0 (wx.heap[p]? = some (.cells #[.slice A LH.length c] 100 (0, 0)) ∧ Kd.R (Kd.int .u8) 5 wx w.heap.size (fun _ => True) (.slice A LH.length c) LH ∧ Below w.heap.size w wx ∧ w.heap.size ≤ p))
 case first =>
  rename_i J K' hJ hK
  refine wpIn_wide.2 ?_
  refine wp_region_noPanic ?_
  refine start_ (n := 14) (ds := [13]) (S := fun w' => w'.cell? ⟨i, 0, none⟩ = some (.string who) ∧ w'.cell? ⟨i, 1, none⟩ = some (.map (some m)) ∧ MapAt w' m wV cV D) _ (by kernel_rfl) rfl rfl ⟨(blk_cell (blk_drew HI.out.blk) 0).trans rfl, (blk_cell (blk_drew HI.out.blk) 1).trans rfl, HI.out.mp.step rfl⟩ (fun hH => ?_)
  obtain ⟨w1, hw1⟩ : ∃ w1, w.drew = w1 := ⟨_, rfl⟩
  have HBw1 := Aside0.mk (show Below w.heap.size w w1 from by rw [← hw1]; exact below_drew1 (Below.refl _ w))
  have HIw1 := Aside0.mk (HI.out.below HBw1.out)
  rw [hw1] at hH ⊢
  clear hw1
  refine XReg.pu 0 8 (h := ?_)
  refine XReg.pu 1 9 (h := ?_)
  refine XReg.pu 2 10 (h := ?_)
  refine XReg.tk 3 11 (hy := by (intro w' hS_; obtain ⟨t0, t1, _⟩ := hS_; go_simp; with_reducible rfl)) (h := ?_)
  refine XReg.pu 5 13 (h := ?_)
  refine XReg.pu 6 14 (h := ?_)
  refine XReg.pu 7 15 (h := ?_)
  refine XReg.tk 8 16 (hy := by (intro w' hS_; obtain ⟨t0, t1, _⟩ := hS_; go_simp; with_reducible rfl)) (h := ?_)
  clear hH
  refine two_x (i := 4) (j := 12) (some 12) (some 3) rfl rfl rfl rfl (by kernel_rfl) (by decide) (by decide) (fun Kc hKc => ?_) (fun Kc hKc => ?_)
  · refine goes_ Try.func52 (by kernel_rfl) rfl #[.slice none 0 0, .string who] (by rfl) rfl rfl (by (try simp only [List.map_toArray, List.map_cons, List.map_nil]); first | done | rfl) ?_
    refine (wire_Text.calls 200 none 0 [] who _ _ (Kd.C_nil _ _) (Nat.le_refl _) HT.out).mono ?_
    rintro e w2 ⟨va, rfl, hra, hba⟩
    refine ⟨_, rfl, ?_⟩
    have HBw2 := Aside0.mk (HBw1.out.trans (hba.mono HBw1.out.size))
    have HIw2 := Aside0.mk (HIw1.out.below hba)
    obtain ⟨Aa, ca, rfl, la, Ca⟩ := Kd.R_reads hra
    have HLa := Aside0.mk la
    have HCa := Aside0.mk Ca
    refine hKc.out _ _ ⟨(blk_cell HIw2.out.blk 0).trans rfl, (blk_cell HIw2.out.blk 1).trans rfl, HIw2.out.mp⟩ (fun hH2 => ?_)
    clear hKc Kc hH2 hra hba la Ca
    refine norm_ (a' := ?_) ?_ ?_
    rotate_left
    · show Act.put _ (some 12) _ = _
      simp only [Act.put, List.setIfInBounds_toArray, List.set_cons_zero, List.set_cons_succ, i64_w, i32_w]
      rfl
    refine XReg.tk 9 17 (v := .int .i64 (D.length : Int)) (hS := ⟨(blk_cell HIw2.out.blk 0).trans rfl, (blk_cell HIw2.out.blk 1).trans rfl, HIw2.out.mp⟩) (hy := by (intro w' hS_; obtain ⟨_, _, hmp⟩ := hS_; have hl := len_at mk86 hmp; first | (go_simp; done) | (go_simp; with_reducible rfl))) (h := ?_)
    refine XReg.pu 10 18 (h := ?_)
    refine two_x (i := 11) (j := 12) (some 19) (some 3) rfl rfl rfl rfl (by kernel_rfl) (by decide) (by decide) (fun Kc hKc => ?_) (fun Kc hKc => ?_)
    · refine goes_ Try.func51 (by kernel_rfl) rfl #[.slice Aa L0.length ca, .int .u64 (IntKind.u64.wrap (D.length : Int))] (by rfl) rfl rfl (by (try simp only [List.map_toArray, List.map_cons, List.map_nil]); first | done | rfl) ?_
      refine (wire_Number.calls 200 Aa ca L0 _ LH _ HCa.out HLa.out HN.out).mono ?_
      rintro e w3 ⟨vb, rfl, hrb, hbb⟩
      refine ⟨_, rfl, ?_⟩
      have HBw3 := Aside0.mk (HBw2.out.trans (hbb.mono HBw2.out.size))
      have HIw3 := Aside0.mk (HIw2.out.below hbb)
      obtain ⟨Ab, cb, rfl⟩ := Kd.R_slice hrb
      have HCb := Aside0.mk (Kd.R_lower hrb (show w.heap.size ≤ _ from HBw2.out.size))
      refine hKc.out _ _ ⟨(blk_cell HIw3.out.blk 0).trans rfl, (blk_cell HIw3.out.blk 1).trans rfl, HIw3.out.mp⟩ (fun hH2 => ?_)
      clear hKc Kc hH2 hrb hbb
      refine norm_ (a' := ?_) ?_ ?_
      rotate_left
      · show Act.put _ (some 19) _ = _
        simp only [Act.put, List.setIfInBounds_toArray, List.set_cons_zero, List.set_cons_succ, i64_w, i32_w]
        rfl
      refine XReg.one (i := 12) (some 3) rfl rfl (by kernel_rfl) (by decide) (fun Kc hKc => ?_)
      refine box_step rfl (N := 3) rfl (cs := #[.slice none 0 0]) (t := 100) ?hr ?_
      case hr => first | (go_simp; done) | (go_simp; rfl)
      intro p hp w4 hx hbx
      have HBw4 := Aside0.mk (HBw3.out.trans (hbx.mono HBw3.out.size))
      have HIw4 := Aside0.mk (HIw3.out.below hbx)
      have HXw4 := Aside0.mk hx
      have HP := Aside0.mk (show w.heap.size ≤ p from by have := HBw3.out.size; omega)
      have HCb4 := Aside0.mk (Kd.R_below HCb.out hbx)
      clear hbx
      refine hKc.out _ _ ⟨(blk_cell HIw4.out.blk 0).trans rfl, (blk_cell HIw4.out.blk 1).trans rfl, HIw4.out.mp⟩ (fun hH2 => ?_)
      clear hKc Kc hH2 hx hp
      refine norm_ (a' := ?_) ?_ ?_
      rotate_left
      · show Act.put _ (some 3) _ = _
        simp only [Act.put, List.setIfInBounds_toArray, List.set_cons_zero, List.set_cons_succ, i64_w, i32_w]
        rfl
      have e0 : w4.cell? ⟨p, 0, none⟩ = some (.slice none 0 0) := (blk_cell HXw4.out 0).trans rfl
      have ef := blk_frozen HXw4.out 0
      refine XReg.last (i := 13) none rfl rfl (by kernel_rfl) (by decide) (fun Kc hKc => ?_)
      refine store_last rfl rfl (by first | (go_simp; done) | (go_simp; rfl)) ?_
      refine hKc.out _ _ ?_
      clear hKc Kc e0 ef
      refine done_ (by kernel_rfl) ?_
      try simp only [Act.put, List.setIfInBounds_toArray, List.set_cons_zero, List.set_cons_succ]
      show K' _ _
      refine hK _ _ (Met.intro (hJ _ _ ?_))
      (repeat apply Exists.intro)
      refine ⟨?_, rfl⟩
      have hps := HP.out
      exact ⟨p, Ab, cb, rfl, ⟨blk_set HXw4.out 0 _, C_keepR HCb4.out HXw4.out (Keeps.setCell (M := fun k => k = p) (Keeps.refl _ w4) (p := ⟨p, 0, none⟩) (.inl rfl) _), below_keeps HBw4.out (M := fun k => k = p) (fun k hk => by omega) HBw4.out.size (Keeps.setCell (M := fun k => k = p) (Keeps.refl _ w4) (p := ⟨p, 0, none⟩) (.inl rfl) _), hps⟩⟩
    · refine box_step rfl (N := 3) rfl (cs := #[.slice none 0 0]) (t := 100) ?hr ?_
      case hr => first | (go_simp; done) | (go_simp; rfl)
      intro p hp w3 hx hbx
      have HBw3 := Aside0.mk (HBw2.out.trans (hbx.mono HBw2.out.size))
      have HIw3 := Aside0.mk (HIw2.out.below hbx)
      have HXw3 := Aside0.mk hx
      have HP := Aside0.mk (show w.heap.size ≤ p from by have := HBw2.out.size; omega)
      have HCa3 := Aside0.mk (Kd.C_below HCa.out hbx)
      clear hbx
      refine hKc.out _ _ ⟨(blk_cell HIw3.out.blk 0).trans rfl, (blk_cell HIw3.out.blk 1).trans rfl, HIw3.out.mp⟩ (fun hH2 => ?_)
      clear hKc Kc hH2 hx hp
      refine norm_ (a' := ?_) ?_ ?_
      rotate_left
      · show Act.put _ (some 3) _ = _
        simp only [Act.put, List.setIfInBounds_toArray, List.set_cons_zero, List.set_cons_succ, i64_w, i32_w]
        rfl
      refine XReg.one (i := 11) (some 19) rfl rfl (by kernel_rfl) (by decide) (fun Kc hKc => ?_)
      refine goes_ Try.func51 (by kernel_rfl) rfl #[.slice Aa L0.length ca, .int .u64 (IntKind.u64.wrap (D.length : Int))] (by rfl) rfl rfl (by (try simp only [List.map_toArray, List.map_cons, List.map_nil]); first | done | rfl) ?_
      refine (wire_Number.calls 200 Aa ca L0 _ LH _ HCa3.out HLa.out HN.out).mono ?_
      rintro e w4 ⟨vb, rfl, hrb, hbb⟩
      refine ⟨_, rfl, ?_⟩
      have HBw4 := Aside0.mk (HBw3.out.trans (hbb.mono HBw3.out.size))
      have HIw4 := Aside0.mk (HIw3.out.below hbb)
      have HXw4 := Aside0.mk (blk_below HXw3.out hbb)
      obtain ⟨Ab, cb, rfl⟩ := Kd.R_slice hrb
      have HCb := Aside0.mk (Kd.R_lower hrb (show w.heap.size ≤ _ from HBw3.out.size))
      refine hKc.out _ _ ⟨(blk_cell HIw4.out.blk 0).trans rfl, (blk_cell HIw4.out.blk 1).trans rfl, HIw4.out.mp⟩ (fun hH2 => ?_)
      clear hKc Kc hH2 hrb hbb
      refine norm_ (a' := ?_) ?_ ?_
      rotate_left
      · show Act.put _ (some 19) _ = _
        simp only [Act.put, List.setIfInBounds_toArray, List.set_cons_zero, List.set_cons_succ, i64_w, i32_w]
        rfl
      have e0 : w4.cell? ⟨p, 0, none⟩ = some (.slice none 0 0) := (blk_cell HXw4.out 0).trans rfl
      have ef := blk_frozen HXw4.out 0
      refine XReg.last (i := 13) none rfl rfl (by kernel_rfl) (by decide) (fun Kc hKc => ?_)
      refine store_last rfl rfl (by first | (go_simp; done) | (go_simp; rfl)) ?_
      refine hKc.out _ _ ?_
      clear hKc Kc e0 ef
      refine done_ (by kernel_rfl) ?_
      try simp only [Act.put, List.setIfInBounds_toArray, List.set_cons_zero, List.set_cons_succ]
      show K' _ _
      refine hK _ _ (Met.intro (hJ _ _ ?_))
      (repeat apply Exists.intro)
      refine ⟨?_, rfl⟩
      have hps := HP.out
      exact ⟨p, Ab, cb, rfl, ⟨blk_set HXw4.out 0 _, C_keepR HCb.out HXw4.out (Keeps.setCell (M := fun k => k = p) (Keeps.refl _ w4) (p := ⟨p, 0, none⟩) (.inl rfl) _), below_keeps HBw4.out (M := fun k => k = p) (fun k hk => by omega) HBw4.out.size (Keeps.setCell (M := fun k => k = p) (Keeps.refl _ w4) (p := ⟨p, 0, none⟩) (.inl rfl) _), hps⟩⟩
  · refine box_step rfl (N := 3) rfl (cs := #[.slice none 0 0]) (t := 100) ?hr ?_
    case hr => first | (go_simp; done) | (go_simp; rfl)
    intro p hp w2 hx hbx
    have HBw2 := Aside0.mk (HBw1.out.trans (hbx.mono HBw1.out.size))
    have HIw2 := Aside0.mk (HIw1.out.below hbx)
    have HXw2 := Aside0.mk hx
    have HP := Aside0.mk (show w.heap.size ≤ p from by have := HBw1.out.size; omega)
    clear hbx
    refine hKc.out _ _ ⟨(blk_cell HIw2.out.blk 0).trans rfl, (blk_cell HIw2.out.blk 1).trans rfl, HIw2.out.mp⟩ (fun hH2 => ?_)
    clear hKc Kc hH2 hx hp
    refine norm_ (a' := ?_) ?_ ?_
    rotate_left
    · show Act.put _ (some 3) _ = _
      simp only [Act.put, List.setIfInBounds_toArray, List.set_cons_zero, List.set_cons_succ, i64_w, i32_w]
      rfl
    refine XReg.one (i := 4) (some 12) rfl rfl (by kernel_rfl) (by decide) (fun Kc hKc => ?_)
    refine goes_ Try.func52 (by kernel_rfl) rfl #[.slice none 0 0, .string who] (by rfl) rfl rfl (by (try simp only [List.map_toArray, List.map_cons, List.map_nil]); first | done | rfl) ?_
    refine (wire_Text.calls 200 none 0 [] who _ _ (Kd.C_nil _ _) (Nat.le_refl _) HT.out).mono ?_
    rintro e w3 ⟨va, rfl, hra, hba⟩
    refine ⟨_, rfl, ?_⟩
    have HBw3 := Aside0.mk (HBw2.out.trans (hba.mono HBw2.out.size))
    have HIw3 := Aside0.mk (HIw2.out.below hba)
    have HXw3 := Aside0.mk (blk_below HXw2.out hba)
    obtain ⟨Aa, ca, rfl, la, Ca⟩ := Kd.R_reads hra
    have HLa := Aside0.mk la
    have HCa := Aside0.mk Ca
    refine hKc.out _ _ ⟨(blk_cell HIw3.out.blk 0).trans rfl, (blk_cell HIw3.out.blk 1).trans rfl, HIw3.out.mp⟩ (fun hH2 => ?_)
    clear hKc Kc hH2 hra hba la Ca
    refine norm_ (a' := ?_) ?_ ?_
    rotate_left
    · show Act.put _ (some 12) _ = _
      simp only [Act.put, List.setIfInBounds_toArray, List.set_cons_zero, List.set_cons_succ, i64_w, i32_w]
      rfl
    refine XReg.tk 9 17 (v := .int .i64 (D.length : Int)) (hS := ⟨(blk_cell HIw3.out.blk 0).trans rfl, (blk_cell HIw3.out.blk 1).trans rfl, HIw3.out.mp⟩) (hy := by (intro w' hS_; obtain ⟨_, _, hmp⟩ := hS_; have hl := len_at mk86 hmp; first | (go_simp; done) | (go_simp; with_reducible rfl))) (h := ?_)
    refine XReg.pu 10 18 (h := ?_)
    refine XReg.one (i := 11) (some 19) rfl rfl (by kernel_rfl) (by decide) (fun Kc hKc => ?_)
    refine goes_ Try.func51 (by kernel_rfl) rfl #[.slice Aa L0.length ca, .int .u64 (IntKind.u64.wrap (D.length : Int))] (by rfl) rfl rfl (by (try simp only [List.map_toArray, List.map_cons, List.map_nil]); first | done | rfl) ?_
    refine (wire_Number.calls 200 Aa ca L0 _ LH _ HCa.out HLa.out HN.out).mono ?_
    rintro e w4 ⟨vb, rfl, hrb, hbb⟩
    refine ⟨_, rfl, ?_⟩
    have HBw4 := Aside0.mk (HBw3.out.trans (hbb.mono HBw3.out.size))
    have HIw4 := Aside0.mk (HIw3.out.below hbb)
    have HXw4 := Aside0.mk (blk_below HXw3.out hbb)
    obtain ⟨Ab, cb, rfl⟩ := Kd.R_slice hrb
    have HCb := Aside0.mk (Kd.R_lower hrb (show w.heap.size ≤ _ from HBw3.out.size))
    refine hKc.out _ _ ⟨(blk_cell HIw4.out.blk 0).trans rfl, (blk_cell HIw4.out.blk 1).trans rfl, HIw4.out.mp⟩ (fun hH2 => ?_)
    clear hKc Kc hH2 hrb hbb
    refine norm_ (a' := ?_) ?_ ?_
    rotate_left
    · show Act.put _ (some 19) _ = _
      simp only [Act.put, List.setIfInBounds_toArray, List.set_cons_zero, List.set_cons_succ, i64_w, i32_w]
      rfl
    have e0 : w4.cell? ⟨p, 0, none⟩ = some (.slice none 0 0) := (blk_cell HXw4.out 0).trans rfl
    have ef := blk_frozen HXw4.out 0
    refine XReg.last (i := 13) none rfl rfl (by kernel_rfl) (by decide) (fun Kc hKc => ?_)
    refine store_last rfl rfl (by first | (go_simp; done) | (go_simp; rfl)) ?_
    refine hKc.out _ _ ?_
    clear hKc Kc e0 ef
    refine done_ (by kernel_rfl) ?_
    try simp only [Act.put, List.setIfInBounds_toArray, List.set_cons_zero, List.set_cons_succ]
    show K' _ _
    refine hK _ _ (Met.intro (hJ _ _ ?_))
    (repeat apply Exists.intro)
    refine ⟨?_, rfl⟩
    have hps := HP.out
    exact ⟨p, Ab, cb, rfl, ⟨blk_set HXw4.out 0 _, C_keepR HCb.out HXw4.out (Keeps.setCell (M := fun k => k = p) (Keeps.refl _ w4) (p := ⟨p, 0, none⟩) (.inl rfl) _), below_keeps HBw4.out (M := fun k => k = p) (fun k hk => by omega) HBw4.out.size (Keeps.setCell (M := fun k => k = p) (Keeps.refl _ w4) (p := ⟨p, 0, none⟩) (.inl rfl) _), hps⟩⟩
 case rest =>
  obtain ⟨p, A, c, rfl, HX⟩ := hcut
  clear HT HN
  have HIc := Aside0.mk (HI.out.below HX.out.2.2.1)
  clear HI
  gi_wp2_with fail
  refine ⟨trivial, (callsIn_wide.2 (rising53_calls i wc)).mono ?_⟩
  rintro e w1 ⟨rfl, hw1⟩
  obtain ⟨Bi, hBi⟩ : ∃ Bi, wc.heap.size = Bi := ⟨_, rfl⟩
  have hb1 : Below wc.heap.size wc w1 := by rw [hw1]; exact (Below.refl _ wc).alloc (Nat.le_refl _) _
  have HB1 := Aside0.mk (show w1.heap[Bi]? = some (.cells #[.pointer (some ⟨i, 0, none⟩)] 46 (0, 0)) ∧ w1.heap.size = Bi + 1 from by rw [hw1, ← hBi]; exact ⟨World.alloc_heap_new wc _, by simp⟩)
  have HI1 := Aside0.mk (HIc.out.below hb1)
  have HL1 := Aside0.mk (show LayJ w p w1.heap.size LH [] w1 from ⟨HX.out.2.2.1.trans (hb1.mono HX.out.2.2.1.size), Nat.lt_of_lt_of_le (blk_lt HX.out.1) hb1.size, fun q hq => (by cases hq), A, c, blk_below HX.out.1 hb1, Kd.R_mono (Kd.R_bound (Kd.R_below HX.out.2.1 hb1)) (fun k hk => by have := hk.2.2.1; omega)⟩)
  have HPG := Aside0.mk (show w.heap.size ≤ p ∧ p < Bi ∧ w.heap.size ≤ Bi from ⟨HX.out.2.2.2, by rw [← hBi]; exact blk_lt HX.out.1, by rw [← hBi]; exact HX.out.2.2.1.size⟩)
  try rw [hBi]
  clear hw1 hb1 hBi HX HIc
  gi_wp2_with fail
  have hi1 := HI1.out
  have hss := HB1.out.2
  have hpg := HPG.out
  refine range_lawW (n0 := w1.heap.size) (gf := 82) rfl (enters_of Try.func82 (by kernel_rfl) rfl) (rising1_seq w1.heap.size _ i m Bi who D w1 HB1.out.1 hi1 HL.out) (fun _ => rfl) (fun k hk => by
   rcases hk with rfl | rfl | rfl
   · exact blk_lt hi1.blk
   · exact hi1.mp.lt
   · omega) (fun k hk => hk.elim)
   (LayJ w p w1.heap.size LH) (fun _ _ _ => False)
   (fun s X X' h hk => h.keep (by omega) (by omega) hk (fun k hk => hk.elim)) (fun c s X X' h _ => h)
   (fun s X X' h hk => h.keep (n0 := w1.heap.size) (by omega) (by omega) (KeepsW.of_keeps hk) (fun k hk => hk)) (fun c s X X' h _ => h) HL1.out ?round ?done ?stop
  case stop => exact fun c pre W _ h => h.elim
  case round =>
   rintro pre x W hI hlen hE hsz
   have HI := Aside0.mk hI
   have HPL := Aside0.mk hlen
   have HSZ := Aside0.mk hsz
   have HZX := Aside0.mk (show SzC x from by
    have h := HWF.out x.1 hE.1
    rw [← hE.2] at h
    exact h)
   clear hI hlen hE hsz
   simp only [wV, cV]
   refine wpIn_seq ?_
   refine XRnd.regionR_ (by kernel_rfl) (by rintro ⟨_, _, h⟩; exact h) ?_
   go_wp2
   refine XRnd.regionR_ (by kernel_rfl) (by rintro ⟨_, _, h⟩; exact h) ?_
   go_wp2
   obtain ⟨W2, hW2⟩ : ∃ W2, (W.alloc (.cells #[.string x.1.1, .string x.1.2] 93)).alloc (.cells #[.int .i64 x.2.1, .int .i64 x.2.2] 95) = W2 := ⟨_, rfl⟩
   obtain ⟨K1, hK1⟩ : ∃ K1, W.heap.size = K1 := ⟨_, rfl⟩
   have HX1 := Aside0.mk (show W2.heap[K1]? = some (.cells #[.string x.1.1, .string x.1.2] 93 (0, 0)) from by rw [← hW2, ← hK1]; exact blk_alloc (World.alloc_heap_new W _) _)
   have HX2 := Aside0.mk (show W2.heap[K1 + 1]? = some (.cells #[.int .i64 x.2.1, .int .i64 x.2.2] 95 (0, 0)) from by
    rw [← hW2, ← hK1]
    have h := World.alloc_heap_new (W.alloc (.cells #[.string x.1.1, .string x.1.2] 93)) (.cells #[.int .i64 x.2.1, .int .i64 x.2.2] 95)
    simpa using h)
   have HK2 := Aside0.mk (show Keeps (fun _ => False) W W2 from by rw [← hW2]; exact ((Keeps.refl _ W).alloc _).alloc _)
   rw [hW2]
   try rw [hK1]
   have hsq := HSZ.out
   rw [hK1] at hsq
   clear hW2 hK1 HI
   refine ⟨HK2.out, fun Wb hkb hib => ?_⟩
   have HX1b := Aside0.mk ((hkb.block K1 (blk_lt HX1.out) (by omega)).trans HX1.out)
   have HX2b := Aside0.mk ((hkb.block (K1 + 1) (blk_lt HX2.out) (by omega)).trans HX2.out)
   have HI := Aside0.mk hib
   have HWB := Aside0.mk (show w1.heap.size + 2 ≤ Wb.heap.size from by have := blk_lt HX2b.out; omega)
   clear hkb hib HX1 HX2 HK2
   obtain ⟨hbw, hpB, hz, A, c, hc0, hR⟩ := HI.out
   obtain ⟨L, hL⟩ : ∃ L, pre.foldl curI LH = L := ⟨_, rfl⟩
   have hll : L.length ≤ 150000000 := by
    rw [← hL]
    have h1 := layI_len (n := 0) HWH.out (xs := pre) (b := LH) hz
    have h2 : LH.length ≤ 50 := by rw [← HLH.out]; exact headI_len HWH.out
    have := HPL.out; have := HL.out
    omega
   have HLL := Aside0.mk hL
   rw [hL] at hc0 hR
   have HC0 := Aside0.mk hc0
   have HR := Aside0.mk hR
   have HRc := Aside0.mk (Kd.R_reads' hR).2
   have HPB := Aside0.mk hpB
   have HZP := Aside0.mk hz
   have HBW := Aside0.mk hbw
   obtain ⟨z1, z2, z3, z4, z5, z6⟩ := HZX.out
   obtain ⟨L1, hL1⟩ : ∃ L1, textS L x.1.1 = L1 := ⟨_, rfl⟩
   obtain ⟨L2, hL2⟩ : ∃ L2, textS L1 x.1.2 = L2 := ⟨_, rfl⟩
   obtain ⟨L3, hL3⟩ : ∃ L3, L2 ++ encN x.2.1 = L3 := ⟨_, rfl⟩
   obtain ⟨L4, hL4⟩ : ∃ L4, L3 ++ encN x.2.2 = L4 := ⟨_, rfl⟩
   have hl1 : L1.length ≤ 150000050 := by rw [← hL1]; have := textS_len L x.1.1; omega
   have hl2 : L2.length ≤ 150000100 := by rw [← hL2]; have := textS_len L1 x.1.2; omega
   have hl3 : L3.length ≤ 150000150 := by rw [← hL3, List.length_append]; have := encN_len x.2.1; omega
   have HT1 := Aside0.mk (show wire_Text.f 200 L x.1.1 = some L1 from by rw [← hL1]; exact wtext32_f L _ z1 (by omega) 200 (by omega))
   have HT2 := Aside0.mk (show wire_Text.f 200 L1 x.1.2 = some L2 from by rw [← hL2]; exact wtext32_f L1 _ z2 (by omega) 200 (by omega))
   have HT3 := Aside0.mk (show wire_Number.f 200 L2 (IntKind.u64.wrap x.2.1) = some L3 from by rw [← hL3]; exact wnum_f z3 z4 (by omega))
   have HT4 := Aside0.mk (show wire_Number.f 200 L3 (IntKind.u64.wrap x.2.2) = some L4 from by rw [← hL4]; exact wnum_f z5 (by omega) (by omega))
   have HLE := Aside0.mk (show (pre ++ [x]).foldl curI LH = L4 from by rw [List.foldl_append, hL]; show curI L x = L4; unfold curI txtI; rw [hL1, hL2, hL3, hL4])
   clear hbw hpB hz hc0 hR hL hll hL1 hL2 hL3 hL4 hl1 hl2 hl3 z1 z2 z3 z4 z5 z6
   have HBWb := Aside0.mk (Below.refl Wb.heap.size Wb)
   refine wpIn_block ?_
   refine wpIn_seq ?_
   refine XRnd.startR_ (k := 8) (ds := [7]) (S := fun w' => w'.cell? ⟨p, 0, none⟩ = some (.slice A L.length c) ∧ w'.cell? ⟨K1, 0, none⟩ = some (.string x.1.1) ∧ w'.cell? ⟨K1, 1, none⟩ = some (.string x.1.2)) _ (by kernel_rfl) rfl rfl (by kernel_rfl) (by rintro ⟨_, _, h⟩; exact h)
    ⟨(blk_cell (blk_drew HC0.out) 0).trans rfl, (blk_cell (blk_drew HX1b.out) 0).trans rfl, (blk_cell (blk_drew HX1b.out) 1).trans rfl⟩ (fun hH => ?_)
   obtain ⟨wa, hwa⟩ : ∃ wa, Wb.drew = wa := ⟨_, rfl⟩
   have HBwa := Aside0.mk (show Below Wb.heap.size Wb wa from by rw [← hwa]; exact below_drew1 (Below.refl _ Wb))
   have HCa := Aside0.mk (Kd.C_below HRc.out.2 HBwa.out)
   rw [hwa] at hH ⊢
   clear hwa HBWb
   refine XReg.tk 0 24 (h := ?_)
   refine XReg.pu 1 25 (h := ?_)
   refine XReg.tk 2 26 (h := ?_)
   refine XReg.pu 4 28 (h := ?_)
   refine XReg.tk 5 29 (h := ?_)
   refine XReg.one (i := 3) (some 27) rfl rfl (by kernel_rfl) (by decide) (fun Kc hKc => ?_)
   refine goes_ Try.func52 (by kernel_rfl) rfl #[.slice A L.length c, .string x.1.1] (by rfl) rfl rfl (by (try simp only [List.map_toArray, List.map_cons, List.map_nil]); first | done | rfl) ?_
   refine (wire_Text.calls 200 A c L _ L1 _ HCa.out HRc.out.1 HT1.out).mono ?_
   rintro e wb ⟨v_, rfl, hr_, hb_⟩
   refine ⟨_, rfl, ?_⟩
   have HBwb := Aside0.mk (HBwa.out.trans (hb_.mono HBwa.out.size))
   obtain ⟨A1, c1, rfl⟩ := Kd.R_slice hr_
   have HR1 := Aside0.mk (Kd.R_reads' hr_).2
   have hS2 : wb.cell? ⟨p, 0, none⟩ = some (.slice A L.length c) ∧ wb.cell? ⟨K1, 0, none⟩ = some (.string x.1.1) ∧ wb.cell? ⟨K1, 1, none⟩ = some (.string x.1.2) := ⟨(blk_cell (blk_below HC0.out HBwb.out) 0).trans rfl, (blk_cell (blk_below HX1b.out HBwb.out) 0).trans rfl, (blk_cell (blk_below HX1b.out HBwb.out) 1).trans rfl⟩
   refine hKc.out _ _ hS2 (fun hH2 => ?_)
   clear hKc Kc hH hH2 hS2 hr_ hb_
   refine norm_ (a' := ?_) ?_ ?_
   rotate_left
   · show Act.put _ (some 27) _ = _
     simp only [Act.put, List.setIfInBounds_toArray, List.set_cons_zero, List.set_cons_succ, i64_w, i32_w]
     rfl
   refine XReg.one (i := 6) (some 30) rfl rfl (by kernel_rfl) (by decide) (fun Kc hKc => ?_)
   refine goes_ Try.func52 (by kernel_rfl) rfl #[.slice A1 L1.length c1, .string x.1.2] (by rfl) rfl rfl (by (try simp only [List.map_toArray, List.map_cons, List.map_nil]); first | done | rfl) ?_
   refine (wire_Text.calls 200 A1 c1 L1 _ L2 _ HR1.out.2 HR1.out.1 HT2.out).mono ?_
   rintro e wc2 ⟨v_, rfl, hr_, hb_⟩
   refine ⟨_, rfl, ?_⟩
   have HBwc2 := Aside0.mk (HBwb.out.trans (hb_.mono HBwb.out.size))
   obtain ⟨A2, c2, rfl⟩ := Kd.R_slice hr_
   have HR2 := Aside0.mk (Kd.R_lower hr_ HBwb.out.size)
   have hS2 : wc2.cell? ⟨p, 0, none⟩ = some (.slice A L.length c) ∧ wc2.cell? ⟨K1, 0, none⟩ = some (.string x.1.1) ∧ wc2.cell? ⟨K1, 1, none⟩ = some (.string x.1.2) := ⟨(blk_cell (blk_below HC0.out HBwc2.out) 0).trans rfl, (blk_cell (blk_below HX1b.out HBwc2.out) 0).trans rfl, (blk_cell (blk_below HX1b.out HBwc2.out) 1).trans rfl⟩
   refine hKc.out _ _ hS2 (fun hH2 => ?_)
   have e0 := hS2.1
   have ef := blk_frozen (blk_below HC0.out HBwc2.out) 0
   clear hKc Kc hH2 hS2 hr_ hb_
   refine norm_ (a' := ?_) ?_ ?_
   rotate_left
   · show Act.put _ (some 30) _ = _
     simp only [Act.put, List.setIfInBounds_toArray, List.set_cons_zero, List.set_cons_succ, i64_w, i32_w]
     rfl
   refine XReg.last (i := 7) none rfl rfl (by kernel_rfl) (by decide) (fun Kc hKc => ?_)
   refine store_last rfl rfl (by first | (go_simp; done) | (go_simp; rfl)) ?_
   refine hKc.out _ _ ?_
   clear hKc Kc e0 ef
   refine done_ (by kernel_rfl) ?_
   obtain ⟨wd, hwd⟩ : ∃ wd, wc2.setCell ⟨p, 0, none⟩ (.slice A2 L2.length c2) = wd := ⟨_, rfl⟩
   have hcb := blk_below HC0.out HBwc2.out
   have HKd := Aside0.mk (show Keeps (fun k => k = p) wc2 wd from by rw [← hwd]; exact Keeps.setCell (M := fun k => k = p) (Keeps.refl _ wc2) (p := ⟨p, 0, none⟩) (.inl rfl) _)
   have HCp := Aside0.mk (show wd.heap[p]? = some (.cells #[.slice A2 L2.length c2] 100 (0, 0)) from by rw [← hwd]; exact blk_set hcb 0 _)
   have HX2d := Aside0.mk ((HKd.out.block (K1 + 1) (blk_lt (blk_below HX2b.out HBwc2.out)) (by have := HPB.out; omega)).trans (blk_below HX2b.out HBwc2.out))
   have HRd := Aside0.mk (Kd.R_reads' (C_keepR HR2.out hcb HKd.out)).2
   have HKb := Aside0.mk (show Keeps (fun k => k = p) Wb wd from (Keeps.of_below HBwc2.out).trans HKd.out)
   simp only [Exit.then]
   rw [hwd]
   clear hwd hcb HKd HR2 HR1 HBwc2 HBwb HBwa HCa HX1b HX2b HRc
   refine XRnd.startR_ (k := 10) (ds := [9]) (S := fun w' => w'.cell? ⟨p, 0, none⟩ = some (.slice A2 L2.length c2) ∧ w'.cell? ⟨K1 + 1, 0, none⟩ = some (.int .i64 x.2.1) ∧ w'.cell? ⟨K1 + 1, 1, none⟩ = some (.int .i64 x.2.2)) _ (by kernel_rfl) rfl rfl (by kernel_rfl) (by rintro ⟨_, _, h⟩; exact h)
    ⟨(blk_cell (blk_drew HCp.out) 0).trans rfl, (blk_cell (blk_drew HX2d.out) 0).trans rfl, (blk_cell (blk_drew HX2d.out) 1).trans rfl⟩ (fun hH => ?_)
   obtain ⟨we, hwe⟩ : ∃ we, wd.drew = we := ⟨_, rfl⟩
   have HBwe := Aside0.mk (show Below wd.heap.size wd we from by rw [← hwe]; exact below_drew1 (Below.refl _ wd))
   have HCe := Aside0.mk (Kd.C_below HRd.out.2 HBwe.out)
   rw [hwe] at hH ⊢
   clear hwe
   refine XReg.tk 0 31 (h := ?_)
   refine XReg.pu 1 32 (h := ?_)
   refine XReg.tk 2 33 (h := ?_)
   refine XReg.pu 3 34 (h := ?_)
   refine XReg.pu 5 36 (h := ?_)
   refine XReg.tk 6 37 (h := ?_)
   refine XReg.pu 7 38 (h := ?_)
   refine XReg.one (i := 4) (some 35) rfl rfl (by kernel_rfl) (by decide) (fun Kc hKc => ?_)
   refine goes_ Try.func51 (by kernel_rfl) rfl #[.slice A2 L2.length c2, .int .u64 (IntKind.u64.wrap x.2.1)] (by rfl) rfl rfl (by (try simp only [List.map_toArray, List.map_cons, List.map_nil]); first | done | rfl) ?_
   refine (wire_Number.calls 200 A2 c2 L2 _ L3 _ HCe.out HRd.out.1 HT3.out).mono ?_
   rintro e wf ⟨v_, rfl, hr_, hb_⟩
   refine ⟨_, rfl, ?_⟩
   have HBwf := Aside0.mk (HBwe.out.trans (hb_.mono HBwe.out.size))
   obtain ⟨A3, c3, rfl⟩ := Kd.R_slice hr_
   have HR3 := Aside0.mk (Kd.R_reads' hr_).2
   have hS2 : wf.cell? ⟨p, 0, none⟩ = some (.slice A2 L2.length c2) ∧ wf.cell? ⟨K1 + 1, 0, none⟩ = some (.int .i64 x.2.1) ∧ wf.cell? ⟨K1 + 1, 1, none⟩ = some (.int .i64 x.2.2) := ⟨(blk_cell (blk_below HCp.out HBwf.out) 0).trans rfl, (blk_cell (blk_below HX2d.out HBwf.out) 0).trans rfl, (blk_cell (blk_below HX2d.out HBwf.out) 1).trans rfl⟩
   refine hKc.out _ _ hS2 (fun hH2 => ?_)
   clear hKc Kc hH hH2 hS2 hr_ hb_
   refine norm_ (a' := ?_) ?_ ?_
   rotate_left
   · show Act.put _ (some 35) _ = _
     simp only [Act.put, List.setIfInBounds_toArray, List.set_cons_zero, List.set_cons_succ, i64_w, i32_w]
     rfl
   refine XReg.one (i := 8) (some 39) rfl rfl (by kernel_rfl) (by decide) (fun Kc hKc => ?_)
   refine goes_ Try.func51 (by kernel_rfl) rfl #[.slice A3 L3.length c3, .int .u64 (IntKind.u64.wrap x.2.2)] (by rfl) rfl rfl (by (try simp only [List.map_toArray, List.map_cons, List.map_nil]); first | done | rfl) ?_
   refine (wire_Number.calls 200 A3 c3 L3 _ L4 _ HR3.out.2 HR3.out.1 HT4.out).mono ?_
   rintro e wg ⟨v_, rfl, hr_, hb_⟩
   refine ⟨_, rfl, ?_⟩
   have HBwg := Aside0.mk (HBwf.out.trans (hb_.mono HBwf.out.size))
   obtain ⟨A4, c4, rfl⟩ := Kd.R_slice hr_
   have HR4 := Aside0.mk (Kd.R_lower hr_ HBwf.out.size)
   have hS2 : wg.cell? ⟨p, 0, none⟩ = some (.slice A2 L2.length c2) ∧ wg.cell? ⟨K1 + 1, 0, none⟩ = some (.int .i64 x.2.1) ∧ wg.cell? ⟨K1 + 1, 1, none⟩ = some (.int .i64 x.2.2) := ⟨(blk_cell (blk_below HCp.out HBwg.out) 0).trans rfl, (blk_cell (blk_below HX2d.out HBwg.out) 0).trans rfl, (blk_cell (blk_below HX2d.out HBwg.out) 1).trans rfl⟩
   refine hKc.out _ _ hS2 (fun hH2 => ?_)
   have e0 := hS2.1
   have ef := blk_frozen (blk_below HCp.out HBwg.out) 0
   clear hKc Kc hH2 hS2 hr_ hb_
   refine norm_ (a' := ?_) ?_ ?_
   rotate_left
   · show Act.put _ (some 39) _ = _
     simp only [Act.put, List.setIfInBounds_toArray, List.set_cons_zero, List.set_cons_succ, i64_w, i32_w]
     rfl
   refine XReg.last (i := 9) none rfl rfl (by kernel_rfl) (by decide) (fun Kc hKc => ?_)
   refine store_last rfl rfl (by first | (go_simp; done) | (go_simp; rfl)) ?_
   refine hKc.out _ _ ?_
   clear hKc Kc e0 ef
   refine done_ (by kernel_rfl) ?_
   obtain ⟨wh, hwh⟩ : ∃ wh, wg.setCell ⟨p, 0, none⟩ (.slice A4 L4.length c4) = wh := ⟨_, rfl⟩
   have hcb := blk_below HCp.out HBwg.out
   have hkh : Keeps (fun k => k = p) wg wh := by rw [← hwh]; exact Keeps.setCell (M := fun k => k = p) (Keeps.refl _ wg) (p := ⟨p, 0, none⟩) (.inl rfl) _
   have hch : wh.heap[p]? = some (.cells #[.slice A4 L4.length c4] 100 (0, 0)) := by rw [← hwh]; exact blk_set hcb 0 _
   have hrh := C_keepR HR4.out hcb hkh
   have hkb : Keeps (fun k => k = p) Wb wh := HKb.out.trans ((Keeps.of_below HBwg.out).trans hkh)
   have hpg := HPG.out
   have hb1 := HB1.out.2
   have him := HIM.out
   have hsz := HKb.out.size
   have hwb := HWB.out
   have hbs := HBW.out.size
   rw [hwh]
   show KeepOnW (fun k => k = w1.heap.size + 1 ∨ k = w1.heap.size) [] Wb wh ∧ KeepOnW (fun k => k = i ∨ k = m ∨ k = Bi) [93] Wb wh ∧ LayJ w p w1.heap.size LH (pre ++ [x]) wh
   refine ⟨KeepOnW.of_keeps hkb (fun k hk => ⟨by have := blk_lt HC0.out; have := HSZ.out; omega, by omega⟩) (fun k hk => by rw [hk]; exact not_fix_cells HC0.out (by simp)), KeepOnW.of_keeps hkb (fun k hk => ?_) (fun k hk => by rw [hk]; exact not_fix_cells HC0.out (by decide)), ?_⟩
   · have h1 := blk_lt HC0.out
     rcases hk with rfl | rfl | rfl
     · exact ⟨by omega, by omega⟩
     · exact ⟨by omega, by omega⟩
     · exact ⟨by omega, by omega⟩
   · have hbw := HBW.out
     refine ⟨⟨hkb.os.trans hbw.os, hkb.tape.trans hbw.tape, hkb.output.trans hbw.output, Nat.le_trans hbw.size hkb.size, fun k hk => (hkb.block k (Nat.lt_of_lt_of_le hk hbw.size) (by omega)).trans (hbw.block k hk)⟩, HPB.out, fun q hq => ?_, A4, c4, by rw [HLE.out]; exact hch, ?_⟩
     · rcases List.mem_append.1 hq with hq | hq
       · exact HZP.out q hq
       · rw [List.mem_singleton.1 hq]; exact HZX.out
     · rw [HLE.out]
       exact Kd.R_mono (Kd.R_lower (Kd.R_bound hrh) (by omega)) (fun k hk => by have := hk.2.1; omega)
  case done =>
   rintro xs W hS hI hsz hdf
   obtain ⟨hbw, hpB, hz, A, c, hc0, hR⟩ := hI
   have HS := Aside0.mk hS
   have HBW := Aside0.mk hbw
   have HDF := Aside0.mk hdf
   have e0 : W.cell? ⟨p, 0, none⟩ = some (.slice A (xs.foldl curI LH).length c) := (blk_cell hc0 0).trans rfl
   have hcv := Kd.C_string (P := Try.prog) (c := c) (src := 100) (dst := 9) Try.underlying100 Try.underlying5 Try.underlying9 (Kd.R_reads' hR).2.2
   have hkl := HLH.out
   clear hbw hpB hz hc0 hR hdf hS
   gi_wp2
   have hk9 := keeps_putObj (fun k => k = w1.heap.size) W w1.heap.size (.deferred none) rfl
   refine leave_mark HDF.out ?_
   obtain ⟨W9, hW9⟩ : ∃ W9, W.putObj w1.heap.size (.deferred none) = W9 := ⟨_, rfl⟩
   rw [hW9] at hk9 ⊢
   have hpg := HPG.out
   have hb1 := HB1.out.2
   refine ⟨.string (strOfNums (xs.foldl curI LH)), by first | (simp [results, Try.f27, go_sem]; done) | exact results_one _ _ _ _, xs, HS.out, by unfold layI; rw [hkl], ?_⟩
   have hbw := HBW.out
   exact ⟨hk9.os.trans hbw.os, hk9.tape.trans hbw.tape, hk9.output.trans hbw.output, Nat.le_trans hbw.size hk9.size, fun k hlt => (hk9.block k (Nat.lt_of_lt_of_le hlt hbw.size) (by omega)).trans (hbw.block k hlt)⟩
end Go.Proofs.Ytjejhgjdmbodiaa.PO
end
section
namespace Go.Proofs.Ytjejhgjdmbodiaa.PO
open Go.RowKit Go.Proofs.YtjejhgjdmbodiaaW.PrintWords Go.Proofs.YtjejhgjdmbodiaaW.PrintLast Go.Proofs.YtjejhgjdmbodiaaW.PrintMore
attribute [local go_sem] max2_int min2_int max_two min_two max_three min_three max_four min_four   -- for this text's walks alone
set_option linter.unusedVariables false
set_option linter.unusedSimpArgs false
def IsS91 (w0 W : World) (g : Nat) (f0 : ByteArray) (f1 : List (S99)) : Prop := ∃ A1 c1, W.heap[g]? = some (.cells #[.string f0, .slice A1 f1.length c1] 91 (0, 0)) ∧ w0.heap.size ≤ g ∧ Kd.C k99 w0 A1 f1.length f1
theorem IsS91.grown {w0 W : World} {g : Nat} {f0 : ByteArray} {f1 : List (S99)} {W1 : World} {row : Option Nat} (h : IsS91 w0 W g f0 f1) (hw : W.grownBy W1 row) (hne : some g ≠ row) : IsS91 w0 W1 g f0 f1 := by
 obtain ⟨A1, c1, hb, hg, hr1⟩ := h
 exact ⟨A1, c1, blk_grown hb hw hne, hg, hr1⟩
theorem IsS91.kept {w0 W : World} {g : Nat} {f0 : ByteArray} {f1 : List (S99)} {W1 : World} {S : Nat → Prop} (h : IsS91 w0 W g f0 f1) (hk : Kept W W1 S) (hne : ¬ S g) : IsS91 w0 W1 g f0 f1 := by
 obtain ⟨A1, c1, hb, hg, hr1⟩ := h
 exact ⟨A1, c1, blk_kept hb hk hne, hg, hr1⟩
theorem IsS91.below {w0 W : World} {g : Nat} {f0 : ByteArray} {f1 : List (S99)} {W1 : World} (h : IsS91 w0 W g f0 f1) (hw : Below W.heap.size W W1) : IsS91 w0 W1 g f0 f1 := h.grown (grown_of_below hw none) (by simp)
theorem IsS91.alloc {w0 W : World} {g : Nat} {f0 : ByteArray} {f1 : List (S99)} (h : IsS91 w0 W g f0 f1) (o : Obj) : IsS91 w0 (W.alloc o) g f0 f1 := h.below (below_alloc (Below.refl _ _) o)
theorem IsS91.drewN {w0 W : World} {g : Nat} {f0 : ByteArray} {f1 : List (S99)} (h : IsS91 w0 W g f0 f1) (m : Nat) : IsS91 w0 (W.drewN m) g f0 f1 := h
theorem IsS91.drew {w0 W : World} {g : Nat} {f0 : ByteArray} {f1 : List (S99)} (h : IsS91 w0 W g f0 f1) : IsS91 w0 W.drew g f0 f1 := h
theorem IsS91.at_ {w0 W : World} {g : Nat} {f0 : ByteArray} {f1 : List (S99)} {w' : World} {m : Nat} (hq : W.drewN m = w') (h : IsS91 w0 W g f0 f1) : IsS91 w0 w' g f0 f1 := by subst hq; exact IsS91.drewN h m
theorem IsS91.apart {w0 W : World} {g : Nat} {f0 : ByteArray} {f1 : List (S99)} {α : Type} {d : Kd α} {e : Nat} {base : Nat} {ok : Nat → Prop} {v : Value} {xs : List α} (h : IsS91 w0 W g f0 f1) (ho : d.R e W base ok v xs) (ht : ∀ q, q ∈ e :: d.E → q ≠ 91) : d.R e W base (fun k => ok k ∧ k ≠ g) v xs := by
 obtain ⟨A1, c1, hb, hg, hr1⟩ := h
 exact Kd.R_types ho hb ht
theorem IsS91.own_ne {w0 W : World} {g : Nat} {f0 : ByteArray} {f1 : List (S99)} {α : Type} {d : Kd α} {e : Nat} {base : Nat} {ok : Nat → Prop} {v : Value} {xs : List α} (h : IsS91 w0 W g f0 f1) (ho : d.R e W base ok v xs) (ht : e ≠ 91) : some g ≠ v.ownBlock := by
 obtain ⟨A1, c1, hb, hg, hr1⟩ := h
 exact Kd.R_ne ho hb ht
theorem IsS91.lt {w0 W : World} {g : Nat} {f0 : ByteArray} {f1 : List (S99)} (h : IsS91 w0 W g f0 f1) : g < W.heap.size := by
 obtain ⟨A1, c1, hb, hg, hr1⟩ := h
 exact blk_lt hb
end Go.Proofs.Ytjejhgjdmbodiaa.PO
end
section
namespace Go.Proofs.Ytjejhgjdmbodiaa.PO
open Go.RowKit Go.Proofs.YtjejhgjdmbodiaaW.PrintWords Go.Proofs.YtjejhgjdmbodiaaW.PrintLast Go.Proofs.YtjejhgjdmbodiaaW.PrintMore Go.Proofs.Ytjejhgjdmbodiaa.XW
open Go.Proofs.Ytjejhgjdmbodiaa.XRange Go.Proofs.Ytjejhgjdmbodiaa.XMap
set_option linter.unusedVariables false
set_option linter.unusedSimpArgs false
def keyC (c : S99) : Whose := (c.f0, c.f1)
def placeL : List S99 → Whose → Nat × Bool
 | [], _ => (0, false)
 | p :: L, k => if kLt (keyC p) k = true then ((placeL L k).1 + 1, (placeL L k).2) else (0, decide (keyC p = k))
theorem rd_drop99 (l : List S99) (i : Nat) (h : i < l.length) : l.drop i = rd_T99 l i :: l.drop (i + 1) := by
 have : rd_T99 l (i : Int) = l[i] := by simp [rd_T99, List.getD, h]
 rw [this, List.drop_eq_getElem_cons h]
theorem placeL_step {L : List S99} {j : Nat} {x : S99} {k : Whose} {r : Nat × Bool} (h : placeL L k = ((placeL (L.drop j) k).1 + j, (placeL (L.drop j) k).2)) (hd : L.drop j = x :: L.drop (j + 1)) (hx : kLt (keyC x) k = true) :
 placeL L k = ((placeL (L.drop (j + 1)) k).1 + (j + 1), (placeL (L.drop (j + 1)) k).2) := by
 rw [h, hd]
 simp only [placeL, if_pos hx]
 rw [Prod.mk.injEq]
 exact ⟨by omega, rfl⟩
theorem placeL_stop {L : List S99} {j : Nat} {x : S99} {k : Whose} (h : placeL L k = ((placeL (L.drop j) k).1 + j, (placeL (L.drop j) k).2)) (hd : L.drop j = x :: L.drop (j + 1)) (hx : kLt (keyC x) k = false) :
 placeL L k = (j, decide (keyC x = k)) := by
 rw [h, hd]
 simp only [placeL]
 rw [if_neg (by rw [hx]; decide), Nat.zero_add]
theorem placeL_end {L : List S99} {j : Nat} {k : Whose} (h : placeL L k = ((placeL (L.drop j) k).1 + j, (placeL (L.drop j) k).2)) (hj : L.length ≤ j) (hj2 : j ≤ L.length) : placeL L k = (j, false) := by
 rw [h, List.drop_eq_nil_of_le hj]
 simp [placeL]
theorem j_facts {j n : Nat} (h : j < n) : (0 ≤ (j : Int) ∧ (j : Int) < (n : Int)) ∧ decide ((j : Int) < (n : Int)) = true := ⟨⟨by omega, by omega⟩, decide_eq_true (by omega)⟩
set_option maxHeartbeats 8000000 in
set_option maxRecDepth 100000 in
theorem refPlace_calls (g : Nat) (who : ByteArray) (L : List S99) (A : Option Addr) (c : Nat) (a b : ByteArray) (w : World) (hg : w.heap[g]? = some (.cells #[.string who, .slice A L.length c] 91 (0, 0))) (hC : Kd.C k99 w A L.length L) :
 Calls Try.prog 50 #[.pointer (some ⟨g, 0, none⟩), .string a, .string b] w fun e w' => e = .returned (.tuple #[.int .i64 ((placeL L (a, b)).1 : Int), .bool (placeL L (a, b)).2]) ∧ Below w.heap.size w w' := by
 have HC := Aside0.mk hC
 have HG := Aside0.mk hg
 have hlm : L.length ≤ 9223372036854775807 := hC.2.1
 obtain ⟨N, hN⟩ : ∃ N, w.heap.size = N := ⟨_, rfl⟩
 clear hC hg
 go_enter Try.func50, Try.ntmps50
 go_wp2
 go_loopw [8] (fun v8 wr => ∃ j : Nat, j ≤ L.length ∧ v8 = .int .i64 j ∧ Aside0 (placeL L (a, b) = ((placeL (L.drop j) (a, b)).1 + j, (placeL (L.drop j) (a, b)).2)) ∧ Aside0 (Below w.heap.size w wr)) (fun v8 _ => L.length - (intOf v8).toNat)
 case atStart => exact ⟨0, Nat.zero_le _, rfl, ⟨by simp⟩, ⟨Below.refl _ _⟩⟩
 case round =>
  obtain ⟨j, hj, rfl, HJ, HB⟩ := hrel
  have HGr := Aside0.mk (blk_below HG.out HB.out)
  have m1 : wr.cell? ⟨g, 1, none⟩ = some (.slice A L.length c) := (blk_cell HGr.out 1).trans rfl
  by_cases hlt : j < L.length
  · obtain ⟨hb3, q1⟩ := j_facts hlt
    obtain ⟨ad, rfl, f0, f1, _, _⟩ := at_T99 (Kd.C_below HC.out HB.out) (j : Int) hb3.1 hb3.2
    simp only [Int.toNat_natCast] at f0 f1
    obtain ⟨x, hx⟩ : ∃ x, rd_T99 L (j : Int) = x := ⟨_, rfl⟩
    rw [hx] at f0 f1
    have HD := Aside0.mk (show L.drop j = x :: L.drop (j + 1) from by rw [← hx]; exact rd_drop99 L j hlt)
    clear hx
    have HBd := Aside0.mk (show Below w.heap.size w wr.drew from below_drew1 HB.out)
    by_cases k1 : Op.bytesLess x.f0.toList a.toList = true
    · have HK := Aside0.mk (placeL_step (r := (0, false)) HJ.out HD.out (kLt_iff.2 (.inl k1)))
      go_wp2
      refine ⟨⟨j + 1, hlt, by go_num, HK, HB⟩, ?_⟩
      simp [intOf]
      omega
    · have k1' : Op.bytesLess x.f0.toList a.toList = false := by simpa using k1
      by_cases k2 : x.f0.toList = a.toList
      · have k2' : (x.f0.toList == a.toList) = true := by simp [k2]
        have HE := Aside0.mk (bytes_inj k2)
        clear k2
        by_cases k3 : Op.bytesLess x.f1.toList b.toList = true
        · have HK := Aside0.mk (placeL_step (r := (0, false)) HJ.out HD.out (kLt_iff.2 (.inr ⟨HE.out, k3⟩)))
          go_wp2
          refine ⟨⟨j + 1, hlt, by go_num, HK, HB⟩, ?_⟩
          simp [intOf]
          omega
        · have k3' : Op.bytesLess x.f1.toList b.toList = false := by simpa using k3
          have hkl : kLt (keyC x) (a, b) = false := by
           cases h : kLt (keyC x) (a, b) with
           | false => rfl
           | true =>
             rcases kLt_iff.1 h with h | ⟨_, h⟩
             · exact absurd h k1
             · exact absurd h k3
          have HS := Aside0.mk (placeL_stop HJ.out HD.out hkl)
          have HQ := Aside0.mk (show (x.f1.toList == b.toList) = decide (keyC x = (a, b)) from by
           rw [Bool.eq_iff_iff, beq_iff_eq, decide_eq_true_iff]
           unfold keyC
           rw [Prod.mk.injEq]
           exact ⟨fun h => ⟨HE.out, bytes_inj h⟩, fun h => by rw [h.2]⟩)
          clear hkl k1 k3
          go_wp2
          refine start_ (n := 34) (ds := []) (S := fun w' => w'.cell? ⟨g, 1, none⟩ = some (.slice (some ad) L.length c) ∧ w'.cell? (ad.add (j * 4)) = some (.string x.f0) ∧ w'.cell? ⟨(ad.add (j * 4)).block, (ad.add (j * 4)).off + 1, none⟩ = some (.string x.f1)) _ (by kernel_rfl) rfl rfl ⟨m1, f0, f1⟩ (fun hH => ?_)
          refine XReg.pu 0 54 (h := ?_)
          refine XReg.pu 1 55 (h := ?_)
          refine XReg.pu 2 56 (h := ?_)
          refine XReg.pu 3 57 (h := ?_)
          refine XReg.pu 4 58 (h := ?_)
          refine XReg.tk 5 59 (h := ?_)
          refine XReg.pu 6 60 (h := ?_)
          refine XReg.pu 7 61 (h := ?_)
          try rw [q1]
          refine XReg.pu 8 62 (h := ?_)
          refine XReg.pu 9 63 (h := ?_)
          refine XReg.pu 10 64 (h := ?_)
          refine XReg.pu 11 65 (h := ?_)
          refine XReg.tk 12 66 (h := ?_)
          refine XReg.pu 13 67 (h := ?_)
          refine XReg.pu 14 68 (h := ?_)
          refine XReg.pu 15 69 (h := ?_)
          refine XReg.tk 16 70 (h := ?_)
          refine XReg.pu 17 71 (h := ?_)
          refine XReg.pu 18 72 (h := ?_)
          try rw [k2']
          refine XReg.pu 19 73 (h := ?_)
          refine XReg.pu 20 74 (h := ?_)
          refine XReg.pu 21 75 (h := ?_)
          refine XReg.pu 22 76 (h := ?_)
          refine XReg.pu 23 77 (h := ?_)
          refine XReg.tk 24 78 (h := ?_)
          refine XReg.pu 25 79 (h := ?_)
          refine XReg.pu 26 80 (h := ?_)
          refine XReg.pu 27 81 (h := ?_)
          refine XReg.tk 28 82 (h := ?_)
          refine XReg.pu 29 83 (h := ?_)
          refine XReg.pu 30 84 (h := ?_)
          refine XReg.pu 31 85 (h := ?_)
          refine XReg.pu 32 6 (h := ?_)
          refine XReg.pu 33 7 (h := ?_)
          refine done_ (by kernel_rfl) ?_
          go_wp2
          go_ret2
          rw [HS.out, ← HQ.out]
          exact ⟨rfl, by first | exact HBd.out | (rw [← hN]; exact HBd.out)⟩
      · have k2' : (x.f0.toList == a.toList) = false := by simp [k2]
        have hkl : kLt (keyC x) (a, b) = false := by
         cases h : kLt (keyC x) (a, b) with
         | false => rfl
         | true =>
           rcases kLt_iff.1 h with h | ⟨h, _⟩
           · exact absurd h k1
           · exact absurd (by rw [show x.f0 = a from h]) k2
        have HS := Aside0.mk (placeL_stop HJ.out HD.out hkl)
        have HQ := Aside0.mk (show decide (keyC x = (a, b)) = false from decide_eq_false (fun h => k2 (by rw [show x.f0 = a from congrArg Prod.fst h])))
        clear hkl k1
        go_wp2
        refine start_ (n := 34) (ds := []) (S := fun w' => w'.cell? ⟨g, 1, none⟩ = some (.slice (some ad) L.length c) ∧ w'.cell? (ad.add (j * 4)) = some (.string x.f0) ∧ True) _ (by kernel_rfl) rfl rfl ⟨m1, f0, trivial⟩ (fun hH => ?_)
        refine XReg.pu 0 54 (h := ?_)
        refine XReg.pu 1 55 (h := ?_)
        refine XReg.pu 2 56 (h := ?_)
        refine XReg.pu 3 57 (h := ?_)
        refine XReg.pu 4 58 (h := ?_)
        refine XReg.tk 5 59 (h := ?_)
        refine XReg.pu 6 60 (h := ?_)
        refine XReg.pu 7 61 (h := ?_)
        try rw [q1]
        refine XReg.pu 8 62 (h := ?_)
        refine XReg.pu 9 63 (h := ?_)
        refine XReg.pu 10 64 (h := ?_)
        refine XReg.pu 11 65 (h := ?_)
        refine XReg.tk 12 66 (h := ?_)
        refine XReg.pu 13 67 (h := ?_)
        refine XReg.pu 14 68 (h := ?_)
        refine XReg.pu 15 69 (h := ?_)
        refine XReg.tk 16 70 (h := ?_)
        refine XReg.pu 17 71 (h := ?_)
        refine XReg.pu 18 72 (h := ?_)
        try rw [k2']
        refine XReg.pu 19 73 (h := ?_)
        refine XReg.pu 20 74 (h := ?_)
        refine XReg.pn 21 75 (h := ?_)
        refine XReg.pn 22 76 (h := ?_)
        refine XReg.pn 23 77 (h := ?_)
        refine XReg.pn 24 78 (h := ?_)
        refine XReg.pn 25 79 (h := ?_)
        refine XReg.pn 26 80 (h := ?_)
        refine XReg.pn 27 81 (h := ?_)
        refine XReg.pn 28 82 (h := ?_)
        refine XReg.pn 29 83 (h := ?_)
        refine XReg.pn 30 84 (h := ?_)
        refine XReg.pu 31 85 (h := ?_)
        refine XReg.pu 32 6 (h := ?_)
        refine XReg.pu 33 7 (h := ?_)
        refine done_ (by kernel_rfl) ?_
        go_wp2
        go_ret2
        rw [HS.out, HQ.out]
        exact ⟨rfl, by first | exact HBd.out | (rw [← hN]; exact HBd.out)⟩
  · have q1 : decide ((j : Int) < (L.length : Int)) = false := decide_eq_false (by omega)
    have HS := Aside0.mk (placeL_end HJ.out (by omega) hj)
    have HBd := Aside0.mk (show Below w.heap.size w wr.drew from below_drew1 HB.out)
    go_wp2
    refine start_ (n := 34) (ds := []) (S := fun w' => w'.cell? ⟨g, 1, none⟩ = some (.slice A L.length c) ∧ True) _ (by kernel_rfl) rfl rfl ⟨m1, trivial⟩ (fun hH => ?_)
    refine XReg.pu 0 54 (h := ?_)
    refine XReg.pu 1 55 (h := ?_)
    refine XReg.pu 2 56 (h := ?_)
    refine XReg.pu 3 57 (h := ?_)
    refine XReg.pu 4 58 (h := ?_)
    refine XReg.tk 5 59 (h := ?_)
    refine XReg.pu 6 60 (h := ?_)
    refine XReg.pu 7 61 (h := ?_)
    try rw [q1]
    refine XReg.pu 8 62 (h := ?_)
    refine XReg.pn 9 63 (h := ?_)
    refine XReg.pn 10 64 (h := ?_)
    refine XReg.pn 11 65 (h := ?_)
    refine XReg.pn 12 66 (h := ?_)
    refine XReg.pn 13 67 (h := ?_)
    refine XReg.pn 14 68 (h := ?_)
    refine XReg.pn 15 69 (h := ?_)
    refine XReg.pn 16 70 (h := ?_)
    refine XReg.pn 17 71 (h := ?_)
    refine XReg.pn 18 72 (h := ?_)
    refine XReg.pu 19 73 (h := ?_)
    refine XReg.pu 20 74 (h := ?_)
    refine XReg.pn 21 75 (h := ?_)
    refine XReg.pn 22 76 (h := ?_)
    refine XReg.pn 23 77 (h := ?_)
    refine XReg.pn 24 78 (h := ?_)
    refine XReg.pn 25 79 (h := ?_)
    refine XReg.pn 26 80 (h := ?_)
    refine XReg.pn 27 81 (h := ?_)
    refine XReg.pn 28 82 (h := ?_)
    refine XReg.pn 29 83 (h := ?_)
    refine XReg.pn 30 84 (h := ?_)
    refine XReg.pu 31 85 (h := ?_)
    refine XReg.pu 32 6 (h := ?_)
    refine XReg.pu 33 7 (h := ?_)
    refine done_ (by kernel_rfl) ?_
    go_wp2
    go_ret2
    rw [HS.out]
    exact ⟨rfl, by first | exact HBd.out | (rw [← hN]; exact HBd.out)⟩
end Go.Proofs.Ytjejhgjdmbodiaa.PO
end
section
namespace Go.Proofs.Ytjejhgjdmbodiaa.PO
open Go.RowKit Go.Proofs.YtjejhgjdmbodiaaW.PrintWords Go.Proofs.YtjejhgjdmbodiaaW.PrintLast Go.Proofs.YtjejhgjdmbodiaaW.PrintMore Go.Proofs.Ytjejhgjdmbodiaa.XW
open Go.Proofs.Ytjejhgjdmbodiaa.XRange Go.Proofs.Ytjejhgjdmbodiaa.XMap
set_option linter.unusedVariables false
set_option linter.unusedSimpArgs false
def toC (p : Whose × Curs) : S99 := ⟨p.1.1, p.1.2, p.2.1, p.2.2⟩
theorem placeL_lt {p : Whose × Curs} {E : List (Whose × Curs)} {k : Whose} (h : kLt p.1 k = true) : placeL ((p :: E).map toC) k = ((placeL (E.map toC) k).1 + 1, (placeL (E.map toC) k).2) := if_pos h
theorem placeL_ge {p : Whose × Curs} {E : List (Whose × Curs)} {k : Whose} (h : ¬ kLt p.1 k = true) : placeL ((p :: E).map toC) k = (0, decide (p.1 = k)) := if_neg h
theorem place_none : ∀ (E : List (Whose × Curs)) (k : Whose) (v : Curs), (placeL (E.map toC) k).2 = false → (placeL (E.map toC) k).1 ≤ E.length ∧ insK E k v = E.take (placeL (E.map toC) k).1 ++ (k, v) :: E.drop (placeL (E.map toC) k).1
 | [], k, v, _ => ⟨Nat.le_refl _, rfl⟩
 | p :: E, k, v, h => by
   unfold insK
   by_cases hl : kLt p.1 k = true
   · rw [placeL_lt hl] at h ⊢
     rw [if_pos hl]
     obtain ⟨h1, h2⟩ := place_none E k v h
     exact ⟨by simp; exact h1, by rw [h2]; rfl⟩
   · rw [placeL_ge hl] at h ⊢
     have he : ¬ p.1 = k := of_decide_eq_false h
     rw [if_neg hl, if_neg he]
     exact ⟨Nat.zero_le _, rfl⟩
theorem place_some : ∀ (E : List (Whose × Curs)) (k : Whose) (v : Curs), (placeL (E.map toC) k).2 = true → (placeL (E.map toC) k).1 < E.length ∧ (∃ u, E[(placeL (E.map toC) k).1]? = some (k, u) ∧ XMap.look E k = some u) ∧ insK E k v = E.set (placeL (E.map toC) k).1 (k, v)
 | [], k, v, h => by simp [placeL] at h
 | p :: E, k, v, h => by
   unfold insK
   by_cases hl : kLt p.1 k = true
   · rw [placeL_lt hl] at h ⊢
     rw [if_pos hl]
     obtain ⟨h1, ⟨u, h2, h3⟩, h4⟩ := place_some E k v h
     have hne : p.1 ≠ k := fun e => by rw [e, kLt_irr] at hl; cases hl
     exact ⟨by simp; exact h1, ⟨u, h2, by rw [look_cons, if_neg hne]; exact h3⟩, by rw [h4]; rfl⟩
   · rw [placeL_ge hl] at h ⊢
     have he : p.1 = k := of_decide_eq_true h
     rw [if_neg hl, if_pos he]
     exact ⟨by simp, ⟨p.2, by simp [← he], by rw [look_cons, if_pos he]⟩, rfl⟩
theorem place_look {E : List (Whose × Curs)} (hs : srt E) (k : Whose) (h : (placeL (E.map toC) k).2 = false) : XMap.look E k = none := by
 induction E with
 | nil => rfl
 | cons p E ih =>
   have hp := List.pairwise_cons.1 hs
   by_cases hl : kLt p.1 k = true
   · rw [placeL_lt hl] at h
     have hne : p.1 ≠ k := fun e => by rw [e, kLt_irr] at hl; cases hl
     rw [look_cons, if_neg hne]
     exact ih hp.2 h
   · rw [placeL_ge hl] at h
     have he : ¬ p.1 = k := of_decide_eq_false h
     have hk : kLt k p.1 = true := by
      cases hkp : kLt k p.1 with
      | true => rfl
      | false => exact absurd (kLt_tri (by simpa using hl) hkp) he
     exact look_less (fun q hq => by
      rcases List.mem_cons.1 hq with rfl | hq
      · exact hk
      · exact kLt_trans hk (hp.1 q hq))
theorem rd_toC {E : List (Whose × Curs)} {i : Nat} {k : Whose} {u : Curs} (h : E[i]? = some (k, u)) : rd_T99 (E.map toC) (i : Int) = ⟨k.1, k.2, u.1, u.2⟩ := by
 have h1 : (E.map toC)[i]? = some (toC (k, u)) := by rw [List.getElem?_map, h]; rfl
 unfold rd_T99
 rw [Int.toNat_natCast, List.getD_eq_getElem?_getD, h1]
 rfl
set_option maxHeartbeats 8000000 in
set_option maxRecDepth 100000 in
theorem refCursor_calls (g : Nat) (who : ByteArray) (E : List (Whose × Curs)) (A : Option Addr) (c : Nat) (a b : ByteArray) (w : World) (hg : w.heap[g]? = some (.cells #[.string who, .slice A (E.map toC).length c] 91 (0, 0))) (hC : Kd.C k99 w A (E.map toC).length (E.map toC)) (hs : srt E) :
 Calls Try.prog 26 #[.pointer (some ⟨g, 0, none⟩), .string a, .string b] w fun e w' => e = .returned (.tuple #[.int .i64 (curOf E (a, b)).1, .int .i64 (curOf E (a, b)).2]) ∧ Below w.heap.size w w' := by
 have HC := Aside0.mk hC
 have HG := Aside0.mk hg
 have hlm : (E.map toC).length ≤ 9223372036854775807 := hC.2.1
 obtain ⟨N, hN⟩ : ∃ N, w.heap.size = N := ⟨_, rfl⟩
 obtain ⟨⟨i, hb⟩, hp⟩ : ∃ p, placeL (E.map toC) (a, b) = p := ⟨_, rfl⟩
 have HP := Aside0.mk hp
 have HS := Aside0.mk hs
 obtain ⟨⟨cs, cm⟩, hu⟩ : ∃ u : Curs, curOf E (a, b) = u := ⟨_, rfl⟩
 rw [hu]
 have HU := Aside0.mk hu
 clear hC hg hp hs hu
 go_enter Try.func26, Try.ntmps26
 go_wp2_with fail
 refine (refPlace_calls g who (E.map toC) A c a b w HG.out HC.out).mono ?_
 rw [HP.out]
 rintro e w1 ⟨rfl, hb1⟩
 have HB1 := Aside0.mk hb1
 clear hb1
 cases hb with
 | false =>
   have hl : curOf E (a, b) = (0, 0) := by
    unfold curOf
    rw [place_look HS.out (a, b) (by rw [HP.out])]
    rfl
   obtain ⟨h1, h2⟩ := Prod.mk.inj (hl.symm.trans HU.out)
   subst h1
   subst h2
   clear hl
   dsimp only
   go_wp2
   go_ret2
   exact ⟨rfl, by first | exact HB1.out | (rw [← hN]; exact HB1.out)⟩
 | true =>
   obtain ⟨h1, ⟨u, h2, h3⟩, _⟩ := place_some E (a, b) (0, 0) (by rw [HP.out])
   rw [HP.out] at h1 h2
   have hl : curOf E (a, b) = u := by unfold curOf; rw [h3]; rfl
   obtain rfl : u = (cs, cm) := hl.symm.trans HU.out
   have hr := rd_toC h2
   have hin : i < (E.map toC).length := by rw [List.length_map]; exact h1
   have hi3 := (j_facts hin).1
   obtain ⟨ad, rfl, _, _, f2, f3⟩ := at_T99 (Kd.C_below HC.out HB1.out) (i : Int) hi3.1 hi3.2
   rw [hr] at f2 f3
   simp only [Int.toNat_natCast] at f2 f3
   dsimp only
   have m1 : w1.cell? ⟨g, 1, none⟩ = some (.slice (some ad) (E.map toC).length c) := (blk_cell (blk_below HG.out HB1.out) 1).trans rfl
   obtain ⟨n, hn⟩ : ∃ n, (E.map toC).length = n := ⟨_, rfl⟩
   rw [hn] at m1 hi3 hlm
   clear h1 h2 h3 hl hr hin hn
   go_wp2
   refine start_ (n := 18) (ds := []) (S := fun w' => w'.cell? ⟨g, 1, none⟩ = some (.slice (some ad) n c) ∧ w'.cell? ⟨(ad.add (i * 4)).block, (ad.add (i * 4)).off + 2, none⟩ = some (.int .i64 cs) ∧ w'.cell? ⟨(ad.add (i * 4)).block, (ad.add (i * 4)).off + 3, none⟩ = some (.int .i64 cm)) _ (by kernel_rfl) rfl rfl ⟨m1, f2, f3⟩ (fun hH => ?_)
   refine XReg.pu 0 19 (h := ?_)
   refine XReg.pu 1 20 (h := ?_)
   refine XReg.pu 2 21 (h := ?_)
   refine XReg.tk 3 22 (h := ?_)
   refine XReg.pu 4 23 (h := ?_)
   refine XReg.pu 5 24 (h := ?_)
   refine XReg.pu 6 25 (h := ?_)
   refine XReg.tk 7 26 (h := ?_)
   refine XReg.pu 8 27 (h := ?_)
   refine XReg.pu 9 28 (h := ?_)
   refine XReg.pu 10 29 (h := ?_)
   refine XReg.tk 11 30 (h := ?_)
   refine XReg.pu 12 31 (h := ?_)
   refine XReg.pu 13 32 (h := ?_)
   refine XReg.pu 14 33 (h := ?_)
   refine XReg.tk 15 34 (h := ?_)
   refine XReg.pu 16 6 (h := ?_)
   refine XReg.pu 17 7 (h := ?_)
   refine done_ (by kernel_rfl) ?_
   go_wp2
   go_ret2
   exact ⟨rfl, by first | exact below_drew1 HB1.out | (rw [← hN]; exact below_drew1 HB1.out)⟩
end Go.Proofs.Ytjejhgjdmbodiaa.PO
end
section
namespace Go.Proofs.Ytjejhgjdmbodiaa.PO
open Go.RowKit Go.Proofs.YtjejhgjdmbodiaaW.PrintWords Go.Proofs.YtjejhgjdmbodiaaW.PrintLast Go.Proofs.YtjejhgjdmbodiaaW.PrintMore Go.Proofs.Ytjejhgjdmbodiaa.XW
open Go.Proofs.Ytjejhgjdmbodiaa.XRange Go.Proofs.Ytjejhgjdmbodiaa.XMap
set_option linter.unusedVariables false
set_option linter.unusedSimpArgs false
theorem R99_f2 {W : World} {base g n cap : Nat} {ok : Nat → Prop} {xs : List S99} (h : Kd.R k99 99 W base ok (.slice (some ⟨g, 0, none⟩) n cap) xs) (i : Nat) (hi : i < n) (s : Int) :
 Kd.R k99 99 (W.setCell ⟨g, i * 4 + 2, none⟩ (.int .i64 s)) base ok (.slice (some ⟨g, 0, none⟩) n cap) (xs.set i ⟨(rd_T99 xs i).f0, (rd_T99 xs i).f1, s, (rd_T99 xs i).f3⟩) ∧ W.grownBy (W.setCell ⟨g, i * 4 + 2, none⟩ (.int .i64 s)) (some g) := by
 obtain ⟨c, hcl, hM, hcc, _⟩ := Kd.R_elem h z99 (i : Int) (by omega) (by omega)
 have hc := k99_openM hM
 subst hc
 have h1 := Kd.R_seg (seg := [.int .i64 s]) (j := 2) (x' := ⟨(rd_T99 xs i).f0, (rd_T99 xs i).f1, s, (rd_T99 xs i).f3⟩) (okp := fun _ => False) h (i : Int) (by omega) (by omega) hcl (fun j u hu => hcc j u hu) (by show 2 + 1 ≤ 4; omega) (k99_mkM _ _ _ _) (fun _ hk => hk.elim)
 rw [Int.toNat_natCast] at h1
 exact h1
theorem R99_f3 {W : World} {base g n cap : Nat} {ok : Nat → Prop} {xs : List S99} (h : Kd.R k99 99 W base ok (.slice (some ⟨g, 0, none⟩) n cap) xs) (i : Nat) (hi : i < n) (s : Int) :
 Kd.R k99 99 (W.setCell ⟨g, i * 4 + 3, none⟩ (.int .i64 s)) base ok (.slice (some ⟨g, 0, none⟩) n cap) (xs.set i ⟨(rd_T99 xs i).f0, (rd_T99 xs i).f1, (rd_T99 xs i).f2, s⟩) ∧ W.grownBy (W.setCell ⟨g, i * 4 + 3, none⟩ (.int .i64 s)) (some g) := by
 obtain ⟨c, hcl, hM, hcc, _⟩ := Kd.R_elem h z99 (i : Int) (by omega) (by omega)
 have hc := k99_openM hM
 subst hc
 have h1 := Kd.R_seg (seg := [.int .i64 s]) (j := 3) (x' := ⟨(rd_T99 xs i).f0, (rd_T99 xs i).f1, (rd_T99 xs i).f2, s⟩) (okp := fun _ => False) h (i : Int) (by omega) (by omega) hcl (fun j u hu => hcc j u hu) (by show 3 + 1 ≤ 4; omega) (k99_mkM _ _ _ _) (fun _ hk => hk.elim)
 rw [Int.toNat_natCast] at h1
 exact h1
structure RefIn (G : Nat → Prop) (w : World) (g : Nat) (who : ByteArray) (E : List (Whose × Curs)) : Prop where
 ng : ¬ G g
 ex : ∃ A c, w.heap[g]? = some (.cells #[.string who, .slice A (E.map toC).length c] 91 (0, 0)) ∧ Kd.R k99 99 w 0 G (.slice A (E.map toC).length c) (E.map toC)
theorem RefIn.step {G : Nat → Prop} {w w1 : World} {g : Nat} {who : ByteArray} {E : List (Whose × Curs)} (h : RefIn G w g who E) (h1 : w1.heap[g]? = w.heap[g]?) (h2 : ∀ k, G k → k < w.heap.size → w1.heap[k]? = w.heap[k]?) : RefIn G w1 g who E := by
 obtain ⟨ng, A, c, hg, hR⟩ := h
 exact ⟨ng, A, c, h1.trans hg, Kd.R_step hR h2⟩
theorem RefIn.below {G : Nat → Prop} {w w1 : World} {g : Nat} {who : ByteArray} {E : List (Whose × Curs)} (h : RefIn G w g who E) (hb : Below w.heap.size w w1) : RefIn G w1 g who E := by
 obtain ⟨ng, A, c, hg, hR⟩ := h
 exact ⟨ng, A, c, blk_below hg hb, Kd.R_below hR hb⟩
theorem refNewIn_calls (who : ByteArray) (hs : who.size ≤ 9223372036854775807) (w : World) : Calls Try.prog 22 #[.string who] w fun e w' =>
 (isNameB who = true → ∃ g, e = .returned (.tuple #[.pointer (some ⟨g, 0, none⟩), .int .i64 0]) ∧ RefIn (fun k => k ≠ g ∧ w.heap.size ≤ k) w' g who [] ∧ w.heap.size ≤ g) ∧ (isNameB who = false → e = .returned (.tuple #[.pointer none, .int .i64 2])) ∧ Below w.heap.size w w' := by
 obtain ⟨b, hb⟩ : ∃ b, isNameB who = b := ⟨_, rfl⟩
 go_enter Try.func22, Try.ntmps22
 go_wp2_with fail
 refine (refName_calls who hs w).mono ?_
 rw [hb]
 rintro e w1 ⟨rfl, hb1⟩
 have HB1 := Aside0.mk hb1
 have HBN := Aside0.mk hb
 clear hb1 hb
 cases b with
 | false =>
   go_wp2
   go_ret2
   exact ⟨fun h => (by rw [HBN.out] at h; cases h), fun _ => rfl, HB1.out⟩
 | true =>
   go_wp2
   go_ret2
   have hbx := (Below.refl w1.heap.size w1).alloc (Nat.le_refl _) (.cells #[.string who, .slice none 0 0] 91)
   exact ⟨fun _ => ⟨w1.heap.size, rfl, ⟨fun h => h.1 rfl, none, 0, World.alloc_heap_new w1 _, Kd.R_nil _ _ _ _ _⟩, HB1.out.size⟩, fun h => (by rw [HBN.out] at h; cases h), HB1.out.trans (hbx.mono HB1.out.size)⟩
end Go.Proofs.Ytjejhgjdmbodiaa.PO
end
