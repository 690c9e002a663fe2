/- What the rows of this claim use, out of the texts of this work (TD). No condition beyond those that each statement names. -/
import Derived.Laws.CopyRow
import Derived.Laws.Tables
import Derived.Test.YtenbkljgmgdegaaQbTP
namespace Go.Proofs.Ytenbkljgmgdegaa.PO
open Go.RowKit Go.Proofs.YtenbkljgmgdegaaW.PrintWords Go.Proofs.YtenbkljgmgdegaaW.PrintLast Go.Proofs.YtenbkljgmgdegaaW.PrintMore
open Go.Proofs.Ytenbkljgmgdegaa.XRange Go.Proofs.Ytenbkljgmgdegaa.XMap
set_option linter.unusedVariables false
set_option linter.unusedSimpArgs false
def z8 : List Value := [.string ⟨#[]⟩, .int .i64 0, .slice none 0 0, .string ⟨#[]⟩, .int .i64 0, .string ⟨#[]⟩, .int .i64 0, .slice none 0 0]
theorem clear_tail {W : World} {base g n c : Nat} {ok : Nat → Prop} {xs : List S36} (HO : k36.R 36 W base ok (.slice (some ⟨g, 0, none⟩) n c) xs) (hc : n < c) (ty : TypeId) (c2 : Nat) :
    ∃ w1, (Builtin.clear_ #[22] ty #[.slice (some ⟨g, n * 8, none⟩) 1 c2]).run Try.prog W = .ok (.tuple #[]) w1 ∧ k36.R 36 w1 base ok (.slice (some ⟨g, 0, none⟩) n c) xs ∧ W.grownBy w1 (some g) := by
  obtain ⟨hok, inner, hown, hr⟩ := HO
  obtain ⟨hl, hown⟩ := hown
  rcases hown with ⟨hv, _⟩ | ⟨g', cap', cur, hv, hb, hh, h3, h4, h5, h6⟩
  · cases hv
  injection hv with ha hn hcc
  injection ha with ha
  injection ha with hg
  subst hg
  subst hcc
  subst hn
  have hsz : (k36).sz = 8 := rfl
  rw [hsz] at h5 h6 hl
  have hst := run_storeCells_at (P := Try.prog) g (xs.length * 8) 36 z8 0 cur W hh (by simp [z8]; omega) (by unfold z8; decide)
  have hu := Try.underlying22
  have hz : ∀ w, (zeroValue 36).run Try.prog w = .ok (.agg #[.string ⟨#[]⟩, .int .i64 0, .slice none 0 0, .string ⟨#[]⟩, .int .i64 0, .string ⟨#[]⟩, .int .i64 0, .slice none 0 0]) w := by
    intro w
    obtain ⟨i0, hi, hzz⟩ := Option.map_eq_some_iff.1 info36
    simp only [Prod.mk.injEq] at hzz
    simp [zeroValue, typeInfo, hi, hzz.1]
  have hzc : (Builtin.zeroCells (Value.agg #[.string ⟨#[]⟩, .int .i64 0, .slice none 0 0, .string ⟨#[]⟩, .int .i64 0, .string ⟨#[]⟩, .int .i64 0, .slice none 0 0]).cells 1).toList = z8 := by
    simp only [Builtin.zeroCells, Array.toList_map, Array.toList_range]
    rfl
  refine ⟨W.setRow g (cur.toList.take (xs.length * 8 + 0) ++ z8 ++ cur.toList.drop (xs.length * 8 + 0 + 8)).toArray, ?_, ⟨hok, inner, ?_, ?_⟩, ?_⟩
  · unfold Builtin.clear_
    simp only [List.getElem?_toArray, List.getElem?_cons_zero, Sem.run_bind, run_underlying hu]
    simp [run_underlying hu, hz, hzc, hst]; rfl
  · refine ⟨by rw [hsz]; exact hl, .inr ⟨g, c, _, rfl, hb, setRow_heap W g cur _ 36 (0, 0) hh, h3, h4, ?_, ?_⟩⟩
    · rw [hsz]
      have : cur.toList.length = cur.size := by simp
      simp only [z8, List.size_toArray, List.length_append, List.length_take, List.length_drop, List.length_cons, List.length_nil, this]
      omega
    · rw [hsz, ← h6]
      have : cur.toList.length = cur.size := by simp
      simp only [Nat.add_zero, List.append_assoc]
      rw [List.take_append_of_le_length (by rw [List.length_take, this]; omega), List.take_take, Nat.min_self]
  · exact hr.imp_ (fun y cs hm => Kd.M_step hm (fun k hk hlt => setRow_other _ _ _ _ (fun e => hk.2 (by rw [e]; rfl))))
  · exact ⟨rfl, rfl, rfl, by simp, fun k hk hne => setRow_other _ _ _ _ (fun e => hne (by rw [e]))⟩
set_option maxHeartbeats 8000000 in
set_option maxRecDepth 100000 in
theorem delete_calls {w : World} {base g n c i : Nat} {ok : Nat → Prop} {xs : List S36} (HO : k36.R 36 w base ok (.slice (some ⟨g, 0, none⟩) n c) xs) (hi : i < n) (hn : n ≤ 1000000) :
    Calls Try.prog 110 #[.slice (some ⟨g, 0, none⟩) n c, .int .i64 i, .int .i64 (i + 1)] w fun e w' =>
      e = .returned (.slice (some ⟨g, 0, none⟩) (n - 1) c) ∧ k36.R 36 w' base ok (.slice (some ⟨g, 0, none⟩) (n - 1) c) (xs.eraseIdx i) ∧ w.grownBy w' (some g) := by
  have hnx := (Kd.R_reads' HO).1
  have hnc := (Kd.R_reads' HO).2.1
  have h5 : ((i : Int) == i + 1) = false := by simp; omega
  have H := Aside0.mk HO
  have hic : i ≤ c := by omega
  have hi1 : i + 1 ≤ n := hi
  clear HO
  go_enter Try.func110, Try.ntmps110
  go_wp2
  refine start_ (n := 8) (ds := []) (S := fun _ => True) _ (by kernel_rfl) rfl rfl trivial (fun hH => ?_)
  (refine puL (i := 0) (some 20) rfl rfl (by kernel_rfl) (fun _ _ _ h => h) (by rfl) (v := ?_) ?_ (a' := ?_) ?_ ?_; rotate_left; (intro w'; go_simp; with_reducible rfl); rotate_left; (simp only [Act.put, List.setIfInBounds_toArray, List.set_cons_zero, List.set_cons_succ, i64_w, i32_w]; first | done | rfl))
  (refine puL (i := 1) (some 21) rfl rfl (by kernel_rfl) (fun _ _ _ h => h) (by rfl) (v := ?_) ?_ (a' := ?_) ?_ ?_; rotate_left; (intro w'; go_simp; with_reducible rfl); rotate_left; (simp only [Act.put, List.setIfInBounds_toArray, List.set_cons_zero, List.set_cons_succ, i64_w, i32_w]; first | done | rfl))
  (refine puL (i := 2) (some 22) rfl rfl (by kernel_rfl) (fun _ _ _ h => h) (by rfl) (v := ?_) ?_ (a' := ?_) ?_ ?_; rotate_left; (intro w'; go_simp; with_reducible rfl); rotate_left; (simp only [Act.put, List.setIfInBounds_toArray, List.set_cons_zero, List.set_cons_succ, i64_w, i32_w]; first | done | rfl))
  (refine puL (i := 3) (some 23) rfl rfl (by kernel_rfl) (fun _ _ _ h => h) (by rfl) (v := ?_) ?_ (a' := ?_) ?_ ?_; rotate_left; (intro w'; go_simp; with_reducible rfl); rotate_left; (simp only [Act.put, List.setIfInBounds_toArray, List.set_cons_zero, List.set_cons_succ, i64_w, i32_w]; first | done | rfl))
  (refine puL (i := 4) (some 24) rfl rfl (by kernel_rfl) (fun _ _ _ h => h) (by rfl) (v := ?_) ?_ (a' := ?_) ?_ ?_; rotate_left; (intro w'; go_simp; with_reducible rfl); rotate_left; (simp only [Act.put, List.setIfInBounds_toArray, List.set_cons_zero, List.set_cons_succ, i64_w, i32_w]; first | done | rfl))
  have hb3 : 0 ≤ (i : Int) + 1 ∧ (i : Int) + 1 ≤ (xs.length : Int) := by omega
  (refine puL (i := 5) (some 25) rfl rfl (by kernel_rfl) (fun _ _ _ h => h) (by rfl) (v := ?_) ?_ (a' := ?_) ?_ ?_; rotate_left; (intro w'; go_simp; with_reducible rfl); rotate_left; (simp only [Act.put, List.setIfInBounds_toArray, List.set_cons_zero, List.set_cons_succ, i64_w, i32_w]; first | done | rfl))
  refine oneL (i := 6) (some 26) rfl rfl (by kernel_rfl) (by decide) (fun Kc hKc => ?_)
  refine Kd.R_delete_step k36 (w0 := w.drew) base (by rfl) (.tmp 22) (.tmp 25) 22 36 rfl Try.underlying22 rfl (g := g) (n := n) (c := c) (k := i) (m := xs.length - (i + 1)) (c2 := c - (i + 1)) (A := if c = i + 1 then some ⟨g, 0, none⟩ else some ⟨g, (i + 1) * 8, none⟩) (xs := xs) (ok := ok) rfl rfl ?_ (by omega)
    (Kd.R_drew H.out) hi (Below.refl _ _) (Nat.le_trans (Kd.R_base H.out g rfl) (Nat.le_of_lt (Kd.R_lt H.out g rfl))) (fun w1 h1 _ hg1 => ?_)
  · by_cases hce : c = i + 1
    · rw [if_pos hce, if_pos hce]
    · rw [if_neg hce, if_neg hce]; simp [Addr.add, show k36.sz = 8 from rfl]
  refine hKc.out _ _ trivial (fun hH2 => ?_)
  clear hKc Kc hH hH2
  have H1 := Aside0.mk h1
  have HG1 := Aside0.mk hg1
  clear h1 hg1
  (refine puL (i := 7) (some 0) rfl rfl (by kernel_rfl) (fun _ _ _ h => h) (by rfl) (v := ?_) ?_ (a' := ?_) ?_ ?_; rotate_left; (intro w'; go_simp; with_reducible rfl); rotate_left; (simp only [Act.put, List.setIfInBounds_toArray, List.set_cons_zero, List.set_cons_succ, i64_w, i32_w]; first | done | rfl))
  refine done_ (by kernel_rfl) ?_
  obtain ⟨w2, hr2, hR2, hg2⟩ := clear_tail H1.out (by omega) 0 (c - (n - 1))
  have hd1 : xs.length - (xs.length - 1) = 1 := by omega
  subst hnx
  have hr3 : (Builtin.clear_ #[22] 0 #[.slice (some ⟨g, (xs.length - 1) * 8, none⟩) (xs.length - (xs.length - 1)) (c - (xs.length - 1))]).run Try.prog w1 = .ok (.tuple #[]) w2 := by rw [hd1]; exact hr2
  clear hr2
  have HR2 := Aside0.mk hR2
  have HG2 := Aside0.mk hg2
  clear hR2 hg2 hd1
  generalize (if c = i + 1 then some (⟨g, 0, none⟩ : Addr) else some ⟨g, (i + 1) * 8, none⟩) = Aa
  go_wp2
  go_ret
  exact ⟨rfl, HR2.out, World.grownBy.trans (b := w1) ⟨HG1.out.os, HG1.out.tape, HG1.out.output, HG1.out.size, HG1.out.block⟩ HG2.out⟩
end Go.Proofs.Ytenbkljgmgdegaa.PO
