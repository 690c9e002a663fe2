/- pannierlaw07.VectorJoins' walk answers true: the merge of two vectors against the reference's loops. No condition but the sizes that a machine has. -/
import Derived.Test.YtnnlpelogabokaaPure2
import Derived.Test.YtnnlpelogabokaaPVx14
import Derived.Test.YtnnlpelogabokaaPureM
namespace Go.Proofs.Ytnnlpelogabokaa.PV
open Go.RowKit Go.Proofs.YtnnlpelogabokaaW.PrintWords Go.Proofs.YtnnlpelogabokaaW.PrintLast Go.Proofs.YtnnlpelogabokaaW.PrintMore Go.Proofs.Ytnnlpelogabokaa.XW

/-! ### one name is put -/
def putS : List S35 → ByteArray → Int → List S35
  | [], w, n => [⟨w, n⟩]
  | x :: l, w, n => if Op.bytesLess x.f0.toList w.toList = true then x :: putS l w n else if x.f0.toList = w.toList then ⟨w, n⟩ :: l else ⟨w, n⟩ :: x :: l
theorem putS_skip {x : S35} {l : List S35} {w : ByteArray} {n : Int} (h : Op.bytesLess x.f0.toList w.toList = true) : putS (x :: l) w n = x :: putS l w n := by rw [putS, if_pos h]
theorem putS_len : ∀ (l : List S35) (w : ByteArray) (n : Int), (putS l w n).length ≤ l.length + 1
  | [], _, _ => by simp [putS]
  | x :: l, w, n => by
    have := putS_len l w n
    unfold putS
    split
    · simp only [List.length_cons]; omega
    · split <;> simp
theorem putS_above {l : List S35} {w low : ByteArray} {n : Int} (h : above low l) (hw : Op.bytesLess low.toList w.toList = true) : above low (putS l w n) := by
  induction l with
  | nil => intro x hx; simp only [putS, List.mem_singleton] at hx; subst hx; exact hw
  | cons y l ih =>
    intro x hx
    unfold putS at hx
    have hl : above low l := fun z hz => h z (by simp [hz])
    split at hx
    · rcases List.mem_cons.1 hx with e | hx
      · rw [e]; exact h _ (by simp)
      · exact ih hl x hx
    · split at hx
      · rcases List.mem_cons.1 hx with e | hx
        · rw [e]; exact hw
        · exact hl x hx
      · rcases List.mem_cons.1 hx with e | hx
        · rw [e]; exact hw
        · exact h x hx
/-- Names rise (no word on the numbers). -/
def asc : List S35 → Prop
  | [] => True
  | x :: l => above x.f0 l ∧ asc l
theorem rises_asc : ∀ (l : List S35) (was : ByteArray), rises was l = true → asc l
  | [], _, _ => trivial
  | x :: l, was, h => ⟨rises_above l x.f0 (rises_tail h), rises_asc l x.f0 (rises_tail h)⟩
theorem asc_drop : ∀ (l : List S35) (i : Nat), asc l → asc (l.drop i)
  | [], i, _ => by simp [asc]
  | x :: l, 0, h => h
  | x :: l, i + 1, h => asc_drop l i h.2
theorem putS_asc : ∀ (l : List S35) (w : ByteArray) (n : Int), asc l → asc (putS l w n)
  | [], w, n, _ => ⟨fun x hx => (by cases hx), trivial⟩
  | x :: l, w, n, h => by
    unfold putS
    split
    · rename_i hlt
      exact ⟨putS_above h.1 hlt, putS_asc l w n h.2⟩
    · rename_i hlt
      split
      · rename_i he
        refine ⟨fun y hy => ?_, h.2⟩
        have := h.1 y hy
        rwa [he] at this
      · rename_i he
        have hwx : Op.bytesLess w.toList x.f0.toList = true := by
          cases hh : Op.bytesLess w.toList x.f0.toList
          · exact absurd (bl_tri (Bool.eq_false_iff.mpr hlt) hh) he
          · rfl
        refine ⟨fun y hy => ?_, h⟩
        rcases List.mem_cons.1 hy with rfl | hy
        · exact hwx
        · exact bl_trans _ _ _ hwx (h.1 y hy)

theorem put_done (v : List S35) (hv : v.length ≤ 1000000) (w : ByteArray) (n : Int) : ∀ (k i : Nat) (out : List S35), i ≤ v.length → 2 * (v.length - i) < k → out.length ≤ 1000000 + i → above w (v.drop i) →
    pannierref07_put.l0 k v w n out true (i : Int) = some (out ++ v.drop i)
  | 0, i, out, _, h, _, _ => by omega
  | 1, i, out, hi, h, ho, hb => by
    unfold pannierref07_put.l0
    rw [if_neg (by omega), if_pos rfl, List.drop_eq_nil_of_le (by omega)]
    simp
  | k + 2, i, out, hi, h, ho, hb => by
    unfold pannierref07_put.l0
    by_cases hlt : i < v.length
    · rw [if_pos (by omega), if_pos rfl]
      unfold pannierref07_put.j1
      rw [if_neg (by decide), if_pos (by omega), if_pos (by omega)]
      rw [rd_drop v i hlt] at hb
      have hne : ¬ (rd_T35 v (i : Int)).f0.toList = w.toList := fun e => by
        have := hb (rd_T35 v i) (by simp)
        rw [e, bl_irr] at this; cases this
      rw [if_neg hne, if_pos (by omega), wrap_succ hlt (by omega)]
      have ih := put_done v hv w n k (i + 1) (out ++ [⟨(rd_T35 v (i : Int)).f0, (rd_T35 v (i : Int)).f1⟩]) (by omega) (by omega) (by simp; omega) (fun x hx => hb x (by simp [hx]))
      rw [ih, rd_drop v i hlt]
      simp
    · rw [if_neg (by omega), if_pos rfl, List.drop_eq_nil_of_le (by omega)]
      simp
theorem put_not (v : List S35) (hv : v.length ≤ 1000000) (w : ByteArray) (n : Int) (hs : asc v) : ∀ (k i : Nat) (out : List S35), i ≤ v.length → 2 * (v.length - i) + 1 < k → out.length ≤ i →
    pannierref07_put.l0 k v w n out false (i : Int) = some (out ++ putS (v.drop i) w n)
  | 0, i, out, _, h, _ => by omega
  | 1, i, out, _, h, _ => by omega
  | k + 2, i, out, hi, h, ho => by
    unfold pannierref07_put.l0
    by_cases hlt : i < v.length
    · have hsd := asc_drop v i hs
      rw [rd_drop v i hlt] at hsd ⊢
      rw [if_pos (by omega), if_neg (by decide), if_pos (by omega)]
      unfold pannierref07_put.j1
      by_cases hc : Op.bytesLess (rd_T35 v (i : Int)).f0.toList w.toList = true
      · rw [hc, if_neg (by decide), if_pos (by omega), if_pos (by omega)]
        have hne : ¬ (rd_T35 v (i : Int)).f0.toList = w.toList := fun e => by rw [e, bl_irr] at hc; cases hc
        rw [if_neg hne, if_pos (by omega), wrap_succ hlt (by omega), putS_skip hc]
        have ih := put_not v hv w n hs k (i + 1) (out ++ [⟨(rd_T35 v (i : Int)).f0, (rd_T35 v (i : Int)).f1⟩]) (by omega) (by omega) (by simp; omega)
        rw [ih]
        simp
      · rw [Bool.eq_false_iff.mpr hc, if_pos (by decide), if_pos (by omega), Option.bind_some, if_pos (by omega), if_pos (by omega), putS, if_neg hc]
        by_cases he : (rd_T35 v (i : Int)).f0.toList = w.toList
        · rw [if_pos he, if_pos he, wrap_succ hlt (by omega)]
          have hab : above w (v.drop (i + 1)) := fun x hx => by have := hsd.1 x hx; rwa [he] at this
          refine (put_done v hv w n k (i + 1) _ (by omega) (by omega) (by simp; omega) hab).trans ?_
          simp
        · have hwx : Op.bytesLess w.toList (rd_T35 v (i : Int)).f0.toList = true := by
            cases hh : Op.bytesLess w.toList (rd_T35 v (i : Int)).f0.toList
            · exact absurd (bl_tri (Bool.eq_false_iff.mpr hc) hh) he
            · rfl
          have hab : above w (v.drop (i + 1)) := fun x hx => bl_trans _ _ _ hwx (hsd.1 x hx)
          rw [if_neg he, if_neg he, if_pos (by simp; omega), wrap_succ hlt (by omega)]
          refine (put_done v hv w n k (i + 1) _ (by omega) (by omega) (by simp; omega) hab).trans ?_
          simp
    · rw [if_neg (by omega), if_neg (by decide), if_pos (by omega), List.drop_eq_nil_of_le (by omega)]
      rfl
theorem put_f (v : List S35) (hv : v.length ≤ 1000000) (w : ByteArray) (n : Int) (hn : n ≠ 0) (hs : asc v) (k : Nat) (hk : 2 * v.length + 1 < k) : pannierref07_put.f k v w n = some (putS v w n) := by
  unfold pannierref07_put.f
  rw [show (n == 0) = false from by simpa using hn]
  have := put_not v hv w n hs k 0 [] (by omega) (by omega) (by simp)
  simpa using this

/-! ### the join -/
def jf (at' : ByteArray → Int) : List S35 → List S35 → List S35
  | out, [] => out
  | out, y :: b => jf at' (putS out y.f0 (mx y.f1 (at' y.f0))) b
theorem jf_skip (at' : ByteArray → Int) (x : S35) : ∀ (b : List S35) (o : List S35), above x.f0 b → jf at' (x :: o) b = x :: jf at' o b
  | [], _, _ => rfl
  | y :: b, o, h => by
    rw [jf, putS_skip (h y (by simp)), jf_skip at' x b _ (fun z hz => h z (by simp [hz])), jf]
theorem mx_zero {n : Int} (h : 1 ≤ n) : mx n 0 = n := by unfold mx; split <;> omega
theorem mx_comm (a b : Int) : mx a b = mx b a := by unfold mx; split <;> split <;> omega
theorem jf_mrg (a b : List S35) : ∀ (wa wb : ByteArray) (at' : ByteArray → Int), rises wa a = true → rises wb b = true → (∀ y, y ∈ b → at' y.f0 = atS y.f0 a) → jf at' a b = joinL (mrg a b) := by
  induction a, b using mrg.induct with
  | case1 => intro wa wb at' _ _ _; simp [mrg, joinL, jf]
  | case2 y b ih =>
    intro wa wb at' ha hb hat
    rw [mrg_y, jf, putS, jf_skip at' ⟨y.f0, mx y.f1 (at' y.f0)⟩ b [] (rises_above b y.f0 (rises_tail hb)), ih wa y.f0 at' rfl (rises_tail hb) (fun z hz => hat z (by simp [hz]))]
    rw [hat y (by simp), atS]
    simp only [joinL, List.map_cons]
    rw [mx_comm]
  | case3 x a ih =>
    intro wa wb at' ha hb hat
    rw [mrg_x, jf]
    have := ih x.f0 wb at' (rises_tail ha) rfl (fun z hz => by cases hz)
    rw [jf] at this
    simp only [joinL, List.map_cons] at this ⊢
    rw [mx_zero (rises_pos ha (by simp)).1, ← this]
  | case4 x a y b h ih =>
    intro wa wb at' ha hb hat
    have hab : above x.f0 (y :: b) := fun z hz => by
      rcases List.mem_cons.1 hz with rfl | hz
      · exact h
      · exact bl_trans _ _ _ h (rises_above b y.f0 (rises_tail hb) z hz)
    rw [mrg_xy, if_pos h, jf_skip at' x (y :: b) a hab, ih x.f0 wb at' (rises_tail ha) hb (fun z hz => by rw [hat z hz, atS_skip (hab z hz)])]
    simp only [joinL, List.map_cons]
    rw [mx_zero (rises_pos ha (by simp)).1]
  | case5 x a y b h h2 ih =>
    intro wa wb at' ha hb hat
    have hab : above y.f0 (x :: a) := fun z hz => by
      rcases List.mem_cons.1 hz with rfl | hz
      · exact h2
      · exact bl_trans _ _ _ h2 (rises_above a x.f0 (rises_tail ha) z hz)
    have hne : ¬ x.f0.toList = y.f0.toList := fun e => by rw [e, bl_irr] at h2; cases h2
    rw [mrg_xy, if_neg h, if_pos h2, jf, putS, if_neg h, if_neg hne, jf_skip at' ⟨y.f0, mx y.f1 (at' y.f0)⟩ b (x :: a) (rises_above b y.f0 (rises_tail hb)), ih wa y.f0 at' ha (rises_tail hb) (fun z hz => hat z (by simp [hz]))]
    rw [hat y (by simp), atS_above hab]
    simp only [joinL, List.map_cons]
    rw [mx_comm]
  | case6 x a y b h h2 ih =>
    intro wa wb at' ha hb hat
    have he : x.f0.toList = y.f0.toList := bl_tri (Bool.eq_false_iff.mpr h) (Bool.eq_false_iff.mpr h2)
    have hby := rises_above b y.f0 (rises_tail hb)
    rw [mrg_xy, if_neg h, if_neg h2, jf, putS, if_neg h, if_pos he, jf_skip at' ⟨y.f0, mx y.f1 (at' y.f0)⟩ b a hby, ih x.f0 y.f0 at' (rises_tail ha) (rises_tail hb) (fun z hz => by rw [hat z (by simp [hz]), atS_skip (by rw [he]; exact hby z hz)])]
    rw [hat y (by simp), atS, if_pos he]
    simp only [joinL, List.map_cons]
    rw [mx_comm, toList_inj he]

theorem refJoin_l0 (a b : List S35) (ha : a.length ≤ 64) (hb : b.length ≤ 64) (wb : ByteArray) (hr : rises wb b = true) : ∀ (k i : Nat) (out : List S35), i ≤ b.length → b.length - i + 300 < k → out.length ≤ 64 + i → asc out →
    pannierref07_Join.l0 k a b out (i : Int) = some (if ((jf (fun w => atS w a) out (b.drop i)).length : Int) > 64 then ([], 70) else (jf (fun w => atS w a) out (b.drop i), 0))
  | 0, i, out, _, h, _, _ => by omega
  | k + 1, i, out, hi, h, ho, hs => by
    unfold pannierref07_Join.l0
    by_cases hlt : i < b.length
    · have hmem : rd_T35 b (i : Int) ∈ b := by
        have : rd_T35 b (i : Int) = b[i] := by simp [rd_T35, List.getD, hlt]
        rw [this]; exact List.getElem_mem hlt
      have hp := rises_pos hr hmem
      rw [if_pos (by omega), if_pos (by omega), refAt_f _ a (by omega) k (by omega), Option.bind_some]
      rw [put_f out (by omega) _ _ (by unfold mx; split <;> omega) hs k (by omega), Option.bind_some, wrap_succ hlt (by omega)]
      have hl := putS_len out (rd_T35 b (i : Int)).f0 (mx (rd_T35 b (i : Int)).f1 (atS (rd_T35 b (i : Int)).f0 a))
      rw [refJoin_l0 a b ha hb wb hr k (i + 1) _ (by omega) (by omega) (by omega) (putS_asc _ _ _ hs), rd_drop b i hlt, jf]
    · rw [if_neg (by omega), List.drop_eq_nil_of_le (by omega), jf]
      split <;> rfl

def joinS (a b : List S35) : List S35 × Int := if rightS a && rightS b then (if (64 : Int) < ((joinL (mrg a b)).length : Int) then ([], 70) else (joinL (mrg a b), 0)) else ([], 2)
theorem join_f (a b : List S35) (ha : a.length ≤ 9223372036854775807) (hb : b.length ≤ 9223372036854775807) (k : Nat) (hk : a.length + b.length < k) : vector_Join.f k a b = some (joinS a b) := by
  unfold vector_Join.f joinS
  rw [right_f a ha k (by omega), right_f b hb k (by omega), Option.bind_some, Option.bind_some]
  cases hra : rightS a
  · rfl
  cases hrb : rightS b
  · rfl
  have h1 := rightS_le hra
  have h2 := rightS_le hrb
  have := mrg_len a b
  rw [if_pos rfl, if_pos rfl, if_pos (by omega)]
  show _ = some (if (64 : Int) < ((joinL (mrg a b)).length : Int) then ([], 70) else (joinL (mrg a b), 0))
  split <;> rfl
theorem refJoin_bad (k : Nat) (a b : List S35) : pannierref07_Join.j0 (k + 1) a b true = some ([], 2) := by unfold pannierref07_Join.j0; rfl
theorem refJoin_good (k : Nat) (a b : List S35) : pannierref07_Join.j0 (k + 1) a b false = pannierref07_Join.l0 k a b a 0 := by unfold pannierref07_Join.j0; rfl
theorem refJoin_f (a b : List S35) (m : Nat) (hm : m ≤ 9223372036854775807) (ha : a.length ≤ m) (hb : b.length ≤ m) (hza : sizes m a) (hzb : sizes m b) (k : Nat) (hk : a.length + b.length + m + 400 < k) : pannierref07_Join.f k a b = some (joinS a b) := by
  unfold pannierref07_Join.f joinS
  rw [refRight_f a (by omega) m hm hza k (by omega), refRight_f b (by omega) m hm hzb k (by omega), Option.bind_some, Option.bind_some]
  obtain ⟨k, rfl⟩ : ∃ j, k = j + 1 := ⟨k - 1, by omega⟩
  cases hra : rightS a
  · exact (refJoin_bad k a b).trans rfl
  cases hrb : rightS b
  · exact (refJoin_bad k a b).trans rfl
  have h1 := rightS_le hra
  have h2 := rightS_le hrb
  refine (refJoin_good k a b).trans ?_
  have := refJoin_l0 a b h1.1 h2.1 _ h2.2 k 0 a (by omega) (by omega) (by omega) (rises_asc a _ h1.2)
  rw [show ((0 : Nat) : Int) = 0 from rfl, List.drop_zero, jf_mrg a b _ _ _ h1.2 h2.2 (fun _ _ => rfl)] at this
  rw [this]
  rfl

/-! ### what one lacks -/
def lf (at' : ByteArray → Int) : List S35 → List S52
  | [] => []
  | y :: b => if at' y.f0 < y.f1 then ⟨y.f0, wrap64 (at' y.f0 + 1), y.f1⟩ :: lf at' b else lf at' b
theorem lf_mrg (a b : List S35) : ∀ (wa wb : ByteArray) (at' : ByteArray → Int), rises wa a = true → rises wb b = true → (∀ y, y ∈ b → at' y.f0 = atS y.f0 a) → lf at' b = lackL (mrg a b) := by
  induction a, b using mrg.induct with
  | case1 => intro wa wb at' _ _ _; simp [mrg, lackL, lf]
  | case2 y b ih =>
    intro wa wb at' ha hb hat
    rw [mrg_y, lf, ih wa y.f0 at' rfl (rises_tail hb) (fun z hz => hat z (by simp [hz])), hat y (by simp), atS, lackL]
  | case3 x a ih =>
    intro wa wb at' ha hb hat
    rw [mrg_x, lackL, if_neg (by have := (rises_pos ha (by simp : x ∈ x :: a)).1; simp only []; omega)]
    exact ih x.f0 wb at' (rises_tail ha) rfl (fun z hz => by cases hz)
  | case4 x a y b h ih =>
    intro wa wb at' ha hb hat
    have hab : above x.f0 (y :: b) := fun z hz => by
      rcases List.mem_cons.1 hz with rfl | hz
      · exact h
      · exact bl_trans _ _ _ h (rises_above b y.f0 (rises_tail hb) z hz)
    rw [mrg_xy, if_pos h, lackL, if_neg (by have := (rises_pos ha (by simp : x ∈ x :: a)).1; simp only []; omega)]
    exact ih x.f0 wb at' (rises_tail ha) hb (fun z hz => by rw [hat z hz, atS_skip (hab z hz)])
  | case5 x a y b h h2 ih =>
    intro wa wb at' ha hb hat
    have hab : above y.f0 (x :: a) := fun z hz => by
      rcases List.mem_cons.1 hz with rfl | hz
      · exact h2
      · exact bl_trans _ _ _ h2 (rises_above a x.f0 (rises_tail ha) z hz)
    rw [mrg_xy, if_neg h, if_pos h2, lf, ih wa y.f0 at' ha (rises_tail hb) (fun z hz => hat z (by simp [hz])), hat y (by simp), atS_above hab, lackL]
  | case6 x a y b h h2 ih =>
    intro wa wb at' ha hb hat
    have he : x.f0.toList = y.f0.toList := bl_tri (Bool.eq_false_iff.mpr h) (Bool.eq_false_iff.mpr h2)
    have hby := rises_above b y.f0 (rises_tail hb)
    rw [mrg_xy, if_neg h, if_neg h2, lf, ih x.f0 y.f0 at' (rises_tail ha) (rises_tail hb) (fun z hz => by rw [hat z (by simp [hz]), atS_skip (by rw [he]; exact hby z hz)]), hat y (by simp), atS, if_pos he, lackL]
    rw [toList_inj he]
theorem refLack_l0 (a b : List S35) (ha : a.length ≤ 64) (hb : b.length ≤ 64) : ∀ (k i : Nat) (out : List S52), i ≤ b.length → b.length - i + 100 < k → out.length ≤ i →
    pannierref07_Lack.l0 k a b out (i : Int) = some (out ++ lf (fun w => atS w a) (b.drop i), 0)
  | 0, i, out, _, h, _ => by omega
  | k + 1, i, out, hi, h, ho => by
    unfold pannierref07_Lack.l0
    by_cases hlt : i < b.length
    · rw [if_pos (by omega), if_pos (by omega), refAt_f _ a (by omega) k (by omega), Option.bind_some, wrap_succ hlt (by omega), rd_drop b i hlt, lf]
      split
      · rw [if_pos (by omega), refLack_l0 a b ha hb k (i + 1) _ (by omega) (by omega) (by simp; omega)]
        simp
      · rw [refLack_l0 a b ha hb k (i + 1) _ (by omega) (by omega) (by omega)]
    · rw [if_neg (by omega), List.drop_eq_nil_of_le (by omega), lf]
      simp
def lackS (a b : List S35) : List S52 × Int := if rightS a && rightS b then (lackL (mrg a b), 0) else ([], 2)
theorem lack_f (a b : List S35) (ha : a.length ≤ 9223372036854775807) (hb : b.length ≤ 9223372036854775807) (k : Nat) (hk : a.length + b.length < k) : vector_Lack.f k a b = some (lackS a b) := by
  unfold vector_Lack.f lackS
  rw [right_f a ha k (by omega), right_f b hb k (by omega), Option.bind_some, Option.bind_some]
  cases hra : rightS a
  · rfl
  cases hrb : rightS b
  · rfl
  have h1 := rightS_le hra
  have h2 := rightS_le hrb
  have := mrg_len a b
  rw [if_pos rfl, if_pos rfl, if_pos (by omega)]
  rfl
theorem refLack_bad (k : Nat) (a b : List S35) : pannierref07_Lack.j0 (k + 1) a b true = some ([], 2) := by unfold pannierref07_Lack.j0; rfl
theorem refLack_good (k : Nat) (a b : List S35) : pannierref07_Lack.j0 (k + 1) a b false = pannierref07_Lack.l0 k a b [] 0 := by unfold pannierref07_Lack.j0; rfl
theorem refLack_f (a b : List S35) (m : Nat) (hm : m ≤ 9223372036854775807) (ha : a.length ≤ m) (hb : b.length ≤ m) (hza : sizes m a) (hzb : sizes m b) (k : Nat) (hk : a.length + b.length + m + 400 < k) : pannierref07_Lack.f k a b = some (lackS a b) := by
  unfold pannierref07_Lack.f lackS
  rw [refRight_f a (by omega) m hm hza k (by omega), refRight_f b (by omega) m hm hzb k (by omega), Option.bind_some, Option.bind_some]
  obtain ⟨k, rfl⟩ : ∃ j, k = j + 1 := ⟨k - 1, by omega⟩
  cases hra : rightS a
  · exact (refLack_bad k a b).trans rfl
  cases hrb : rightS b
  · exact (refLack_bad k a b).trans rfl
  have h1 := rightS_le hra
  have h2 := rightS_le hrb
  refine (refLack_good k a b).trans ?_
  have := refLack_l0 a b h1.1 h2.1 k 0 [] (by omega) (by omega) (by simp)
  rw [show ((0 : Nat) : Int) = 0 from rfl, List.drop_zero, lf_mrg a b _ _ _ h1.2 h2.2 (fun _ _ => rfl)] at this
  rw [this]
  rfl

/-! ### how they stand -/
def qf (at' : ByteArray → Int) : List S35 → Bool
  | [] => true
  | x :: a => decide (x.f1 ≤ at' x.f0) && qf at' a
theorem qf_mrg (a b : List S35) : ∀ (wa wb : ByteArray) (at' : ByteArray → Int), rises wa a = true → rises wb b = true → (∀ x, x ∈ a → at' x.f0 = atS x.f0 b) → qf at' a = leqM (mrg a b) := by
  induction a, b using mrg.induct with
  | case1 => intro wa wb at' _ _ _; simp [mrg, leqM, qf]
  | case2 y b ih =>
    intro wa wb at' ha hb hat
    have h1 := ih wa y.f0 at' rfl (rises_tail hb) (fun z hz => by cases hz)
    have h2 := (rises_pos hb (by simp : y ∈ y :: b)).1
    rw [mrg_y]
    simp only [leqM, List.all_cons] at h1 ⊢
    rw [← h1, show decide ((0 : Int) ≤ y.f1) = true from by simp; omega]
    rfl
  | case3 x a ih =>
    intro wa wb at' ha hb hat
    have h2 := (rises_pos ha (by simp : x ∈ x :: a)).1
    rw [mrg_x, qf, hat x (by simp), atS]
    simp only [leqM, List.all_cons]
    rw [show decide (x.f1 ≤ 0) = false from by simp; omega]
    rfl
  | case4 x a y b h ih =>
    intro wa wb at' ha hb hat
    have hab : above x.f0 (y :: b) := fun z hz => by
      rcases List.mem_cons.1 hz with rfl | hz
      · exact h
      · exact bl_trans _ _ _ h (rises_above b y.f0 (rises_tail hb) z hz)
    have h2 := (rises_pos ha (by simp : x ∈ x :: a)).1
    rw [mrg_xy, if_pos h, qf, hat x (by simp), atS_above hab]
    simp only [leqM, List.all_cons]
    rw [show decide (x.f1 ≤ 0) = false from by simp; omega]
    rfl
  | case5 x a y b h h2 ih =>
    intro wa wb at' ha hb hat
    have hxa : ∀ z, z ∈ x :: a → Op.bytesLess y.f0.toList z.f0.toList = true := fun z hz => by
      rcases List.mem_cons.1 hz with rfl | hz
      · exact h2
      · exact bl_trans _ _ _ h2 (rises_above a x.f0 (rises_tail ha) z hz)
    have h3 := (rises_pos hb (by simp : y ∈ y :: b)).1
    have h1 := ih wa y.f0 at' ha (rises_tail hb) (fun z hz => by rw [hat z hz, atS_skip (hxa z hz)])
    rw [mrg_xy, if_neg h, if_pos h2]
    simp only [leqM, List.all_cons] at h1 ⊢
    rw [← h1, show decide ((0 : Int) ≤ y.f1) = true from by simp; omega]
    rfl
  | case6 x a y b h h2 ih =>
    intro wa wb at' ha hb hat
    have he : x.f0.toList = y.f0.toList := bl_tri (Bool.eq_false_iff.mpr h) (Bool.eq_false_iff.mpr h2)
    have hax := rises_above a x.f0 (rises_tail ha)
    have h1 := ih x.f0 y.f0 at' (rises_tail ha) (rises_tail hb) (fun z hz => by rw [hat z (by simp [hz]), atS_skip (by rw [← he]; exact hax z hz)])
    rw [mrg_xy, if_neg h, if_neg h2, qf, hat x (by simp), atS, if_pos he.symm]
    simp only [leqM, List.all_cons] at h1 ⊢
    rw [h1]
theorem refLeq_l0 (a b : List S35) (ha : a.length ≤ 64) (hb : b.length ≤ 64) : ∀ (k i : Nat), i ≤ a.length → a.length - i + 100 < k →
    pannierref07_Leq.l0 k a b (i : Int) = some (qf (fun w => atS w b) (a.drop i))
  | 0, i, _, h => by omega
  | k + 1, i, hi, h => by
    unfold pannierref07_Leq.l0
    by_cases hlt : i < a.length
    · rw [if_pos (by omega), if_pos (by omega), refAt_f _ b (by omega) k (by omega), Option.bind_some, wrap_succ hlt (by omega), rd_drop a i hlt, qf, refLeq_l0 a b ha hb k (i + 1) (by omega) (by omega)]
      split
      · rename_i hh; rw [show decide ((rd_T35 a (i : Int)).f1 ≤ atS (rd_T35 a (i : Int)).f0 b) = false from by simp; omega]; rfl
      · rename_i hh; rw [show decide ((rd_T35 a (i : Int)).f1 ≤ atS (rd_T35 a (i : Int)).f0 b) = true from by simp; omega]; rfl
    · rw [if_neg (by omega), List.drop_eq_nil_of_le (by omega), qf]
def leqS (a b : List S35) : Bool := rightS a && rightS b && leqM (mrg a b)
theorem leq_f (a b : List S35) (ha : a.length ≤ 9223372036854775807) (hb : b.length ≤ 9223372036854775807) (k : Nat) (hk : a.length + b.length < k) : vector_Leq.f k a b = some (leqS a b) := by
  unfold vector_Leq.f leqS
  rw [right_f a ha k (by omega), right_f b hb k (by omega), Option.bind_some, Option.bind_some]
  cases hra : rightS a
  · rfl
  cases hrb : rightS b
  · rfl
  have h1 := rightS_le hra
  have h2 := rightS_le hrb
  have := mrg_len a b
  rw [if_pos rfl, if_pos rfl, if_pos (by omega)]
  rfl
theorem refLeq_bad (k : Nat) (a b : List S35) : pannierref07_Leq.j0 (k + 1) a b true = some false := by unfold pannierref07_Leq.j0; rfl
theorem refLeq_good (k : Nat) (a b : List S35) : pannierref07_Leq.j0 (k + 1) a b false = pannierref07_Leq.l0 k a b 0 := by unfold pannierref07_Leq.j0; rfl
theorem refLeq_f (a b : List S35) (m : Nat) (hm : m ≤ 9223372036854775807) (ha : a.length ≤ m) (hb : b.length ≤ m) (hza : sizes m a) (hzb : sizes m b) (k : Nat) (hk : a.length + b.length + m + 400 < k) : pannierref07_Leq.f k a b = some (leqS a b) := by
  unfold pannierref07_Leq.f leqS
  rw [refRight_f a (by omega) m hm hza k (by omega), refRight_f b (by omega) m hm hzb k (by omega), Option.bind_some, Option.bind_some]
  obtain ⟨k, rfl⟩ : ∃ j, k = j + 1 := ⟨k - 1, by omega⟩
  cases hra : rightS a
  · exact (refLeq_bad k a b).trans rfl
  cases hrb : rightS b
  · exact (refLeq_bad k a b).trans rfl
  have h1 := rightS_le hra
  have h2 := rightS_le hrb
  refine (refLeq_good k a b).trans ?_
  have := refLeq_l0 a b h1.1 h2.1 k 0 (by omega) (by omega)
  rw [show ((0 : Nat) : Int) = 0 from rfl, List.drop_zero, qf_mrg a b _ _ _ h1.2 h2.2 (fun _ _ => rfl)] at this
  rw [this]
  rfl

theorem sameSpans_l0 (a : List S52) (ha : a.length ≤ 9223372036854775807) : ∀ (k i : Nat), i ≤ a.length → a.length - i < k → pannierref07_SameSpans.l0 k a a (i : Int) = some true
  | 0, i, _, h => by omega
  | k + 1, i, hi, h => by
    unfold pannierref07_SameSpans.l0
    by_cases hlt : i < a.length
    · rw [if_pos (by omega), if_pos (by omega), if_pos (by omega), wrap_succ hlt ha, sameSpans_l0 a ha k (i + 1) (by omega) (by omega), if_neg (by simp)]
    · rw [if_neg (by omega)]
theorem sameSpans_f (a : List S52) (ha : a.length ≤ 9223372036854775807) (k : Nat) (hk : a.length < k) : pannierref07_SameSpans.f k a a = some true := by
  unfold pannierref07_SameSpans.f
  rw [if_pos rfl, show (0 : Int) = ((0 : Nat) : Int) from rfl, sameSpans_l0 a ha k 0 (by omega) (by omega)]

theorem joinL_len (l : List (ByteArray × Int × Int)) : (joinL l).length = l.length := by simp [joinL]
theorem lackL_len : ∀ l : List (ByteArray × Int × Int), (lackL l).length ≤ l.length
  | [] => by simp [lackL]
  | x :: l => by have := lackL_len l; unfold lackL; split <;> simp only [List.length_cons] <;> omega
theorem joinS_len (a b : List S35) : (joinS a b).1.length ≤ 128 := by
  unfold joinS
  split
  · split
    · simp
    · rename_i h _
      simp only [Bool.and_eq_true] at h
      have h1 := (rightS_le h.1).1
      have h2 := (rightS_le h.2).1
      have := mrg_len a b
      simp only [joinL_len]
      omega
  · simp
theorem lackS_len (a b : List S35) : (lackS a b).1.length ≤ 128 := by
  unfold lackS
  split
  · rename_i h
    simp only [Bool.and_eq_true] at h
    have h1 := (rightS_le h.1).1
    have h2 := (rightS_le h.2).1
    have := mrg_len a b
    have := lackL_len (mrg a b)
    simp only []
    omega
  · simp

/-- The law of joins. -/
theorem VectorJoins_pure (a : List S35) (hl : a.length ≤ 9223372036854775807) (hz : ∀ x, x ∈ a → x.f0.size ≤ maxLen) (b : List S35) (hl2 : b.length ≤ 9223372036854775807) (hz2 : ∀ x, x ∈ b → x.f0.size ≤ maxLen) : ∃ k, pannierlaw07_VectorJoins.f k a b = some true := by
  obtain ⟨m, hm, hza, hzb⟩ : ∃ m, m = 9223372036854775807 ∧ sizes m a ∧ sizes m b := ⟨maxLen, rfl, hz, hz2⟩
  obtain ⟨k, hk⟩ : ∃ k, a.length + b.length + m + 500 < k := ⟨_, Nat.lt_succ_self _⟩
  refine ⟨k, ?_⟩
  have hj := joinS_len a b
  have hq := lackS_len a b
  have e1 := shown_f k (by omega)
  have e2 := join_f a b hl hl2 k (by omega)
  have e3 := refJoin_f a b m (by omega) (by omega) (by omega) hza hzb k (by omega)
  have e4 := lack_f a b hl hl2 k (by omega)
  have e5 := refLack_f a b m (by omega) (by omega) (by omega) hza hzb k (by omega)
  have e6 := leq_f a b hl hl2 k (by omega)
  have e7 := refLeq_f a b m (by omega) (by omega) (by omega) hza hzb k (by omega)
  have e8 := same_f (joinS a b).1 (by omega) k (by omega)
  have e9 := sameSpans_f (lackS a b).1 (by omega) k (by omega)
  clear hk hm hza hzb hj hq
  unfold pannierlaw07_VectorJoins.f
  simp only [e1, e2, e3, e4, e5, e6, e7, e8, e9, Option.bind_some, if_true, beq_self_eq_true]
end Go.Proofs.Ytnnlpelogabokaa.PV
