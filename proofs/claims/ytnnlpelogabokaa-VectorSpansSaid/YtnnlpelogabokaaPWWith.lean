/- What With comes to, and the reference's With: the same. No condition but the sizes that a machine has. -/
import Derived.Test.YtnnlpelogabokaaPWPure
import Derived.Test.YtnnlpelogabokaaPWx6
import Derived.Test.YtnnlpelogabokaaPWx8
namespace Go.Proofs.Ytnnlpelogabokaa.PW
open Go.RowKit Go.Proofs.YtnnlpelogabokaaW.PrintWords Go.Proofs.YtnnlpelogabokaaW.PrintLast Go.Proofs.YtnnlpelogabokaaW.PrintMore Go.Proofs.Ytnnlpelogabokaa.XW

def withS (v : List S35) (n : ByteArray) (d : Int) : List S35 × Int :=
  if rightS v && dotOk ⟨n, d⟩ then (if d - 1 = atS n v then (if 64 < (putS v n d).length then ([], 70) else (putS v n d, 0)) else ([], 70)) else ([], 2)
theorem putS_ix (n : ByteArray) (d : Int) : ∀ (l : List S35) (p : Nat), p ≤ l.length → (∀ q, q < p → Op.bytesLess (l.getD q z35).f0.toList n.toList = true) → putS l n d = l.take p ++ putS (l.drop p) n d
  | l, 0, _, _ => by simp
  | [], p + 1, hp, _ => by simp at hp
  | x :: l, p + 1, hp, h => by
    have h0 : Op.bytesLess x.f0.toList n.toList = true := by have := h 0 (by omega); simpa using this
    rw [putS_skip h0, putS_ix n d l p (by simpa using hp) (fun q hq => by have := h (q + 1) (by omega); simpa using this)]
    rfl
theorem bytes_inj {a b : ByteArray} (h : a.toList = b.toList) : a = b := by
  rw [ByteArray.toList_eq, ByteArray.toList_eq] at h
  have : a.data = b.data := Array.ext' h
  cases a; cases b; simpa using this
theorem drop_getD (l : List S35) (p : Nat) (hp : p < l.length) : l.drop p = l.getD p z35 :: l.drop (p + 1) := by
  rw [List.drop_eq_getElem_cons hp]
  simp [List.getD, hp]
theorem dot_parts {n : ByteArray} {d : Int} (h : dotOk ⟨n, d⟩ = true) : 1 ≤ d ∧ d ≤ 4611686018427387904 := by
  unfold dotOk at h
  simp at h
  omega
theorem with_f (v : List S35) (lv : v.length ≤ 9223372036854775807) (n : ByteArray) (d : Int) (k : Nat) (hk : v.length < k) : vector_With.f k v n d = some (withS v n d) := by
  unfold vector_With.f withS
  rw [right_f v lv k hk, Option.bind_some, isDot_f]
  cases hR : rightS v with
  | false => simp
  | true =>
    simp only [if_true, Option.bind_some, Bool.true_and]
    cases hd : dotOk ⟨n, d⟩ with
    | false => simp
    | true =>
      simp only [if_true]
      have hle := (rightS_le hR).1
      have h := (rightS_le hR).2
      have hdd := dot_parts hd
      have hs := bsL_spec v n ⟨#[]⟩ h (v.length + 1) 0 v.length (by omega) (by omega) (by omega) (fun q hq => by omega) (fun q h1 h2 => by omega)
      unfold vector_find.f
      rw [if_pos (by omega), Option.bind_some]
      have hix : findIx v n = bsL v n (v.length + 1) 0 v.length := rfl
      rw [← hix] at hs
      obtain ⟨_, hp, hA, hB⟩ := hs
      have hc : api_Dot_39.f v = some v := by unfold api_Dot_39.f; rw [if_pos (by omega)]
      rw [hc, Option.bind_some]
      have hlow : ∀ q, q < findIx v n → Op.bytesLess (v.getD q z35).f0.toList n.toList = true := fun q hq => (cmpS_lt v q n).1.1 (hA q hq)
      have hne : ∀ q, q < findIx v n → (v.getD q z35).f0.toList ≠ n.toList := fun q hq he => by
        have := hA q hq
        rw [(cmpS_lt v q n).2.2 he] at this
        exact absurd this (by decide)
      have hput := putS_ix n d v (findIx v n) hp hlow
      obtain ⟨p, hpe⟩ : ∃ p, findIx v n = p := ⟨_, rfl⟩
      have hat0 : findHit v n = false → atS n v = 0 := fun hh => by
        have := find_at v n ⟨#[]⟩ h (by omega)
        unfold vector_at.f vector_find.f at this
        rw [if_pos (by omega), Option.bind_some] at this
        simp only [hh, Bool.false_eq_true, if_false] at this
        exact (Option.some.inj this).symm
      by_cases hhit : findHit v n = true
      · rw [hhit]
        simp only [if_true]
        have hlt : findIx v n < v.length ∧ cmpS v (findIx v n) n = 0 := by
          unfold findHit at hhit
          by_cases hlt : findIx v n < v.length
          · rw [if_pos hlt] at hhit; exact ⟨hlt, by simpa using hhit⟩
          · rw [if_neg hlt] at hhit; cases hhit
        have heq := (cmpS_lt v _ n).2.1 hlt.2
        have hat := atS_some n v (findIx v n) hlt.1 hne heq
        rw [hpe] at hlt hat heq hput ⊢
        rw [if_pos (by omega), if_pos (by omega), Int.toNat_natCast, hat]
        have hrd : (rd_T35 v (p : Int)).f1 = (v.getD p z35).f1 := by simp [rd_T35]
        rw [hrd]
        have hset : v.set p ⟨(v.getD p z35).f0, d⟩ = putS v n d := by
          rw [hput, drop_getD v p hlt.1, putS, if_neg (fun hl => by
            have := (cmpS_lt v p n).1.2 hl
            rw [hlt.2] at this; exact absurd this (by decide)), if_pos heq, bytes_inj heq, List.set_eq_take_append_cons_drop, if_pos hlt.1]
        by_cases q : (v.getD p z35).f1 = d - 1
        · have hl : (putS v n d).length = v.length := by rw [← hset, List.length_set]
          rw [if_pos q, if_pos q.symm, if_neg (by omega), hset]
        · rw [if_neg q, if_neg (fun e => q e.symm)]
      · have hf : findHit v n = false := by simpa using hhit
        rw [hf, hat0 hf]
        simp only [Bool.false_eq_true, if_false]
        rw [hpe] at hput hp ⊢
        have hins : putS v n d = v.take p ++ [⟨n, d⟩] ++ v.drop p := by
          rw [hput]
          by_cases hlt : p < v.length
          · rw [drop_getD v p hlt, putS, if_neg (fun hl => hB p (by omega) hlt ((cmpS_lt v p n).1.2 hl)), if_neg (fun he => by
              have : findHit v n = true := by unfold findHit; rw [hpe, if_pos hlt, (cmpS_lt v p n).2.2 he]; rfl
              rw [hf] at this; cases this)]
            simp
          · rw [List.drop_of_length_le (by omega), putS]; simp
        have hl : (putS v n d).length = v.length + 1 := by rw [hins]; simp; omega
        by_cases q0 : d = 1
        · have q2 : d - 1 = 0 := by omega
          rw [if_pos q0, if_pos q2]
          by_cases q1 : v.length = 64
          · have q3 : 64 < (putS v n d).length := by omega
            rw [if_pos q1, if_pos q3]
          · have q3 : ¬ 64 < (putS v n d).length := by omega
            have q4 : (0 : Int) ≤ (p : Int) := by omega
            have q5 : (p : Int) ≤ (v.length : Int) := by omega
            have q6 : v.length ≤ 1000 := by omega
            rw [if_neg q1, if_pos q4, if_pos q5, if_pos q6, if_neg q3, Int.toNat_natCast, hins]
        · have q2 : ¬ d - 1 = 0 := by omega
          rw [if_neg q0, if_neg q2]
theorem withS_len (v : List S35) (n : ByteArray) (d : Int) : (withS v n d).1.length ≤ 65 := by
  unfold withS
  by_cases h : (rightS v && dotOk ⟨n, d⟩) = true
  · have hR : rightS v = true := by cases hq : rightS v <;> simp [hq] at h ⊢
    have := (rightS_le hR).1
    have := putS_len v n d
    rw [if_pos h]
    split
    · split
      · simp
      · simp; omega
    · simp
  · rw [if_neg h]; simp
theorem refWith_f (v : List S35) (lv : v.length ≤ 9223372036854775807) (m : Nat) (hm : m ≤ 9223372036854775807) (hz : sizes m v) (n : ByteArray) (hn : n.size ≤ m) (d : Int) (k : Nat) (hk : 2 * v.length + m + 10 < k) : pannierref07_With.f k v n d = some (withS v n d) := by
  obtain ⟨k, rfl⟩ : ∃ q, k = q + 1 := ⟨k - 1, by omega⟩
  unfold pannierref07_With.f withS
  rw [refRight_f v lv m hm hz (k + 1) (by omega), Option.bind_some, refDot_f n (by omega) d (k + 1) (by omega), Option.bind_some]
  have bad : pannierref07_With.j0 (k + 1) v true n d = some ([], 2) := by rw [pannierref07_With.j0, if_pos rfl]
  cases hR : rightS v with
  | false => simp [bad]
  | true =>
    cases hd : dotOk ⟨n, d⟩ with
    | false => simp [bad]
    | true =>
      have hle := (rightS_le hR).1
      have hdd := dot_parts hd
      have hw : wrap64 (d - 1) = d - 1 := by unfold wrap64; omega
      simp only [if_true, Bool.not_true, Bool.true_and]
      rw [pannierref07_With.j0, if_neg (by decide), put_f v (by omega) n d (by omega) (rises_asc v _ (rightS_le hR).2) k (by omega), Option.bind_some, refAt_f n v lv k (by omega), Option.bind_some, hw]
      by_cases q : d - 1 = atS n v
      · rw [if_pos q, if_pos q]
        by_cases q2 : 64 < (putS v n d).length
        · rw [if_pos (by omega), if_pos q2]
        · rw [if_neg (by omega), if_neg q2]
      · rw [if_neg q, if_neg q]
theorem VectorWith_pure (v : List S35) (lv : v.length ≤ 9223372036854775807) (hz : ∀ x, x ∈ v → x.f0.size ≤ maxLen) (n : ByteArray) (d : Int) (hn : n.size ≤ maxLen) : ∃ k, pannierlaw07_VectorWith.f k v n d = some true := by
  obtain ⟨m, hm, hzv, hnm⟩ : ∃ m, m = 9223372036854775807 ∧ sizes m v ∧ n.size ≤ m := ⟨maxLen, rfl, hz, hn⟩
  obtain ⟨k, hk⟩ : ∃ k, 2 * v.length + m + 1000 < k := ⟨_, Nat.lt_succ_self _⟩
  refine ⟨k, ?_⟩
  have hl := withS_len v n d
  have e1 := shown_f k (by omega)
  have e2 := with_f v lv n d k (by omega)
  have e3 := refWith_f v lv m (by omega) hzv n hnm d k (by omega)
  have e6 := same_f (withS v n d).1 (by omega) k (by omega)
  clear hk hm hzv
  unfold pannierlaw07_VectorWith.f
  simp only [e1, e2, e3, e6, Option.bind_some, if_true, beq_self_eq_true]
end Go.Proofs.Ytnnlpelogabokaa.PW
