/- What the rows of this claim use, out of the texts of this work (OM). No condition beyond those that each statement names. -/
import Derived.Test.YtenbkljgmgdegaaQoOG
namespace Go.Proofs.Ytenbkljgmgdegaa.PO
open Go.RowKit Go.Proofs.YtenbkljgmgdegaaW.PrintWords Go.Proofs.YtenbkljgmgdegaaW.PrintLast Go.Proofs.YtenbkljgmgdegaaW.PrintMore Go.Proofs.Ytenbkljgmgdegaa.XW
set_option linter.unusedVariables false
set_option linter.unusedSimpArgs false
def memB (n : ByteArray) (acc : List ByteArray) : Bool := acc.any (fun m => decide (m = n))
theorem memB_iff {n : ByteArray} {acc : List ByteArray} : memB n acc = true ↔ n ∈ acc := by unfold memB; simp
def namesA : List S36 → List ByteArray → List ByteArray
  | [], acc => acc
  | x :: l, acc => if memB x.f0.f0 acc = true then namesA l acc else namesA l (acc ++ [x.f0.f0])
theorem namesA_all : ∀ (l : List S36) (acc : List ByteArray), (∀ n ∈ acc, n ∈ namesA l acc) ∧ ∀ y ∈ l, y.f0.f0 ∈ namesA l acc
  | [], acc => ⟨fun n h => h, fun y hy => by cases hy⟩
  | x :: l, acc => by
    unfold namesA
    by_cases h : memB x.f0.f0 acc = true
    · rw [if_pos h]
      obtain ⟨h1, h2⟩ := namesA_all l acc
      refine ⟨h1, fun y hy => ?_⟩
      rcases List.mem_cons.1 hy with rfl | hy
      · exact h1 _ (memB_iff.1 h)
      · exact h2 y hy
    · rw [if_neg h]
      obtain ⟨h1, h2⟩ := namesA_all l (acc ++ [x.f0.f0])
      refine ⟨fun n hn => h1 n (List.mem_append_left _ hn), fun y hy => ?_⟩
      rcases List.mem_cons.1 hy with rfl | hy
      · exact h1 _ (List.mem_append_right _ (List.mem_singleton.2 rfl))
      · exact h2 y hy
theorem mem_take_succ (T : List S36) (i : Nat) (h : i < T.length) (n : ByteArray) : (∃ y ∈ T.take (i + 1), y.f0.f0 = n) ↔ (∃ y ∈ T.take i, y.f0.f0 = n) ∨ (rd_T36 T (i : Int)).f0.f0 = n := by
  have e : T.take (i + 1) = T.take i ++ [rd_T36 T (i : Int)] := by
    rw [List.take_succ_eq_append_getElem h]
    congr 2
    unfold rd_T36
    simp [List.getD, h]
  rw [e]
  constructor
  · rintro ⟨y, hy, he⟩
    rcases List.mem_append.1 hy with hy | hy
    · exact .inl ⟨y, hy, he⟩
    · rw [List.mem_singleton.1 hy] at he; exact .inr he
  · rintro (⟨y, hy, he⟩ | he)
    · exact ⟨y, List.mem_append_left _ hy, he⟩
    · exact ⟨_, List.mem_append_right _ (List.mem_singleton.2 rfl), he⟩
theorem mem_take_ix (T : List S36) (i : Nat) (h : i ≤ T.length) (n : ByteArray) : (∃ y ∈ T.take i, y.f0.f0 = n) ↔ ∃ q, q < i ∧ (rd_T36 T (q : Int)).f0.f0 = n := by
  induction i with
  | zero => simp
  | succ i ih =>
    rw [mem_take_succ T i (by omega) n, ih (by omega)]
    constructor
    · rintro (⟨q, hq, he⟩ | he)
      · exact ⟨q, by omega, he⟩
      · exact ⟨i, by omega, he⟩
    · rintro ⟨q, hq, he⟩
      by_cases h1 : q < i
      · exact .inl ⟨q, h1, he⟩
      · have : q = i := by omega
        subst this
        exact .inr he
theorem makers_both (T : List S36) (hT : T.length ≤ 1000) : ∀ k : Nat,
    (∀ (i : Nat) (acc : List ByteArray), i ≤ T.length → acc.length ≤ i → (∀ n, n ∈ acc ↔ ∃ y ∈ T.take i, y.f0.f0 = n) → (T.length - i) * (T.length + 2) < k → pannierlaw08_makers.l0 k T (acc.length : Int) (i : Int) = some ((namesA (T.drop i) acc).length : Int)) ∧
    (∀ (i j : Nat) (acc : List ByteArray) (met : Bool), i < T.length → j ≤ i → acc.length ≤ i → (∀ n, n ∈ acc ↔ ∃ y ∈ T.take i, y.f0.f0 = n) → (met = true → (rd_T36 T (i : Int)).f0.f0 ∈ acc) → (met = false → ∀ q, q < j → (rd_T36 T (q : Int)).f0.f0 ≠ (rd_T36 T (i : Int)).f0.f0) →
      (T.length - i - 1) * (T.length + 2) + (i - j) + 1 < k → pannierlaw08_makers.l1 k T (acc.length : Int) (i : Int) met (j : Int) = some ((namesA (T.drop i) acc).length : Int)) := by
  intro k
  induction k with
  | zero => exact ⟨fun i acc _ _ _ h => by omega, fun i j acc met _ _ _ _ _ _ h => by omega⟩
  | succ k ih =>
    obtain ⟨ih0, ih1⟩ := ih
    have step : ∀ (i : Nat) (acc : List ByteArray), i < T.length → acc.length ≤ i → (∀ n, n ∈ acc ↔ ∃ y ∈ T.take i, y.f0.f0 = n) → (T.length - i - 1) * (T.length + 2) < k →
        ((rd_T36 T (i : Int)).f0.f0 ∈ acc → pannierlaw08_makers.l0 k T (acc.length : Int) (wrap64 ((i : Int) + 1)) = some ((namesA (T.drop i) acc).length : Int)) ∧
        ((rd_T36 T (i : Int)).f0.f0 ∉ acc → pannierlaw08_makers.l0 k T (wrap64 ((acc.length : Int) + 1)) (wrap64 ((i : Int) + 1)) = some ((namesA (T.drop i) acc).length : Int)) := by
      intro i acc hi hal hacc hk
      rw [rd_drop36 T i hi, wrap_succ hi (by omega)]
      have hk' : (T.length - (i + 1)) * (T.length + 2) < k := by rw [show T.length - (i + 1) = T.length - i - 1 from by omega]; exact hk
      refine ⟨fun hm => ?_, fun hm => ?_⟩
      · rw [ih0 (i + 1) acc (by omega) (by omega) (fun n => by rw [mem_take_succ T i hi n, ← hacc]; exact ⟨.inl, fun h => h.elim id (fun e => e ▸ hm)⟩) hk']
        simp only [namesA]
        rw [if_pos (memB_iff.2 hm)]
      · have := ih0 (i + 1) (acc ++ [(rd_T36 T (i : Int)).f0.f0]) (by omega) (by simp; omega) (fun n => by rw [mem_take_succ T i hi n, ← hacc]; simp [eq_comm]) hk'
        rw [wrap_succ (n := 1001) (by omega) (by omega)]
        rw [show ((acc.length + 1 : Nat) : Int) = (((acc ++ [(rd_T36 T (i : Int)).f0.f0]).length : Nat) : Int) from by simp, this]
        simp only [namesA]
        rw [if_neg (fun h => hm (memB_iff.1 h))]
    refine ⟨fun i acc hi hal hacc hk => ?_, fun i j acc met hi hj hal hacc hm1 hm0 hk => ?_⟩
    · unfold pannierlaw08_makers.l0
      by_cases hlt : i < T.length
      · rw [if_pos (by omega)]
        refine ih1 i 0 acc false hlt (by omega) hal hacc (by simp) (fun _ q hq => by omega) ?_
        have e : (T.length - i) * (T.length + 2) = (T.length - i - 1) * (T.length + 2) + (T.length + 2) := by
          obtain ⟨d, hd⟩ : ∃ d, T.length - i = d + 1 := ⟨T.length - i - 1, by omega⟩
          rw [hd, Nat.add_sub_cancel, Nat.succ_mul]
        omega
      · rw [if_neg (by omega), List.drop_eq_nil_of_le (by omega)]
        rfl
    · unfold pannierlaw08_makers.l1
      obtain ⟨s1, s2⟩ := step i acc hi hal hacc (by omega)
      by_cases hlt : j < i
      · rw [if_pos (by omega)]
        cases met with
        | true => rw [if_pos rfl]; exact s1 (hm1 rfl)
        | false =>
          rw [if_neg (by simp), if_pos (by omega), if_pos (by omega), if_pos (by omega), if_pos (by omega), wrap_succ (n := T.length) (by omega) (by omega)]
          refine ih1 i (j + 1) acc _ hi (by omega) hal hacc (fun h => ?_) (fun h q hq => ?_) (by omega)
          · have := bytes_inj (eq_of_beq h)
            exact (hacc _).2 ((mem_take_ix T i (by omega) _).2 ⟨j, hlt, this⟩)
          · by_cases hqj : q < j
            · exact hm0 rfl q hqj
            · have : q = j := by omega
              subst this
              intro e
              rw [e] at h
              simp at h
      · rw [if_neg (by omega)]
        cases met with
        | true => rw [if_pos rfl]; exact s1 (hm1 rfl)
        | false =>
          rw [if_neg (by simp)]
          refine s2 (fun hm => ?_)
          obtain ⟨q, hq, he⟩ := (mem_take_ix T i (by omega) _).1 ((hacc _).1 hm)
          exact hm0 rfl q (by omega) he
theorem makers_f (T : List S36) (hT : T.length ≤ 1000) : pannierlaw08_makers.f 2000000 T = some ((namesA T []).length : Int) := by
  unfold pannierlaw08_makers.f
  have h1 : (T.length - 0) * (T.length + 2) < 2000000 := by
    have : T.length * (T.length + 2) ≤ 1000 * (1000 + 2) := Nat.mul_le_mul hT (by omega)
    rw [Nat.sub_zero]; omega
  obtain ⟨m, hm⟩ : ∃ m, m = 2000000 := ⟨_, rfl⟩
  rw [← hm] at h1 ⊢
  have := (makers_both T hT m).1 0 [] (by omega) (by simp) (by simp) h1
  exact this
end Go.Proofs.Ytenbkljgmgdegaa.PO
