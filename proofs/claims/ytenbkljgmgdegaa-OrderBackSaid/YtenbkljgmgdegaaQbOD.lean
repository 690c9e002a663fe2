/- What the rows of this claim use, out of the texts of this work (OD). No condition beyond those that each statement names. -/
import Derived.Test.YtenbkljgmgdegaaQbOC
import Derived.Test.YtenbkljgmgdegaaQbTY
namespace Go.Proofs.Ytenbkljgmgdegaa.PO
open Go.RowKit Go.Proofs.YtenbkljgmgdegaaW.PrintWords Go.Proofs.YtenbkljgmgdegaaW.PrintLast Go.Proofs.YtenbkljgmgdegaaW.PrintMore Go.Proofs.Ytenbkljgmgdegaa.XW
open Go.Proofs.Ytenbkljgmgdegaa.XRange Go.Proofs.Ytenbkljgmgdegaa.XMap Go.Proofs.Ytenbkljgmgdegaa.XSeq
set_option linter.unusedVariables false
set_option linter.unusedSimpArgs false
def PSt.ab (s : PSt) : AP := ⟨s.L, s.K, s.Q⟩
def DOk (s : PSt) : Prop := ∀ d, (Go.Proofs.Ytenbkljgmgdegaa.XMap.look s.D d).map (·.1) = ofDot (s.L ++ s.Q) d
theorem firstR_eq (k : Nat) (hk : 200 ≤ k) (K : List S34) (hK : rightS K = true) : ∀ (Q : List S36) (j : Nat), (∀ x ∈ Q, rightO x = true) → firstR k K Q j = some ((Q.findIdx? (canS K)).map (· + j))
  | [], j, _ => rfl
  | x :: r, j, h => by
    have hx := rightO_parts (h x List.mem_cons_self)
    have hKl := (rightS_le hK).1
    have ih := firstR_eq k hk K hK r (j + 1) (fun y hy => h y (List.mem_cons_of_mem _ hy))
    unfold firstR
    rw [with_f K (by omega) _ _ k (by omega), Option.bind_some, leq_f _ _ (by omega) (by omega) k (by omega), Option.bind_some, ih, List.findIdx?_cons]
    have e : (withS K x.f0.f0 x.f0.f1).2 = (withK K x).2 := rfl
    by_cases h1 : (withK K x).2 = 0
    · rw [e, if_pos h1]
      cases h2 : leqS x.f1 K
      · have : canS K x = false := by unfold canS; simp [h2]
        rw [this, if_neg (by simp), if_neg (by simp)]
        cases r.findIdx? (canS K) <;> simp <;> omega
      · have : canS K x = true := by unfold canS; simp [h1, h2]
        rw [this, if_pos rfl, if_pos rfl]; simp
    · rw [e, if_neg h1]
      have : canS K x = false := by unfold canS; simp [h1]
      rw [this, if_neg (by simp)]
      cases r.findIdx? (canS K) <;> simp <;> omega
theorem handS_eq (k : Nat) (hk : 200 ≤ k) (s : PSt) (x : S36) (hK : rightS s.K = true) (hL : s.L.length ≤ 1000000000000) : handS k s x = some { s with L := s.L ++ [x], K := (withK s.K x).1 } := by
  have hKl := (rightS_le hK).1
  unfold handS
  rw [if_pos hL, with_f _ (by omega) _ _ k (by omega)]
  rfl
theorem drain_eq (k : Nat) (hk : 200 ≤ k) : ∀ (f : Nat) (s : PSt) (n : Nat), InvA s.ab → s.Q.length < f → s.L.length + s.Q.length ≤ 1000000000000 → n + s.Q.length ≤ 1000000 →
    drain k f (s, (n : Int)) = some ({ s with L := (drainA s.Q.length s.ab n).1.L, K := (drainA s.Q.length s.ab n).1.K, Q := (drainA s.Q.length s.ab n).1.Q }, ((drainA s.Q.length s.ab n).2 : Int))
  | 0, s, n, _, h, _, _ => by omega
  | f + 1, s, n, hi, hf, hL, hn => by
    have hw := hi.waits
    have hw' : s.Q.length ≤ 256 := hw
    unfold drain
    rw [if_pos ⟨by omega, by omega, by omega⟩, firstR_eq k hk s.K hi.known s.Q 0 (fun x hx => hi.right x (List.mem_append_right _ hx)), Option.bind_some]
    cases hj : s.Q.findIdx? (canS s.K) with
    | none =>
      cases hq : s.Q.length with
      | zero => rfl
      | succ q => simp only [Option.map_none, drainA]; rw [show (PSt.ab s).Q = s.Q from rfl, show (PSt.ab s).K = s.K from rfl, hj]; rfl
    | some i =>
      obtain ⟨hlt, hc⟩ := first_some hj
      have hst := inv_step (s := s.ab) hi hj
      have hh := handS_eq k hk (takeQ s i) (s.Q.getD i z36) hi.known (by show s.L.length ≤ _; omega)
      simp only [Option.map_some, Nat.add_zero]
      rw [hh, Option.bind_some]
      have hql : (s.Q.eraseIdx i).length = s.Q.length - 1 := by rw [List.length_eraseIdx, if_pos hlt]
      have ih := drain_eq k hk f { takeQ s i with L := (takeQ s i).L ++ [s.Q.getD i z36], K := (withK (takeQ s i).K (s.Q.getD i z36)).1 } (n + 1) hst (by show (s.Q.eraseIdx i).length < f; omega)
        (by show (s.L ++ [_]).length + (s.Q.eraseIdx i).length ≤ _; simp; omega) (by show n + 1 + (s.Q.eraseIdx i).length ≤ _; omega)
      have hcast : ((n : Int) + 1) = ((n + 1 : Nat) : Int) := by omega
      rw [hcast, ih]
      have hun : drainA s.Q.length s.ab n = drainA (s.Q.eraseIdx i).length (handA (takeA s.ab i) (s.Q.getD i z36)) (n + 1) := by
        obtain ⟨q, hq⟩ : ∃ q, s.Q.length = q + 1 := ⟨s.Q.length - 1, by omega⟩
        rw [hql, hq, Nat.add_sub_cancel]
        conv => lhs; unfold drainA
        rw [show (PSt.ab s).Q = s.Q from rfl, show (PSt.ab s).K = s.K from rfl, hj]
      rw [hun]
      rfl
theorem putF_eq (k f : Nat) (s : PSt) (x : S36) (cs : List Value) (hi : InvA s.ab) (hd : DOk s) (h1 : x.f1.length ≤ 9223372036854775807) (h6 : x.f6.length ≤ 9223372036854775807) (hk : x.f6.length + x.f1.length + 400 < k) (hf : 300 ≤ f) (hL : s.L.length ≤ 900000000000) :
    ∃ r, putF k f s x cs = some r ∧ r.1 = (putA s.ab x).1 ∧ r.2.ab = (putA s.ab x).2 ∧ DOk r.2 := by
  have hw : s.Q.length ≤ 256 := hi.waits
  have hKl := (rightS_le hi.known).1
  have hKl' : s.K.length ≤ 64 := hKl
  unfold putF putA
  rw [orderRight_f x h1 h6 k (by omega), Option.bind_some]
  by_cases hx : rightO x = true
  · have hp := rightO_parts hx
    rw [if_pos hx, if_pos hx, if_pos ⟨by omega, by omega⟩]
    have hdd := hd x.f0
    show ∃ r : (Int × Int) × PSt, _ = some r ∧ r.1 = (match ofDot (s.L ++ s.Q) x.f0 with | some y => _ | none => _ : (Int × Int) × AP).1 ∧ _
    cases hl : Go.Proofs.Ytenbkljgmgdegaa.XMap.look s.D x.f0 with
    | some y =>
      obtain ⟨y, cy⟩ := y
      rw [hl] at hdd
      simp only [Option.map_some] at hdd
      have hy := hi.right y (ofDot_some hdd.symm).1
      have hyp := rightO_parts hy
      show ∃ r : (Int × Int) × PSt, ((order_equal.f k y.f0.f0 _ _ _ _ _ _ _ _ _ _ _ _ _ _ _).bind _) = some r ∧ _
      rw [equalO_f y x (by omega) (by omega) k (by omega) (by omega), Option.bind_some]
      have hdd' : ofDot (s.ab.L ++ s.ab.Q) x.f0 = some y := hdd.symm
      rw [← hdd, hdd']
      by_cases he : y = x
      · rw [if_pos (by simpa using he)]; simp only; rw [if_pos he]; exact ⟨_, rfl, rfl, rfl, hd⟩
      · rw [if_neg (by simpa using he)]; simp only; rw [if_neg he]; exact ⟨_, rfl, rfl, rfl, hd⟩
    | none =>
      rw [hl] at hdd
      simp only [Option.map_none] at hdd
      have hnew : ofDot (s.ab.L ++ s.ab.Q) x.f0 = none := hdd.symm
      simp only
      rw [at_f _ _ (by omega) k (by omega), Option.bind_some, ← hdd, hnew]
      simp only [show s.ab.K = s.K from rfl, show s.ab.Q = s.Q from rfl, show s.ab.L = s.L from rfl]
      by_cases hroom : atS x.f0.f0 s.K = 0 ∧ s.K.length = 64
      · rw [if_pos hroom, if_pos hroom]; exact ⟨_, rfl, rfl, rfl, hd⟩
      · rw [if_neg hroom, if_neg hroom, leq_f _ _ (by omega) (by omega) k (by omega), Option.bind_some]
        by_cases hle : leqS x.f1 s.K = true
        · have hwk := with_of_leq hi hx hle hroom hnew
          have hih := inv_hand hi hx hnew hwk
          have hh := handS_eq k (by omega) { s with D := upd s.D x.f0 (x, cs) } x hi.known (by show s.L.length ≤ _; omega)
          rw [if_pos hle, hh, Option.bind_some]
          have hdr := drain_eq k (by omega) f { s with D := upd s.D x.f0 (x, cs), L := s.L ++ [x], K := (withK s.K x).1 } 1 hih (by show s.Q.length < f; omega) (by show (s.L ++ [x]).length + s.Q.length ≤ _; simp; omega) (by show 1 + s.Q.length ≤ _; omega)
          rw [show ((1 : Nat) : Int) = 1 from rfl] at hdr
          rw [hdr, Option.bind_some, if_pos hle]
          refine ⟨_, rfl, rfl, rfl, ?_⟩
          obtain ⟨g1, g2, _⟩ := drainA_inv s.Q.length (handA s.ab x) 1 hih
          intro d
          show (Go.Proofs.Ytenbkljgmgdegaa.XMap.look (upd s.D x.f0 (x, cs)) d).map (·.1) = ofDot ((drainA s.Q.length (handA s.ab x) 1).1.L ++ (drainA s.Q.length (handA s.ab x) 1).1.Q) d
          rw [ofDot_perm g1.once g2, look_upd]
          have hp2 : ((handA s.ab x).L ++ (handA s.ab x).Q).Perm (x :: (s.L ++ s.Q)) := by
            show ((s.L ++ [x]) ++ s.Q).Perm _
            rw [List.append_assoc]; exact List.perm_middle
          rw [ofDot_perm hih.once hp2]
          show _ = (x :: (s.L ++ s.Q)).find? _
          rw [List.find?_cons]
          by_cases he : x.f0 = d
          · rw [if_pos he]; simp [he]
          · rw [if_neg he, hd d]; simp [he, ofDot, List.find?_append]
        · rw [if_neg hle, if_neg hle]
          by_cases h256 : s.Q.length = 256
          · rw [if_pos h256, if_pos h256]; exact ⟨_, rfl, rfl, rfl, hd⟩
          · rw [if_neg h256, if_neg h256, if_pos (by omega)]
            refine ⟨_, rfl, rfl, rfl, ?_⟩
            intro d
            show (Go.Proofs.Ytenbkljgmgdegaa.XMap.look (upd s.D x.f0 (x, cs)) d).map (·.1) = ofDot (s.L ++ (s.Q ++ [x])) d
            rw [look_upd]
            by_cases he : x.f0 = d
            · rw [if_pos he]
              subst he
              have : ofDot (s.L ++ (s.Q ++ [x])) x.f0 = some x := by
                unfold ofDot
                rw [← List.append_assoc, List.find?_append]
                have : (s.L ++ s.Q).find? (fun y => decide (y.f0 = x.f0)) = none := hnew
                rw [this]
                simp
              rw [this]; rfl
            · rw [if_neg he, hd d]
              unfold ofDot
              rw [← List.append_assoc, List.find?_append]
              simp [he]
  · rw [if_neg hx, if_neg hx]
    exact ⟨_, rfl, rfl, rfl, hd⟩
def PoolS (S : Nat → Prop) (g : Nat) (a : AP) (w : World) : Prop := ∃ s : PSt, PoolOwn S g s w ∧ s.ab = a ∧ DOk s ∧ InvA a
theorem PoolS.keeps {S M : Nat → Prop} {g : Nat} {a : AP} {w w1 : World} (h : PoolS S g a w) (hk : Keeps M w w1) (hd : ∀ k, S k → ¬ M k) : PoolS S g a w1 := by
  obtain ⟨s, h1, h2⟩ := h
  exact ⟨s, h1.keeps hk hd, h2⟩
theorem PoolS.below {S : Nat → Prop} {g : Nat} {a : AP} {w w1 : World} (h : PoolS S g a w) (hb : Below w.heap.size w w1) : PoolS S g a w1 := h.keeps (Keeps.of_below hb) (fun _ _ f => f)
theorem PoolS.lt {S : Nat → Prop} {g : Nat} {a : AP} {w : World} (h : PoolS S g a w) : ∀ k, S k → k < w.heap.size := by obtain ⟨s, ⟨m, vl, vk, vw, h1, h2, h3, h4⟩, _⟩ := h; exact h4
theorem poolPut (S : Nat → Prop) (g : Nat) (a : AP) (x : S36) (A1 A6 : Option Addr) (c1 c6 : Nat) (w : World) (hp : PoolS S g a w) (hL : a.L.length ≤ 900000000000)
    (hC1 : Kd.C k34 w A1 x.f1.length x.f1) (hc1 : x.f1.length ≤ c1) (hC6 : Kd.C k34 w A6 x.f6.length x.f6) (hc6 : x.f6.length ≤ c6) :
    Calls Try.prog 17 #[.pointer (some ⟨g, 0, none⟩), .agg #[.string x.f0.f0, .int .i64 x.f0.f1, .slice A1 x.f1.length c1, .string x.f2, .int .i64 x.f3, .string x.f4, .int .i64 x.f5, .slice A6 x.f6.length c6]] w fun e w' =>
      ∃ S', e = .returned (.tuple #[.int .i64 (putA a x).1.1, .int .i64 (putA a x).1.2]) ∧ PoolS S' g (putA a x).2 w' ∧ (∀ k, S' k → S k ∨ w.heap.size ≤ k) ∧ Keeps S w w' := by
  obtain ⟨s, h1, rfl, hd, hi⟩ := hp
  have hl1 := hC1.2.1
  have hl6 := hC6.2.1
  have key := fun cs => putF_eq (x.f6.length + x.f1.length + 401) 300 s x cs hi hd hl1 hl6 (by omega) (by omega) hL
  refine (put_own (x.f6.length + x.f1.length + 401) 300 S g s x A1 A6 c1 c6 w h1 hC1 hc1 hC6 hc6 (fun cs => by obtain ⟨r, hr, _⟩ := key cs; exact ⟨r, hr⟩)).mono ?_
  rintro e w' ⟨cs, r, S', hr, rfl, p1, p2, p3⟩
  obtain ⟨r', hr', q1, q2, q3⟩ := key cs
  rw [hr] at hr'
  cases hr'
  exact ⟨S', by rw [q1], ⟨r.2, p1, q2, q3, (putA_inv hi x).1⟩, p2, p3⟩
theorem poolNew (w : World) : Calls Try.prog 16 #[] w fun e w' => e = .returned (.pointer (some ⟨w.heap.size + 1, 0, none⟩)) ∧ PoolS (fun k => k = w.heap.size ∨ k = w.heap.size + 1) (w.heap.size + 1) ⟨[], [], []⟩ w' ∧ Below w.heap.size w w' :=
  (new_calls w).mono fun e w' ⟨h1, h2, h3⟩ => ⟨h1, ⟨_, h2, rfl, fun d => rfl, invA_new⟩, h3⟩
theorem poolKnown (S : Nat → Prop) (g : Nat) (a : AP) (w : World) (hp : PoolS S g a w) : Calls Try.prog 27 #[.pointer (some ⟨g, 0, none⟩)] w fun e w' => ∃ v, e = .returned v ∧ Kd.R k34 34 w' w.heap.size (fun _ => True) v a.K ∧ Below w.heap.size w w' := by
  obtain ⟨s, h1, rfl, hd, hi⟩ := hp
  have := (rightS_le hi.known).1
  exact known_calls S g s w h1 (by have : s.K.length ≤ 64 := this; omega)
end Go.Proofs.Ytenbkljgmgdegaa.PO
