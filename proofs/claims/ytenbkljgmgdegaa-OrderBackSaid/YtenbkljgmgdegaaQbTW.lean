/- What the rows of this claim use, out of the texts of this work (TW). No condition beyond those that each statement names. -/
import Derived.Test.YtenbkljgmgdegaaQbTV
namespace Go.Proofs.Ytenbkljgmgdegaa.PO
open Go.RowKit Go.Proofs.YtenbkljgmgdegaaW.PrintWords Go.Proofs.Ytenbkljgmgdegaa.XRange
theorem put_whole (G : Nat → Prop) (k f : Nat) (F : Nat → Prop) (base g m : Nat) (s : PSt) (x : S36) (A1 A6 : Option Addr) (c1 c6 : Nat) (w : World) (hp : PoolIn G w.heap.size F base g m s w) (hFm : F m) (hG : ∀ j, w.heap.size ≤ j → G j)
    (hC1 : Kd.C k34 w A1 x.f1.length x.f1) (hc1 : x.f1.length ≤ c1) (hC6 : Kd.C k34 w A6 x.f6.length x.f6) (hc6 : x.f6.length ≤ c6) (hdef : ∀ cs, ∃ r, putF k f s x cs = some r) :
    Calls Try.prog 17 #[.pointer (some ⟨g, 0, none⟩), .agg #[.string x.f0.f0, .int .i64 x.f0.f1, .slice A1 x.f1.length c1, .string x.f2, .int .i64 x.f3, .string x.f4, .int .i64 x.f5, .slice A6 x.f6.length c6]] w fun e w' =>
      ∃ cs r, putF k f s x cs = some r ∧ e = .returned (.tuple #[.int .i64 r.1.1, .int .i64 r.1.2]) ∧ PoolIn G w.heap.size F base g m r.2 w' ∧ Keeps F w w' := by
  by_cases hw : ∃ a, order_Right.f k x.f0.f0 x.f0.f1 x.f1 x.f2 x.f3 x.f4 x.f5 x.f6 = some true ∧ Go.Proofs.Ytenbkljgmgdegaa.XMap.look s.D x.f0 = none ∧ vector_At.f k s.K x.f0.f0 = some a ∧ ¬ (a = 0 ∧ s.K.length = 64) ∧ vector_Leq.f k x.f1 s.K = some true
  · obtain ⟨a, h1, h2, h3, h4, h5⟩ := hw
    have hlens : x.f1.length ≤ 1000000 ∧ x.f6.length ≤ 1000000 := by
      obtain ⟨r, hr⟩ := hdef []
      unfold putF at hr
      rw [h1] at hr
      simp only [Option.bind_some, if_true] at hr
      by_cases h : x.f1.length ≤ 1000000 ∧ x.f6.length ≤ 1000000
      · exact h
      · rw [if_neg h] at hr; cases hr
    have key : ∀ cs, putF k f s x cs = (handS k { s with D := Go.Proofs.Ytenbkljgmgdegaa.XMap.upd s.D x.f0 (x, cs) } x).bind fun s1 => (drain k f (s1, 1)).bind fun t => some ((t.2, 0), t.1) := by
      intro cs
      unfold putF
      rw [h1]
      simp only [Option.bind_some, if_true]
      rw [if_pos hlens, h2]
      simp only
      rw [h3]
      simp only [Option.bind_some]
      rw [if_neg h4, h5]
      simp only [Option.bind_some, if_true]
    refine (put_hand G k f F base g m s x A1 A6 c1 c6 w a hp hFm hG hC1 hc1 hC6 hc6 hlens h1 h2 h3 h4 h5 (fun cs => ?_)).mono ?_
    · obtain ⟨r, hr⟩ := hdef cs
      rw [key] at hr
      obtain ⟨s1, hs1, hr⟩ := Option.bind_eq_some_iff.mp hr
      obtain ⟨t, ht, _⟩ := Option.bind_eq_some_iff.mp hr
      exact ⟨s1, t, hs1, ht⟩
    · rintro e w' ⟨cs, s1, t, hs1, ht, rfl, h6, h7⟩
      exact ⟨cs, ((t.2, 0), t.1), by rw [key, hs1]; simp only [Option.bind_some]; rw [ht]; rfl, rfl, h6, h7⟩
  · exact put_calls G k f F base g m s x A1 A6 c1 c6 w hp hFm hG hC1 hc1 hC6 hc6 hdef (fun a h1 h2 h3 h4 h5 => hw ⟨a, h1, h2, h3, h4, h5⟩)
end Go.Proofs.Ytenbkljgmgdegaa.PO
