/- What the rows of this claim use, out of the texts of this work (OK). No condition beyond those that each statement names. -/
import Derived.Test.YtenbkljgmgdegaaQbOJ
import Derived.Test.YtenbkljgmgdegaaQbOB
import Derived.Test.YtenbkljgmgdegaaQbRD
namespace Go.Proofs.Ytenbkljgmgdegaa.PO
open Go.RowKit Go.Proofs.YtenbkljgmgdegaaW.PrintWords Go.Proofs.YtenbkljgmgdegaaW.PrintLast Go.Proofs.YtenbkljgmgdegaaW.PrintMore Go.Proofs.Ytenbkljgmgdegaa.XW
set_option linter.unusedVariables false
set_option linter.unusedSimpArgs false
def text32 (b : List Int) (p : Int) : ByteArray × Int × Int :=
  if (takeS b p).2.2 = 0 then (if (takeS b p).1 > 32 then (⟨#[]⟩, 0, 20) else if (takeS b p).1 > (b.length : Int) - (takeS b p).2.1 then (⟨#[]⟩, 0, 20)
    else (strOfNums ((b.take ((takeS b p).2.1 + (takeS b p).1).toNat).drop (takeS b p).2.1.toNat), (takeS b p).2.1 + (takeS b p).1, 0)) else (⟨#[]⟩, 0, 20)
theorem takeText32_f (b : List Int) (hB : isB b) (hb : b.length ≤ 140737488355300) (p : Int) (k : Nat) (hk : 20 ≤ k) : wire_TakeText.f k b p 32 = some (text32 b p) := by
  unfold wire_TakeText.f text32
  rw [takeNumber_f b hB hb p k hk, Option.bind_some]
  by_cases h : (takeS b p).2.2 = 0
  case neg => rw [if_neg h, if_neg h]
  have ho := takeS_ok hB h
  rw [if_pos h, if_pos h, if_neg (by decide), u_id (u := 32) (by omega) (by omega)]
  by_cases h1 : (takeS b p).1 > 32
  · rw [if_pos h1, if_pos h1]
  rw [if_neg h1, if_neg h1, w_id (u := (b.length : Int) - (takeS b p).2.1) (by omega), u_id (by omega) (by omega)]
  by_cases h2 : (takeS b p).1 > (b.length : Int) - (takeS b p).2.1
  · rw [if_pos h2, if_pos h2]
  rw [if_neg h2, if_neg h2, if_pos (by omega), w_id (u := (takeS b p).1) (by omega), w_id (by omega), if_pos (by omega), if_pos (by omega)]
theorem wtext32_f (b : List Int) (s : ByteArray) (hs : s.size ≤ 32) (hb : b.length ≤ 140737488355200) (k : Nat) (hk : 20 ≤ k) : wire_Text.f k b s = some (textS b s) := by
  have := encN_len (s.size : Int)
  unfold wire_Text.f
  rw [u_id (by omega) (by omega), number_f _ (by omega) (by omega) b (by omega) k hk, Option.bind_some, if_pos (by rw [List.length_append]; omega)]
  rfl
theorem take_text32 (a r : List Int) (ha : isB a) (hr : isB r) (s : ByteArray) (hs : s.size ≤ 32) : text32 (a ++ textB s ++ r) (a.length : Int) = (s, ((a ++ textB s).length : Int), 0) := by
  have e : a ++ textB s ++ r = a ++ encN (s.size : Int) ++ (bytesOf s ++ r) := by simp [textB]
  have h := take_enc a (bytesOf s ++ r) ha (app_B (bytes_B s) hr) (s.size : Int) (by omega) (by omega)
  have hl := bytesOf_length s
  have hbl : (a ++ encN (s.size : Int)).length = a.length + (encN (s.size : Int)).length := by simp
  unfold text32
  rw [e, h]
  simp only []
  rw [if_pos trivial, if_neg (by omega), if_neg (by simp [hl]; omega)]
  have e2 : ((a.length : Int) + ((encN (s.size : Int)).length : Int) + (s.size : Int)).toNat = (a ++ encN (s.size : Int) ++ bytesOf s).length := by simp [hl]; omega
  have e3 : ((a.length : Int) + ((encN (s.size : Int)).length : Int)).toNat = (a ++ encN (s.size : Int)).length := by simp; omega
  rw [e2, e3, ← List.append_assoc, List.take_left, List.drop_left, nums_bytes]
  congr 2
  simp [textB, hl]
  omega
theorem text_is32 {b : List Int} (hB : isB b) {p : Int} (h : (text32 b p).2.2 = 0) : 0 ≤ p ∧ p.toNat ≤ b.length ∧ (text32 b p).1.size ≤ 32 ∧ 0 ≤ (text32 b p).2.1 ∧ b.take (text32 b p).2.1.toNat = b.take p.toNat ++ textB (text32 b p).1 := by
  unfold text32 at h ⊢
  by_cases h0 : (takeS b p).2.2 = 0
  case neg => rw [if_neg h0] at h; cases h
  rw [if_pos h0] at h ⊢
  by_cases h1 : (takeS b p).1 > 32
  · rw [if_pos h1] at h; cases h
  by_cases h2 : (takeS b p).1 > (b.length : Int) - (takeS b p).2.1
  · rw [if_neg h1, if_pos h2] at h; cases h
  rw [if_neg h1, if_neg h2]
  have hk := takeS_ok hB h0
  obtain ⟨hp, hpl, ht⟩ := take_is hB h0
  obtain ⟨q, hq⟩ : ∃ q : Nat, (takeS b p).2.1 = (q : Int) := ⟨(takeS b p).2.1.toNat, by omega⟩
  obtain ⟨n, hn⟩ : ∃ n : Nat, (takeS b p).1 = (n : Int) := ⟨(takeS b p).1.toNat, by omega⟩
  simp only [hq, hn] at hk h1 h2 ht ⊢
  simp only [Int.toNat_natCast] at ht
  have e2 : ((q : Int) + (n : Int)).toNat = q + n := by omega
  have hz : (strOfNums ((b.take (q + n)).drop q)).size = n := by rw [strOfNums_size]; simp; omega
  have hbB : isB ((b.take (q + n)).drop q) := fun x hx => hB x (List.mem_of_mem_take (List.mem_of_mem_drop hx))
  refine ⟨hp, hpl, ?_, ?_, ?_⟩
  · show (strOfNums _).size ≤ 32
    rw [e2, Int.toNat_natCast, hz]; omega
  · show (0 : Int) ≤ (q : Int) + (n : Int)
    omega
  · show b.take ((q : Int) + (n : Int)).toNat = _
    unfold textB
    rw [e2, Int.toNat_natCast, hz, bytes_nums hbB, ← List.append_assoc, ← ht]
    have : (b.take (q + n)).take q = b.take q := by rw [List.take_take, Nat.min_eq_left (by omega)]
    rw [← this, List.take_append_drop]
def layO (x : S36) : List Int := textB x.f0.f0 ++ encN x.f0.f1 ++ (layS [] x.f1).1 ++ textB x.f2 ++ textB x.f4 ++ encN x.f3 ++ encN x.f5 ++ encN (x.f6.length : Int) ++ layL [] x.f6
def numR (b : List Int) (p : Int) (bad : Bool) : Int × Int × Bool :=
  if bad = true then (0, p, true) else if (takeS b p).2.2 = 0 then (if (takeS b p).1 > 4611686018427387904 then (0, p, true) else ((takeS b p).1, (takeS b p).2.1, false)) else (0, p, true)
def texR (b : List Int) (p : Int) (bad : Bool) : ByteArray × Int × Bool :=
  if bad = true then (⟨#[]⟩, p, true) else if (text32 b p).2.2 = 0 then ((text32 b p).1, (text32 b p).2.1, false) else (⟨#[]⟩, p, true)
def dotR (b : List Int) (p : Int) (bad : Bool) : S34 × Int × Bool :=
  (⟨(texR b p bad).1, (numR b (texR b p bad).2.1 (texR b p bad).2.2).1⟩, (numR b (texR b p bad).2.1 (texR b p bad).2.2).2.1, (numR b (texR b p bad).2.1 (texR b p bad).2.2).2.2)
def seenR (b : List Int) : Nat → Int → Bool → List S34 → List S34 × Int × Bool
  | 0, p, bad, v => (v, p, bad)
  | c + 1, p, bad, v => seenR b c (dotR b p bad).2.1 (dotR b p bad).2.2 (v ++ [(dotR b p bad).1])
theorem seenR_s (b : List Int) (c : Nat) (p : Int) (bad : Bool) (v : List S34) : seenR b (c + 1) p bad v = seenR b c (dotR b p bad).2.1 (dotR b p bad).2.2 (v ++ [(dotR b p bad).1]) := rfl
theorem numR_at {b : List Int} {p n q : Int} (h : takeS b p = (n, q, 0)) (hn : n ≤ 4611686018427387904) : numR b p false = (n, q, false) := by
  unfold numR; rw [h]; simp; omega
theorem texR_at {b : List Int} {p q : Int} {s : ByteArray} (h : text32 b p = (s, q, 0)) : texR b p false = (s, q, false) := by
  unfold texR; rw [h]; simp
theorem dotR_enc (a r : List Int) (ha : isB a) (hr : isB r) (d : S34) (h0 : d.f0.size ≤ 32) (h1 : 0 ≤ d.f1) (h2 : d.f1 ≤ 4611686018427387904) :
    dotR (a ++ (textB d.f0 ++ encN d.f1) ++ r) (a.length : Int) false = (d, ((a ++ (textB d.f0 ++ encN d.f1)).length : Int), false) := by
  have hB : isB (encN d.f1) := enc_B h1 (by omega)
  have ht := take_text32 a (encN d.f1 ++ r) ha (app_B hB hr) d.f0 h0
  have e1 : a ++ textB d.f0 ++ (encN d.f1 ++ r) = a ++ (textB d.f0 ++ encN d.f1) ++ r := by simp
  rw [e1] at ht
  have hn := take_enc (a ++ textB d.f0) r (app_B ha (textB_B _ (by omega))) hr d.f1 h1 (by omega)
  have e2 : a ++ textB d.f0 ++ encN d.f1 ++ r = a ++ (textB d.f0 ++ encN d.f1) ++ r := by simp
  rw [e2] at hn
  unfold dotR
  rw [texR_at ht]
  show (_, _, _) = _
  rw [numR_at hn h2]
  show (_, _, _) = _
  simp only [Prod.mk.injEq]
  exact ⟨by first | trivial | (cases d; rfl), by simp; omega, trivial⟩
theorem seen_cons (x : S34) (l : List S34) : layL [] (x :: l) = (textB x.f0 ++ encN x.f1) ++ layL [] l := by rw [lay_cons]
def fine32 (l : List S34) : Prop := ∀ x, x ∈ l → x.f0.size ≤ 32 ∧ 0 ≤ x.f1 ∧ x.f1 ≤ 4611686018427387904
theorem seenL_B : ∀ (l : List S34), fine32 l → isB (layL [] l)
  | [], _ => fun x hx => by simp [layL] at hx
  | x :: l, h => by
    have h1 := h x List.mem_cons_self
    rw [seen_cons]
    exact app_B (app_B (textB_B _ (by omega)) (enc_B h1.2.1 (by omega))) (seenL_B l (fun y hy => h y (List.mem_cons_of_mem _ hy)))
theorem seenR_enc (r : List Int) (hr : isB r) : ∀ (l : List S34) (a : List Int) (v : List S34), isB a → fine32 l → seenR (a ++ layL [] l ++ r) l.length (a.length : Int) false v = (v ++ l, ((a ++ layL [] l).length : Int), false)
  | [], a, v, ha, _ => by simp [seenR, layL]
  | x :: l, a, v, ha, hf => by
    have h1 := hf x List.mem_cons_self
    have hf' : fine32 l := fun y hy => hf y (List.mem_cons_of_mem _ hy)
    have hd := dotR_enc a (layL [] l ++ r) ha (app_B (seenL_B l hf') hr) x h1.1 h1.2.1 h1.2.2
    have e1 : a ++ (textB x.f0 ++ encN x.f1) ++ (layL [] l ++ r) = a ++ layL [] (x :: l) ++ r := by rw [seen_cons]; simp
    rw [e1] at hd
    have ih := seenR_enc r hr l (a ++ (textB x.f0 ++ encN x.f1)) (v ++ [x]) (app_B ha (app_B (textB_B _ (by omega)) (enc_B h1.2.1 (by omega)))) hf'
    have e2 : a ++ (textB x.f0 ++ encN x.f1) ++ layL [] l ++ r = a ++ layL [] (x :: l) ++ r := by rw [seen_cons]; simp
    have e3 : a ++ (textB x.f0 ++ encN x.f1) ++ layL [] l = a ++ layL [] (x :: l) := by rw [seen_cons]; simp
    rw [e2, e3] at ih
    rw [List.length_cons, seenR_s, hd, ih]
    simp
theorem vec_enc_at (a r : List Int) (ha : isB a) (hr : isB r) (l : List S34) (h : rightS l = true) : vecS (a ++ (layS [] l).1 ++ r) (a.length : Int) = (l, ((a ++ (layS [] l).1).length : Int), 0) := by
  have hle := (rightS_le h).1
  have hf := right_fine h
  have e : (layS [] l).1 = encN (l.length : Int) ++ layL [] l := by
    unfold layS
    rw [if_pos h, lay_app]
    rfl
  have hB : isB (encN (l.length : Int)) := enc_B (by omega) (by omega)
  have hN := take_enc a (layL [] l ++ r) ha (app_B (lay_B l hf) hr) (l.length : Int) (by omega) (by omega)
  have hT := tl_enc r hr l (a ++ encN (l.length : Int)) [] (app_B ha hB) hf h
  rw [e]
  have e1 : a ++ encN (l.length : Int) ++ (layL [] l ++ r) = a ++ (encN (l.length : Int) ++ layL [] l) ++ r := by simp
  have e2 : a ++ encN (l.length : Int) ++ layL [] l ++ r = a ++ (encN (l.length : Int) ++ layL [] l) ++ r := by simp
  have e3 : a ++ encN (l.length : Int) ++ layL [] l = a ++ (encN (l.length : Int) ++ layL [] l) := by simp
  have e4 : ((a ++ encN (l.length : Int)).length : Int) = (a.length : Int) + ((encN (l.length : Int)).length : Int) := by simp
  rw [e1] at hN
  rw [e2, e3, e4] at hT
  unfold vecS
  rw [hN]
  simp only []
  rw [if_pos trivial, if_neg (by omega), Int.toNat_natCast, hT]
  rfl
theorem vec_is_at {b : List Int} (hB : isB b) {p : Int} (h : (vecS b p).2.2 = 0) : rightS (vecS b p).1 = true ∧ (0 ≤ (vecS b p).2.1 ∧ (vecS b p).2.1 ≤ (b.length : Int)) ∧ b.take (vecS b p).2.1.toNat = b.take p.toNat ++ (layS [] (vecS b p).1).1 := by
  unfold vecS at h ⊢
  by_cases h0 : (takeS b p).2.2 = 0
  case neg => rw [if_neg h0] at h; cases h
  by_cases h1 : (takeS b p).1 > 64
  · rw [if_pos h0, if_pos h1] at h; cases h
  rw [if_pos h0, if_neg h1] at h ⊢
  have hk := takeS_ok hB h0
  obtain ⟨_, _, hn⟩ := take_is hB h0
  obtain ⟨l, e1, e2, e3, e4, e5⟩ := tl_is hB _ _ _ hk.1 hk.2.1 h
  rw [List.nil_append] at e1 e3
  rw [e1]
  refine ⟨e3, e4, ?_⟩
  have hln : (l.length : Int) = (takeS b p).1 := by omega
  unfold layS
  rw [if_pos e3, lay_app, e5, hn, hln]
  simp
theorem numR_is {b : List Int} (hB : isB b) {p : Int} {bad : Bool} (h : (numR b p bad).2.2 = false) : bad = false ∧ 0 ≤ p ∧ p.toNat ≤ b.length ∧ 0 ≤ (numR b p bad).1 ∧ (numR b p bad).1 ≤ 4611686018427387904 ∧ 0 ≤ (numR b p bad).2.1 ∧ (numR b p bad).2.1 ≤ (b.length : Int) ∧ b.take (numR b p bad).2.1.toNat = b.take p.toNat ++ encN (numR b p bad).1 := by
  unfold numR at h ⊢
  cases bad with
  | true => simp at h
  | false =>
    rw [if_neg (by decide)] at h ⊢
    by_cases h0 : (takeS b p).2.2 = 0
    case neg => rw [if_neg h0] at h; cases h
    rw [if_pos h0] at h ⊢
    by_cases h1 : (takeS b p).1 > 4611686018427387904
    · rw [if_pos h1] at h; cases h
    rw [if_neg h1] at ⊢
    have hk := takeS_ok hB h0
    obtain ⟨a1, a2, a3⟩ := take_is hB h0
    exact ⟨rfl, a1, a2, hk.2.2.1, by show (takeS b p).1 ≤ _; omega, hk.1, hk.2.1, a3⟩
theorem texR_is {b : List Int} (hB : isB b) {p : Int} {bad : Bool} (h : (texR b p bad).2.2 = false) : bad = false ∧ 0 ≤ p ∧ p.toNat ≤ b.length ∧ (texR b p bad).1.size ≤ 32 ∧ 0 ≤ (texR b p bad).2.1 ∧ b.take (texR b p bad).2.1.toNat = b.take p.toNat ++ textB (texR b p bad).1 := by
  unfold texR at h ⊢
  cases bad with
  | true => simp at h
  | false =>
    rw [if_neg (by decide)] at h ⊢
    by_cases h0 : (text32 b p).2.2 = 0
    case neg => rw [if_neg h0] at h; cases h
    rw [if_pos h0]
    obtain ⟨a1, a2, a3, a4, a5⟩ := text_is32 hB h0
    exact ⟨rfl, a1, a2, a3, a4, a5⟩
theorem dotR_is {b : List Int} (hB : isB b) {p : Int} {bad : Bool} (h : (dotR b p bad).2.2 = false) : bad = false ∧ 0 ≤ p ∧ 0 ≤ (dotR b p bad).2.1 ∧ (dotR b p bad).2.1 ≤ (b.length : Int) ∧ b.take (dotR b p bad).2.1.toNat = b.take p.toNat ++ (textB (dotR b p bad).1.f0 ++ encN (dotR b p bad).1.f1) := by
  obtain ⟨n1, n2, n3, n4, n5, n6, n7, n8⟩ := numR_is hB (show (numR b (texR b p bad).2.1 (texR b p bad).2.2).2.2 = false from h)
  obtain ⟨t1, t2, t3, t4, t5, t6⟩ := texR_is hB n1
  refine ⟨t1, t2, n6, n7, ?_⟩
  show b.take (numR b (texR b p bad).2.1 (texR b p bad).2.2).2.1.toNat = _
  rw [n8, t6]
  show _ = b.take p.toNat ++ (textB (texR b p bad).1 ++ encN (numR b (texR b p bad).2.1 (texR b p bad).2.2).1)
  simp
theorem seenR_is {b : List Int} (hB : isB b) : ∀ (c : Nat) (p : Int) (bad : Bool) (v : List S34), 0 ≤ p → p ≤ (b.length : Int) → (seenR b c p bad v).2.2 = false →
    bad = false ∧ ∃ l, (seenR b c p bad v).1 = v ++ l ∧ l.length = c ∧ 0 ≤ (seenR b c p bad v).2.1 ∧ (seenR b c p bad v).2.1 ≤ (b.length : Int) ∧ b.take (seenR b c p bad v).2.1.toNat = b.take p.toNat ++ layL [] l
  | 0, p, bad, v, hp, hpl, h => ⟨h, [], by simp [seenR], rfl, hp, hpl, by simp [seenR, layL]⟩
  | c + 1, p, bad, v, hp, hpl, h => by
    rw [seenR_s] at h ⊢
    have hbad : (dotR b p bad).2.2 = false → 0 ≤ (dotR b p bad).2.1 ∧ (dotR b p bad).2.1 ≤ (b.length : Int) := fun h => by
      obtain ⟨_, _, h3, h4, _⟩ := dotR_is hB h; exact ⟨h3, h4⟩
    cases hd : (dotR b p bad).2.2 with
    | true =>
      exfalso
      rw [hd] at h
      have stay : ∀ (c : Nat) (p : Int) (v : List S34), (seenR b c p true v).2.2 = true := by
        intro c
        induction c with
        | zero => intro p v; rfl
        | succ c ih => intro p v; rw [seenR_s]; exact ih _ _
      rw [stay] at h
      cases h
    | false =>
      obtain ⟨d1, d2, d3, d4, d5⟩ := dotR_is hB hd
      rw [hd] at h
      obtain ⟨_, l, e1, e2, e3, e4, e5⟩ := seenR_is hB c _ false _ d3 d4 h
      refine ⟨d1, (dotR b p bad).1 :: l, by rw [e1]; simp, by simp [e2], e3, e4, ?_⟩
      rw [e5, d5, seen_cons]
      simp
def readO (b : List Int) : S36 × Int :=
  if (dotR b 0 false).2.2 = true ∨ (vecS b (dotR b 0 false).2.1).2.2 ≠ 0 then (z36, 80) else
  let c := texR b (vecS b (dotR b 0 false).2.1).2.1 false
  let i := texR b c.2.1 c.2.2
  let kd := numR b i.2.1 i.2.2
  let q := numR b kd.2.1 kd.2.2
  let m := numR b q.2.1 q.2.2
  if m.2.2 = true ∨ kd.1 > 3 ∨ m.1 > 128 then (z36, 80) else
  let s := seenR b m.1.toNat m.2.1 m.2.2 []
  if s.2.2 = true ∨ s.2.1 ≠ (b.length : Int) ∨ rightO ⟨(dotR b 0 false).1, (vecS b (dotR b 0 false).2.1).1, c.1, kd.1, i.1, q.1, s.1⟩ = false then (z36, 80) else
  (⟨(dotR b 0 false).1, (vecS b (dotR b 0 false).2.1).1, c.1, kd.1, i.1, q.1, s.1⟩, 0)
theorem readO_is {b : List Int} (hB : isB b) (h : (readO b).2 = 0) : rightO (readO b).1 = true ∧ layO (readO b).1 = b := by
  unfold readO at h ⊢
  by_cases h0 : (dotR b 0 false).2.2 = true ∨ (vecS b (dotR b 0 false).2.1).2.2 ≠ 0
  · rw [if_pos h0] at h; cases h
  rw [if_neg h0] at h ⊢
  dsimp only at h ⊢
  obtain ⟨c, hc⟩ : ∃ c, texR b (vecS b (dotR b 0 false).2.1).2.1 false = c := ⟨_, rfl⟩
  rw [hc] at h ⊢
  obtain ⟨i, hi⟩ : ∃ i, texR b c.2.1 c.2.2 = i := ⟨_, rfl⟩
  rw [hi] at h ⊢
  obtain ⟨kd, hkd⟩ : ∃ kd, numR b i.2.1 i.2.2 = kd := ⟨_, rfl⟩
  rw [hkd] at h ⊢
  obtain ⟨q, hq⟩ : ∃ q, numR b kd.2.1 kd.2.2 = q := ⟨_, rfl⟩
  rw [hq] at h ⊢
  obtain ⟨m, hm⟩ : ∃ m, numR b q.2.1 q.2.2 = m := ⟨_, rfl⟩
  rw [hm] at h ⊢
  by_cases h1 : m.2.2 = true ∨ kd.1 > 3 ∨ m.1 > 128
  · rw [if_pos h1] at h; cases h
  rw [if_neg h1] at h ⊢
  obtain ⟨s, hs⟩ : ∃ s, seenR b m.1.toNat m.2.1 m.2.2 [] = s := ⟨_, rfl⟩
  rw [hs] at h ⊢
  by_cases h2 : s.2.2 = true ∨ s.2.1 ≠ (b.length : Int) ∨ rightO ⟨(dotR b 0 false).1, (vecS b (dotR b 0 false).2.1).1, c.1, kd.1, i.1, q.1, s.1⟩ = false
  · rw [if_pos h2] at h; cases h
  rw [if_neg h2]
  have hr : rightO ⟨(dotR b 0 false).1, (vecS b (dotR b 0 false).2.1).1, c.1, kd.1, i.1, q.1, s.1⟩ = true := by
    cases hh : rightO ⟨(dotR b 0 false).1, (vecS b (dotR b 0 false).2.1).1, c.1, kd.1, i.1, q.1, s.1⟩ with
    | true => rfl
    | false => exact absurd (Or.inr (Or.inr hh)) h2
  refine ⟨hr, ?_⟩
  have hs2 : s.2.2 = false := by cases hh : s.2.2 with | false => rfl | true => exact absurd (Or.inl hh) h2
  have hse : s.2.1 = (b.length : Int) := Classical.byContradiction (fun hh => h2 (Or.inr (Or.inl hh)))
  have hm2 : m.2.2 = false := by cases hh : m.2.2 with | false => rfl | true => exact absurd (Or.inl hh) h1
  have hv0 : (vecS b (dotR b 0 false).2.1).2.2 = 0 := Classical.byContradiction (fun hh => h0 (Or.inr hh))
  have hd0 : (dotR b 0 false).2.2 = false := by cases hh : (dotR b 0 false).2.2 with | false => rfl | true => exact absurd (Or.inl hh) h0
  obtain ⟨m1, m2, m3, m4, m5, m6, m7, m8⟩ := numR_is hB (show (numR b q.2.1 q.2.2).2.2 = false by rw [hm]; exact hm2)
  obtain ⟨q1, q2, q3, q4, q5, q6, q7, q8⟩ := numR_is hB (show (numR b kd.2.1 kd.2.2).2.2 = false by rw [hq]; exact m1)
  obtain ⟨k1, k2, k3, k4, k5, k6, k7, k8⟩ := numR_is hB (show (numR b i.2.1 i.2.2).2.2 = false by rw [hkd]; exact q1)
  obtain ⟨i1, i2, i3, i4, i5, i6⟩ := texR_is hB (show (texR b c.2.1 c.2.2).2.2 = false by rw [hi]; exact k1)
  obtain ⟨c1, c2, c3, c4, c5, c6⟩ := texR_is hB (show (texR b (vecS b (dotR b 0 false).2.1).2.1 false).2.2 = false by rw [hc]; exact i1)
  obtain ⟨v1, v2, v3⟩ := vec_is_at hB hv0
  obtain ⟨d1, d2, d3, d4, d5⟩ := dotR_is hB hd0
  rw [hm] at m4 m6 m7 m8
  rw [hq] at q8
  rw [hkd] at k8
  rw [hi] at i6
  rw [hc] at c6
  obtain ⟨s1, l, e1, e2, e3, e4, e5⟩ := seenR_is hB m.1.toNat m.2.1 m.2.2 [] m6 m7 (by rw [hs]; exact hs2)
  rw [hs] at e1 e3 e4 e5
  have hl : (s.1.length : Int) = m.1 := by rw [e1]; simp [e2]; omega
  have e6 : b.take s.2.1.toNat = b := by rw [hse, Int.toNat_natCast]; exact List.take_length
  unfold layO
  show textB (dotR b 0 false).1.f0 ++ encN (dotR b 0 false).1.f1 ++ (layS [] (vecS b (dotR b 0 false).2.1).1).1 ++ textB c.1 ++ textB i.1 ++ encN kd.1 ++ encN q.1 ++ encN (s.1.length : Int) ++ layL [] s.1 = b
  have e7 : s.1 = l := by rw [e1]; simp
  rw [hl, e7]
  rw [e6, m8, q8, k8, i6, c6, v3, d5, show b.take (0 : Int).toNat = [] from rfl, List.nil_append] at e5
  simp only [List.append_assoc] at e5 ⊢
  exact e5.symm
theorem dotOk_32 {d : S34} (h : dotOk d = true) : d.f0.size ≤ 24 ∧ 1 ≤ d.f1 ∧ d.f1 ≤ 4611686018427387904 := by
  simp only [dotOk, isNameB, Bool.and_eq_true, decide_eq_true_eq] at h
  omega
theorem seenS_fine (deps : List S34) : ∀ (l : List S34) (p : Option S34), seenS deps p l = true → fine32 l
  | [], p, _ => fun x hx => by cases hx
  | y :: l, p, h => fun x hx => by
    have h' : hasS deps y.f0 y.f1 = true ∧ seenS deps (some y) l = true := by
      unfold seenS at h
      simp only [Bool.and_eq_true] at h
      exact ⟨h.1.1, h.2⟩
    rcases List.mem_cons.1 hx with rfl | hx
    · have h1 := h'.1
      unfold hasS at h1
      simp only [Bool.and_eq_true] at h1
      have h3 : x.f0.size ≤ 24 ∧ 1 ≤ x.f1 ∧ x.f1 ≤ 4611686018427387904 := dotOk_32 h1.1.2
      omega
    · exact seenS_fine deps l (some y) h'.2 x hx
theorem rightO_all {o : S36} (h : rightO o = true) : dotOk o.f0 = true ∧ rightS o.f1 = true ∧ o.f2.size ≤ 32 ∧ o.f4.size ≤ 32 ∧ o.f6.length ≤ 128 ∧ fine32 o.f6 ∧ (1 ≤ o.f3 ∧ o.f3 ≤ 3) ∧ 0 ≤ o.f5 ∧ o.f5 ≤ 9999 := by
  unfold rightO at h
  simp only [Bool.and_eq_true, decide_eq_true_eq] at h
  obtain ⟨⟨⟨⟨⟨⟨⟨h1, h2⟩, h3⟩, h4⟩, h5⟩, h6⟩, h7⟩, h8⟩ := h
  refine ⟨h1, h2, h4.2, h5.2, h6, seenS_fine _ _ _ h7, ?_⟩
  unfold kindS at h8
  by_cases q1 : o.f3 = 1
  · rw [if_pos q1] at h8
    simp only [Bool.and_eq_true, decide_eq_true_eq] at h8
    omega
  · rw [if_neg q1] at h8
    by_cases q2 : o.f3 = 2
    · rw [if_pos q2] at h8
      simp only [Bool.and_eq_true, decide_eq_true_eq] at h8
      omega
    · rw [if_neg q2] at h8
      simp only [Bool.and_eq_true, decide_eq_true_eq] at h8
      omega
theorem layV_B {l : List S34} (h : rightS l = true) : isB (layS [] l).1 := by
  have hle := (rightS_le h).1
  unfold layS
  rw [if_pos h, lay_app]
  exact app_B (app_B (fun x hx => by cases hx) (enc_B (by omega) (by omega))) (lay_B l (right_fine h))
theorem layO_B {x : S36} (h : rightO x = true) : isB (layO x) := by
  obtain ⟨h1, h2, h3, h4, h5, h6, h7, h8, h9⟩ := rightO_all h
  have hd := dotOk_32 h1
  unfold layO
  exact app_B (app_B (app_B (app_B (app_B (app_B (app_B (app_B (textB_B _ (by omega)) (enc_B (by omega) (by omega))) (layV_B h2)) (textB_B _ (by omega))) (textB_B _ (by omega))) (enc_B (by omega) (by omega))) (enc_B (by omega) (by omega))) (enc_B (by omega) (by omega))) (seenL_B _ h6)
theorem readO_enc {x : S36} (h : rightO x = true) : readO (layO x) = (x, 0) := by
  obtain ⟨h1, h2, h3, h4, h5, h6, h7, h8, h9⟩ := rightO_all h
  have hd := dotOk_32 h1
  obtain ⟨D, hD⟩ : ∃ D, textB x.f0.f0 ++ encN x.f0.f1 = D := ⟨_, rfl⟩
  obtain ⟨V, hV⟩ : ∃ V, (layS [] x.f1).1 = V := ⟨_, rfl⟩
  obtain ⟨C, hC⟩ : ∃ C, textB x.f2 = C := ⟨_, rfl⟩
  obtain ⟨I, hI⟩ : ∃ I, textB x.f4 = I := ⟨_, rfl⟩
  obtain ⟨K, hK⟩ : ∃ K, encN x.f3 = K := ⟨_, rfl⟩
  obtain ⟨Q, hQ⟩ : ∃ Q, encN x.f5 = Q := ⟨_, rfl⟩
  obtain ⟨M, hM⟩ : ∃ M, encN (x.f6.length : Int) = M := ⟨_, rfl⟩
  obtain ⟨L, hL⟩ : ∃ L, layL [] x.f6 = L := ⟨_, rfl⟩
  have bD : isB D := by rw [← hD]; exact app_B (textB_B _ (by omega)) (enc_B (by omega) (by omega))
  have bV : isB V := by rw [← hV]; exact layV_B h2
  have bC : isB C := by rw [← hC]; exact textB_B _ (by omega)
  have bI : isB I := by rw [← hI]; exact textB_B _ (by omega)
  have bK : isB K := by rw [← hK]; exact enc_B (by omega) (by omega)
  have bQ : isB Q := by rw [← hQ]; exact enc_B (by omega) (by omega)
  have bM : isB M := by rw [← hM]; exact enc_B (by omega) (by omega)
  have bL : isB L := by rw [← hL]; exact seenL_B _ h6
  have bN : isB ([] : List Int) := fun x hx => by cases hx
  obtain ⟨b, hb⟩ : ∃ b, layO x = b := ⟨_, rfl⟩
  have hbe : b = D ++ V ++ C ++ I ++ K ++ Q ++ M ++ L := by rw [← hb]; unfold layO; rw [hD, hV, hC, hI, hK, hQ, hM, hL]
  have e1 := dotR_enc [] (V ++ C ++ I ++ K ++ Q ++ M ++ L) bN (app_B (app_B (app_B (app_B (app_B (app_B bV bC) bI) bK) bQ) bM) bL) x.f0 (by omega) (by omega) (by omega)
  have e2 := vec_enc_at D (C ++ I ++ K ++ Q ++ M ++ L) bD (app_B (app_B (app_B (app_B (app_B bC bI) bK) bQ) bM) bL) x.f1 h2
  have e3 := take_text32 (D ++ V) (I ++ K ++ Q ++ M ++ L) (app_B bD bV) (app_B (app_B (app_B (app_B bI bK) bQ) bM) bL) x.f2 h3
  have e4 := take_text32 (D ++ V ++ C) (K ++ Q ++ M ++ L) (app_B (app_B bD bV) bC) (app_B (app_B (app_B bK bQ) bM) bL) x.f4 h4
  have e5 := take_enc (D ++ V ++ C ++ I) (Q ++ M ++ L) (app_B (app_B (app_B bD bV) bC) bI) (app_B (app_B bQ bM) bL) x.f3 (by omega) (by omega)
  have e6 := take_enc (D ++ V ++ C ++ I ++ K) (M ++ L) (app_B (app_B (app_B (app_B bD bV) bC) bI) bK) (app_B bM bL) x.f5 (by omega) (by omega)
  have e7 := take_enc (D ++ V ++ C ++ I ++ K ++ Q) L (app_B (app_B (app_B (app_B (app_B bD bV) bC) bI) bK) bQ) bL (x.f6.length : Int) (by omega) (by omega)
  have e8 := seenR_enc [] bN x.f6 (D ++ V ++ C ++ I ++ K ++ Q ++ M) [] (app_B (app_B (app_B (app_B (app_B (app_B bD bV) bC) bI) bK) bQ) bM) h6
  rw [hD] at e1
  rw [hV] at e2
  rw [hC] at e3
  rw [hI] at e4
  rw [hK] at e5
  rw [hQ] at e6
  rw [hM] at e7
  rw [hL] at e8
  rw [show [] ++ D ++ (V ++ C ++ I ++ K ++ Q ++ M ++ L) = b by rw [hbe]; simp] at e1
  rw [show D ++ V ++ (C ++ I ++ K ++ Q ++ M ++ L) = b by rw [hbe]; simp] at e2
  rw [show D ++ V ++ C ++ (I ++ K ++ Q ++ M ++ L) = b by rw [hbe]; simp] at e3
  rw [show D ++ V ++ C ++ I ++ (K ++ Q ++ M ++ L) = b by rw [hbe]; simp] at e4
  rw [show D ++ V ++ C ++ I ++ K ++ (Q ++ M ++ L) = b by rw [hbe]; simp] at e5
  rw [show D ++ V ++ C ++ I ++ K ++ Q ++ (M ++ L) = b by rw [hbe]; simp] at e6
  rw [show D ++ V ++ C ++ I ++ K ++ Q ++ M ++ L = b by rw [hbe]] at e7
  rw [show D ++ V ++ C ++ I ++ K ++ Q ++ M ++ L ++ [] = b by rw [hbe]; simp, show D ++ V ++ C ++ I ++ K ++ Q ++ M ++ L = b by rw [hbe]] at e8
  have e5' := numR_at e5 (by omega)
  have e6' := numR_at e6 (by omega)
  have e7' := numR_at e7 (by omega)
  have e3' := texR_at e3
  have e4' := texR_at e4
  rw [← Int.natCast_add, ← List.length_append] at e5' e6' e7'
  rw [show ((([] : List Int).length : Nat) : Int) = 0 from rfl, List.nil_append] at e1
  unfold readO
  rw [hb, e1]
  dsimp only
  rw [e2]
  dsimp only
  rw [if_neg (by simp), e3']
  dsimp only
  rw [e4']
  dsimp only
  rw [e5']
  dsimp only
  rw [e6']
  dsimp only
  rw [e7']
  dsimp only
  rw [if_neg (by simp; omega), Int.toNat_natCast, e8]
  dsimp only
  rw [List.nil_append, if_neg (by
    have : rightO ⟨x.f0, x.f1, x.f2, x.f3, x.f4, x.f5, x.f6⟩ = true := h
    rw [this]
    simp)]
theorem layDot_f (b : List Int) (d : S34) (h0 : d.f0.size ≤ 32) (h1 : 0 ≤ d.f1) (h2 : d.f1 ≤ 4611686018427387904) (hb : b.length ≤ 140737488355000) (k : Nat) (hk : 20 ≤ k) : order_layDot.f k b d.f0 d.f1 = some (b ++ (textB d.f0 ++ encN d.f1)) := by
  unfold order_layDot.f
  have hl : (textS b d.f0).length ≤ b.length + 9 + d.f0.size := textS_len b d.f0
  rw [wtext32_f b d.f0 h0 (by omega) k hk, Option.bind_some, u_id h1 (by omega), number_f d.f1 h1 (by omega) _ (by omega) k hk, Option.bind_some]
  simp [textS, textB]
theorem lay_seen_l1 (l : List S34) (hl : l.length ≤ 128) (hf : fine32 l) : ∀ (k i : Nat) (b : List Int), i ≤ l.length → l.length - i + 60 < k → b.length ≤ 140737488340000 + 60 * i →
    order_Lay.l1 k b l (l.length : Int) (i : Int) = some (strOfNums (b ++ layL [] (l.drop i)), 0) := by
  intro k
  induction k with
  | zero => intro i b _ h; omega
  | succ k ih =>
    intro i b hi hk hb
    unfold order_Lay.l1
    by_cases hlt : i < l.length
    · have hx := hf _ (rd_mem l i hlt)
      rw [if_pos (by omega), if_pos (by omega), if_pos (by omega), layDot_f b _ hx.1 hx.2.1 hx.2.2 (by omega) k (by omega), Option.bind_some, w_id (by omega)]
      have hlen : (textB (rd_T34 l (i : Int)).f0 ++ encN (rd_T34 l (i : Int)).f1).length ≤ 60 := by
        have h1 := textS_len [] (rd_T34 l (i : Int)).f0
        have h2 := encN_len (rd_T34 l (i : Int)).f1
        have h3 : (textS [] (rd_T34 l (i : Int)).f0).length = (textB (rd_T34 l (i : Int)).f0).length := by simp [textS, textB]
        rw [List.length_append]
        simp only [List.length_nil] at h1
        have h4 := hx.1
        omega
      have ih' := ih (i + 1) (b ++ (textB (rd_T34 l (i : Int)).f0 ++ encN (rd_T34 l (i : Int)).f1)) (by omega) (by omega) (by rw [List.length_append]; omega)
      rw [show ((i : Int) + 1) = ((i + 1 : Nat) : Int) by omega, ih', rd_drop l i hlt, seen_cons]
      simp
    · rw [if_neg (by omega), List.drop_eq_nil_of_le (by omega)]
      simp [layL]
theorem lay_three (n0 n1 n2 : Int) (h0 : 0 ≤ n0 ∧ n0 ≤ 100000) (h1 : 0 ≤ n1 ∧ n1 ≤ 100000) (h2 : 0 ≤ n2 ∧ n2 ≤ 100000) (b : List Int) (hb : b.length ≤ 140737488330000) (k : Nat) (hk : 20 ≤ k) (s0 : ByteArray) (i0 : Int) (l2 : List S34) (s3 : ByteArray) (i4 : Int) (s5 : ByteArray) (i6 : Int) (l7 : List S34) :
    order_Lay.l0 (k + 4) b [n0, n1, n2] 3 0 s0 i0 l2 s3 i4 s5 i6 l7 = order_Lay.l1 k (b ++ encN n0 ++ encN n1 ++ encN n2) l7 (l7.length : Int) 0 := by
  have a0 := encN_len n0
  have a1 := encN_len n1
  have a2 := encN_len n2
  unfold order_Lay.l0
  rw [if_pos (by decide), if_pos (by decide), if_pos (by simp), show rd [n0, n1, n2] 0 = n0 from rfl, u_id (by omega) (by omega), number_f n0 (by omega) (by omega) _ (by omega) _ (by omega), Option.bind_some, show wrap64 (0 + 1) = 1 from w_id (by omega)]
  unfold order_Lay.l0
  rw [if_pos (by decide), if_pos (by decide), if_pos (by simp), show rd [n0, n1, n2] 1 = n1 from rfl, u_id (by omega) (by omega), number_f n1 (by omega) (by omega) _ (by simp; omega) _ (by omega), Option.bind_some, show wrap64 (1 + 1) = 2 from w_id (by omega)]
  unfold order_Lay.l0
  rw [if_pos (by decide), if_pos (by decide), if_pos (by simp), show rd [n0, n1, n2] 2 = n2 from rfl, u_id (by omega) (by omega), number_f n2 (by omega) (by omega) _ (by simp; omega) _ (by omega), Option.bind_some, show wrap64 (2 + 1) = 3 from w_id (by omega)]
  unfold order_Lay.l0
  rw [if_neg (by decide)]
def layF (x : S36) : ByteArray × Int := if rightO x = true then (strOfNums (layO x), 0) else (⟨#[]⟩, 2)
theorem textB_len (s : ByteArray) : (textB s).length ≤ 9 + s.size := by
  have h1 := textS_len [] s
  have h3 : (textS [] s).length = (textB s).length := by simp [textS, textB]
  simp only [List.length_nil] at h1
  omega
theorem orderLay_f (x : S36) (h1 : x.f1.length ≤ 9223372036854775807) (h6 : x.f6.length ≤ 9223372036854775807) (k : Nat) (hk : x.f6.length + x.f1.length + 2000 < k) :
    order_Lay.f k x.f0.f0 x.f0.f1 x.f1 x.f2 x.f3 x.f4 x.f5 x.f6 = some (layF x) := by
  unfold order_Lay.f layF
  rw [orderRight_f x h1 h6 k (by omega), Option.bind_some]
  by_cases hr : rightO x = true
  case neg => rw [if_neg hr, if_neg hr]
  rw [if_pos hr, if_pos hr]
  obtain ⟨r1, r2, r3, r4, r5, r6, r7, r8, r9⟩ := rightO_all hr
  have hd := dotOk_32 r1
  have t0 := textB_len x.f0.f0
  have t2 := textB_len x.f2
  have t4 := textB_len x.f4
  have n0 := encN_len x.f0.f1
  have v1 := layS_len x.f1 r2
  rw [layDot_f [] x.f0 (by omega) (by omega) (by omega) (by simp) k (by omega), Option.bind_some, List.nil_append,
    lay_f _ (by rw [List.length_append]; omega) x.f1 h1 k (by omega), Option.bind_some]
  have hv : (layS (textB x.f0.f0 ++ encN x.f0.f1) x.f1).1 = textB x.f0.f0 ++ encN x.f0.f1 ++ (layS [] x.f1).1 := by
    unfold layS
    rw [if_pos r2, if_pos r2]
    show layL _ _ = _ ++ layL _ _
    rw [lay_app x.f1 (textB x.f0.f0 ++ encN x.f0.f1 ++ encN (x.f1.length : Int)), lay_app x.f1 ([] ++ encN (x.f1.length : Int))]
    simp
  rw [hv, wtext32_f _ x.f2 r3 (by simp only [List.length_append]; omega) k (by omega), Option.bind_some, wtext32_f _ x.f4 r4 (by unfold textS; have := bytesOf_length x.f2; have := encN_len (x.f2.size : Int); simp only [List.length_append]; omega) k (by omega), Option.bind_some, Option.bind_some]
  obtain ⟨k, rfl⟩ : ∃ j, k = j + 4 := ⟨k - 4, by omega⟩
  have e : textS (textS (textB x.f0.f0 ++ encN x.f0.f1 ++ (layS [] x.f1).1) x.f2) x.f4 = textB x.f0.f0 ++ encN x.f0.f1 ++ (layS [] x.f1).1 ++ textB x.f2 ++ textB x.f4 := by simp [textS, textB]
  have n3 := encN_len x.f3
  have n5 := encN_len x.f5
  have n6 := encN_len (x.f6.length : Int)
  have hl := lay_seen_l1 x.f6 r5 r6 k 0 (textB x.f0.f0 ++ encN x.f0.f1 ++ (layS [] x.f1).1 ++ textB x.f2 ++ textB x.f4 ++ encN x.f3 ++ encN x.f5 ++ encN (x.f6.length : Int)) (by omega) (by omega) (by simp only [List.length_append]; omega)
  rw [e]
  show order_Lay.l0 (k + 4) _ [x.f3, x.f5, (x.f6.length : Int)] 3 0 _ _ _ _ _ _ _ _ = _
  rw [lay_three x.f3 x.f5 (x.f6.length : Int) (by omega) (by omega) (by omega) _ (by simp only [List.length_append]; omega) k (by omega)]
  rw [show ((0 : Nat) : Int) = 0 from rfl, List.drop_zero] at hl
  exact hl
end Go.Proofs.Ytenbkljgmgdegaa.PO
