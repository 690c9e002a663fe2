/- Numbers, texts and vectors are read from their bytes as they are, and only from theirs; the law VectorBack. No condition but the sizes that a machine has. -/
import Derived.Test.YtnnlpelogabokaaPKTake
import Derived.Test.YtnnlpelogabokaaPKx8
namespace Go.Proofs.Ytnnlpelogabokaa.PK
open Go.RowKit Go.Proofs.YtnnlpelogabokaaW.PrintWords Go.Proofs.YtnnlpelogabokaaW.PrintLast Go.Proofs.YtnnlpelogabokaaW.PrintMore Go.Proofs.Ytnnlpelogabokaa.XW

/-! ### what bytes say -/
def valT : List Int → Int → Int
  | [], n => n
  | x :: l, n => valT l (n * 256 + x)
def p256 : Nat → Int
  | 0 => 1
  | c + 1 => 256 * p256 c
theorem p256_pos : ∀ c, 0 < p256 c
  | 0 => by decide
  | c + 1 => by have := p256_pos c; simp only [p256]; omega
theorem div_div (a b c : Int) (hb : 0 ≤ b) : a / (b * c) = a / b / c := by
  rw [Int.ediv_ediv, if_neg (by omega), Int.sub_zero]
theorem p256_pow : ∀ c : Nat, p256 c = 2 ^ (8 * c)
  | 0 => rfl
  | c + 1 => by
    rw [p256, p256_pow c, show 8 * (c + 1) = 8 * c + 8 by omega, Int.pow_add, Int.mul_comm]
    rfl
theorem gB_eq (n : Int) (j : Nat) (hj : j ≤ 8) : gB n j = n / p256 j % 256 := by
  unfold gB
  have := shr64 n (8 * j) (by omega)
  rw [show ((8 * j : Nat) : Int) = 8 * (j : Int) by omega] at this
  rw [this, p256_pow]
theorem val_div : ∀ (l : List Int) (n : Int), isB l → valT l n / p256 l.length = n
  | [], n, _ => by simp [valT, p256]
  | x :: l, n, h => by
    have ih := val_div l (n * 256 + x) (fun y hy => h y (List.mem_cons_of_mem _ hy))
    have hx := h x (List.mem_cons_self)
    have hp := p256_pos l.length
    rw [valT, List.length_cons, p256, Int.mul_comm 256, div_div _ _ _ (by omega), ih]
    omega
theorem tail_val : ∀ (l : List Int) (n : Int), isB l → l.length ≤ 8 → tailB (valT l n) l.length = l
  | [], n, _, _ => rfl
  | x :: l, n, h, hl => by
    have hB : isB l := fun y hy => h y (List.mem_cons_of_mem _ hy)
    have hx := h x (List.mem_cons_self)
    simp only [List.length_cons] at hl
    rw [valT, List.length_cons, tailB, tail_val l _ hB (by omega), gB_eq _ _ (by omega), val_div l _ hB]
    congr 1
    omega
theorem val_tail (n : Int) : ∀ j, j ≤ 8 → valT (tailB n j) (n / p256 j) = n
  | 0, _ => by simp [tailB, valT, p256]
  | j + 1, hj => by
    have hp := p256_pos j
    have e : n / p256 (j + 1) * 256 + gB n j = n / p256 j := by
      rw [gB_eq n j (by omega), p256, Int.mul_comm 256, div_div _ _ _ (by omega)]
      omega
    rw [tailB, valT, e, val_tail n j (by omega)]
theorem gB_B (n : Int) (j : Nat) : 0 ≤ gB n j ∧ gB n j ≤ 255 := by unfold gB; omega
theorem tail_B (n : Int) : ∀ j, isB (tailB n j)
  | 0 => fun x hx => by cases hx
  | j + 1 => fun x hx => by
    rw [tailB, List.mem_cons] at hx
    rcases hx with rfl | hx
    · exact gB_B n j
    · exact tail_B n j x hx
theorem or_at (n x : Int) (h0 : 0 ≤ n) (h1 : n < 72057594037927936) (hx : 0 ≤ x ∧ x ≤ 255) : Go.bits .or .u64 (IntKind.u64.wrap (n * 256)) (IntKind.u64.wrap x) = n * 256 + x := by
  obtain ⟨m, rfl⟩ : ∃ m : Nat, n = (m : Int) := ⟨n.toNat, by omega⟩
  obtain ⟨y, rfl⟩ : ∃ y : Nat, x = (y : Int) := ⟨x.toNat, by omega⟩
  rw [u_id (by omega) (by omega), u_id (by omega) (by omega)]
  have e : (m <<< 8 ||| y) = m * 256 + y := by
    rw [← Nat.shiftLeft_add_eq_or_of_lt (by omega), Nat.shiftLeft_eq]
  have e2 : ((m : Int) * 256) = ((m <<< 8 : Nat) : Int) := by rw [Nat.shiftLeft_eq]; omega
  have e3 : (m <<< 8) < 18446744073709551616 := by rw [Nat.shiftLeft_eq]; omega
  have e4 : (m * 256 + y) < 18446744073709551616 := by omega
  suffices e5 : ∀ z : Int, z = ((m <<< 8 : Nat) : Int) → Go.bits .or .u64 z (y : Int) = ((m * 256 + y : Nat) : Int) by
    exact (e5 _ e2).trans (by omega)
  intro z hz
  subst hz
  unfold Go.bits
  simp only [BitVec.ofInt_natCast, BitVec.toNat_or, BitVec.toNat_ofNat]
  rw [show (m <<< 8) % 2 ^ IntKind.bits .u64 = m <<< 8 from Nat.mod_eq_of_lt e3, show y % 2 ^ IntKind.bits .u64 = y from Nat.mod_eq_of_lt (show y < 18446744073709551616 by omega), e, u_id (by omega) (by omega)]
theorem dec_val (b : List Int) (hB : isB b) : ∀ (c p : Nat) (n : Int), p + c ≤ b.length → 0 ≤ n → c ≤ 8 → n < p256 (8 - c) → dec b c (p : Int) n = valT ((b.drop p).take c) n
  | 0, p, n, _, _, _, _ => by simp [dec, valT]
  | c + 1, p, n, hp, h0, hc, hn => by
    have hlt : p < b.length := by omega
    have hd : b.drop p = b[p] :: b.drop (p + 1) := List.drop_eq_getElem_cons hlt
    have hr : rd b (p : Int) = b[p] := by unfold rd; simp [List.getD_eq_getElem?_getD, hlt]
    have hx := rd_B hB (p : Int)
    have hs : p256 (8 - c) = 256 * p256 (8 - (c + 1)) := by
      rw [show 8 - c = (8 - (c + 1)) + 1 by omega, p256]
    have hm : ∀ j, j ≤ 7 → p256 j ≤ 72057594037927936 := by decide
    have h7 := hm (8 - (c + 1)) (by omega)
    rw [dec, or_at n _ h0 (by omega) hx, show ((p : Int) + 1) = ((p + 1 : Nat) : Int) by omega, dec_val b hB c (p + 1) _ (by omega) (by omega) (by omega) (by omega), hd, List.take_succ_cons, valT, hr]
/-! ### a number's first byte -/
theorem first_ok : ∀ t : Nat, t < 8 → ∀ x : Nat, x < 128 → x < 2 ^ (7 - t) → 0 ≤ Go.bits .or .u8 (onesV t) (x : Int) ∧ Go.bits .or .u8 (onesV t) (x : Int) ≤ 255 ∧ lo (Go.bits .or .u8 (onesV t) (x : Int)) = t ∧ iniV (Go.bits .or .u8 (onesV t) (x : Int)) = (x : Int) := by decide +kernel
theorem last_ok : lo 255 = 8 ∧ iniV 255 = 0 := by decide +kernel
theorem first_back : ∀ f : Nat, f < 256 → lo (f : Int) ≤ 8 ∧ 0 ≤ iniV (f : Int) ∧ (lo (f : Int) < 8 → iniV (f : Int) < 2 ^ (7 - lo (f : Int)) ∧ Go.bits .or .u8 (onesV (lo (f : Int))) (iniV (f : Int)) = (f : Int)) ∧ (lo (f : Int) = 8 → f = 255 ∧ iniV (f : Int) = 0) := by decide +kernel
def cap7 : Nat → Int
  | 0 => 128 | 1 => 16384 | 2 => 2097152 | 3 => 268435456 | 4 => 34359738368 | 5 => 4398046511104 | 6 => 562949953421312 | 7 => 72057594037927936 | _ => 18446744073709551616
theorem ex_lt {n : Int} (h0 : 0 ≤ n) (h1 : n < 18446744073709551616) : n < cap7 (exN n).toNat := by
  unfold exN
  (repeat' split) <;> first | exact (show n < (128 : Int) by omega) | exact (show n < (16384 : Int) by omega) | exact (show n < (2097152 : Int) by omega) | exact (show n < (268435456 : Int) by omega) | exact (show n < (34359738368 : Int) by omega) | exact (show n < (4398046511104 : Int) by omega) | exact (show n < (562949953421312 : Int) by omega) | exact (show n < (72057594037927936 : Int) by omega) | exact (show n < (18446744073709551616 : Int) by omega)
theorem cap7_div : ∀ t : Nat, t < 8 → cap7 t = p256 t * 2 ^ (7 - t) := by decide
theorem num_first {n : Int} (h0 : 0 ≤ n) (h1 : n < 18446744073709551616) (h8 : exN n < 8) : gB n (exN n).toNat = n / p256 (exN n).toNat ∧ gB n (exN n).toNat < 2 ^ (7 - (exN n).toNat) := by
  have hr := exN_range n
  have hl := ex_lt h0 h1
  obtain ⟨t, ht⟩ : ∃ t : Nat, (exN n).toNat = t := ⟨_, rfl⟩
  rw [ht] at hl ⊢
  have ht8 : t < 8 := by omega
  rw [cap7_div t ht8] at hl
  have hd : n / p256 t < 2 ^ (7 - t) := Int.ediv_lt_of_lt_mul (p256_pos t) (by rw [Int.mul_comm]; exact hl)
  have h2 : ∀ j : Nat, j < 8 → (2 : Int) ^ (7 - j) ≤ 128 := by decide
  have h3 := h2 t ht8
  have h4 : 0 ≤ n / p256 t := Int.ediv_nonneg h0 (by have := p256_pos t; omega)
  have e : gB n t = n / p256 t := by rw [gB_eq n t (by omega)]; omega
  exact ⟨e, by rw [e]; exact hd⟩

theorem enc_B {n : Int} (h0 : 0 ≤ n) (h1 : n < 18446744073709551616) : isB (encN n) := by
  intro x hx
  have hr := exN_range n
  rw [encN, List.mem_cons] at hx
  rcases hx with rfl | hx
  · by_cases h8 : exN n < 8
    · rw [if_pos h8]
      have hf := num_first h0 h1 h8
      have hg := gB_B n (exN n).toNat
      have h2 : ∀ j : Nat, j < 8 → (2 : Nat) ^ (7 - j) ≤ 128 := by decide
      have h3 := h2 (exN n).toNat (by omega)
      have h4 : (gB n (exN n).toNat).toNat < 2 ^ (7 - (exN n).toNat) := by
        have := hf.2
        have h5 : ((2 : Int) ^ (7 - (exN n).toNat)) = ((2 ^ (7 - (exN n).toNat) : Nat) : Int) := by simp
        omega
      have := first_ok (exN n).toNat (by omega) (gB n (exN n).toNat).toNat (by omega) h4
      rw [show (((gB n (exN n).toNat).toNat : Nat) : Int) = gB n (exN n).toNat by omega] at this
      exact ⟨this.1, this.2.1⟩
    · rw [if_neg h8, show (exN n).toNat = 8 by omega]; decide
  · exact tail_B n _ x hx

/-- A number's bytes are read as it. -/
theorem take_enc (a r : List Int) (ha : isB a) (hr : isB r) (n : Int) (h0 : 0 ≤ n) (h1 : n < 18446744073709551616) : takeS (a ++ encN n ++ r) (a.length : Int) = (n, (a.length : Int) + ((encN n).length : Int), 0) := by
  have hx := exN_range n
  obtain ⟨t, ht⟩ : ∃ t : Nat, exN n = (t : Int) := ⟨(exN n).toNat, by omega⟩
  have hl : (encN n).length = t + 1 := by simp [encN, tailB_len, ht]
  have hB : isB (a ++ encN n ++ r) := fun x hx => by
    simp only [List.mem_append] at hx
    rcases hx with (hx | hx) | hx
    · exact ha x hx
    · exact enc_B h0 h1 x hx
    · exact hr x hx
  obtain ⟨f, hf⟩ : ∃ f, f = (if exN n < 8 then Go.bits .or .u8 (onesV (exN n).toNat) (gB n (exN n).toNat) else onesV (exN n).toNat) := ⟨_, rfl⟩
  have hE : encN n = f :: tailB n t := by rw [hf, encN, ht]; rfl
  have hrd : rd (a ++ encN n ++ r) (a.length : Int) = f := by
    rw [hE]; unfold rd; simp [List.getD_eq_getElem?_getD]
  have hlo : lo f = t ∧ iniV f = n / p256 t := by
    by_cases h8 : exN n < 8
    · rw [if_pos h8] at hf
      have hq := num_first h0 h1 h8
      have hg := gB_B n (exN n).toNat
      have h2 : ∀ j : Nat, j < 8 → (2 : Nat) ^ (7 - j) ≤ 128 := by decide
      have h3 := h2 (exN n).toNat (by omega)
      have h4 : (gB n (exN n).toNat).toNat < 2 ^ (7 - (exN n).toNat) := by
        have := hq.2
        have h5 : ((2 : Int) ^ (7 - (exN n).toNat)) = ((2 ^ (7 - (exN n).toNat) : Nat) : Int) := by simp
        omega
      have := first_ok (exN n).toNat (by omega) (gB n (exN n).toNat).toNat (by omega) h4
      rw [show (((gB n (exN n).toNat).toNat : Nat) : Int) = gB n (exN n).toNat by omega, ← hf] at this
      have e8 : (exN n).toNat = t := by omega
      rw [e8] at this hq
      exact ⟨this.2.2.1, by rw [this.2.2.2, hq.1]⟩
    · rw [if_neg h8, show (exN n).toNat = 8 by omega] at hf
      have e8 : t = 8 := by omega
      subst e8
      have : f = 255 := hf
      rw [this]
      refine ⟨last_ok.1, ?_⟩
      rw [last_ok.2]
      exact (Int.ediv_eq_zero_of_lt h0 (by exact h1)).symm
  have hdec : dec (a ++ encN n ++ r) t ((a.length + 1 : Nat) : Int) (n / p256 t) = n := by
    have hp := p256_pos t
    have hn : n / p256 t < p256 (8 - t) := by
      refine Int.ediv_lt_of_lt_mul hp ?_
      have : ∀ j : Nat, j ≤ 8 → p256 (8 - j) * p256 j = 18446744073709551616 := by decide
      rw [this t (by omega)]
      exact h1
    rw [dec_val _ hB t (a.length + 1) _ (by simp [hl]; omega) (Int.ediv_nonneg h0 (by omega)) (by omega) hn]
    have : ((a ++ encN n ++ r).drop (a.length + 1)).take t = tailB n t := by
      rw [hE]
      rw [show a ++ f :: tailB n t ++ r = (a ++ [f]) ++ (tailB n t ++ r) by simp, List.drop_left' (by simp), List.take_left' (tailB_len n t)]
    rw [this, val_tail n t (by omega)]
  unfold takeS
  rw [if_neg (by omega), if_neg (by simp [hl]; omega), hrd, hlo.1, hlo.2, if_neg (by simp [hl]; omega), show (a.length : Int) + 1 = ((a.length + 1 : Nat) : Int) by omega, hdec, if_pos ht, hl]
  congr 2
  omega

/-- What is read as a number is its bytes. -/
theorem take_is {b : List Int} (hB : isB b) {p : Int} (h : (takeS b p).2.2 = 0) : 0 ≤ p ∧ p.toNat ≤ b.length ∧ b.take (takeS b p).2.1.toNat = b.take p.toNat ++ encN (takeS b p).1 := by
  have hk := takeS_ok hB h
  unfold takeS at h hk ⊢
  by_cases h1 : p < 0
  · rw [if_pos h1] at h; cases h
  by_cases h2 : (b.length : Int) ≤ p
  · rw [if_neg h1, if_pos h2] at h; cases h
  by_cases h3 : (b.length : Int) - p ≤ (lo (rd b p) : Int)
  · rw [if_neg h1, if_neg h2, if_pos h3] at h; cases h
  rw [if_neg h1, if_neg h2, if_neg h3] at h hk ⊢
  by_cases h4 : exN (dec b (lo (rd b p)) (p + 1) (iniV (rd b p))) = (lo (rd b p) : Int)
  case neg => rw [if_neg h4] at h; cases h
  rw [if_pos h4] at hk ⊢
  refine ⟨by omega, by omega, ?_⟩
  obtain ⟨i, rfl⟩ : ∃ i : Nat, p = (i : Int) := ⟨p.toNat, by omega⟩
  have hfB := rd_B hB (i : Int)
  obtain ⟨f, hf⟩ : ∃ f : Nat, rd b (i : Int) = (f : Int) := ⟨(rd b (i : Int)).toNat, by omega⟩
  have hlt : i < b.length := by omega
  have hget : b[i] = (f : Int) := by rw [← hf]; unfold rd; simp [List.getD_eq_getElem?_getD, hlt]
  have hF := first_back f (by omega)
  rw [hf] at h3 h4 hk ⊢
  obtain ⟨t, ht⟩ : ∃ t, lo (f : Int) = t := ⟨_, rfl⟩
  rw [ht] at h3 h4 hk hF ⊢
  have h7 : ∀ j : Nat, j < 8 → (2 : Int) ^ (7 - j) ≤ p256 (8 - j) := by decide
  have hini : iniV (f : Int) < p256 (8 - t) := by
    by_cases h8 : t < 8
    · have := (hF.2.2.1 h8).1; have := h7 t h8; omega
    · obtain rfl : t = 8 := by omega
      rw [(hF.2.2.2 rfl).2]; decide
  have hd := dec_val b hB t (i + 1) (iniV (f : Int)) (by omega) hF.2.1 hF.1 hini
  rw [show ((i + 1 : Nat) : Int) = (i : Int) + 1 by omega] at hd
  obtain ⟨l, hl⟩ : ∃ l, l = (b.drop (i + 1)).take t := ⟨_, rfl⟩
  have hll : l.length = t := by rw [hl]; simp; omega
  have hlB : isB l := fun x hx => hB x (by rw [hl] at hx; exact List.mem_of_mem_drop (List.mem_of_mem_take hx))
  rw [← hl] at hd
  rw [hd] at h4 hk ⊢
  have htl := tail_val l (iniV (f : Int)) hlB (by omega)
  have hvd := val_div l (iniV (f : Int)) hlB
  rw [hll] at htl hvd
  have hE : encN (valT l (iniV (f : Int))) = (f : Int) :: l := by
    unfold encN
    rw [h4, Int.toNat_natCast, htl]
    congr 1
    by_cases h8 : t < 8
    · rw [if_pos (by omega), gB_eq _ _ (by omega), hvd]
      have := hF.2.2.1 h8
      have h9 : ∀ j : Nat, j < 8 → (2 : Int) ^ (7 - j) ≤ 128 := by decide
      have := h9 t h8
      rw [Int.emod_eq_of_lt hF.2.1 (by omega)]
      exact (hF.2.2.1 h8).2
    · obtain rfl : t = 8 := by omega
      rw [if_neg (by omega)]
      have := (hF.2.2.2 rfl).1
      subst this
      rfl
  rw [hE]
  have e : ((i : Int) + 1 + (t : Int)).toNat = i + (t + 1) := by omega
  rw [e, Int.toNat_natCast, List.take_add, List.drop_eq_getElem_cons hlt, hget, List.take_succ_cons, hl]
/-! ### texts -/
theorem nums_bytes (s : ByteArray) : strOfNums (bytesOf s) = s := by
  have : (strOfNums (bytesOf s)).data = s.data := by
    apply Array.ext'
    rw [strOfNums_data, bytesOf, List.map_map]
    refine (List.map_congr_left (g := id) fun x _ => ?_).trans (List.map_id _)
    simp
  cases s
  simpa [ByteArray.ext_iff] using this
theorem bytes_nums {l : List Int} (h : isB l) : bytesOf (strOfNums l) = l := by
  rw [bytesOf, strOfNums_data, List.map_map]
  refine (List.map_congr_left (g := id) fun x hx => ?_).trans (List.map_id _)
  have := h x hx
  simp
  omega
theorem bytes_B (s : ByteArray) : isB (bytesOf s) := fun x hx => by
  rw [bytesOf, List.mem_map] at hx
  obtain ⟨y, _, rfl⟩ := hx
  have := y.toNat_lt
  omega
theorem app_B {a b : List Int} (ha : isB a) (hb : isB b) : isB (a ++ b) := fun x hx => by
  rcases List.mem_append.1 hx with h | h
  · exact ha x h
  · exact hb x h
def textB (s : ByteArray) : List Int := encN (s.size : Int) ++ bytesOf s
theorem textB_B (s : ByteArray) (hs : s.size ≤ 1000000) : isB (textB s) := app_B (enc_B (by omega) (by omega)) (bytes_B s)
theorem take_text (a r : List Int) (ha : isB a) (hr : isB r) (s : ByteArray) (hs : s.size ≤ 24) : textT (a ++ textB s ++ r) (a.length : Int) = (s, ((a ++ textB s).length : Int), 0) := by
  have e : a ++ textB s ++ r = a ++ encN (s.size : Int) ++ (bytesOf s ++ r) := by simp [textB]
  have h := take_enc a (bytesOf s ++ r) ha (app_B (bytes_B s) hr) (s.size : Int) (by omega) (by omega)
  have hl := bytesOf_length s
  have hbl : (a ++ encN (s.size : Int)).length = a.length + (encN (s.size : Int)).length := by simp
  unfold textT
  rw [e, h]
  simp only []
  rw [if_pos trivial, if_neg (by omega), if_neg (by simp [hl]; omega)]
  have e2 : ((a.length : Int) + ((encN (s.size : Int)).length : Int) + (s.size : Int)).toNat = (a ++ encN (s.size : Int) ++ bytesOf s).length := by simp [hl]; omega
  have e3 : ((a.length : Int) + ((encN (s.size : Int)).length : Int)).toNat = (a ++ encN (s.size : Int)).length := by simp; omega
  rw [e2, e3, ← List.append_assoc, List.take_left, List.drop_left, nums_bytes]
  congr 2
  simp [textB, hl]
  omega
theorem text_is {b : List Int} (hB : isB b) {p : Int} (h : (textT b p).2.2 = 0) : 0 ≤ p ∧ p.toNat ≤ b.length ∧ (textT b p).1.size ≤ 24 ∧ 0 ≤ (textT b p).2.1 ∧ b.take (textT b p).2.1.toNat = b.take p.toNat ++ textB (textT b p).1 := by
  unfold textT at h ⊢
  by_cases h0 : (takeS b p).2.2 = 0
  case neg => rw [if_neg h0] at h; cases h
  rw [if_pos h0] at h ⊢
  by_cases h1 : (takeS b p).1 > 24
  · rw [if_pos h1] at h; cases h
  by_cases h2 : (takeS b p).1 > (b.length : Int) - (takeS b p).2.1
  · rw [if_neg h1, if_pos h2] at h; cases h
  rw [if_neg h1, if_neg h2]
  have hk := takeS_ok hB h0
  obtain ⟨hp, hpl, ht⟩ := take_is hB h0
  obtain ⟨q, hq⟩ : ∃ q : Nat, (takeS b p).2.1 = (q : Int) := ⟨(takeS b p).2.1.toNat, by omega⟩
  obtain ⟨n, hn⟩ : ∃ n : Nat, (takeS b p).1 = (n : Int) := ⟨(takeS b p).1.toNat, by omega⟩
  simp only [hq, hn] at hk h1 h2 ht ⊢
  simp only [Int.toNat_natCast] at ht
  have e2 : ((q : Int) + (n : Int)).toNat = q + n := by omega
  have hz : (strOfNums ((b.take (q + n)).drop q)).size = n := by rw [strOfNums_size]; simp; omega
  have hbB : isB ((b.take (q + n)).drop q) := fun x hx => hB x (List.mem_of_mem_take (List.mem_of_mem_drop hx))
  refine ⟨hp, hpl, ?_, ?_, ?_⟩
  · show (strOfNums _).size ≤ 24
    rw [e2, Int.toNat_natCast, hz]; omega
  · show (0 : Int) ≤ (q : Int) + (n : Int)
    omega
  · show b.take ((q : Int) + (n : Int)).toNat = _
    unfold textB
    rw [e2, Int.toNat_natCast, hz, bytes_nums hbB, ← List.append_assoc, ← ht]
    have : (b.take (q + n)).take q = b.take q := by rw [List.take_take, Nat.min_eq_left (by omega)]
    rw [← this, List.take_append_drop]

/-! ### vectors -/
theorem lay_app : ∀ (l : List S35) (b : List Int), layL b l = b ++ layL [] l
  | [], b => by simp [layL]
  | x :: l, b => by
    rw [layL, lay_app l, layL, lay_app l (textS [] x.f0 ++ encN x.f1)]
    simp [textS]
theorem lay_cons (x : S35) (l : List S35) : layL [] (x :: l) = textB x.f0 ++ encN x.f1 ++ layL [] l := by
  rw [layL, lay_app]
  simp [textS, textB]
def fine (l : List S35) : Prop := ∀ x, x ∈ l → x.f0.size ≤ 24 ∧ 1 ≤ x.f1 ∧ x.f1 ≤ 4611686018427387904
theorem lay_B : ∀ (l : List S35), fine l → isB (layL [] l)
  | [], _ => fun x hx => by cases hx
  | x :: l, h => by
    have hx := h x List.mem_cons_self
    rw [lay_cons]
    exact app_B (app_B (textB_B _ (by omega)) (enc_B (by omega) (by omega))) (lay_B l fun y hy => h y (List.mem_cons_of_mem _ hy))
theorem tl_enc (r : List Int) (hr : isB r) : ∀ (l : List S35) (a : List Int) (v : List S35), isB a → fine l → rightS (v ++ l) = true →
    tl (a ++ layL [] l ++ r) l.length (a.length : Int) v = (v ++ l, ((a ++ layL [] l).length : Int), 0)
  | [], a, v, ha, hf, hR => by
    rw [List.append_nil] at hR
    simp [tl, layL, hR]
  | x :: l, a, v, ha, hf, hR => by
    have hx := hf x List.mem_cons_self
    have hf' : fine l := fun y hy => hf y (List.mem_cons_of_mem _ hy)
    have e1 : a ++ layL [] (x :: l) ++ r = a ++ textB x.f0 ++ (encN x.f1 ++ layL [] l ++ r) := by rw [lay_cons]; simp
    have e2 : a ++ layL [] (x :: l) ++ r = (a ++ textB x.f0) ++ encN x.f1 ++ (layL [] l ++ r) := by rw [lay_cons]; simp
    have e3 : a ++ layL [] (x :: l) ++ r = (a ++ textB x.f0 ++ encN x.f1) ++ layL [] l ++ r := by rw [lay_cons]; simp
    have hB1 : isB (encN x.f1) := enc_B (by omega) (by omega)
    have hT := take_text a (encN x.f1 ++ layL [] l ++ r) ha (app_B (app_B hB1 (lay_B l hf')) hr) x.f0 hx.1
    have hN := take_enc (a ++ textB x.f0) (layL [] l ++ r) (app_B ha (textB_B _ (by omega))) (app_B (lay_B l hf') hr) x.f1 (by omega) (by omega)
    rw [← e1] at hT
    rw [← e2] at hN
    have ih := tl_enc r hr l (a ++ textB x.f0 ++ encN x.f1) (v ++ [x]) (app_B (app_B ha (textB_B _ (by omega))) hB1) hf' (by simpa using hR)
    rw [← e3] at ih
    rw [List.length_cons, tl, hT]
    simp only []
    rw [hN]
    simp only []
    rw [if_pos trivial, if_pos trivial, if_neg (by omega), w_id (by omega)]
    have e4 : ((a ++ textB x.f0).length : Int) + ((encN x.f1).length : Int) = ((a ++ textB x.f0 ++ encN x.f1).length : Int) := by simp; omega
    rw [e4, ih, lay_cons]
    simp
theorem right_fine {l : List S35} (h : rightS l = true) : fine l := fun x hx => ⟨rises_name (rightS_le h).2 hx, rises_pos (rightS_le h).2 hx⟩
theorem vec_enc (r : List Int) (hr : isB r) (l : List S35) (h : rightS l = true) : vecS ((layS [] l).1 ++ r) 0 = (l, ((layS [] l).1.length : Int), 0) := by
  have hle := (rightS_le h).1
  have hf := right_fine h
  have e : (layS [] l).1 = encN (l.length : Int) ++ layL [] l := by
    unfold layS
    rw [if_pos h, lay_app]
    rfl
  have hB : isB (encN (l.length : Int)) := enc_B (by omega) (by omega)
  have hN := take_enc [] (layL [] l ++ r) (fun x hx => by cases hx) (app_B (lay_B l hf) hr) (l.length : Int) (by omega) (by omega)
  have hT := tl_enc r hr l (encN (l.length : Int)) [] hB hf h
  rw [e]
  have e1 : [] ++ encN (l.length : Int) ++ (layL [] l ++ r) = encN (l.length : Int) ++ layL [] l ++ r := by simp
  rw [e1] at hN
  have e0 : (([] : List Int).length : Int) = 0 := rfl
  rw [e0, Int.zero_add] at hN
  unfold vecS
  rw [hN]
  simp only []
  rw [if_pos trivial, if_neg (by omega), Int.toNat_natCast, hT]
  rfl
theorem tl_is {b : List Int} (hB : isB b) : ∀ (c : Nat) (p : Int) (v : List S35), 0 ≤ p → p ≤ (b.length : Int) → (tl b c p v).2.2 = 0 →
    ∃ l, (tl b c p v).1 = v ++ l ∧ l.length = c ∧ rightS (v ++ l) = true ∧ (0 ≤ (tl b c p v).2.1 ∧ (tl b c p v).2.1 ≤ (b.length : Int)) ∧ b.take (tl b c p v).2.1.toNat = b.take p.toNat ++ layL [] l
  | 0, p, v, hp, hpl, h => by
    unfold tl at h ⊢
    by_cases hR : rightS v = true
    case neg => rw [if_neg hR] at h; cases h
    rw [if_pos hR]
    exact ⟨[], by simp, rfl, by simpa using hR, ⟨hp, hpl⟩, by simp [layL]⟩
  | c + 1, p, v, hp, hpl, h => by
    unfold tl at h ⊢
    by_cases h0 : (textT b p).2.2 = 0
    case neg => rw [if_neg h0] at h; cases h
    by_cases h1 : (takeS b (textT b p).2.1).2.2 = 0
    case neg => rw [if_pos h0, if_neg h1] at h; cases h
    by_cases h2 : (takeS b (textT b p).2.1).1 > 4611686018427387904
    · rw [if_pos h0, if_pos h1, if_pos h2] at h; cases h
    rw [if_pos h0, if_pos h1, if_neg h2] at h ⊢
    obtain ⟨_, _, hs, _, ht⟩ := text_is hB h0
    have hk := takeS_ok hB h1
    obtain ⟨_, _, hn⟩ := take_is hB h1
    obtain ⟨l, e1, e2, e3, e4, e5⟩ := tl_is hB c _ _ hk.1 hk.2.1 h
    have hw : wrap64 (takeS b (textT b p).2.1).1 = (takeS b (textT b p).2.1).1 := w_id (by omega)
    rw [hw] at e1 e3 e4 e5 ⊢
    refine ⟨⟨(textT b p).1, (takeS b (textT b p).2.1).1⟩ :: l, by rw [e1]; simp, by simp [e2], by simpa using e3, e4, ?_⟩
    rw [e5, hn, ht, lay_cons]
    simp
theorem vec_is {b : List Int} (hB : isB b) (h : (vecS b 0).2.2 = 0) : rightS (vecS b 0).1 = true ∧ (0 ≤ (vecS b 0).2.1 ∧ (vecS b 0).2.1 ≤ (b.length : Int)) ∧ (layS [] (vecS b 0).1).1 = b.take (vecS b 0).2.1.toNat := by
  unfold vecS at h ⊢
  by_cases h0 : (takeS b 0).2.2 = 0
  case neg => rw [if_neg h0] at h; cases h
  by_cases h1 : (takeS b 0).1 > 64
  · rw [if_pos h0, if_pos h1] at h; cases h
  rw [if_pos h0, if_neg h1] at h ⊢
  have hk := takeS_ok hB h0
  obtain ⟨_, _, hn⟩ := take_is hB h0
  obtain ⟨l, e1, e2, e3, e4, e5⟩ := tl_is hB _ _ _ hk.1 hk.2.1 h
  rw [List.nil_append] at e1 e3
  rw [e1]
  refine ⟨e3, e4, ?_⟩
  unfold layS
  rw [if_pos e3, lay_app, e5, hn, e2]
  simp
  rw [show max (takeS b 0).1 0 = (takeS b 0).1 by omega]

/-! ### the law -/
theorem layS_len (l : List S35) (h : rightS l = true) : (layS [] l).1.length ≤ 3000 := by
  have hle := (rightS_le h).1
  have hf := right_fine h
  have : ∀ (l : List S35), fine l → (layL [] l).length ≤ 42 * l.length := by
    intro l
    induction l with
    | nil => intro _; simp [layL]
    | cons x l ih =>
      intro hf
      have := ih fun y hy => hf y (List.mem_cons_of_mem _ hy)
      have hx := hf x List.mem_cons_self
      have h1 := encN_len x.f1
      have h2 := encN_len (x.f0.size : Int)
      rw [lay_cons]
      simp [textB, bytesOf_length]
      omega
  have h1 := this l hf
  have h2 := encN_len (l.length : Int)
  unfold layS
  rw [if_pos h, lay_app]
  simp
  omega
theorem VectorBack_pure (b : List Int) (hb : b.length ≤ 140737488351232) (hB : isB b) (v : List S35) (lv : v.length ≤ 9223372036854775807) (_ : ∀ x, x ∈ v → x.f0.size ≤ maxLen) : ∃ k, pannierlaw07_VectorBack.f k b v = some true := by
  obtain ⟨k, hk⟩ : ∃ k, b.length + v.length + 1000 < k := ⟨_, Nat.lt_succ_self _⟩
  refine ⟨k + 1, ?_⟩
  have hnil : isB ([] : List Int) := fun x hx => by cases hx
  have e1 := shown_f (k + 1) (by omega)
  have e4 := take_f b hB (by omega) 0 (k + 1) (by omega)
  have hj : pannierlaw07_VectorBack.j0 (k + 1) b v true = some true := by
    have e2 := lay_f [] (by simp) v lv k (by omega)
    rw [pannierlaw07_VectorBack.j0, e2, Option.bind_some]
    by_cases hR : rightS v = true
    · have hlen := layS_len v hR
      have h0 : (layS [] v).2 = 0 := by unfold layS; rw [if_pos hR]
      have hBl : isB (layS [] v).1 := by
        unfold layS
        rw [if_pos hR, lay_app]
        have := (rightS_le hR).1
        exact app_B (app_B hnil (enc_B (by omega) (by omega))) (lay_B v (right_fine hR))
      have e5 := take_f ((layS [] v).1 ++ b) (app_B hBl hB) (by simp; omega) 0 k (by omega)
      have e6 := same_f v lv k (by omega)
      rw [vec_enc b hB v hR] at e5
      rw [if_pos h0, if_pos (by omega), e5]
      simp only [Option.bind_some, if_true, e6]
    · have h0 : ¬ (layS [] v).2 = 0 := by unfold layS; rw [if_neg hR]; decide
      have e7 := right_f v lv k (by omega)
      rw [if_neg h0, if_pos rfl, e7]
      simp [hR]
  unfold pannierlaw07_VectorBack.f
  rw [e1, Option.bind_some, e4, Option.bind_some]
  by_cases h : (vecS b 0).2.2 = 0
  · obtain ⟨hR, hq, hl⟩ := vec_is hB h
    have hle := (rightS_le hR).1
    have e2 := lay_f [] (by simp) (vecS b 0).1 (by omega) (k + 1) (by omega)
    have h0 : (layS [] (vecS b 0).1).2 = 0 := by unfold layS; rw [if_pos hR]
    rw [if_pos h, e2, Option.bind_some, if_pos h0, if_pos hq.1, if_pos hq.2, hl, if_pos rfl, hj]
  · rw [if_neg h, hj]
end Go.Proofs.Ytnnlpelogabokaa.PK
