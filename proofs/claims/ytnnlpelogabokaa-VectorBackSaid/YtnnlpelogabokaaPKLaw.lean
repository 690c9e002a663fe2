/- pannierlaw07.VectorBytes' walk answers true: vectors as bytes, and bytes as vectors, the program's way and the reference's. No condition but that bytes are bytes, and the sizes that a machine has. -/
import Derived.Test.YtnnlpelogabokaaPKx7
import Derived.Test.YtnnlpelogabokaaPKx6
import Derived.Test.YtnnlpelogabokaaPKPure
import Derived.Test.YtnnlpelogabokaaPKDec

namespace Go.Proofs.Ytnnlpelogabokaa.PK
open Go.RowKit Go.Proofs.YtnnlpelogabokaaW.PrintWords Go.Proofs.YtnnlpelogabokaaW.PrintLast Go.Proofs.YtnnlpelogabokaaW.PrintMore Go.Proofs.Ytnnlpelogabokaa.XW

theorem u_id {u : Int} (h0 : 0 ≤ u) (h1 : u < 18446744073709551616) : IntKind.u64.wrap u = u := by
  show u % 18446744073709551616 = u
  omega
def textS (b : List Int) (s : ByteArray) : List Int := b ++ encN (s.size : Int) ++ bytesOf s
theorem text_f (b : List Int) (s : ByteArray) (hs : s.size ≤ 24) (hb : b.length ≤ 140737488355200) (k : Nat) (hk : 20 ≤ k) : wire_Text.f k b s = some (textS b s) := by
  have := encN_len (s.size : Int)
  unfold wire_Text.f
  rw [u_id (by omega) (by omega), number_f _ (by omega) (by omega) b (by omega) k hk, Option.bind_some, if_pos (by rw [List.length_append]; omega)]
  rfl
def layL (b : List Int) : List S35 → List Int
  | [] => b
  | x :: l => layL (textS b x.f0 ++ encN x.f1) l
theorem textS_len (b : List Int) (s : ByteArray) : (textS b s).length ≤ b.length + 9 + s.size := by
  have := encN_len (s.size : Int)
  unfold textS
  rw [List.length_append, List.length_append, bytesOf_length]
  omega
theorem rises_name {l : List S35} {was : ByteArray} : ∀ {x : S35}, rises was l = true → x ∈ l → x.f0.size ≤ 24 := by
  induction l generalizing was with
  | nil => intro x _ hx; cases hx
  | cons y l ih =>
    intro x h hx
    simp only [rises, dotOk, isNameB, Bool.and_eq_true, decide_eq_true_eq] at h
    rcases List.mem_cons.1 hx with rfl | hx
    · exact h.1.1.1.1.2
    · exact ih h.2 hx
theorem rd_mem (l : List S35) (i : Nat) (h : i < l.length) : rd_T35 l (i : Int) ∈ l := by
  rw [show rd_T35 l (i : Int) = l[i] by simp [rd_T35, List.getD, h]]
  exact List.getElem_mem h
theorem lay_l0 (l : List S35) (hl : l.length ≤ 64) (was : ByteArray) (hr : rises was l = true) : ∀ (k i : Nat) (b : List Int), i ≤ l.length → l.length - i + 60 < k → b.length ≤ 140737488352000 + 42 * i →
    vector_Lay.l0 k b l (l.length : Int) (i : Int) = some (layL b (l.drop i), 0)
  | 0, i, b, _, h, _ => by omega
  | k + 1, i, b, hi, h, hb => by
    by_cases hlt : i < l.length
    · have hn := rises_name hr (rd_mem l i hlt)
      have hp := rises_pos hr (rd_mem l i hlt)
      have ht := textS_len b (rd_T35 l (i : Int)).f0
      have he := encN_len (rd_T35 l (i : Int)).f1
      rw [vector_Lay.l0, if_pos (by omega), if_pos (by omega), if_pos (by omega), text_f _ _ hn (by omega) k (by omega), Option.bind_some, u_id (by omega) (by omega), number_f _ (by omega) (by omega) _ (by omega) k (by omega), Option.bind_some, wrap_succ hlt (by omega),
        lay_l0 l hl was hr k (i + 1) _ (by omega) (by omega) (by rw [List.length_append]; omega), rd_drop l i hlt, layL]
    · rw [vector_Lay.l0, if_neg (by omega), List.drop_eq_nil_of_le (by omega), layL]
def layS (b : List Int) (l : List S35) : List Int × Int := if rightS l then (layL (b ++ encN (l.length : Int)) l, 0) else ([], 2)
theorem lay_f (b : List Int) (hb : b.length ≤ 140737488351232) (l : List S35) (hl : l.length ≤ 9223372036854775807) (k : Nat) (hk : l.length + 200 < k) : vector_Lay.f k b l = some (layS b l) := by
  unfold vector_Lay.f layS
  rw [right_f l hl k (by omega), Option.bind_some]
  cases hr : rightS l
  · rfl
  have h2 := rightS_le hr
  have he := encN_len (l.length : Int)
  rw [if_pos rfl, u_id (by omega) (by omega), number_f _ (by omega) (by omega) b (by omega) k (by omega), Option.bind_some]
  have := lay_l0 l h2.1 _ h2.2 k 0 (b ++ encN (l.length : Int)) (by omega) (by omega) (by rw [List.length_append]; omega)
  exact this
end Go.Proofs.Ytnnlpelogabokaa.PK
