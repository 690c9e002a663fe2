/- What the rows of this claim use, out of the texts of this work (SG). No condition beyond those that each statement names. -/
import Derived.Test.YtjejhgjdmbodiaaZdPQ3
import Derived.Test.YtjejhgjdmbodiaaZdUTS
import Derived.Test.YtjejhgjdmbodiaaZdX
namespace Go.Proofs.Ytjejhgjdmbodiaa.PO
open Go.RowKit Go.Proofs.YtjejhgjdmbodiaaW.PrintWords Go.Proofs.YtjejhgjdmbodiaaW.PrintLast Go.Proofs.YtjejhgjdmbodiaaW.PrintMore Go.Proofs.Ytjejhgjdmbodiaa.XW
open Go.Proofs.Ytjejhgjdmbodiaa.XRange Go.Proofs.Ytjejhgjdmbodiaa.XMap
set_option linter.unusedVariables false
set_option linter.unusedSimpArgs false
abbrev Whose := ByteArray × ByteArray
abbrev Curs := Int × Int
def wV (p : Whose) : Value := .agg #[.string p.1, .string p.2]
def cV (c : Curs) : Value := .agg #[.int .i64 c.1, .int .i64 c.2]
theorem keysW : Keys Try.prog 93 wV := by
 have hu := Try.underlying93
 refine keys_struct hu ?_ ?_ ?_
 · intro em x w
   obtain ⟨n, hn⟩ : ∃ n, 10000 = n + 1 + 1 := ⟨9998, rfl⟩
   rw [hn]
   have h9 := Try.underlying9
   have c9 : ∀ (s : ByteArray) W, (Instr.checkKey em (n + 1) 9 (.string s)).run Try.prog W = .ok () W := fun s W => by simp [Instr.checkKey, run_underlying h9]
   unfold wV
   rw [Instr.checkKey]
   simp [run_underlying hu, go_sem, c9]
 · intro x y w
   have h9 := Try.underlying9
   have key : ∀ d, (Op.equalIn (d + 1 + 1) 93 (.agg #[.string x.1, .string x.2]) (.agg #[.string y.1, .string y.2])).run Try.prog w = .ok ((x.1 == y.1) && (x.2 == y.2)) w := by
    intro d
    refine eqA_of hu (by kernel_rfl) (eqf_cons (r := x.1 == y.1) (s := x.2 == y.2) (a := .string x.1) (b := .string y.1) rfl ?_ ?_ ?_ (eqf_last (a := .string x.2) (b := .string y.2) rfl ?_ ?_ ?_))
    · go_simp
    · go_simp
    · simp only [Op.equalIn]; go_simp
    · go_simp
    · go_simp
    · simp only [Op.equalIn]; go_simp
   have e1 : ((x.1 == y.1) && (x.2 == y.2)) = decide (y = x) := by
    rw [ba_beq, ba_beq]
    obtain ⟨x0, x1⟩ := x
    obtain ⟨y0, y1⟩ := y
    simp only [Prod.mk.injEq]
    rw [Bool.eq_iff_iff]
    simp only [Bool.and_eq_true, decide_eq_true_eq]
    constructor <;> (rintro ⟨rfl, rfl⟩; exact ⟨rfl, rfl⟩)
   rw [← e1]
   exact key 9998
 · intro x
   simp [Instr.sameBits, wV, ba_beq]
structure InAt (w : World) (i m : Nat) (who : ByteArray) (D : List (Whose × Curs)) : Prop where
 blk : w.heap[i]? = some (.cells #[.string who, .map (some m)] 88 (0, 0))
 mp : MapAt w m wV cV D
theorem InAt.step {w w1 : World} {i m : Nat} {who : ByteArray} {D : List (Whose × Curs)} (h : InAt w i m who D) (h1 : w1.heap[i]? = w.heap[i]?) (h2 : w1.heap[m]? = w.heap[m]?) : InAt w1 i m who D :=
 ⟨h1.trans h.blk, h.mp.step h2⟩
theorem InAt.below {w w1 : World} {i m : Nat} {who : ByteArray} {D : List (Whose × Curs)} (h : InAt w i m who D) (hb : Below w.heap.size w w1) : InAt w1 i m who D :=
 h.step (hb.block i (blk_lt h.blk)) (hb.block m h.mp.lt)
theorem InAt.ne {w : World} {i m : Nat} {who : ByteArray} {D : List (Whose × Curs)} (h : InAt w i m who D) : i ≠ m := fun e => by
 obtain ⟨es, cl, hm, _⟩ := h.mp.at_
 rw [← e, h.blk] at hm
 cases hm
theorem mk86 : Try.prog.underlying 86 = some (.map (Try.prog.mapKeyOf 86) (Try.prog.mapElemOf 86)) := by
 simp [Program.mapKeyOf, Program.mapElemOf, Try.underlying86]
theorem len_at {κ ν : Type} [DecidableEq κ] {K : κ → Value} {V : ν → Value} {t : TypeId} (ht : Try.prog.underlying t = some (.map (Try.prog.mapKeyOf t) (Try.prog.mapElemOf t))) {w : World} {b : Nat} {D : List (κ × ν)} (h : MapAt w b K V D) :
 (Builtin.len_ #[t] 3 #[.map (some b)]).run Try.prog w = .ok (.int .i64 (D.length : Int)) w := by
 obtain ⟨es, clock, hes, hk, _, _, _⟩ := h.at_
 rw [run_len_map _ t 3 b es clock ht hes, keys_len hk]
 rfl
theorem info95 : (Try.prog.info? 95).map (fun i => i.zero) = some (some (.agg #[.int .i64 0, .int .i64 0])) := by kernel_rfl
theorem zero95 (w : World) : (zeroValue 95).run Try.prog w = .ok (.agg #[.int .i64 0, .int .i64 0]) w := by
 obtain ⟨i0, hi, hzz⟩ := Option.map_eq_some_iff.1 info95
 simp [zeroValue, typeInfo, hi, hzz]
theorem newInBad_calls (who : ByteArray) (w : World) (h : isNameB who = false) : Calls Try.prog 21 #[.string who] w fun e w' => e = .returned (.tuple #[.pointer none, .int .i64 2]) ∧ Below w.heap.size w w' := by
 go_enter Try.func21, Try.ntmps21
 go_wp2_with fail
 refine (vector_IsName.calls who false _ (congrArg some h)).mono ?_
 rintro e w1 ⟨rfl, hb1⟩
 go_wp2
 go_ret2
 exact ⟨rfl, hb1⟩
theorem newIn_calls (who : ByteArray) (w : World) (h : isNameB who = true) : Calls Try.prog 21 #[.string who] w fun e w' => ∃ i m, e = .returned (.tuple #[.pointer (some ⟨i, 0, none⟩), .int .i64 0]) ∧ InAt w' i m who [] ∧ w.heap.size ≤ i ∧ w.heap.size ≤ m ∧ Below w.heap.size w w' := by
 have hmm := @run_makeMap Try.prog
 go_enter Try.func21, Try.ntmps21
 go_wp2_with fail
 refine (vector_IsName.calls who true _ (congrArg some h)).mono ?_
 rintro e w1 ⟨rfl, hb1⟩
 go_wp2
 go_ret2
 have hb2 : Below w1.heap.size w1 (w1.alloc (.map #[] 0)) := (Below.refl _ w1).alloc (Nat.le_refl _) _
 have hb3 := (Below.refl (w1.alloc (.map #[] 0)).heap.size (w1.alloc (.map #[] 0))).alloc (Nat.le_refl _) (.cells #[.string who, .map (some w1.heap.size)] 88)
 refine ⟨_, w1.heap.size, rfl, ⟨?_, (made w1 wV cV).step (hb3.block w1.heap.size (by simp))⟩, ?_, hb1.size, hb1.trans ((hb2.trans (hb3.mono hb2.size)).mono hb1.size)⟩
 · have := World.alloc_heap_new (w1.alloc (.map #[] 0)) (.cells #[.string who, .map (some w1.heap.size)] 88)
   simpa using this
 · have := hb1.size; simp; omega
end Go.Proofs.Ytjejhgjdmbodiaa.PO
