/- What the rows of this claim use, out of the texts of this work (SQ, SW, SX, LayP, SY). No condition beyond those that each statement names. -/
import Derived.Shelf.SlGeneric
import Derived.Shelf.SlSortCmp.NoneTotal
import Derived.Ground.SlsfProg
import Derived.Test.YtjejhgjdmbodiaaProg
import Derived.Test.YtjejhgjdmbodiaaZdSH
import Derived.Test.YtjejhgjdmbodiaaZdX
import Derived.Test.YtjejhgjdmbodiaaZdXColl
section
namespace Go.Proofs.Ytjejhgjdmbodiaa.PO
open Go.RowKit Go.Proofs.YtjejhgjdmbodiaaW.PrintWords Go.Proofs.YtjejhgjdmbodiaaW.PrintLast Go.Proofs.YtjejhgjdmbodiaaW.PrintMore Go.Proofs.Ytjejhgjdmbodiaa.XW
open Go.Proofs.Ytjejhgjdmbodiaa.XRange Go.Proofs.Ytjejhgjdmbodiaa.XMap
set_option linter.unusedVariables false
set_option linter.unusedSimpArgs false
def kLt (a b : Whose) : Bool := Op.bytesLess a.1.toList b.1.toList || (a.1.toList == b.1.toList && Op.bytesLess a.2.toList b.2.toList)
theorem kLt_iff {a b : Whose} : kLt a b = true ↔ Op.bytesLess a.1.toList b.1.toList = true ∨ (a.1 = b.1 ∧ Op.bytesLess a.2.toList b.2.toList = true) := by
 unfold kLt
 simp only [Bool.or_eq_true, Bool.and_eq_true, beq_iff_eq]
 constructor
 · rintro (h | ⟨h1, h2⟩)
   · exact .inl h
   · exact .inr ⟨bytes_inj h1, h2⟩
 · rintro (h | ⟨h1, h2⟩)
   · exact .inl h
   · exact .inr ⟨by rw [h1], h2⟩
theorem kLt_irr (a : Whose) : kLt a a = false := by
 cases h : kLt a a with
 | false => rfl
 | true =>
   rcases kLt_iff.1 h with h | ⟨_, h⟩
   · rw [bl_irr] at h; cases h
   · rw [bl_irr] at h; cases h
theorem kLt_trans {a b c : Whose} (h1 : kLt a b = true) (h2 : kLt b c = true) : kLt a c = true := by
 rw [kLt_iff] at h1 h2 ⊢
 rcases h1 with h1 | ⟨e1, h1⟩
 · rcases h2 with h2 | ⟨e2, h2⟩
   · exact .inl (bl_trans _ _ _ h1 h2)
   · exact .inl (by rw [← e2]; exact h1)
 · rcases h2 with h2 | ⟨e2, h2⟩
   · exact .inl (by rw [e1]; exact h2)
   · exact .inr ⟨e1.trans e2, bl_trans _ _ _ h1 h2⟩
theorem bl_tri {a b : ByteArray} (h1 : Op.bytesLess a.toList b.toList = false) (h2 : Op.bytesLess b.toList a.toList = false) : a = b := by
 have h := bytesLess_or_eq a.toList b.toList
 rw [h1, h2] at h
 simp only [Bool.false_or, Bool.not_false, beq_iff_eq] at h
 exact bytes_inj h
theorem kLt_tri {a b : Whose} (h1 : kLt a b = false) (h2 : kLt b a = false) : a = b := by
 have n1 : ∀ {x y : Whose}, kLt x y = false → Op.bytesLess x.1.toList y.1.toList = false := fun {x y} h => by
  cases hx : Op.bytesLess x.1.toList y.1.toList with
  | false => rfl
  | true => rw [kLt_iff.2 (.inl hx)] at h; cases h
 have e1 := bl_tri (n1 h1) (n1 h2)
 have n2 : ∀ {x y : Whose}, x.1 = y.1 → kLt x y = false → Op.bytesLess x.2.toList y.2.toList = false := fun {x y} e h => by
  cases hx : Op.bytesLess x.2.toList y.2.toList with
  | false => rfl
  | true => rw [kLt_iff.2 (.inr ⟨e, hx⟩)] at h; cases h
 have e2 := bl_tri (n2 e1 h1) (n2 e1.symm h2)
 exact Prod.ext e1 e2
def srt (E : List (Whose × Curs)) : Prop := E.Pairwise (fun p q => kLt p.1 q.1 = true)
def insK : List (Whose × Curs) → Whose → Curs → List (Whose × Curs)
 | [], k, v => [(k, v)]
 | p :: E, k, v => if kLt p.1 k = true then p :: insK E k v else if p.1 = k then (k, v) :: E else (k, v) :: p :: E
theorem look_insK (E : List (Whose × Curs)) (k x : Whose) (v : Curs) : XMap.look (insK E k v) x = if k = x then some v else XMap.look E x := by
 induction E with
 | nil => simp [insK, look_cons, look_nil]
 | cons p E ih =>
   unfold insK
   by_cases h : kLt p.1 k = true
   · rw [if_pos h, look_cons, look_cons, ih]
     by_cases hp : p.1 = x
     · rw [if_pos hp, if_pos hp, if_neg]
       rintro rfl
       rw [hp, kLt_irr] at h
       cases h
     · rw [if_neg hp, if_neg hp]
   · rw [if_neg h]
     by_cases he : p.1 = k
     · rw [if_pos he, look_cons, look_cons]
       by_cases hx : k = x
       · rw [if_pos hx, if_pos hx]
       · rw [if_neg hx, if_neg hx, if_neg (fun h => hx (he.symm.trans h))]
     · rw [if_neg he, look_cons]
theorem mem_insK {E : List (Whose × Curs)} {k : Whose} {v : Curs} {p : Whose × Curs} (h : p ∈ insK E k v) : p = (k, v) ∨ p ∈ E := by
 induction E with
 | nil => simp only [insK, List.mem_singleton] at h; exact .inl h
 | cons q E ih =>
   unfold insK at h
   split at h
   · rcases List.mem_cons.1 h with rfl | h
     · exact .inr List.mem_cons_self
     · exact (ih h).imp id (List.mem_cons_of_mem _)
   · split at h
     · rcases List.mem_cons.1 h with rfl | h
       · exact .inl rfl
       · exact .inr (List.mem_cons_of_mem _ h)
     · rcases List.mem_cons.1 h with rfl | h
       · exact .inl rfl
       · exact .inr h
theorem srt_insK {E : List (Whose × Curs)} (hs : srt E) (k : Whose) (v : Curs) : srt (insK E k v) := by
 induction E with
 | nil => exact List.pairwise_singleton _ _
 | cons p E ih =>
   have hp := List.pairwise_cons.1 hs
   unfold insK
   by_cases h : kLt p.1 k = true
   · rw [if_pos h]
     refine List.pairwise_cons.2 ⟨fun q hq => ?_, ih hp.2⟩
     rcases mem_insK hq with rfl | hq
     · exact h
     · exact hp.1 q hq
   · rw [if_neg h]
     by_cases he : p.1 = k
     · rw [if_pos he]
       refine List.pairwise_cons.2 ⟨fun q hq => ?_, hp.2⟩
       have := hp.1 q hq
       rwa [he] at this
     · rw [if_neg he]
       have hk : kLt k p.1 = true := by
        cases hkp : kLt k p.1 with
        | true => rfl
        | false => exact absurd (kLt_tri (by simpa using h) hkp) he
       refine List.pairwise_cons.2 ⟨fun q hq => ?_, hs⟩
       rcases List.mem_cons.1 hq with rfl | hq
       · exact hk
       · exact kLt_trans hk (hp.1 q hq)
theorem look_less {E : List (Whose × Curs)} {k : Whose} (h : ∀ p, p ∈ E → kLt k p.1 = true) : XMap.look E k = none := by
 rw [look_none]
 intro hm
 obtain ⟨p, hp, rfl⟩ := List.mem_map.1 hm
 have := h p hp
 rw [kLt_irr] at this
 cases this
theorem len_insK {E : List (Whose × Curs)} (hs : srt E) (k : Whose) (v : Curs) : (insK E k v).length = if XMap.look E k = none then E.length + 1 else E.length := by
 induction E with
 | nil => simp [insK, look_nil]
 | cons p E ih =>
   have hp := List.pairwise_cons.1 hs
   unfold insK
   by_cases h : kLt p.1 k = true
   · have hne : p.1 ≠ k := fun e => by rw [e, kLt_irr] at h; cases h
     rw [if_pos h, List.length_cons, ih hp.2, look_cons, if_neg hne]
     split <;> rfl
   · rw [if_neg h]
     by_cases he : p.1 = k
     · rw [if_pos he, look_cons, if_pos he]
       simp
     · rw [if_neg he]
       have hk : kLt k p.1 = true := by
        cases hkp : kLt k p.1 with
        | true => rfl
        | false => exact absurd (kLt_tri (by simpa using h) hkp) he
       rw [look_less (E := p :: E) (fun q hq => by
        rcases List.mem_cons.1 hq with rfl | hq
        · exact hk
        · exact kLt_trans hk (hp.1 q hq))]
       simp
theorem len_upd (D : List (Whose × Curs)) (k : Whose) (v : Curs) : (upd D k v).length = if XMap.look D k = none then D.length + 1 else D.length := by
 have h := congrArg List.length (upd_keys (D := D) (x := k) v)
 rw [List.length_map] at h
 rw [h]
 split <;> simp
structure Rel (D E : List (Whose × Curs)) : Prop where
 lk : ∀ k, XMap.look D k = XMap.look E k
 len : D.length = E.length
 sr : srt E
 max : D.length ≤ 256
 wf : WfD D
theorem Rel.nil : Rel [] [] := ⟨fun _ => rfl, rfl, List.Pairwise.nil, Nat.zero_le _, fun p hp => by cases hp⟩
theorem Rel.cur {D E : List (Whose × Curs)} (h : Rel D E) (k : Whose) : curOf D k = curOf E k := by unfold curOf; rw [h.lk k]
theorem Rel.none_iff {D E : List (Whose × Curs)} (h : Rel D E) (k : Whose) : curOf D k = (0, 0) ↔ XMap.look E k = none := by
 rw [← h.lk k]
 constructor
 · intro hc
   cases hl : XMap.look D k with
   | none => rfl
   | some v =>
     obtain ⟨i, _, hi, hDi⟩ := find_some hl
     have h2 := h.wf _ (List.getElem_mem hi)
     rw [hDi] at h2
     unfold curOf at hc
     rw [hl] at hc
     have h3 : v = (0, 0) := hc
     rw [h3] at h2
     simp at h2
 · intro hl
   unfold curOf
   rw [hl]
   rfl
theorem Rel.put {D E : List (Whose × Curs)} (h : Rel D E) (k : Whose) (v : Curs) (hv : 1 ≤ v.1) (hm : XMap.look E k = none → D.length < 256) : Rel (upd D k v) (insK E k v) where
 lk := fun x => by rw [look_upd, look_insK, h.lk x]
 len := by rw [len_upd, len_insK h.sr, h.lk k, h.len]
 sr := srt_insK h.sr k v
 max := by
  rw [len_upd, h.lk k]
  split
  · have := hm (by assumption); omega
  · exact h.max
 wf := fun p hp => by
  have hmem : ∀ (D : List (Whose × Curs)), p ∈ upd D k v → p ∈ D ∨ p = (k, v) := by
   intro D
   induction D with
   | nil => intro h; simp only [upd, List.mem_singleton] at h; exact .inr h
   | cons q D ih =>
     intro h
     unfold upd at h
     split at h
     · rcases List.mem_cons.1 h with h | h
       · exact .inr h
       · exact .inl (List.mem_cons_of_mem _ h)
     · rcases List.mem_cons.1 h with h | h
       · exact .inl (h ▸ List.mem_cons_self)
       · exact (ih h).imp (List.mem_cons_of_mem _) id
  rcases hmem D hp with hp | rfl
  · exact h.wf p hp
  · exact hv
def refInTake (who : ByteArray) (E : List (Whose × Curs)) (f : Fr) : TakeR :=
 if (rightF f && decide (f.k = 2) && decide (f.fb = who)) = true then
  if f.se < (curOf E (f.fa, f.ct)).1 then ⟨[], zF, 120, E⟩
  else if XMap.look E (f.fa, f.ct) = none ∧ 256 ≤ E.length then ⟨[], zF, 122, E⟩
  else if f.ix = (curTo E f).2 then ⟨f.op, ⟨3, who, f.fa, f.ct, f.se, (curTo E f).2 + 1, 0, [], []⟩, 0, insK E (f.fa, f.ct) ((curTo E f).1, (curTo E f).2 + 1)⟩
  else ⟨[], ⟨3, who, f.fa, f.ct, f.se, (curTo E f).2, 0, [], []⟩, 0, insK E (f.fa, f.ct) (curTo E f)⟩
 else ⟨[], zF, 2, E⟩
theorem rel_take {D E : List (Whose × Curs)} (h : Rel D E) (who : ByteArray) (f : Fr) :
 (inTake who D f).l = (refInTake who E f).l ∧ (inTake who D f).fr = (refInTake who E f).fr ∧ (inTake who D f).er = (refInTake who E f).er ∧ Rel (inTake who D f).D (refInTake who E f).D := by
 unfold inTake refInTake
 by_cases h1 : (rightF f && decide (f.k = 2) && decide (f.fb = who)) = true
 · rw [if_pos h1, if_pos h1, h.cur]
   by_cases h2 : f.se < (curOf E (f.fa, f.ct)).1
   · rw [if_pos h2, if_pos h2]; exact ⟨rfl, rfl, rfl, h⟩
   · rw [if_neg h2, if_neg h2]
     have hn : (curOf E (f.fa, f.ct) = (0, 0) ∧ D.length = 256) ↔ (XMap.look E (f.fa, f.ct) = none ∧ 256 ≤ E.length) := by
      rw [← h.cur, h.none_iff]
      have := h.max
      have := h.len
      constructor
      · rintro ⟨a, b⟩; exact ⟨a, by omega⟩
      · rintro ⟨a, b⟩; exact ⟨a, by omega⟩
     by_cases h3 : XMap.look E (f.fa, f.ct) = none ∧ 256 ≤ E.length
     · rw [if_pos (hn.2 h3), if_pos h3]; exact ⟨rfl, rfl, rfl, h⟩
     · rw [if_neg (fun x => h3 (hn.1 x)), if_neg h3]
       have hse : 1 ≤ f.se := by
        simp only [Bool.and_eq_true] at h1
        exact (rightF_sizes h1.1.1).2.2.2.1
       have hct : curTo D f = curTo E f := by unfold curTo; rw [h.cur]
       have hc1 : (curTo E f).1 = f.se := by
        unfold curTo
        split
        · rfl
        · omega
       have hm : XMap.look E (f.fa, f.ct) = none → D.length < 256 := fun hl => by
        have := h.len
        rcases Nat.lt_or_ge D.length 256 with h4 | h4
        · exact h4
        · exact absurd ⟨hl, by omega⟩ h3
       rw [hct]
       by_cases h4 : f.ix = (curTo E f).2
       · rw [if_pos h4, if_pos h4]
         exact ⟨rfl, by rw [hc1], rfl, h.put _ _ (by rw [hc1]; exact hse) hm⟩
       · rw [if_neg h4, if_neg h4]
         exact ⟨rfl, by rw [hc1], rfl, h.put _ _ (by rw [hc1]; exact hse) hm⟩
 · rw [if_neg h1, if_neg h1]; exact ⟨rfl, rfl, rfl, h⟩
end Go.Proofs.Ytjejhgjdmbodiaa.PO
end
section
namespace Go.Proofs.Ytjejhgjdmbodiaa.PO
open Go.RowKit Go.Proofs.YtjejhgjdmbodiaaW.PrintWords Go.Proofs.YtjejhgjdmbodiaaW.PrintLast Go.Proofs.YtjejhgjdmbodiaaW.PrintMore Go.Proofs.Ytjejhgjdmbodiaa.XW
open Go.Proofs.Ytjejhgjdmbodiaa.XRange Go.Proofs.Ytjejhgjdmbodiaa.XMap Go.Proofs.Ytjejhgjdmbodiaa.XRangeW Go.Proofs.Ytjejhgjdmbodiaa.XColl
set_option linter.unusedVariables false
set_option linter.unusedSimpArgs false
set_option maxHeartbeats 8000000 in
set_option maxRecDepth 100000 in
theorem whoseIt_seq (n0 n m Bm : Nat) (D : List (Whose × Curs)) (w : World) (hB : w.heap[Bm]? = some (.cells #[.map (some m)] 86 (0, 0))) (hD : MapAt w m wV cV D) (hn0 : n0 ≤ w.heap.size) :
 SeqW n0 n Try.prog 98 #[.pointer (some ⟨Bm, 0, none⟩)] (fun k : Whose => #[wV k]) (fun k => k ∈ D.map (·.1)) (fun k => k = m) (fun _ => False) [] (fun xs => xs.Perm (D.map (·.1))) (fun _ => True) D.length w := by
 intro q J Jx W hW hJ hJx hY h0
 have HJ := Aside0.mk hJ
 have HJx := Aside0.mk hJx
 have HY := Aside0.mk hY
 have H0 := Aside0.mk h0
 have HB := Aside0.mk ((hW.block Bm (blk_lt hB) (fun f => f)).trans hB)
 have hDW : MapAt W m wV cV D := hD.step (hW.block m hD.lt (fun f => f))
 have HD := Aside0.mk hDW
 have HN0 := Aside0.mk (Nat.le_trans hn0 hW.size)
 clear hJ hJx hY h0 hB hW hD hn0
 have hrg := run_range_at (P := Try.prog) Try.underlying86 hDW
 clear hDW
 have b0 : W.cell? ⟨Bm, 0, none⟩ = some (.map (some m)) := (blk_cell HB.out 0).trans rfl
 refine callsIn_of_wp Try.func98 rfl trivial ?_ rfl
 simp only [Try.ntmps98, List.size_toArray, List.length_cons, List.length_nil, Nat.reduceAdd, Nat.reduceSub, Array.replicate_succ, Array.replicate_zero, List.push_toArray, List.append_toArray, List.nil_append, List.cons_append, Array.size_append]
 gi_wp2
 obtain ⟨w1, hw1⟩ : ∃ w1, W.alloc (.mapIter (some m) (W.mapClock m) #[] (W.mapClock m)) = w1 := ⟨_, rfl⟩
 have HI1 := Aside0.mk (show IterAt w1 W.heap.size m wV cV D D from by rw [← hw1]; exact iter_start HD.out)
 have HJ1 := Aside0.mk (show J [] w1 from by rw [← hw1]; exact HJ.out.keeps H0.out ((Keeps.refl _ W).alloc _))
 obtain ⟨r, hr⟩ : ∃ r, W.heap.size = r := ⟨_, rfl⟩
 have HR := Aside0.mk (show n0 ≤ r from by rw [← hr]; exact HN0.out)
 rw [hr] at HI1
 try rw [hw1]
 try rw [hr]
 clear hw1 hr hrg b0 HB HD H0 HN0
 gi_loopw [3] (fun _ wr => ∃ (rem : List (Whose × Curs)) (xs : List Whose), Aside0 (IterAt wr r m wV cV D rem) ∧ Aside0 ((xs ++ rem.map (·.1)).Perm (D.map (·.1))) ∧ Aside0 (xs.length + rem.length = D.length) ∧ Aside0 (J xs wr)) (fun _ wr => leftN wr r m)
 case atStart => exact ⟨D, [], ⟨HI1.out⟩, ⟨List.Perm.refl _⟩, ⟨by simp⟩, ⟨HJ1.out⟩⟩
 case round =>
  obtain ⟨rem, xs, HI, HP, HL, HX⟩ := hrel
  rcases _root_.Go.Proofs.Ytjejhgjdmbodiaa.XMap.run_next_at (P := Try.prog) HI.out 0 with ⟨hrem, hnx0⟩ | ⟨c, hc, w2, hnx0, hi2, hk2, hen0⟩
  · have hnx : ∀ ty, (Instr.next (.pointer (some ⟨r, 0, none⟩)) false ty).run Try.prog wr = .ok (.tuple #[.bool false]) wr := fun ty => hnx0
    clear hnx0
    gi_wp2
    go_end0
    refine ⟨⟨_, rfl⟩, .inl ⟨xs, ?_, HX.out⟩⟩
    have h := HP.out
    rwa [hrem, List.map_nil, List.append_nil] at h
  · have hen := hen0 w2 rfl rfl
    obtain ⟨p, hp⟩ : ∃ p, rem[c] = p := ⟨_, rfl⟩
    have HPE := Aside0.mk (show rem.Perm (p :: rem.eraseIdx c) from by rw [← hp]; exact perm_erase rem c hc)
    have HLE := Aside0.mk (show (rem.eraseIdx c).length + 1 = rem.length from by rw [List.length_eraseIdx_of_lt hc]; omega)
    rw [hp] at hnx0 hen
    have HI2 := Aside0.mk hi2
    have HJ2 := Aside0.mk (HJ.out _ _ _ HX.out (KeepsW.of_walk hk2 HR.out HI.out.walk))
    have HLF := Aside0.mk HI.out.left
    have hnx : ∀ ty, (Instr.next (.pointer (some ⟨r, 0, none⟩)) false ty).run Try.prog wr = .ok (.tuple #[.bool true, wV p.1, cV p.2]) w2 := fun ty => hnx0
    obtain ⟨rem2, hrem2⟩ : ∃ l, rem.eraseIdx c = l := ⟨_, rfl⟩
    rw [hrem2] at HPE HLE HI2
    clear hen0 hnx0
    clear hp hi2 hk2 hc HI hrem2
    dsimp only [wV, cV] at hnx hen
    obtain ⟨w3, hw3⟩ : ∃ w3, w2.alloc (.cells #[.string p.1.1, .string p.1.2] 93) = w3 := ⟨_, rfl⟩
    have hb3 : Below w2.heap.size w2 w3 := by rw [← hw3]; exact (Below.refl _ w2).alloc (Nat.le_refl _) _
    have hb4 : w3.heap[w2.heap.size]? = some (.cells #[.string p.1.1, .string p.1.2] 93 (0, 0)) := by rw [← hw3]; exact World.alloc_heap_new w2 _
    have e0 : w3.cell? ⟨w2.heap.size, 0, none⟩ = some (.string p.1.1) := (blk_cell hb4 0).trans rfl
    have e1 : w3.cell? ⟨w2.heap.size, 1, none⟩ = some (.string p.1.2) := (blk_cell hb4 1).trans rfl
    clear hb4
    have HI3 := Aside0.mk (HI2.out.step (hb3.block r (by have := HI2.out.walk.lt; exact this)) (hb3.block m HI2.out.map_lt))
    have HJ3 := Aside0.mk (HJ.out.keeps HJ2.out (Keeps.of_below hb3))
    clear hb3
    have hJ3 := HJ3.out
    have hrl : xs.length < D.length := by have := HL.out; have := HLE.out; omega
    have hmem : p.1 ∈ D.map (·.1) := HP.out.subset (List.mem_append_right _ (List.mem_map.2 ⟨p, HPE.out.symm.subset List.mem_cons_self, rfl⟩))
    obtain ⟨fn, tmps, asg, bdy, hyy, hR⟩ := HY.out xs p.1 w3 hJ3 hrl hmem
    clear hmem
    clear hJ3 hrl
    try simp only [wV] at hyy
    gi_wp2
    refine ⟨(fun h => by cases h), hR.mono ?_⟩
    rintro e w4 (⟨rfl, hJ4, hk4⟩ | ⟨rfl, hJx4⟩)
    · have HJ4 := Aside0.mk hJ4
      have HI4 := Aside0.mk (HI3.out.step (hk4.2 r (.inr (.inl HI3.out.walk))) (hk4.2 m (.inl rfl)))
      clear hJ4 hk4 hyy hR
      gi_wp2
      go_round
      case rel =>
       refine ⟨rem2, xs ++ [p.1], HI4, ⟨?_⟩, ⟨?_⟩, HJ4⟩
       · refine List.Perm.trans ?_ HP.out
         rw [List.append_assoc]
         exact List.Perm.append_left _ (show ([p.1] ++ rem2.map (·.1)).Perm (rem.map (·.1)) from (HPE.out.map Prod.fst).symm)
       · have := HL.out; have := HLE.out; simp only [List.length_append, List.length_cons, List.length_nil]; omega
      case measure =>
       rw [HI4.out.left, HLF.out]
       have := HLE.out
       omega
    · have HJX := Aside0.mk hJx4
      clear hJx4
      gi_wp2
      refine bodyPost_ret (results_none rfl _ _ _) rfl ?_
      exact ⟨⟨_, rfl⟩, .inr ⟨_, trivial, HJX.out⟩⟩
abbrev whoseK : Kd Whose := flat 2 (fun p : Whose => [.string p.1, .string p.2]) (fun _ => rfl) (fun x u hu => by simp only [List.mem_cons, List.not_mem_nil, or_false] at hu; rcases hu with rfl | rfl <;> rfl)
theorem whoseInfo : (Try.prog.info? 93).map (fun i => (i.zero, i.size, i.bytes)) = some (some (.agg #[.string ⟨#[]⟩, .string ⟨#[]⟩]), 2, 32) := by kernel_rfl
def whoseInv (w : World) (B : Nat) (xs : List Whose) (W : World) : Prop :=
 Below w.heap.size w W ∧ B + 3 ≤ W.heap.size + 2 ∧ ∃ A c, W.heap[B]? = some (.cells #[.slice A xs.length c] 127 (0, 0)) ∧ Kd.R whoseK 93 W (B + 3) (fun k => B + 3 ≤ k) (.slice A xs.length c) xs
theorem whoseInv.keep {w : World} {B : Nat} {xs : List Whose} {W W' : World} {M : Nat → Prop} (h : whoseInv w B xs W) (hw : w.heap.size ≤ B) (hk : KeepsW w.heap.size M W W') (hM : ∀ k, M k → k = B + 1 ∨ k = B + 2) : whoseInv w B xs W' := by
 obtain ⟨h1, h2, A, c, h3, h4⟩ := h
 refine ⟨⟨hk.os.trans h1.os, hk.tape.trans h1.tape, hk.output.trans h1.output, Nat.le_trans h1.size hk.size, fun k hlt => (hk.block k (Nat.lt_of_lt_of_le hlt h1.size) (fun hm => by have := hM k hm; omega) (fun h => by omega)).trans (h1.block k hlt)⟩, by have := hk.size; omega, A, c, (hk.block B (blk_lt h3) (fun hm => by have := hM B hm; omega) (fun h => not_walk_cells h3 h.2)).trans h3, ?_⟩
 refine Kd.R_mono (Kd.R_step (Kd.R_bound h4) (fun k hk2 hlt => hk.block k hlt (fun hm => by have := hM k hm; have := hk2.1; omega) (fun h => ?_))) (fun k hk2 => hk2.1)
 obtain ⟨_, _, _, q, _, cells, hc⟩ := hk2
 exact not_walk_cells hc h.2
set_option maxHeartbeats 8000000 in
set_option maxRecDepth 100000 in
theorem whoseApp_calls (n g : Nat) (lb : Array Value) (E : Whose → Prop) (K : Nat → Prop) (S Sp : List Whose → Prop) (N : Nat) (w : World) (hK : ∀ k, K k → k < w.heap.size) (eg : ∀ args w, (callFunc g args).run Try.prog w = .ok (.enter g args) w)
 (hseq : SeqW w.heap.size (n - 1) Try.prog g lb (fun x : Whose => #[wV x]) E K (fun _ => False) [] S Sp N w) (hN : N * 32 ≤ 140737488355328) :
 CallsIn Fence.wide n Try.prog 104 #[.slice none 0 0, .func (.func g) #[] lb] w fun e w' => ∃ A c xs, e = .returned (.slice A xs.length c) ∧ S xs ∧ Kd.R whoseK 93 w' w.heap.size (fun k => w.heap.size ≤ k) (.slice A xs.length c) xs ∧ Below w.heap.size w w' := by
 have HK := Aside0.mk hK
 have HN := Aside0.mk hN
 have HSQ := Aside0.mk hseq
 have EG := Aside0.mk eg
 clear hK hN hseq eg
 refine callsIn_of_wp_marks Try.func104 rfl trivial ?_ rfl
 simp only [Try.ntmps104, List.size_toArray, List.length_cons, List.length_nil, Nat.reduceAdd, Nat.reduceSub, Array.replicate_succ, Array.replicate_zero, List.push_toArray, List.append_toArray, List.nil_append, List.cons_append, Array.size_append]
 gi_wp2_with fail
 obtain ⟨w7, hw7⟩ : ∃ w7, w.alloc (.cells #[.slice none 0 0] 127) = w7 := ⟨_, rfl⟩
 obtain ⟨B, hB⟩ : ∃ B, w.heap.size = B := ⟨_, rfl⟩
 have hb7 : Below w.heap.size w w7 := by rw [← hw7]; exact (Below.refl _ w).alloc (Nat.le_refl _) _
 have HB7 := Aside0.mk hb7
 have HC7 := Aside0.mk (show w7.heap[B]? = some (.cells #[.slice none 0 0] 127 (0, 0)) from by rw [← hw7, ← hB]; exact World.alloc_heap_new w _)
 have HS7 := Aside0.mk (show w7.heap.size = B + 1 ∧ w.heap.size = B from ⟨by rw [← hw7, ← hB]; simp, hB⟩)
 have HSQ7 := Aside0.mk (HSQ.out.keeps (Keeps.of_below hb7))
 try rw [hw7]
 try rw [hB]
 clear hw7 hB hb7 HSQ
 have hs7 := HS7.out
 refine range_lawW (gf := g) rfl EG.out HSQ7.out (fun _ => rfl) (fun k hk => by have := HK.out k hk; omega) (fun k hk => hk.elim)
  (whoseInv w B) (fun _ _ _ => False)
  (fun s X X' h hk => h.keep (by omega) hk (fun k hk => hk.elim)) (fun c s X X' h _ => h)
  (fun s X X' h hk => h.keep (by omega) (KeepsW.of_keeps hk) (fun k hk => by omega)) (fun c s X X' h _ => h)
  ⟨HB7.out, by omega, none, 0, HC7.out, Kd.R_nil _ _ _ _ _⟩ ?round ?done ?stop
 case stop => exact fun c pre W _ h => h.elim
 case round =>
  rintro pre x W hI hlen _ hsz
  have HPL := Aside0.mk hlen
  have HSZ := Aside0.mk hsz
  have HI := Aside0.mk hI
  clear hI hlen hsz
  try simp only [wV]
  refine XRnd.regionR_ (by kernel_rfl) (by rintro ⟨_, _, h⟩; exact h) ?_
  go_wp2
  obtain ⟨W2, hW2⟩ : ∃ W2, W.alloc (.cells #[.string x.1, .string x.2] 93) = W2 := ⟨_, rfl⟩
  obtain ⟨Q, hQ⟩ : ∃ Q, W.heap.size = Q := ⟨_, rfl⟩
  have HX2 := Aside0.mk (show W2.heap[Q]? = some (.cells #[.string x.1, .string x.2] 93 (0, 0)) from by rw [← hW2, ← hQ]; exact World.alloc_heap_new W _)
  have HK2 := Aside0.mk (show Keeps (fun _ => False) W W2 from by rw [← hW2]; exact (Keeps.refl _ W).alloc _)
  have HQ := Aside0.mk hQ
  try rw [hW2]
  try rw [hQ]
  refine ⟨HK2.out, fun Wb hkb hib => ?_⟩
  have hsq := HSZ.out
  rw [hQ] at hsq
  clear hW2 hQ
  have HXb := Aside0.mk ((hkb.block Q (blk_lt HX2.out) (by omega)).trans HX2.out)
  have HIb := Aside0.mk hib
  clear hkb hib
  obtain ⟨hbw, hsb, A, c, hc0, hR⟩ := HIb.out
  have HC0 := Aside0.mk hc0
  have HR := Aside0.mk hR
  have e2 : Wb.cell? ⟨B, 0, none⟩ = some (.slice A pre.length c) := (blk_cell hc0 0).trans rfl
  have e0 : Wb.cell? ⟨Q, 0, none⟩ = some (.string x.1) := (blk_cell HXb.out 0).trans rfl
  have e1 : Wb.cell? ⟨Q, 1, none⟩ = some (.string x.2) := (blk_cell HXb.out 1).trans rfl
  have hBl := blk_lt hc0
  clear hR hbw hsb
  refine wpIn_block ?_
  refine XRnd.regionR_ (by kernel_rfl) (by rintro ⟨_, _, h⟩; exact h) ?_
  have hsb := HIb.out.1.size
  have HWS := Aside0.mk (show B + 3 ≤ Wb.heap.size from by have := blk_lt HXb.out; omega)
  go_wp2_with ((with_reducible refine gate_builtin (b := .append) (xs := #[.tmp 8, .tmp 10]) rfl ?_); at_builtin; refine Kd.R_append whoseK (w0 := Wb) (B + 3) rfl (.tmp 8) (.tmp 10) 127 93 _ 32 rfl Try.underlying127 whoseInfo rfl (by show 0 < 2; omega) (by omega) _ pre x _ (fun k => B + 3 ≤ k) (fun _ => False) rfl rfl rfl (fun _ h => h.elim) (fun k hk => Nat.le_trans HWS.out hk) HR.out (Below.refl _ _) HWS.out (by have := HPL.out; have := HN.out; omega) ?_; intro v1 wc hr4 hbz hg4 hatz; clear hbz hatz; obtain ⟨A1, c1, rfl⟩ := Kd.R_slice hr4; have hne : some B ≠ (Value.slice A pre.length c).ownBlock := (fun e => (by have := HR.out.1 B e.symm; omega)); have HCc := Aside0.mk ((hg4.block B hBl hne).trans HC0.out); have e2 : wc.cell? ⟨B, 0, none⟩ = some (.slice A pre.length c) := (blk_cell HCc.out 0).trans rfl; have f2 := blk_frozen HCc.out 0; have HR4 := Aside0.mk hr4; have HG4 := Aside0.mk hg4; clear hr4 hg4 hne)
  obtain ⟨w9, hw9⟩ : ∃ w9, wc.setCell ⟨B, 0, none⟩ (.slice A1 (pre.length + 1) c1) = w9 := ⟨_, rfl⟩
  rw [hw9]
  have hr4 := HR4.out
  have hll : (pre ++ [x]).length = pre.length + 1 := by simp
  rw [hll] at hr4
  have hset : ∀ k, k ≠ B → w9.heap[k]? = wc.heap[k]? := fun k hk => by rw [← hw9]; exact Below.heap_setCell wc ⟨B, 0, none⟩ _ k hk
  have hs9 : Wb.heap.size ≤ w9.heap.size := by rw [← hw9]; have := HG4.out.size; simpa [World.setCell] using this
  have hos9 : w9.os = Wb.os ∧ w9.tape = Wb.tape ∧ w9.output = Wb.output := by rw [← hw9]; exact ⟨HG4.out.os, HG4.out.tape, HG4.out.output⟩
  have hB9 : w9.heap[B]? = some (.cells #[.slice A1 (pre.length + 1) c1] 127 (0, 0)) := by rw [← hw9]; exact blk_set HCc.out 0 _
  have hR9 := Kd.R_far (p := ⟨B, 0, none⟩) hr4 (fun k hk => by show k ≠ B; omega) (.slice A1 (pre.length + 1) c1)
  rw [hw9] at hR9
  have hkp : ∀ k, k < Wb.heap.size → k ≠ B → some k ≠ (Value.slice A pre.length c).ownBlock → w9.heap[k]? = Wb.heap[k]? := fun k h1 h2 h3 => (hset k h2).trans (HG4.out.block k h1 h3)
  have how : ∀ k, k < B + 3 → some k ≠ (Value.slice A pre.length c).ownBlock := fun k hk e => by have := HR.out.1 k e.symm; omega
  have hwk : ∀ k, Fix [] Wb k → w9.heap[k]? = Wb.heap[k]? := fun k hk => by
   rcases hk with hk | ⟨_, _, _, h, _⟩
   · exact hkp k hk.lt (fun e => not_walk_cells HC0.out (e ▸ hk)) (fun e => by
      obtain ⟨cells, hc⟩ := Kd.R_typed HR.out k e.symm
      exact not_walk_cells hc hk)
   · cases h
  have hws := HWS.out
  refine ⟨⟨hs9, ?_⟩, ⟨hs9, ?_⟩, ?_⟩
  · rintro k ((rfl | rfl) | hk)
    · exact hkp _ (by omega) (by omega) (how _ (by omega))
    · exact hkp _ (by omega) (by omega) (how _ (by omega))
    · exact hwk k hk
  · rintro k (hk | hk)
    · have := HK.out k hk
      exact hkp _ (by omega) (by omega) (how _ (by omega))
    · exact hwk k hk
  · have hbw := HIb.out.1
    refine ⟨⟨hos9.1.trans hbw.os, hos9.2.1.trans hbw.tape, hos9.2.2.trans hbw.output, Nat.le_trans hbw.size hs9, fun k hlt => (hkp k (Nat.lt_of_lt_of_le hlt hbw.size) (by omega) (how _ (by omega))).trans (hbw.block k hlt)⟩, by have := HWS.out; omega, A1, c1, ?_, ?_⟩
    · rw [hll]; exact hB9
    · rw [hll]; exact hR9
 case done =>
  rintro xs W hS hI hsz hdf
  obtain ⟨hbw, hsb, A, c, hc0, hR⟩ := hI
  have HS := Aside0.mk hS
  have HBW := Aside0.mk hbw
  have HC0 := Aside0.mk hc0
  have HR := Aside0.mk hR
  have HDF := Aside0.mk hdf
  have e2 : W.cell? ⟨B, 0, none⟩ = some (.slice A xs.length c) := (blk_cell hc0 0).trans rfl
  clear hbw hsb hc0 hR hdf hS
  gi_wp2
  have hk9 := keeps_putObj (fun k => k = w7.heap.size) W w7.heap.size (.deferred none) rfl
  refine leave_mark HDF.out ?_
  obtain ⟨W9, hW9⟩ : ∃ W9, W.putObj w7.heap.size (.deferred none) = W9 := ⟨_, rfl⟩
  rw [hW9] at hk9 ⊢
  refine ⟨_, by first | (simp [results, Try.f104, go_sem]; done) | exact results_one _ _ _ _, A, c, xs, rfl, HS.out, ?_, ?_⟩
  · have h1 := Kd.R_bound HR.out
    have h2 := Kd.R_step h1 (fun k hk2 hlt => hk9.block k hlt (by have := hk2.1; omega))
    exact Kd.R_lower (Kd.R_mono h2 (fun k hk2 => by have := hk2.1; omega)) (by omega)
  · have hbw := HBW.out
    exact ⟨hk9.os.trans hbw.os, hk9.tape.trans hbw.tape, hk9.output.trans hbw.output, Nat.le_trans hbw.size hk9.size, fun k hlt => (hk9.block k (Nat.lt_of_lt_of_le hlt hbw.size) (by omega)).trans (hbw.block k hlt)⟩
end Go.Proofs.Ytjejhgjdmbodiaa.PO
end
section
namespace Go.Proofs.Ytjejhgjdmbodiaa.PO
open Go.RowKit Go.Sort Go.Proofs.YtjejhgjdmbodiaaW.PrintWords Go.Proofs.YtjejhgjdmbodiaaW.PrintLast Go.Proofs.YtjejhgjdmbodiaaW.PrintMore Go.Proofs.Ytjejhgjdmbodiaa.XW
open Go.Proofs.Ytjejhgjdmbodiaa.XRange Go.Proofs.Ytjejhgjdmbodiaa.XMap Go.Proofs.Ytjejhgjdmbodiaa.XRangeW Go.Proofs.Ytjejhgjdmbodiaa.XColl
set_option linter.unusedVariables false
set_option linter.unusedSimpArgs false
theorem isNaN99_calls (a : ByteArray) (w : World) : Calls Try.prog 99 #[.string a] w fun e w' => e = .returned (.bool false) ∧ w' = w := by
 go_enter Try.func99, Try.ntmps99
 have q : (!(a.toList == a.toList)) = false := by simp
 go_wp2
 go_ret
 exact ⟨by first | rfl | simp, rfl⟩
def strC (a b : ByteArray) : Int := if Op.bytesLess a.toList b.toList = true then -1 else if Op.bytesLess b.toList a.toList = true then 1 else 0
theorem compare87_calls (a b : ByteArray) (w : World) : Calls Try.prog 87 #[.string a, .string b] w fun e w' => e = .returned (.int .i64 (strC a b)) ∧ w' = w := by
 obtain ⟨r, hr⟩ : ∃ r, strC a b = r := ⟨_, rfl⟩
 rw [hr]
 have HR := Aside0.mk hr
 clear hr
 go_enter Try.func87, Try.ntmps87
 go_wp2_with fail
 refine (isNaN99_calls a w).mono ?_
 rintro e w1 ⟨rfl, rfl⟩
 go_wp2_with fail
 refine (isNaN99_calls b _).mono ?_
 rintro e w2 ⟨rfl, rfl⟩
 by_cases h1 : Op.bytesLess a.toList b.toList = true
 · obtain rfl : r = -1 := HR.out.symm.trans (if_pos h1)
   go_wp2
   go_ret
   exact ⟨rfl, rfl⟩
 · have h1' : Op.bytesLess a.toList b.toList = false := by simpa using h1
   by_cases h2 : Op.bytesLess b.toList a.toList = true
   · obtain rfl : r = 1 := HR.out.symm.trans (by unfold strC; rw [if_neg h1, if_pos h2])
     go_wp2
     go_ret
     exact ⟨rfl, rfl⟩
   · have h2' : Op.bytesLess b.toList a.toList = false := by simpa using h2
     obtain rfl : r = 0 := HR.out.symm.trans (by unfold strC; rw [if_neg h1, if_neg h2])
     go_wp2
     go_ret
     exact ⟨rfl, rfl⟩
def cmpK (x y : Whose) : Int := if strC x.1 y.1 = 0 then strC x.2 y.2 else strC x.1 y.1
theorem cmpOr_two (a b : Int) : cmp_Or_int.f 3 [a, b] = some (if a = 0 then b else a) := by
 unfold cmp_Or_int.f
 have w1 : wrap64 1 = 1 := by unfold wrap64; decide
 have w2 : wrap64 2 = 2 := by unfold wrap64; decide
 have r0 : ∀ a b : Int, Go.Proofs.YtjejhgjdmbodiaaW.PrintWords.rd [a, b] 0 = a := fun _ _ => rfl
 have r1 : ∀ a b : Int, Go.Proofs.YtjejhgjdmbodiaaW.PrintWords.rd [a, b] 1 = b := fun _ _ => rfl
 have hl : (([a, b] : List Int).length : Int) = 2 := rfl
 rw [hl]
 by_cases h : a = 0
 · by_cases h2 : b = 0
   · simp [cmp_Or_int.l0, r0, r1, w1, w2, h, h2]
   · simp [cmp_Or_int.l0, r0, r1, w1, w2, h, h2]
 · simp [cmp_Or_int.l0, r0, r1, w1, w2, h]
theorem lit_ints {w : World} {a b : Int} : Kd.C (Kd.int .i64) (w.alloc (.cells #[.int .i64 a, .int .i64 b] 3)) (some ⟨w.heap.size, 0, none⟩) [a, b].length [a, b] :=
 ⟨rfl, by simp, fun _ => ⟨_, rfl, fun j p hj => by
  have hn := World.alloc_heap_new w (.cells #[.int .i64 a, .int .i64 b] 3)
  match j, hj with
  | 0, hj =>
    cases hj
    exact ⟨[.int .i64 a], rfl, rfl, fun i u hu => by
     match i, hu with
     | 0, hu => cases hu; exact (blk_cell hn 0).trans rfl⟩
  | 1, hj =>
    cases hj
    exact ⟨[.int .i64 b], rfl, rfl, fun i u hu => by
     match i, hu with
     | 0, hu => cases hu; exact (blk_cell hn 1).trans rfl⟩⟩⟩
set_option maxHeartbeats 8000000 in
set_option maxRecDepth 100000 in
theorem cmp85_calls (x y : Whose) (W : World) : Calls Try.prog 85 #[.agg #[.string x.1, .string x.2], .agg #[.string y.1, .string y.2]] W fun e w' => e = .returned (.int .i64 (cmpK x y)) ∧ G0 W w' := by
 obtain ⟨w2, hw2⟩ : ∃ w2, (W.alloc (.cells #[.string x.1, .string x.2] 93)).alloc (.cells #[.string y.1, .string y.2] 93) = w2 := ⟨_, rfl⟩
 have HG := Aside0.mk (show G0 W w2 from by rw [← hw2]; exact ((G0.refl W).alloc _).alloc _)
 obtain ⟨N, hN⟩ : ∃ N, W.heap.size = N := ⟨_, rfl⟩
 have KX := Aside0.mk (show w2.heap[N]? = some (.cells #[.string x.1, .string x.2] 93 (0, 0)) from by rw [← hw2, ← hN]; exact blk_alloc (World.alloc_heap_new W _) _)
 have KY := Aside0.mk (show w2.heap[N + 1]? = some (.cells #[.string y.1, .string y.2] 93 (0, 0)) from by
  rw [← hw2, ← hN]
  have h := World.alloc_heap_new (W.alloc (.cells #[.string x.1, .string x.2] 93)) (.cells #[.string y.1, .string y.2] 93)
  simpa using h)
 obtain ⟨c1, hc1⟩ : ∃ c, strC x.1 y.1 = c := ⟨_, rfl⟩
 obtain ⟨c2, hc2⟩ : ∃ c, strC x.2 y.2 = c := ⟨_, rfl⟩
 have hK : cmpK x y = (if c1 = 0 then c2 else c1) := by unfold cmpK; rw [hc1, hc2]
 obtain ⟨r, hr⟩ : ∃ r, (if c1 = 0 then c2 else c1) = r := ⟨_, rfl⟩
 rw [hK, hr]
 have HOR := Aside0.mk (show cmp_Or_int.f 3 [c1, c2] = some r from by rw [cmpOr_two, hr])
 clear hr
 have HC1 := Aside0.mk hc1
 have HC2 := Aside0.mk hc2
 clear hK hc1 hc2
 go_enter Try.func85, Try.ntmps85
 go_wp2
 first | rw [hw2] | skip
 try rw [hN]
 clear hw2
 refine start_ (n := 13) (ds := []) (S := fun w' => w'.cell? ⟨N, 0, none⟩ = some (.string x.1) ∧ w'.cell? ⟨N, 1, none⟩ = some (.string x.2) ∧ w'.cell? ⟨N + 1, 0, none⟩ = some (.string y.1) ∧ w'.cell? ⟨N + 1, 1, none⟩ = some (.string y.2)) _ (by kernel_rfl) rfl rfl ⟨(blk_cell (blk_drew KX.out) 0).trans rfl, (blk_cell (blk_drew KX.out) 1).trans rfl, (blk_cell (blk_drew KY.out) 0).trans rfl, (blk_cell (blk_drew KY.out) 1).trans rfl⟩ (fun hH => ?_)
 obtain ⟨w3, hw3⟩ : ∃ w3, w2.drew = w3 := ⟨_, rfl⟩
 have HG3 := Aside0.mk (show G0 W w3 from by rw [← hw3]; exact HG.out.drew)
 have KX3 := Aside0.mk (show w3.heap[N]? = some (.cells #[.string x.1, .string x.2] 93 (0, 0)) from by rw [← hw3]; exact blk_drew KX.out)
 have KY3 := Aside0.mk (show w3.heap[N + 1]? = some (.cells #[.string y.1, .string y.2] 93 (0, 0)) from by rw [← hw3]; exact blk_drew KY.out)
 rw [hw3] at hH ⊢
 clear hw3 HG KX KY
 refine XReg.pu 0 5 (h := ?_)
 refine XReg.tk 1 6 (h := ?_)
 refine XReg.pu 2 7 (h := ?_)
 refine XReg.tk 3 8 (h := ?_)
 refine XReg.pu 5 10 (h := ?_)
 refine XReg.tk 6 11 (h := ?_)
 refine XReg.pu 7 12 (h := ?_)
 refine XReg.tk 8 13 (h := ?_)
 refine XReg.one (i := 4) (some 9) rfl rfl (by kernel_rfl) (by decide) (fun Kc hKc => ?_)
 refine goes_ Try.func87 (by kernel_rfl) rfl #[.string x.1, .string y.1] (by rfl) rfl rfl (by (try simp only [List.map_toArray, List.map_cons, List.map_nil]); first | done | rfl) ?_
 refine (compare87_calls _ _ _).mono ?_
 rintro e w' ⟨rfl, rfl⟩
 refine ⟨_, rfl, ?_⟩
 rw [HC1.out]
 refine hKc.out _ _ hH (fun hH2 => ?_)
 clear hKc Kc hH2
 refine XReg.one (i := 9) (some 14) rfl rfl (by kernel_rfl) (by decide) (fun Kc hKc => ?_)
 refine goes_ Try.func87 (by kernel_rfl) rfl #[.string x.2, .string y.2] (by rfl) rfl rfl (by (try simp only [List.map_toArray, List.map_cons, List.map_nil]); first | done | rfl) ?_
 refine (compare87_calls _ _ _).mono ?_
 rintro e w'' ⟨rfl, rfl⟩
 refine ⟨_, rfl, ?_⟩
 rw [HC2.out]
 refine hKc.out _ _ hH (fun hH2 => ?_)
 clear hKc Kc hH2 hH
 refine XReg.one (i := 10) (some 15) rfl rfl (by kernel_rfl) (by decide) (fun Kc hKc => ?_)
 go_simp
 have hb4 := (Below.refl w''.heap.size w'').alloc (Nat.le_refl _) (.cells #[.int .i64 c1, .int .i64 c2] 3)
 refine hKc.out _ _ ⟨(blk_cell (blk_below KX3.out hb4) 0).trans rfl, (blk_cell (blk_below KX3.out hb4) 1).trans rfl, (blk_cell (blk_below KY3.out hb4) 0).trans rfl, (blk_cell (blk_below KY3.out hb4) 1).trans rfl⟩ (fun hH2 => ?_)
 clear hKc Kc hb4
 refine XReg.one (i := 11) (some 16) rfl rfl (by kernel_rfl) (by decide) (fun Kc hKc => ?_)
 refine goes_ Try.func86 (by kernel_rfl) rfl #[.slice (some ⟨w''.heap.size, 0, none⟩) 2 2] (by rfl) rfl rfl (by (try simp only [List.map_toArray, List.map_cons, List.map_nil]); first | done | rfl) ?_
 refine (cmp_Or_int.calls 3 (some ⟨w''.heap.size, 0, none⟩) 2 [c1, c2] _ _ lit_ints (Nat.le_refl 2) HOR.out).mono ?_
 rintro e w5 ⟨rfl, hd⟩
 refine ⟨_, rfl, ?_⟩
 have HG5 := Aside0.mk ((HG3.out.alloc (.cells #[.int .i64 c1, .int .i64 c2] 3)).drawn hd)
 obtain ⟨q, hq⟩ := hd.out
 have hS : w5.cell? ⟨N, 0, none⟩ = some (.string x.1) ∧ w5.cell? ⟨N, 1, none⟩ = some (.string x.2) ∧ w5.cell? ⟨N + 1, 0, none⟩ = some (.string y.1) ∧ w5.cell? ⟨N + 1, 1, none⟩ = some (.string y.2) := by rw [hq]; exact hH2
 refine hKc.out _ _ hS (fun hH3 => ?_)
 clear hKc Kc hS hd hq hH2
 refine XReg.pu 12 4 (h := ?_)
 refine done_ (by kernel_rfl) ?_
 go_wp2
 go_ret
 exact ⟨rfl, HG5.out⟩
end Go.Proofs.Ytjejhgjdmbodiaa.PO
end
section
namespace Go.Proofs
open Go.Shelf
def Try.sort97_ren : Go.Shelf.Ren := ⟨fun | 6 => 97 | 15 => 106 | 14 => 105 | 28 => 118 | 29 => 95 | 20 => 110 | 21 => 111 | 22 => 112 | 23 => 113 | 24 => 114 | 25 => 115 | 26 => 116 | 27 => 117 | 46 => 119 | 47 => 120 | 48 => 121 | 49 => 122 | 50 => 123 | 57 => 124 | n => n, fun | 22 => 127 | 24 => 93 | 25 => 134 | 3 => 3 | 39 => 136 | 0 => 0 | 53 => 158 | 55 => 103 | 4 => 4 | 46 => 152 | 45 => 151 | 50 => 96 | 5 => 5 | 9 => 9 | 66 => 159 | 70 => 163 | 76 => 165 | 77 => 166 | n => n, fun | n => n⟩
theorem Try.sort97 : Go.Proofs.SlLaysF0.n6 Try.prog Try.sort97_ren := {
 mixed := by kernel_rfl
 f6 := ⟨Try.f97.name, by decide, Try.func97.trans (congrArg some (by kernel_rfl))⟩
 f14 := ⟨Try.f105.name, by decide, Try.func105.trans (congrArg some (by kernel_rfl))⟩
 f15 := Try.func106.trans (congrArg some (by kernel_rfl))
 f20 := ⟨Try.f110.name, by decide, Try.func110.trans (congrArg some (by kernel_rfl))⟩
 f21 := ⟨Try.f111.name, by decide, Try.func111.trans (congrArg some (by kernel_rfl))⟩
 f22 := ⟨Try.f112.name, by decide, Try.func112.trans (congrArg some (by kernel_rfl))⟩
 f23 := ⟨Try.f113.name, by decide, Try.func113.trans (congrArg some (by kernel_rfl))⟩
 f24 := ⟨Try.f114.name, by decide, Try.func114.trans (congrArg some (by kernel_rfl))⟩
 f25 := ⟨Try.f115.name, by decide, Try.func115.trans (congrArg some (by kernel_rfl))⟩
 f26 := ⟨Try.f116.name, by decide, Try.func116.trans (congrArg some (by kernel_rfl))⟩
 f27 := ⟨Try.f117.name, by decide, Try.func117.trans (congrArg some (by kernel_rfl))⟩
 f28 := Try.func118.trans (congrArg some (by kernel_rfl))
 f29 := Try.func95.trans (congrArg some (by kernel_rfl))
 f46 := ⟨Try.f119.name, by decide, Try.func119.trans (congrArg some (by kernel_rfl))⟩
 f47 := Try.func120.trans (congrArg some (by kernel_rfl))
 f48 := Try.func121.trans (congrArg some (by kernel_rfl))
 f49 := ⟨Try.f122.name, by decide, Try.func122.trans (congrArg some (by kernel_rfl))⟩
 f50 := ⟨Try.f123.name, by decide, Try.func123.trans (congrArg some (by kernel_rfl))⟩
 f57 := ⟨Try.f124.name, by decide, Try.func124.trans (congrArg some (by kernel_rfl))⟩
 t0 := Try.underlying0
 a0 := Try.isAgg0
 z0 := Try.sizeOf0
 v0 := Try.zeroValue0
 t3 := Try.underlying3
 a3 := Try.isAgg3
 z3 := Try.sizeOf3
 v3 := Try.zeroValue3
 t4 := Try.underlying4
 a4 := Try.isAgg4
 z4 := Try.sizeOf4
 v4 := Try.zeroValue4
 t5 := Try.underlying5
 a5 := Try.isAgg5
 z5 := Try.sizeOf5
 v5 := Try.zeroValue5
 t9 := Try.underlying9
 a9 := Try.isAgg9
 z9 := Try.sizeOf9
 v9 := Try.zeroValue9
 t22 := Try.underlying127
 a22 := Try.isAgg127
 z22 := Try.sizeOf127
 v22 := Try.zeroValue127
 t25 := Try.underlying134
 a25 := Try.isAgg134
 z25 := Try.sizeOf134
 v25 := Try.zeroValue134
 t39 := Try.underlying136
 a39 := Try.isAgg136
 z39 := Try.sizeOf136
 v39 := Try.zeroValue136
 t45 := Try.underlying151
 a45 := Try.isAgg151
 z45 := Try.sizeOf151
 v45 := Try.zeroValue151
 t46 := Try.underlying152
 a46 := Try.isAgg152
 z46 := Try.sizeOf152
 v46 := Try.zeroValue152
 t50 := Try.underlying96
 a50 := Try.isAgg96
 z50 := Try.sizeOf96
 v50 := Try.zeroValue96
 t53 := Try.underlying158
 a53 := Try.isAgg158
 z53 := Try.sizeOf158
 v53 := Try.zeroValue158
 t55 := Try.underlying103
 a55 := Try.isAgg103
 z55 := Try.sizeOf103
 v55 := Try.zeroValue103
 t66 := Try.underlying159
 a66 := Try.isAgg159
 z66 := Try.sizeOf159
 v66 := Try.zeroValue159
 t70 := Try.underlying163
 a70 := Try.isAgg163
 z70 := Try.sizeOf163
 v70 := Try.zeroValue163
 t76 := Try.underlying165
 a76 := Try.isAgg165
 z76 := Try.sizeOf165
 v76 := Try.zeroValue165
 t77 := Try.underlying166
 a77 := Try.isAgg166
 z77 := Try.sizeOf166
 v77 := Try.zeroValue166 }
end Go.Proofs
end
section
namespace Go.Proofs.Ytjejhgjdmbodiaa.PO
open Go.RowKit Go.Sort Go.Proofs.YtjejhgjdmbodiaaW.PrintWords Go.Proofs.YtjejhgjdmbodiaaW.PrintLast Go.Proofs.YtjejhgjdmbodiaaW.PrintMore Go.Proofs.Ytjejhgjdmbodiaa.XW
open Go.Proofs.Ytjejhgjdmbodiaa.XRange Go.Proofs.Ytjejhgjdmbodiaa.XMap Go.Proofs.Ytjejhgjdmbodiaa.XRangeW Go.Proofs.Ytjejhgjdmbodiaa.XColl
set_option linter.unusedVariables false
set_option linter.unusedSimpArgs false
theorem whoseKeys_calls (mb : Option Nat) (w : World) : Calls Try.prog 84 #[.map mb] w fun e w' => e = .returned (.func (.func 98) #[] #[.pointer (some ⟨w.heap.size, 0, none⟩)]) ∧ w' = w.alloc (.cells #[.map mb] 86) := by
 go_enter Try.func84, Try.ntmps84
 go_wp2
 go_ret
 exact ⟨rfl, rfl⟩
theorem whoseCollect_calls (n g : Nat) (lb : Array Value) (E : Whose → Prop) (K : Nat → Prop) (S Sp : List Whose → Prop) (N : Nat) (w : World) (hK : ∀ k, K k → k < w.heap.size) (eg : ∀ args w, (callFunc g args).run Try.prog w = .ok (.enter g args) w)
 (hseq : SeqW w.heap.size (n - 1) Try.prog g lb (fun x : Whose => #[wV x]) E K (fun _ => False) [] S Sp N w) (hN : N * 32 ≤ 140737488355328) :
 Calls Try.prog 96 #[.func (.func g) #[] lb] w fun e w' => ∃ A c xs, e = .returned (.slice A xs.length c) ∧ S xs ∧ Kd.R whoseK 93 w' w.heap.size (fun k => w.heap.size ≤ k) (.slice A xs.length c) xs ∧ Below w.heap.size w w' := by
 have h := (callsIn_wide (n := n)).1 (whoseApp_calls n g lb E K S Sp N w hK eg hseq hN)
 have HC := Aside0.mk h
 clear hK eg hseq hN h
 go_enter Try.func96, Try.ntmps96
 go_wp2_with fail
 refine HC.out.mono ?_
 rintro e w1 ⟨A, c, xs, rfl, hS, hR, hb⟩
 have H1 := Aside0.mk hS
 have H2 := Aside0.mk hR
 have H3 := Aside0.mk hb
 clear hS hR hb HC
 go_wp2
 go_ret
 exact ⟨A, c, xs, rfl, H1.out, H2.out, H3.out⟩
set_option maxHeartbeats 8000000 in
set_option maxRecDepth 100000 in
theorem whoseSorted_calls (gc n g : Nat) (lb : Array Value) (E : Whose → Prop) (K : Nat → Prop) (S Sp : List Whose → Prop) (N : Nat) (w : World) (hK : ∀ k, K k → k < w.heap.size) (eg : ∀ args w, (callFunc g args).run Try.prog w = .ok (.enter g args) w)
 (hseq : SeqW w.heap.size (n - 1) Try.prog g lb (fun x : Whose => #[wV x]) E K (fun _ => False) [] S Sp N w) (hN : N * 32 ≤ 140737488355328) (hSN : ∀ xs, S xs → xs.length ≤ N) (cf : Whose → Whose → Int) (hO : SWO (ltOf cf)) (hT : ∀ x y, (ltOf cf) x y = false → (ltOf cf) y x = false → x = y)
 (egc : ∀ args w, (callFunc gc args).run Try.prog w = .ok (.enter gc args) w) (hcmp : ∀ (x y : Whose) (W : World), Calls Try.prog gc #[.agg ((fun p : Whose => [.string p.1, .string p.2]) x).toArray, .agg ((fun p : Whose => [.string p.1, .string p.2]) y).toArray] W fun e w' => e = .returned (.int .i64 (cf x y)) ∧ ∃ q os, w' = Sort.grow (W.drewN q) os) :
 Calls Try.prog 83 #[.func (.func g) #[] lb, .func (.func gc) #[] #[]] w fun e w' => ∃ A c xs, S xs ∧ e = .returned (.slice A (xs.mergeSort fun x y => !(ltOf cf) y x).length c) ∧ Kd.F whoseK w' (fun k => A = some ⟨k, 0, none⟩) A (xs.mergeSort fun x y => !(ltOf cf) y x).length (xs.mergeSort fun x y => !(ltOf cf) y x) ∧ (A = none ∨ ∃ b cells, A = some ⟨b, 0, none⟩ ∧ w.heap.size ≤ b ∧ w'.heap[b]? = some (.cells cells 93 (0, 0))) ∧ (xs.mergeSort fun x y => !(ltOf cf) y x).length ≤ c ∧ Below w.heap.size w w' := by
 have HC := Aside0.mk (whoseCollect_calls n g lb E K S Sp N w hK eg hseq hN)
 have HCM := Aside0.mk hcmp
 have HN := Aside0.mk hN
 have HSN := Aside0.mk hSN
 have EGC := Aside0.mk egc
 have HO := Aside0.mk hO
 have HT := Aside0.mk hT
 clear hK eg hseq hN hcmp hSN egc hO hT
 go_enter Try.func83, Try.ntmps83
 go_wp2_with fail
 refine HC.out.mono ?_
 rintro e w1 ⟨A, c, xs, rfl, hS, hR, hb⟩
 have H1 := Aside0.mk hS
 have H2 := Aside0.mk hR
 have H3 := Aside0.mk hb
 clear hS hR hb HC
 by_cases hp : 0 < xs.length
 · obtain ⟨b, cap, hv, hbb, hbl, cells, hcl⟩ := Kd.R_form H2.out hp
   simp only [Value.slice.injEq] at hv
   obtain ⟨rfl, _, rfl⟩ := hv
   have HL := Aside0.mk (show xs.length * 32 ≤ 140737488355328 from by have := HSN.out xs H1.out; have := HN.out; omega)
   have HHK := Aside0.mk (holds_of H2.out)
   have HBB := Aside0.mk hbb
   have HBL := Aside0.mk hbl
   have HCL := Aside0.mk hcl
   have HCC := Aside0.mk (Kd.R_reads' H2.out).2.1
   clear hp hbb hbl hcl
   go_wp2_with fail
   refine (show Calls Try.prog 97 #[.slice (some ⟨b, 0, none⟩) xs.length c, .func (.func gc) #[] #[]] w1 _ from ?_)
   have hsz : xs.toArray.size = xs.length := List.size_toArray
   have hsort := AnyQ.slices_SortFunc_total Try.sort97 2 Try.isAgg93 Try.sizeOf93 (fun p : Whose => [.string p.1, .string p.2]) (fun _ => rfl) (fun x u hu => by simp only [List.mem_cons, List.not_mem_nil, or_false] at hu; rcases hu with rfl | rfl <;> rfl) cf HO.out gc #[] b 0 c xs.toArray w1 EGC.out (fun m os dk hdk x y => HCM.out x y _) HHK.out HBL.out (by rw [hsz]; have := HL.out; omega) HT.out
   rw [hsz] at hsort
   refine Calls.mono hsort ?_
   rintro e w2 ⟨rfl, n2, os, rfl⟩
   obtain ⟨w2, hw2⟩ : ∃ w2, sortWorldK (fun p : Whose => [.string p.1, .string p.2]) 2 w1 b 0 n2 (xs.toArray.toList.mergeSort fun x y => !(ltOf cf) y x).toArray os = w2 := ⟨_, rfl⟩
   have hk := keeps_sort (enc := (fun p : Whose => [.string p.1, .string p.2])) (k := 2) (n := n2) (d := (xs.toArray.toList.mergeSort fun x y => !(ltOf cf) y x).toArray) (os := os) HBL.out
   have hh := holdsK_sortWorldK_c (fun p : Whose => [.string p.1, .string p.2]) 2 w1 b 0 xs.toArray (xs.toArray.toList.mergeSort fun x y => !(ltOf cf) y x).toArray n2 os HHK.out HBL.out (by simp)
   rw [hw2] at hk hh ⊢
   have HK2 := Aside0.mk hk
   have HH2 := Aside0.mk hh
   have HCL2 := Aside0.mk (show ∃ cells, w2.heap[b]? = some (.cells cells 93 (0, 0)) from by rw [← hw2]; exact cells_sort HCL.out)
   clear hw2 hk hh hsort hsz
   go_wp2
   go_ret
   have hlen : (xs.mergeSort fun x y => !(ltOf cf) y x).length = xs.length := List.length_mergeSort _
   refine ⟨some ⟨b, 0, none⟩, c, xs, H1.out, by rw [hlen]; rfl, fun W' hW => ?_, .inr ⟨b, HCL2.out.choose, rfl, HBB.out, HCL2.out.choose_spec⟩, by rw [hlen]; exact HCC.out, ?_⟩
   · have hb2 : W'.heap[b]? = w2.heap[b]? := hW b rfl (blk_lt HCL2.out.choose_spec)
     exact read_of (holds_eq HH2.out hb2) (by rw [List.size_toArray, List.length_mergeSort]; have := HL.out; show xs.length ≤ _; omega)
   · exact below_keeps H3.out (M := fun k => k = b) (fun k hk => by rw [hk]; exact HBB.out) H3.out.size HK2.out
 · have hx : xs = [] := List.eq_nil_of_length_eq_zero (by omega)
   subst hx
   go_wp2_with fail
   have hn := AnyF.slices_SortFunc_none Try.sort97 A c (.func (.func gc) #[] #[]) w1
   refine Calls.mono (show Calls Try.prog 97 #[.slice A 0 c, .func (.func gc) #[] #[]] w1 _ from hn) ?_
   rintro e w2 ⟨rfl, rfl⟩
   go_wp2
   go_ret
   refine ⟨A, c, [], H1.out, by rw [List.mergeSort_nil]; rfl, fun W' hW => by rw [List.mergeSort_nil]; exact ⟨rfl, by simp, fun h => by simp at h⟩, ?_, by simp, H3.out⟩
   obtain ⟨inner, hown⟩ := Kd.R_own H2.out
   rcases hown.2 with ⟨hv, _⟩ | ⟨g', cap, cur, hv, hg, hh, _⟩
   · cases hv
     exact .inl rfl
   · cases hv
     exact .inr ⟨g', cur, rfl, hg, hh⟩
theorem ltOf_cmpK (x y : Whose) : ltOf cmpK x y = kLt x y := by
 have neg : ∀ a b : ByteArray, (strC a b < 0 ↔ Op.bytesLess a.toList b.toList = true) ∧ (strC a b = 0 ↔ a = b) := fun a b => by
  unfold strC
  by_cases h1 : Op.bytesLess a.toList b.toList = true
  · rw [if_pos h1]
    refine ⟨⟨fun _ => h1, fun _ => by decide⟩, ⟨fun h => (by cases h), fun h => ?_⟩⟩
    rw [h, bl_irr] at h1
    cases h1
  · rw [if_neg h1]
    by_cases h2 : Op.bytesLess b.toList a.toList = true
    · rw [if_pos h2]
      refine ⟨⟨fun h => (by cases h), fun h => absurd h h1⟩, ⟨fun h => (by cases h), fun h => ?_⟩⟩
      rw [h, bl_irr] at h2
      cases h2
    · rw [if_neg h2]
      exact ⟨⟨fun h => (by cases h), fun h => absurd h h1⟩, ⟨fun _ => bl_tri (by simpa using h1) (by simpa using h2), fun _ => rfl⟩⟩
 have e : (cmpK x y < 0) ↔ (kLt x y = true) := by
  rw [kLt_iff]
  unfold cmpK
  by_cases h : strC x.1 y.1 = 0
  · rw [if_pos h, (neg _ _).1]
    have hx := (neg _ _).2.1 h
    constructor
    · exact fun h2 => .inr ⟨hx, h2⟩
    · rintro (h2 | ⟨_, h2⟩)
      · rw [hx, bl_irr] at h2; cases h2
      · exact h2
  · rw [if_neg h, (neg _ _).1]
    constructor
    · exact fun h2 => .inl h2
    · rintro (h2 | ⟨h2, _⟩)
      · exact h2
      · exact absurd ((neg _ _).2.2 h2) h
 unfold ltOf
 rw [Bool.eq_iff_iff, decide_eq_true_iff]
 exact e
theorem kLt_swo : SWO (ltOf cmpK) := by
 refine ⟨fun x => by rw [ltOf_cmpK, kLt_irr], fun x y z h1 h2 => ?_, fun x y z h1 h2 => ?_⟩
 · rw [ltOf_cmpK] at h1 h2 ⊢
   exact kLt_trans h1 h2
 · rw [ltOf_cmpK] at h1 h2 ⊢
   cases h : kLt x z with
   | false => rfl
   | true =>
     cases hyx : kLt y x with
     | true => rw [kLt_trans hyx h] at h2; cases h2
     | false => rw [kLt_tri h1 hyx, h2] at h; cases h
theorem kLt_total (x y : Whose) (h1 : ltOf cmpK x y = false) (h2 : ltOf cmpK y x = false) : x = y := by
 rw [ltOf_cmpK] at h1 h2
 exact kLt_tri h1 h2
def RisesTo (D xs : List (Whose × Curs)) : Prop := ∃ ks : List Whose, ks.Perm (D.map (·.1)) ∧ ks.Pairwise (fun x y => kLt y x = false) ∧ xs = ks.map (fun k => (k, curOf D k))
theorem whose_read {w : World} {A : Option Addr} {ks : List Whose} (h : Kd.C whoseK w A ks.length ks) (hA : ∀ a, A = some a → ∃ b, a = ⟨b, 0, none⟩) {j : Nat} (hj : j < ks.length) : ∃ b, A = some ⟨b, 0, none⟩ ∧ w.cell? ⟨b, j * 2, none⟩ = some (.string ks[j].1) ∧ w.cell? ⟨b, j * 2 + 1, none⟩ = some (.string ks[j].2) := by
 obtain ⟨ad, e, hr⟩ := h.2.2 (by omega)
 obtain ⟨b, rfl⟩ := hA ad e
 obtain ⟨cs, _, hcs, hcell⟩ := hr j ks[j] (List.getElem?_eq_getElem hj)
 have hcs : cs = [.string ks[j].1, .string ks[j].2] := hcs
 subst hcs
 have h0 := hcell 0 _ rfl
 have h1 := hcell 1 _ rfl
 have hz : whoseK.sz = 2 := rfl
 have ad0 : ∀ n, Addr.add ⟨b, 0, none⟩ n = ⟨b, n, none⟩ := fun n => by
  by_cases h : n = 0
  · subst h; rfl
  · simp [Addr.add, h]
 rw [hz, ad0] at h0 h1
 exact ⟨b, e, h0, h1⟩
set_option maxHeartbeats 8000000 in
set_option maxRecDepth 100000 in
theorem rising1_seq (n0 n i m Bi : Nat) (who : ByteArray) (D : List (Whose × Curs)) (w : World) (hB : w.heap[Bi]? = some (.cells #[.pointer (some ⟨i, 0, none⟩)] 46 (0, 0))) (hI : InAt w i m who D) (hL : D.length ≤ 1000000) :
 SeqW n0 n Try.prog 82 #[.pointer (some ⟨Bi, 0, none⟩)] (fun p : Whose × Curs => #[wV p.1, cV p.2]) (fun p => p.1 ∈ D.map (·.1) ∧ p.2 = curOf D p.1) (fun k => k = i ∨ k = m ∨ k = Bi) (fun _ => False) [93] (RisesTo D) (fun _ => True) D.length w := by
 intro q J Jx W hW hJ hJx hY h0
 have HJ := Aside0.mk hJ
 have HJx := Aside0.mk hJx
 have HY := Aside0.mk hY
 have H0 := Aside0.mk h0
 have HB := Aside0.mk ((hW.block Bi (blk_lt hB) (fun f => f)).trans hB)
 have HI := Aside0.mk (hI.step (hW.block i (blk_lt hI.blk) (fun f => f)) (hW.block m hI.mp.lt (fun f => f)))
 have HL := Aside0.mk hL
 clear hJ hJx hY h0 hB hW hI hL
 have b0 : W.cell? ⟨Bi, 0, none⟩ = some (.pointer (some ⟨i, 0, none⟩)) := (blk_cell HB.out 0).trans rfl
 have b1 : W.cell? ⟨i, 1, none⟩ = some (.map (some m)) := (blk_cell HI.out.blk 1).trans rfl
 refine callsIn_of_wp Try.func82 rfl trivial ?_ rfl
 simp only [Try.ntmps82, List.size_toArray, List.length_cons, List.length_nil, Nat.reduceAdd, Nat.reduceSub, Array.replicate_succ, Array.replicate_zero, List.push_toArray, List.append_toArray, List.nil_append, List.cons_append, Array.size_append]
 gi_wp2_with fail
 refine ⟨trivial, (fun h => by cases h), (callsIn_wide.2 (whoseKeys_calls (some m) W)).mono ?_⟩
 rintro e w1 ⟨rfl, hw1⟩
 have hb1 : Below W.heap.size W w1 := by rw [hw1]; exact (Below.refl _ W).alloc (Nat.le_refl _) _
 obtain ⟨Bm, hBm⟩ : ∃ Bm, W.heap.size = Bm := ⟨_, rfl⟩
 have HBm := Aside0.mk (show w1.heap[Bm]? = some (.cells #[.map (some m)] 86 (0, 0)) ∧ w1.heap.size = Bm + 1 from by rw [hw1, ← hBm]; exact ⟨World.alloc_heap_new W _, by simp⟩)
 have HB1 := Aside0.mk hb1
 have HI1 := Aside0.mk (HI.out.below hb1)
 try rw [hBm]
 clear hw1 hb1 b0 b1
 gi_wp2_with fail
 refine ⟨trivial, (fun h => by cases h), (callsIn_wide.2 (whoseSorted_calls 85 5 98 #[.pointer (some ⟨Bm, 0, none⟩)] (fun k => k ∈ D.map (·.1)) (fun k => k = m) (fun xs => xs.Perm (D.map (·.1))) (fun _ => True) D.length w1 (fun k hk => by rw [hk]; exact HI1.out.mp.lt) (enters_of Try.func98 (by kernel_rfl) rfl)
  (whoseIt_seq w1.heap.size 4 m Bm D w1 HBm.out.1 HI1.out.mp (Nat.le_refl _)) (by have := HL.out; omega) (fun xs hx => by rw [hx.length_eq, List.length_map]; exact Nat.le_refl _) cmpK kLt_swo kLt_total (enters_of Try.func85 (by kernel_rfl) rfl) (fun x y W' => cmp85_calls x y W'))).mono ?_⟩
 rintro e w2 ⟨A, c, xs, hperm, rfl, hF, hA, hlc, hb2⟩
 obtain ⟨ks, hks⟩ : ∃ ks, (xs.mergeSort fun x y => !(ltOf cmpK) y x) = ks := ⟨_, rfl⟩
 have HP := Aside0.mk (show ks.Perm (D.map (·.1)) from by rw [← hks]; exact (List.mergeSort_perm _ _).trans hperm)
 have HS := Aside0.mk (show ks.Pairwise (fun x y => kLt y x = false) from by
  rw [← hks]
  have h := List.pairwise_mergeSort (le := fun x y => !(ltOf cmpK) y x) (fun a b c h1 h2 => by
   have e1 : ltOf cmpK b a = false := by simpa using h1
   have e2 : ltOf cmpK c b = false := by simpa using h2
   have := kLt_swo.ntrans c b a e2 e1
   simpa using this) (fun a b => by
   cases hab : ltOf cmpK b a with
   | false => simp
   | true =>
     cases hba : ltOf cmpK a b with
     | false => simp
     | true => have := kLt_swo.trans a b a hba hab; rw [kLt_swo.irrefl] at this; cases this) xs
  exact h.imp (fun h => by rw [← ltOf_cmpK]; simpa using h))
 rw [hks] at hF hlc ⊢
 have HF := Aside0.mk hF
 have HA := Aside0.mk hA
 have HLC := Aside0.mk hlc
 have HB2 := Aside0.mk ((HB1.out).trans (hb2.mono HB1.out.size))
 have HLN := Aside0.mk (show ks.length = D.length from by rw [HP.out.length_eq, List.length_map])
 have HI2 := Aside0.mk (HI1.out.below hb2)
 have HBi := Aside0.mk (blk_below HB.out HB2.out)
 clear hF hA hlc hb2 hks hperm HBm HI1 HB1 HI HB
 have hlm : ks.length ≤ 9223372036854775807 := by have := HLN.out; have := HL.out; omega
 have HJ2 := Aside0.mk (HJ.out.keeps H0.out (Keeps.of_below HB2.out))
 have HA2 := Aside0.mk (show ∀ k, A = some ⟨k, 0, none⟩ → ∃ cells, w2.heap[k]? = some (.cells cells 93 (0, 0)) from fun k hk => by
  rcases HA.out with h | ⟨b, cells, h, _, h2⟩
  · rw [h] at hk; cases hk
  · rw [h] at hk; cases hk; exact ⟨cells, h2⟩)
 have HAA := Aside0.mk (show ∀ a, A = some a → ∃ b, a = ⟨b, 0, none⟩ from fun a ha => by
  rcases HA.out with h | ⟨b, cells, h, _⟩
  · rw [h] at ha; cases ha
  · rw [h] at ha; cases ha; exact ⟨b, rfl⟩)
 clear HA HB2 H0
 gi_wp2
 gi_loopw [5, 14] (fun _ v14 wr => ∃ j : Nat, j ≤ ks.length ∧ v14 = .int .i64 j ∧ Aside0 (wr.heap[Bi]? = some (.cells #[.pointer (some ⟨i, 0, none⟩)] 46 (0, 0)) ∧ InAt wr i m who D ∧ Kd.F whoseK wr (fun k => A = some ⟨k, 0, none⟩) A ks.length ks ∧ (∀ k, A = some ⟨k, 0, none⟩ → ∃ cells, wr.heap[k]? = some (.cells cells 93 (0, 0))) ∧ J ((ks.take j).map (fun k => (k, curOf D k))) wr)) (fun _ v14 _ => ks.length - (intOf v14).toNat)
 case atStart => exact ⟨0, Nat.zero_le _, rfl, ⟨HBi.out, HI2.out, HF.out, HA2.out, HJ2.out⟩⟩
 case round =>
  obtain ⟨j, hj, rfl, HX⟩ := hrel
  by_cases hlt : j < ks.length
  · obtain ⟨b, hAb, f0, f1⟩ := whose_read (Kd.F_now HX.out.2.2.1) HAA.out hlt
    subst hAb
    obtain ⟨x, hx⟩ : ∃ x, ks[j] = x := ⟨_, rfl⟩
    rw [hx] at f0 f1
    have HTK := Aside0.mk (show (ks.take (j + 1)).map (fun k => (k, curOf D k)) = (ks.take j).map (fun k => (k, curOf D k)) ++ [(x, curOf D x)] from by rw [List.take_succ_eq_append_getElem hlt, List.map_append, hx]; rfl)
    have HTL := Aside0.mk (show ((ks.take j).map (fun k => (k, curOf D k))).length < D.length from by rw [List.length_map, List.length_take, ← HLN.out]; omega)
    obtain ⟨⟨cs, cm⟩, hcu⟩ : ∃ c, curOf D x = c := ⟨_, rfl⟩
    rw [hcu] at HTK
    have HME := Aside0.mk (show x ∈ D.map (·.1) ∧ ((cs, cm) : Curs) = curOf D x from ⟨HP.out.subset (hx ▸ List.getElem_mem hlt), hcu.symm⟩)
    have hb3 : 0 ≤ (j : Int) ∧ (j : Int) < (ks.length : Int) := by omega
    have q1 : decide ((j : Int) < (ks.length : Int)) = true := by simp; omega
    obtain ⟨w3, hw3⟩ : ∃ w3, wr.alloc (.cells #[.string x.1, .string x.2] 93) = w3 := ⟨_, rfl⟩
    obtain ⟨K, hK⟩ : ∃ K, wr.heap.size = K := ⟨_, rfl⟩
    have hbw : Below wr.heap.size wr w3 := by rw [← hw3]; exact (Below.refl _ wr).alloc (Nat.le_refl _) _
    have HK3 := Aside0.mk (show w3.heap[K]? = some (.cells #[.string x.1, .string x.2] 93 (0, 0)) from by rw [← hw3, ← hK]; exact World.alloc_heap_new wr _)
    have HB3 := Aside0.mk (blk_below HX.out.1 hbw)
    have HI3 := Aside0.mk (HX.out.2.1.below hbw)
    have HF3 := Aside0.mk (Kd.F_below HX.out.2.2.1 hbw)
    have HA3 := Aside0.mk (show ∀ k, some (⟨b, 0, none⟩ : Addr) = some ⟨k, 0, none⟩ → ∃ cells, w3.heap[k]? = some (.cells cells 93 (0, 0)) from fun k hk => by
     obtain ⟨cells, hc⟩ := HX.out.2.2.2.1 k hk
     exact ⟨cells, blk_below hc hbw⟩)
    have HJ3 := Aside0.mk (HJ.out.keeps HX.out.2.2.2.2 (Keeps.of_below hbw))
    clear hbw HX hx
    gi_wp2
    try rw [hw3]
    try rw [hK]
    clear hw3 hK f0 f1
    refine XYld.region_yield' 8 2 (fun w' => w'.cell? ⟨K, 0, none⟩ = some (.string x.1) ∧ w'.cell? ⟨K, 1, none⟩ = some (.string x.2) ∧ w'.cell? ⟨Bi, 0, none⟩ = some (.pointer (some ⟨i, 0, none⟩)) ∧ w'.cell? ⟨i, 1, none⟩ = some (.map (some m)) ∧ MapAt w' m wV cV D) (by kernel_rfl) rfl rfl (by kernel_rfl) (by kernel_rfl)
     ⟨(blk_cell (blk_drew HK3.out) 0).trans rfl, (blk_cell (blk_drew HK3.out) 1).trans rfl, (blk_cell (blk_drew HB3.out) 0).trans rfl, (blk_cell (blk_drew HI3.out.blk) 1).trans rfl, HI3.out.mp.step rfl⟩ (fun hH => ?_)
    refine XReg.pu 0 18 (h := ?_)
    refine XReg.tk 1 19 (hy := by (intro w' hS_; obtain ⟨t0, t1, t2, t3, _⟩ := hS_; go_simp; with_reducible rfl)) (h := ?_)
    refine XReg.tk 2 20 (hy := by (intro w' hS_; obtain ⟨t0, t1, t2, t3, _⟩ := hS_; go_simp; with_reducible rfl)) (h := ?_)
    refine XReg.pu 3 21 (h := ?_)
    refine XReg.pu 4 22 (h := ?_)
    refine XReg.tk 5 23 (hy := by (intro w' hS_; obtain ⟨t0, t1, t2, t3, _⟩ := hS_; go_simp; with_reducible rfl)) (h := ?_)
    refine XReg.tk 6 24 (hy := by (intro w' hS_; obtain ⟨t0, t1, t2, t3, _⟩ := hS_; go_simp; with_reducible rfl)) (h := ?_)
    refine XReg.tk 7 25 (v := .agg #[.int .i64 cs, .int .i64 cm]) (hy := ?_) (h := ?_)
    · intro w' hS
      obtain ⟨_, _, _, _, hmp⟩ := hS
      have hl : (Instr.lookup 86 (.map (some m)) (.agg #[.string x.1, .string x.2]) false).run Try.prog w' = .ok (.agg #[.int .i64 cs, .int .i64 cm]) w' := by
       have h1 := lookW hmp x
       rw [hcu] at h1
       exact h1
      go_simp
    refine done_ (by kernel_rfl) ?_
    clear hH
    obtain ⟨wd, hwd⟩ : ∃ wd, w3.drew = wd := ⟨_, rfl⟩
    have hbd : Below w3.heap.size w3 wd := by rw [← hwd]; exact below_drew1 (Below.refl _ _)
    have HBd := Aside0.mk (blk_below HB3.out hbd)
    have HId := Aside0.mk (HI3.out.below hbd)
    have HFd := Aside0.mk (Kd.F_below HF3.out hbd)
    have HAd := Aside0.mk (show ∀ k, some (⟨b, 0, none⟩ : Addr) = some ⟨k, 0, none⟩ → ∃ cells, wd.heap[k]? = some (.cells cells 93 (0, 0)) from fun k hk => by
     obtain ⟨cells, hc⟩ := HA3.out k hk
     exact ⟨cells, blk_below hc hbd⟩)
    have hJd := HJ.out.keeps HJ3.out (Keeps.of_below hbd)
    rw [hwd]
    clear hwd hbd HB3 HI3 HF3 HA3 HJ3 HK3 hcu
    obtain ⟨fn, tmps, asg, bdy, hyy, hR⟩ := HY.out _ (x, ((cs, cm) : Curs)) wd hJd HTL.out HME.out
    try simp only [wV, cV] at hyy
    simp only [XYld.stop, List.drop_succ_cons, List.drop_zero]
    clear hJd
    gi_wp2
    refine ⟨(fun h => by cases h), hR.mono ?_⟩
    rintro e w4 (⟨rfl, hJ4, hk4⟩ | ⟨rfl, hJx4⟩)
    · have HJ4 := Aside0.mk hJ4
      have HB4 := Aside0.mk ((hk4.2 Bi (.inl (.inr (.inr rfl)))).trans HBd.out)
      have HI4 := Aside0.mk (HId.out.step (hk4.2 i (.inl (.inl rfl))) (hk4.2 m (.inl (.inr (.inl rfl)))))
      have heb : ∀ k, some (⟨b, 0, none⟩ : Addr) = some ⟨k, 0, none⟩ → w4.heap[k]? = wd.heap[k]? := fun k hk => by
       obtain ⟨cells, hc⟩ := HAd.out k hk
       exact hk4.2 k (.inr (.inr ⟨_, 93, _, List.mem_singleton.2 rfl, hc⟩))
      have HF4 := Aside0.mk (Kd.F_step HFd.out (fun k hk _ => heb k hk))
      have HA4 := Aside0.mk (show ∀ k, some (⟨b, 0, none⟩ : Addr) = some ⟨k, 0, none⟩ → ∃ cells, w4.heap[k]? = some (.cells cells 93 (0, 0)) from fun k hk => by
       obtain ⟨cells, hc⟩ := HAd.out k hk
       exact ⟨cells, (heb k hk).trans hc⟩)
      clear hJ4 hk4 hyy hR heb
      gi_wp2
      go_round
      case rel => exact ⟨j + 1, by omega, by go_num, ⟨HB4.out, HI4.out, HF4.out, HA4.out, by rw [HTK.out]; exact HJ4.out⟩⟩
      case measure => simp [intOf]; omega
    · have HJX := Aside0.mk hJx4
      clear hJx4
      gi_wp2
      refine bodyPost_ret (results_none rfl _ _ _) rfl ?_
      exact ⟨⟨_, rfl⟩, .inr ⟨_, trivial, HJX.out⟩⟩
  · have q1 : decide ((j : Int) < (ks.length : Int)) = false := by simp; omega
    obtain rfl : j = ks.length := by omega
    gi_wp2
    go_end0
    refine ⟨⟨_, rfl⟩, .inl ⟨_, ⟨ks, HP.out, HS.out, rfl⟩, ?_⟩⟩
    have h := HX.out.2.2.2.2
    rwa [List.take_length] at h
end Go.Proofs.Ytjejhgjdmbodiaa.PO
end
