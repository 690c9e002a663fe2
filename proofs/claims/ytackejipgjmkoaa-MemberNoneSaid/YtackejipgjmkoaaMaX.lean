/- What the rows of this claim use, out of the texts of this work (XW, XRange, XMap, XHeld, XMake). No condition beyond those that each statement names. -/
import Derived.WalkKit
import Derived.WalkMore
import Derived.WalkSpells
import Derived.Lib.SliceRun
import Derived.Laws.RangeAny
import Derived.RangeFuncNested
import Derived.RangeFuncBound
import Derived.RangeFuncCalls
import Derived.RangeFuncLeaves
import Derived.RangeFuncKeeps
import Derived.Shelf.Abstract
import Derived.Shelf.RegionOpen
import Derived.OwnWalkIn
import Derived.TacticsInMore
import Derived.LoopNIn
import Derived.LoopIn
import Derived.Laws.IdiomRangeMap
import Derived.MapKept
import Derived.Deep.RegionHeld
import Derived.Test.YtackejipgjmkoaaMaW
section
namespace Go.Proofs.Ytackejipgjmkoaa.XW
open Go
theorem bytesLess_or_eq : ∀ a b : List UInt8, (Op.bytesLess a b || a == b) = !(Op.bytesLess b a)
 | [], [] => rfl
 | [], y :: b => by simp [Op.bytesLess]
 | x :: a, [] => by simp [Op.bytesLess]
 | x :: a, y :: b => by
   have ih := bytesLess_or_eq a b
   simp only [Op.bytesLess]
   by_cases h1 : x < y
   · have h2 : ¬ y < x := fun h => by have := UInt8.lt_iff_toNat_lt.mp h1; have := UInt8.lt_iff_toNat_lt.mp h; omega
     have h3 : (y == x) = false := by rw [beq_eq_false_iff_ne]; rintro rfl; exact h2 h1
     simp [h1, h2, h3]
   · by_cases h2 : y < x
     · have h3 : (x == y) = false := by rw [beq_eq_false_iff_ne]; rintro rfl; exact h1 h2
       simp [h1, h2, h3]
     · have h3 : x = y := by
        apply UInt8.toNat.inj
        have k1 : ¬ x.toNat < y.toNat := fun h => h1 (UInt8.lt_iff_toNat_lt.mpr h)
        have k2 : ¬ y.toNat < x.toNat := fun h => h2 (UInt8.lt_iff_toNat_lt.mpr h)
        omega
       subst h3
       simp [h1]
       simpa using ih
@[go_sem high] theorem binOp_string_leq' (t : TypeId) (a b : ByteArray) : binOp .leq t (.string a) (.string b) = pure (.bool (!(Op.bytesLess b.toList a.toList))) := by
 rw [← bytesLess_or_eq]; simp [binOp, Op.stringOp]
@[go_sem high] theorem binOp_string_geq' (t : TypeId) (a b : ByteArray) : binOp .geq t (.string a) (.string b) = pure (.bool (!(Op.bytesLess a.toList b.toList))) := by
 simp [binOp, Op.stringOp]
theorem not_bytesLess_or_eq (a b : List UInt8) : (!(Op.bytesLess a b || a == b)) = Op.bytesLess b a := by rw [bytesLess_or_eq]; simp
@[go_sem high] theorem binOp_string_gtr' (t : TypeId) (a b : ByteArray) : binOp .gtr t (.string a) (.string b) = pure (.bool (Op.bytesLess b.toList a.toList)) := by
 rw [← not_bytesLess_or_eq]; simp [binOp, Op.stringOp]
end Go.Proofs.Ytackejipgjmkoaa.XW
end
section
namespace Go.Proofs.Ytackejipgjmkoaa.XRange
open Go Go.RowKit
structure Keeps (M : Nat → Prop) (A A' : World) : Prop where
 os : A'.os = A.os
 tape : A'.tape = A.tape
 output : A'.output = A.output
 size : A.heap.size ≤ A'.heap.size
 block : ∀ k, k < A.heap.size → ¬ M k → A'.heap[k]? = A.heap[k]?
theorem Keeps.refl (M : Nat → Prop) (A : World) : Keeps M A A := ⟨rfl, rfl, rfl, Nat.le_refl _, fun _ _ _ => rfl⟩
theorem Keeps.trans {M : Nat → Prop} {A B C : World} (h : Keeps M A B) (k : Keeps M B C) : Keeps M A C :=
 ⟨k.os.trans h.os, k.tape.trans h.tape, k.output.trans h.output, Nat.le_trans h.size k.size, fun i hi hm => (k.block i (Nat.lt_of_lt_of_le hi h.size) hm).trans (h.block i hi hm)⟩
theorem Keeps.drew {M : Nat → Prop} {A B : World} (h : Keeps M A B) : Keeps M A B.drew := ⟨h.os, h.tape, h.output, h.size, h.block⟩
theorem Keeps.alloc {M : Nat → Prop} {A B : World} (h : Keeps M A B) (o : Obj) : Keeps M A (B.alloc o) :=
 h.trans ⟨rfl, rfl, rfl, by simp, fun k hk _ => Below.heap_alloc _ _ _ hk⟩
theorem Keeps.of_below {M : Nat → Prop} {A B : World} (h : Below A.heap.size A B) : Keeps M A B := ⟨h.os, h.tape, h.output, h.size, fun k hk _ => h.block k hk⟩
def KeepOn (K : Nat → Prop) (W W' : World) : Prop := W.heap.size ≤ W'.heap.size ∧ ∀ k, K k → W'.heap[k]? = W.heap[k]?
theorem KeepOn.refl (K : Nat → Prop) (W : World) : KeepOn K W W := ⟨Nat.le_refl _, fun _ _ => rfl⟩
theorem KeepOn.trans {K : Nat → Prop} {A B C : World} (h : KeepOn K A B) (k : KeepOn K B C) : KeepOn K A C := ⟨Nat.le_trans h.1 k.1, fun i hi => (k.2 i hi).trans (h.2 i hi)⟩
theorem keeps_putObj (M : Nat → Prop) (W : World) (l : Nat) (o : Obj) (h : M l) : Keeps M W (W.putObj l o) := ⟨rfl, rfl, rfl, by simp, fun k _ hk => World.putObj_heap_other (fun e => hk (by rw [e]; exact h))⟩
end Go.Proofs.Ytackejipgjmkoaa.XRange
end
section
namespace Go.Proofs.Ytackejipgjmkoaa.XMap
open Go Go.RowKit Go.Proofs.Ytackejipgjmkoaa.XRange
structure Keys (P : Program) (kt : TypeId) {κ : Type} [DecidableEq κ] (K : κ → Value) : Prop where
 check : ∀ (em : Bool) (x : κ) (w : World), (Instr.checkKey em 10000 kt (K x)).run P w = .ok () w
 find : ∀ (x : κ) (es : List MapEntry) (ks : List κ) (w : World), es.map (·.key) = ks.map K →
  (Instr.findKey kt (K x) es).run P w = .ok ((ks.findIdx? (· = x)).map fun i => (i, (es.getD i default).val)) w
 stays : ∀ (x : κ) (w : World), (Instr.keyThatStays (K x) (K x)).run P w = .ok (K x) w
section
variable {κ ν : Type} [DecidableEq κ]
structure MapAt (w : World) (b : Nat) (K : κ → Value) (V : ν → Value) (D : List (κ × ν)) : Prop where
 at_ : ∃ es clock, w.heap[b]? = some (.map es clock) ∧ es.toList.map (·.key) = D.map (fun p => K p.1) ∧ es.toList.map (·.val) = D.map (fun p => V p.2) ∧ (∀ e ∈ es.toList, e.born < clock) ∧ es.toList.Pairwise (fun a b => a.born ≠ b.born)
 once : (D.map (·.1)).Nodup
def look (D : List (κ × ν)) (x : κ) : Option ν := (D.find? (fun p => p.1 = x)).map (·.2)
def upd : List (κ × ν) → κ → ν → List (κ × ν)
 | [], x, v => [(x, v)]
 | p :: D, x, v => if p.1 = x then (x, v) :: D else p :: upd D x v
theorem look_nil (x : κ) : look ([] : List (κ × ν)) x = none := rfl
theorem look_cons (p : κ × ν) (D : List (κ × ν)) (x : κ) : look (p :: D) x = if p.1 = x then some p.2 else look D x := by
 unfold look
 rw [List.find?_cons]
 by_cases h : p.1 = x <;> simp [h]
theorem find_some {D : List (κ × ν)} {x : κ} {v : ν} (h : look D x = some v) : ∃ i, (D.map (·.1)).findIdx? (· = x) = some i ∧ ∃ hi : i < D.length, D[i] = (x, v) := by
 induction D with
 | nil => simp [look_nil] at h
 | cons p D ih =>
   rw [look_cons] at h
   by_cases hp : p.1 = x
   · rw [if_pos hp] at h
     refine ⟨0, by simp [List.findIdx?_cons, hp], by simp, ?_⟩
     cases h
     rw [← hp]
     rfl
   · rw [if_neg hp] at h
     obtain ⟨i, h1, h2, h3⟩ := ih h
     exact ⟨i + 1, by simp [List.findIdx?_cons, hp, h1], by simpa using h2, by simpa using h3⟩
theorem find_none {D : List (κ × ν)} {x : κ} (h : look D x = none) : (D.map (·.1)).findIdx? (· = x) = none := by
 induction D with
 | nil => rfl
 | cons p D ih =>
   rw [look_cons] at h
   by_cases hp : p.1 = x
   · rw [if_pos hp] at h; cases h
   · rw [if_neg hp] at h
     simp [List.findIdx?_cons, hp, ih h]
variable {P : Program} {w : World} {b : Nat} {K : κ → Value} {V : ν → Value} {D : List (κ × ν)} {kt mt et : TypeId}
theorem find_at (hk : Keys P kt K) {es : Array MapEntry} (h1 : es.toList.map (·.key) = D.map (fun p => K p.1)) (x : κ) (w : World) :
 (Instr.findKey kt (K x) es.toList).run P w = .ok (((D.map (·.1)).findIdx? (· = x)).map fun i => (i, (es.toList.getD i default).val)) w :=
 hk.find x es.toList (D.map (·.1)) w (by rw [h1, List.map_map]; rfl)
omit [DecidableEq κ] in
theorem val_at {es : Array MapEntry} (h2 : es.toList.map (·.val) = D.map (fun p => V p.2)) {i : Nat} (hi : i < D.length) : (es.toList.getD i default).val = V D[i].2 := by
 have hl : es.toList.length = D.length := by have := congrArg List.length h2; simpa using this
 have := congrArg (fun l => l[i]?) h2
 simp only [List.getElem?_map] at this
 rw [List.getElem?_eq_getElem hi, List.getElem?_eq_getElem (by omega)] at this
 simp at this
 rw [List.getD_eq_getElem?_getD, List.getElem?_eq_getElem (by omega)]
 simpa using this
theorem run_lookup_hit (ht : P.underlying mt = some (.map kt et)) (hk : Keys P kt K) (h : MapAt w b K V D) (x : κ) (v : ν) (hv : look D x = some v) (ok : Bool) :
 (Instr.lookup mt (.map (some b)) (K x) ok).run P w = .ok (if ok then .tuple #[V v, .bool true] else V v) w := by
 obtain ⟨es, clock, hb, h1, h2, _, _⟩ := h.at_
 obtain ⟨i, hi, hlt, hD⟩ := find_some hv
 have hf := find_at hk h1 x w
 rw [hi] at hf
 have hq := val_at h2 hlt
 rw [hD] at hq
 simp [Instr.lookup, run_underlying ht, MapKept.run_getObj_map hb, hk.check, hf]
 rw [List.getD_eq_getElem?_getD] at hq
 simp at hq
 rw [hq]
theorem run_lookup_miss (ht : P.underlying mt = some (.map kt et)) (hk : Keys P kt K) (h : MapAt w b K V D) (x : κ) (hv : look D x = none) (z : Value) (hz : (zeroValue et).run P w = .ok z w) (ok : Bool) :
 (Instr.lookup mt (.map (some b)) (K x) ok).run P w = .ok (if ok then .tuple #[z, .bool false] else z) w := by
 obtain ⟨es, clock, hb, h1, h2, _, _⟩ := h.at_
 have hf := find_at hk h1 x w
 rw [find_none hv] at hf
 simp [Instr.lookup, run_underlying ht, MapKept.run_getObj_map hb, hk.check, hf, hz]
theorem upd_some {D : List (κ × ν)} {x : κ} (v' : ν) : ∀ {i : Nat}, (D.map (·.1)).findIdx? (· = x) = some i → upd D x v' = D.set i (x, v') := by
 induction D with
 | nil => intro i h; simp at h
 | cons p D ih =>
   intro i h
   rw [upd]
   rw [List.map_cons, List.findIdx?_cons] at h
   by_cases hp : p.1 = x
   · simp [hp] at h
     subst h
     rw [if_pos hp]; rfl
   · simp [hp] at h
     obtain ⟨j, hj, rfl⟩ := h
     rw [if_neg hp, ih (i := j) (by simpa using hj)]
     rfl
theorem upd_none {D : List (κ × ν)} {x : κ} (v' : ν) (h : look D x = none) : upd D x v' = D ++ [(x, v')] := by
 induction D with
 | nil => rfl
 | cons p D ih =>
   rw [look_cons] at h
   by_cases hp : p.1 = x
   · rw [if_pos hp] at h; cases h
   · rw [if_neg hp] at h
     rw [upd, if_neg hp, ih h]; rfl
theorem upd_keys {D : List (κ × ν)} {x : κ} (v' : ν) : (upd D x v').map (·.1) = if look D x = none then D.map (·.1) ++ [x] else D.map (·.1) := by
 cases h : look D x with
 | none => rw [upd_none v' h]; simp
 | some v =>
   obtain ⟨i, h1, h2, h3⟩ := find_some h
   rw [upd_some v' h1, List.map_set]
   simp only [reduceCtorEq, if_false]
   refine List.ext_getElem (by simp) fun j hj1 hj2 => ?_
   rw [List.getElem_set]
   split
   · rename_i e; subst e; simp [h3]
   · rfl
theorem look_none {D : List (κ × ν)} {x : κ} : look D x = none ↔ x ∉ D.map (·.1) := by
 induction D with
 | nil => simp [look_nil]
 | cons p D ih =>
   rw [look_cons]
   by_cases hp : p.1 = x
   · simp [hp]
   · rw [if_neg hp, ih]; simp [Ne.symm hp]
theorem upd_once {D : List (κ × ν)} (h : (D.map (·.1)).Nodup) (x : κ) (v' : ν) : ((upd D x v').map (·.1)).Nodup := by
 rw [upd_keys]
 split
 · rename_i hn
   rw [List.nodup_append]
   exact ⟨h, by simp, fun a ha b hb => by rw [List.mem_singleton] at hb; subst hb; exact fun e => look_none.1 hn (e ▸ ha)⟩
 · exact h
theorem set_obj {es : Array MapEntry} {clock : Nat} (hb : w.heap[b]? = some (.map es clock)) (o : Obj) : (setObj b o).run P w = .ok () (w.putObj b o) := by
 rw [MapKept.run_setObj_map o hb]; rfl
omit [DecidableEq κ] in
theorem keys_len {es : Array MapEntry} (h1 : es.toList.map (·.key) = D.map (fun p => K p.1)) : es.size = D.length := by have := congrArg List.length h1; simpa using this
theorem mod_map {α β : Type} (g : α → β) (f : α → α) (c : β) (hc : ∀ e, g (f e) = c) : ∀ (l : List α) (i : Nat), (l.modify i f).map g = (l.map g).set i c
 | [], i => by simp
 | e :: l, 0 => by simp [hc]
 | e :: l, i + 1 => by simp [mod_map g f c hc l i]
theorem mod_same {α β : Type} (g : α → β) (f : α → α) (hc : ∀ e, g (f e) = g e) : ∀ (l : List α) (i : Nat), (l.modify i f).map g = l.map g
 | [], i => by simp
 | e :: l, 0 => by simp [hc]
 | e :: l, i + 1 => by simp [mod_same g f hc l i]
theorem run_update (ht : P.underlying mt = some (.map kt et)) (hk : Keys P kt K) (h : MapAt w b K V D) (x : κ) (v : ν) :
 ∃ w', (Instr.mapUpdate mt (.map (some b)) (K x) (V v)).run P w = .ok () w' ∧ MapAt w' b K V (upd D x v) ∧ Keeps (fun k => k = b) w w' := by
 obtain ⟨es, clock, hb, h1, h2, h3, h4⟩ := h.at_
 have hbl : b < w.heap.size := (Array.getElem?_eq_some_iff.1 hb).1
 have hl := keys_len h1
 cases hv : look D x with
 | some v0 =>
   obtain ⟨i, hi, hlt, hD⟩ := find_some hv
   have hf := find_at hk h1 x w
   rw [hi] at hf
   have hkey : (es.toList.getD i default).key = K x := by
    have := congrArg (fun l => l[i]?) h1
    simp only [List.getElem?_map] at this
    rw [List.getElem?_eq_getElem hlt, List.getElem?_eq_getElem (by simp; omega)] at this
    simp [hD] at this
    rw [List.getD_eq_getElem?_getD, List.getElem?_eq_getElem (by simp; omega)]
    simpa using this
   have hget : ((es[i]?).map (·.key)).getD (K x) = K x := by
    rw [Array.getElem?_eq_getElem (by omega)]
    rw [List.getD_eq_getElem?_getD, List.getElem?_eq_getElem (by simp; omega)] at hkey
    simpa using hkey
   refine ⟨w.putObj b (.map (es.modify i fun e => { e with key := K x, val := V v }) clock), ?_, ⟨⟨_, _, World.putObj_heap_same hbl, ?_, ?_, ?_, ?_⟩, upd_once h.once x v⟩, keeps_putObj _ w b _ rfl⟩
   · simp [Instr.mapUpdate, run_underlying ht, MapKept.run_getObj_map hb, hk.check, hf, hget, hk.stays, set_obj hb]
   · rw [upd_some v hi, List.map_set, ← h1, Array.toList_modify]
     exact mod_map MapEntry.key _ (K x) (fun _ => rfl) _ _
   · rw [upd_some v hi, List.map_set, ← h2, Array.toList_modify]
     exact mod_map MapEntry.val _ (V v) (fun _ => rfl) _ _
   · have hq : (es.modify i fun e => { e with key := K x, val := V v }).toList.map (·.born) = es.toList.map (·.born) := by rw [Array.toList_modify]; exact mod_same MapEntry.born (fun e => { e with key := K x, val := V v }) (fun _ => rfl) _ _
     intro e he
     have hm : e.born ∈ es.toList.map (·.born) := by rw [← hq]; exact List.mem_map_of_mem he
     obtain ⟨e', he', hb'⟩ := List.mem_map.1 hm
     rw [← hb']
     exact h3 e' he'
   · have hq : (es.modify i fun e => { e with key := K x, val := V v }).toList.map (·.born) = es.toList.map (·.born) := by rw [Array.toList_modify]; exact mod_same MapEntry.born (fun e => { e with key := K x, val := V v }) (fun _ => rfl) _ _
     have h5 : (es.toList.map (·.born)).Pairwise (· ≠ ·) := List.pairwise_map.2 h4
     rw [← hq] at h5
     exact List.pairwise_map.1 h5
 | none =>
   have hf := find_at hk h1 x w
   rw [find_none hv] at hf
   refine ⟨w.putObj b (.map (es.push { key := K x, val := V v, born := clock }) (clock + 1)), ?_, ⟨⟨_, _, World.putObj_heap_same hbl, ?_, ?_, ?_, ?_⟩, upd_once h.once x v⟩, keeps_putObj _ w b _ rfl⟩
   · simp [Instr.mapUpdate, run_underlying ht, MapKept.run_getObj_map hb, hk.check, hf, set_obj hb]
   · rw [upd_none v hv]; simp [h1]
   · rw [upd_none v hv]; simp [h2]
   · intro e he
     simp at he
     rcases he with he | rfl
     · exact Nat.lt_succ_of_lt (h3 e (by simpa using he))
     · exact Nat.lt_succ_self _
   · simp only [Array.toList_push, List.pairwise_append]
     exact ⟨h4, by simp, fun a ha c hc => by simp at hc; subst hc; exact Nat.ne_of_lt (h3 a ha)⟩
omit [DecidableEq κ] in
theorem made (w : World) (K : κ → Value) (V : ν → Value) : MapAt (w.alloc (.map #[] 0)) w.heap.size K V ([] : List (κ × ν)) :=
 ⟨⟨#[], 0, heap_alloc_new w _, rfl, rfl, fun e he => by simp at he, by simp⟩, by simp⟩
omit [DecidableEq κ] in
theorem MapAt.step {w' : World} (h : MapAt w b K V D) (hh : w'.heap[b]? = w.heap[b]?) : MapAt w' b K V D := by
 obtain ⟨es, clock, hb, h1⟩ := h.at_
 exact ⟨⟨es, clock, hh.trans hb, h1⟩, h.once⟩
omit [DecidableEq κ] in
theorem MapAt.lt (h : MapAt w b K V D) : b < w.heap.size := by
 obtain ⟨es, clock, hb, _⟩ := h.at_
 exact (Array.getElem?_eq_some_iff.1 hb).1
theorem ba_beq (a b : ByteArray) : (a == b) = decide (a = b) := by
 cases a; cases b
 rename_i x y
 show (x == y) = _
 rw [Bool.eq_iff_iff]; simp
theorem now_string (x : ByteArray) : ∀ (es : List MapEntry) (ks : List ByteArray) (i : Nat), es.map (·.key) = ks.map Value.string →
 Instr.findNow .string (.string x) es i = some ((ks.findIdx? (· = x)).map fun j => (i + j, (es.getD j default).val))
 | [], [], i, _ => by simp [Instr.findNow]
 | e :: es, k :: ks, i, h => by
   simp only [List.map_cons, List.cons.injEq] at h
   have ih := now_string x es ks (i + 1) h.2
   rw [Instr.findNow, h.1]
   simp only [Instr.sameNow, List.findIdx?_cons]
   by_cases hk : k = x
   · subst hk; simp [ba_beq]
   · have : (x == k) = false := by rw [ba_beq]; exact decide_eq_false fun e => hk e.symm
     simp only [this, hk, decide_false, Bool.false_eq_true, if_false]
     rw [ih]
     cases hq : ks.findIdx? (· = x) with
     | none => simp
     | some j => simp [Nat.add_assoc, Nat.add_comm 1 j]
theorem keys_string {kt : TypeId} (hu : P.underlying kt = some .string) : Keys P kt Value.string where
 check := fun em x w => by
  rw [show (10000 : Nat) = 9999 + 1 from rfl, Instr.checkKey]
  simp [run_underlying hu]
 find := fun x es ks w h => by
  have ha := now_string x es ks 0 h
  unfold Instr.findKey
  simp only [Sem.run_bind, run_underlying hu, Result.andThen_ok, ha]
  simp
 stays := fun x w => by
  unfold Instr.keyThatStays
  rw [if_pos (by unfold Instr.sameBits; simp [ba_beq])]
  rfl
end
end Go.Proofs.Ytackejipgjmkoaa.XMap
end
section
namespace Go.Proofs.Ytackejipgjmkoaa.XHeld
open Go
section
variable {P : Program} {ops : Array Oper} {Q : Exit → Act → World → Prop} {G : Array Bool → World → Prop}
def AnyG (P : Program) (ops : Array Oper) (Q : Exit → Act → World → Prop) (G : Array Bool → World → Prop) : Nat → Array Bool → Act → World → Prop
 | 0, L, a, w => Region.ready .any ops L = [] ∧ Q .normal a w
 | n + 1, L, a, w =>
   (Region.ready .any ops L = [] → Q .normal a w) ∧
   ∀ i ∈ Region.ready .any ops L, wpOp P ops Q i (fun a' w' => G (L.setIfInBounds i true) w' ∧ AnyG P ops Q G n (L.setIfInBounds i true) a' w') a w
theorem AnyG.any : ∀ (n : Nat) (L : Array Bool) (a : Act) (w : World), AnyG P ops Q G n L a w → wpAny P .any ops Q n L a w
 | 0, _, _, _, h => h
 | n + 1, _, _, _, h => ⟨h.1, fun i hi => wpOp_mono (fun _ _ h' => AnyG.any n _ _ _ h'.2) (h.2 i hi)⟩
theorem getD_of_set {L : Array Bool} {j k : Nat} (h : j ≠ k) : (L.setIfInBounds j true).getD k true = L.getD k true := getD_set_ne true h
theorem AnyG.first {i k : Nat} {oi ok : Oper} {v : Value} {Gi : World → Prop} (hi : ops[i]? = some oi) (hk : ops[k]? = some ok)
 (hki : ∃ e ∈ ok.after, Region.binds .any e = true ∧ e.on = i)
 (hset : ∀ L w, G (L.setIfInBounds i true) w ↔ G L w) (hG : ∀ L w, L.getD k true = false → G L w → Gi w)
 (hsel : ∀ (j : Nat) (o : Oper) cs b, ops[j]? = some o → o.op ≠ .select cs b)
 (hQ : ∀ c a w, Q (.panic c) (a.put oi.dst v) w → Q (.panic c) a w) :
 ∀ (n : Nat) (L : Array Bool) (a : Act) (w : World),
  (∀ j oj, ops[j]? = some oj → j ≠ i → L.getD j true = false → (∀ e ∈ oj.after, Region.binds .any e = true → e.on ≠ i) → oi.apart ops oj = true) →
  i ∈ Region.ready .any ops L → L.getD k true = false → YieldsIf P ops Gi oi v a → G L w →
  AnyG P ops Q G n (L.setIfInBounds i true) (a.put oi.dst v) w → AnyG P ops Q G (n + 1) L a w := by
 intro n
 induction n with
 | zero =>
   intro L a w _ hr hLk hy hS H
   refine ⟨fun h => (by rw [h] at hr; cases hr), fun j hj => ?_⟩
   by_cases hji : j = i
   · subst hji; exact hy.wpOp hi (hG L w hLk hS) ⟨(hset L w).2 hS, H⟩
   · have := ready_mono hj hji
     rw [H.1] at this
     cases this
 | succ n ih =>
   intro L a w hfree hr hLk hy hS H
   refine ⟨fun h => (by rw [h] at hr; cases hr), fun j hj => ?_⟩
   by_cases hji : j = i
   · subst hji; exact hy.wpOp hi (hG L w hLk hS) ⟨(hset L w).2 hS, H⟩
   obtain ⟨hjun, oj, hoj, hall⟩ := mem_ready.1 hj
   have hnot : ∀ e ∈ oj.after, Region.binds .any e = true → e.on ≠ i := fun e he hb heq => by
    have h1 := hall e he hb
    have h0 := (mem_ready.1 hr).1
    rw [heq] at h1
    rcases Nat.lt_or_ge i L.size with h' | h'
    · simp [h'] at h0 h1; rw [h0] at h1; cases h1
    · simp [Array.getElem?_eq_none h'] at h1
   have hjk : j ≠ k := fun h => by
    subst h
    obtain ⟨e, he, hb, hei⟩ := hki
    rw [hk] at hoj
    cases hoj
    exact hnot e he hb hei
   have h2 := wpOp_putIf hoj (hfree j oj hoj hji hjun hnot) (fun cs b => hsel i oi cs b hi) (fun cs b => hsel j oj cs b hoj) hQ hy (H.2 j (ready_mono hj hji))
   have hLk' : (L.setIfInBounds j true).getD k true = false := by rw [getD_of_set hjk]; exact hLk
   refine wpOp_mono (fun a' w' h3 => ?_) h2
   obtain ⟨hy', hG', hA'⟩ := h3
   rw [Array.setIfInBounds_comm _ _ (Ne.symm hji)] at hG'
   have hS' := (hset _ w').1 hG'
   refine ⟨hS', ih (L.setIfInBounds j true) a' w' (fun m om hm hmi hun hno => hfree m om hm hmi ?_ hno) (ready_mono hr (Ne.symm hji)) hLk' hy' hS' ?_⟩
   · by_cases hjm : j = m
     · subst hjm; exact hjun
     · rw [getD_set_ne true hjm] at hun; exact hun
   · rw [Array.setIfInBounds_comm _ _ hji]
     exact hA'
theorem AnyG.take (i k : Nat) {l : List Oper} {oi ok : Oper} {v : Value} {Gi : World → Prop} {n : Nat} {L : Array Bool} {a : Act} {w : World}
 (hset : ∀ L w, G (L.setIfInBounds i true) w ↔ G L w) (hG : ∀ L w, L.getD k true = false → G L w → Gi w)
 (hi : l[i]? = some oi) (hk : l[k]? = some ok) (hki : (ok.after.any (fun e => Region.binds .any e && e.on == i)) = true)
 (hs : Region.noSelect l.toArray = true) (hf : Region.free .any l.toArray L i = true) (hr : (Region.ready .any l.toArray L).contains i = true) (hLk : L.getD k true = false)
 (hQ : ∀ c a w, Q (.panic c) (a.put oi.dst v) w → Q (.panic c) a w) (hS : G L w) (hw : Region.wanted oi (yielded l.toArray a.tmps) = true)
 (hy : ∀ w, Gi w → (execOp a.eval oi).run P w = .ok (.value v) w)
 (h : G (L.setIfInBounds i true) w → AnyG P l.toArray Q G n (L.setIfInBounds i true) (a.put oi.dst v) w) : AnyG P l.toArray Q G (n + 1) L a w := by
 have hi' : l.toArray[i]? = some oi := by rw [List.getElem?_toArray]; exact hi
 have hk' : l.toArray[k]? = some ok := by rw [List.getElem?_toArray]; exact hk
 refine AnyG.first hi' hk' ?_ hset hG (Region.noSelect_spec hs) hQ n L a w (Region.free_spec hi' hf) (by simpa using hr) hLk (.inl ⟨hw, hy⟩) hS (h ((hset L w).2 hS))
 obtain ⟨e, he, hb⟩ := Array.any_eq_true'.1 hki
 simp only [Bool.and_eq_true, beq_iff_eq] at hb
 exact ⟨e, he, hb.1, hb.2⟩
def Till (k k' : Nat) (A B : World → Prop) (L : Array Bool) (w : World) : Prop := (L.getD k true = false → A w) ∧ (L.getD k' true = false → B w)
theorem Till.set {k k' i : Nat} {A B : World → Prop} (h : i ≠ k) (h' : i ≠ k') (L : Array Bool) (w : World) : Till k k' A B (L.setIfInBounds i true) w ↔ Till k k' A B L w := by
 unfold Till
 rw [getD_of_set h, getD_of_set h']
theorem Till.a {k k' : Nat} {A B : World → Prop} (L : Array Bool) (w : World) (h : L.getD k true = false) (hT : Till k k' A B L w) : A w := hT.1 h
theorem Till.b {k k' : Nat} {A B : World → Prop} (L : Array Bool) (w : World) (h : L.getD k' true = false) (hT : Till k k' A B L w) : B w := hT.2 h
end
end Go.Proofs.Ytackejipgjmkoaa.XHeld
end
section
namespace Go.Proofs.YtackejipgjmkoaaW.PrintWords
open Go Go.RowKit
@[go_sem] theorem max_u8 : IntKind.max .u8 = 255 := rfl
@[go_sem] theorem max_u16 : IntKind.max .u16 = 65535 := rfl
@[go_sem] theorem max_u32 : IntKind.max .u32 = 4294967295 := rfl
@[go_sem] theorem max_u64 : IntKind.max .u64 = 18446744073709551615 := rfl
@[go_sem] theorem signed_u8 : IntKind.signed .u8 = false := rfl
namespace Kd
section
variable {α : Type} {P : Program} {ops : Array Oper} {Q : Exit → Act → World → Prop} {Kc : Act → World → Prop} {o : Oper} {rest : List Oper} {a : Act}
end
end Kd
end Go.Proofs.YtackejipgjmkoaaW.PrintWords
end
