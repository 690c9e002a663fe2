/- What the rows of this claim use, out of the texts of this work (YtenbkljgmgdegaaXMap). No condition beyond those that each statement names. -/
import Derived.Laws.IdiomRangeMap
import Derived.MapKept
import Derived.Test.YtenbkljgmgdegaaQnXRange
namespace Go.Proofs.Ytenbkljgmgdegaa.XMap
open Go Go.RowKit Go.Proofs.Ytenbkljgmgdegaa.XRange
structure Keys (P : Program) (kt : TypeId) {κ : Type} [DecidableEq κ] (K : κ → Value) : Prop where
  check : ∀ (em : Bool) (x : κ) (w : World), (Instr.checkKey em 10000 kt (K x)).run P w = .ok () w
  find : ∀ (x : κ) (es : List MapEntry) (ks : List κ) (w : World), es.map (·.key) = ks.map K →
    (Instr.findKey kt (K x) es).run P w = .ok ((ks.findIdx? (· = x)).map fun i => (i, (es.getD i default).val)) w
  stays : ∀ (x : κ) (w : World), (Instr.keyThatStays (K x) (K x)).run P w = .ok (K x) w
section
variable {κ ν : Type} [DecidableEq κ]
structure MapAt (w : World) (b : Nat) (K : κ → Value) (V : ν → Value) (D : List (κ × ν)) : Prop where
  at_ : ∃ es clock, w.heap[b]? = some (.map es clock) ∧ es.toList.map (·.key) = D.map (fun p => K p.1) ∧ es.toList.map (·.val) = D.map (fun p => V p.2) ∧ (∀ e ∈ es.toList, e.born < clock) ∧ es.toList.Pairwise (fun a b => a.born ≠ b.born)
  once : (D.map (·.1)).Nodup
def look (D : List (κ × ν)) (x : κ) : Option ν := (D.find? (fun p => p.1 = x)).map (·.2)
def upd : List (κ × ν) → κ → ν → List (κ × ν)
  | [], x, v => [(x, v)]
  | p :: D, x, v => if p.1 = x then (x, v) :: D else p :: upd D x v
theorem look_nil (x : κ) : look ([] : List (κ × ν)) x = none := rfl
theorem look_cons (p : κ × ν) (D : List (κ × ν)) (x : κ) : look (p :: D) x = if p.1 = x then some p.2 else look D x := by
  unfold look
  rw [List.find?_cons]
  by_cases h : p.1 = x <;> simp [h]
theorem look_upd (D : List (κ × ν)) (x y : κ) (v : ν) : look (upd D x v) y = if x = y then some v else look D y := by
  induction D with
  | nil => simp [upd, look_cons, look_nil]
  | cons p D ih =>
    rw [upd]
    by_cases h : p.1 = x
    · rw [if_pos h, look_cons, look_cons]
      by_cases hy : x = y
      · simp [hy]
      · simp [hy, h]
    · rw [if_neg h, look_cons, look_cons, ih]
      by_cases hy : p.1 = y
      · rw [if_pos hy, if_pos hy, if_neg (fun e => h (hy.trans e.symm))]
      · rw [if_neg hy, if_neg hy]
theorem find_some {D : List (κ × ν)} {x : κ} {v : ν} (h : look D x = some v) : ∃ i, (D.map (·.1)).findIdx? (· = x) = some i ∧ ∃ hi : i < D.length, D[i] = (x, v) := by
  induction D with
  | nil => simp [look_nil] at h
  | cons p D ih =>
    rw [look_cons] at h
    by_cases hp : p.1 = x
    · rw [if_pos hp] at h
      refine ⟨0, by simp [List.findIdx?_cons, hp], by simp, ?_⟩
      cases h
      rw [← hp]
      rfl
    · rw [if_neg hp] at h
      obtain ⟨i, h1, h2, h3⟩ := ih h
      exact ⟨i + 1, by simp [List.findIdx?_cons, hp, h1], by simpa using h2, by simpa using h3⟩
theorem find_none {D : List (κ × ν)} {x : κ} (h : look D x = none) : (D.map (·.1)).findIdx? (· = x) = none := by
  induction D with
  | nil => rfl
  | cons p D ih =>
    rw [look_cons] at h
    by_cases hp : p.1 = x
    · rw [if_pos hp] at h; cases h
    · rw [if_neg hp] at h
      simp [List.findIdx?_cons, hp, ih h]
variable {P : Program} {w : World} {b : Nat} {K : κ → Value} {V : ν → Value} {D : List (κ × ν)} {kt mt et : TypeId}
theorem find_at (hk : Keys P kt K) {es : Array MapEntry} (h1 : es.toList.map (·.key) = D.map (fun p => K p.1)) (x : κ) (w : World) :
    (Instr.findKey kt (K x) es.toList).run P w = .ok (((D.map (·.1)).findIdx? (· = x)).map fun i => (i, (es.toList.getD i default).val)) w :=
  hk.find x es.toList (D.map (·.1)) w (by rw [h1, List.map_map]; rfl)
omit [DecidableEq κ] in
theorem val_at {es : Array MapEntry} (h2 : es.toList.map (·.val) = D.map (fun p => V p.2)) {i : Nat} (hi : i < D.length) : (es.toList.getD i default).val = V D[i].2 := by
  have hl : es.toList.length = D.length := by have := congrArg List.length h2; simpa using this
  have := congrArg (fun l => l[i]?) h2
  simp only [List.getElem?_map] at this
  rw [List.getElem?_eq_getElem hi, List.getElem?_eq_getElem (by omega)] at this
  simp at this
  rw [List.getD_eq_getElem?_getD, List.getElem?_eq_getElem (by omega)]
  simpa using this
theorem run_lookup_hit (ht : P.underlying mt = some (.map kt et)) (hk : Keys P kt K) (h : MapAt w b K V D) (x : κ) (v : ν) (hv : look D x = some v) (ok : Bool) :
    (Instr.lookup mt (.map (some b)) (K x) ok).run P w = .ok (if ok then .tuple #[V v, .bool true] else V v) w := by
  obtain ⟨es, clock, hb, h1, h2, _, _⟩ := h.at_
  obtain ⟨i, hi, hlt, hD⟩ := find_some hv
  have hf := find_at hk h1 x w
  rw [hi] at hf
  have hq := val_at h2 hlt
  rw [hD] at hq
  simp [Instr.lookup, run_underlying ht, MapKept.run_getObj_map hb, hk.check, hf]
  rw [List.getD_eq_getElem?_getD] at hq
  simp at hq
  rw [hq]
theorem run_lookup_miss (ht : P.underlying mt = some (.map kt et)) (hk : Keys P kt K) (h : MapAt w b K V D) (x : κ) (hv : look D x = none) (z : Value) (hz : (zeroValue et).run P w = .ok z w) (ok : Bool) :
    (Instr.lookup mt (.map (some b)) (K x) ok).run P w = .ok (if ok then .tuple #[z, .bool false] else z) w := by
  obtain ⟨es, clock, hb, h1, h2, _, _⟩ := h.at_
  have hf := find_at hk h1 x w
  rw [find_none hv] at hf
  simp [Instr.lookup, run_underlying ht, MapKept.run_getObj_map hb, hk.check, hf, hz]
theorem upd_some {D : List (κ × ν)} {x : κ} (v' : ν) : ∀ {i : Nat}, (D.map (·.1)).findIdx? (· = x) = some i → upd D x v' = D.set i (x, v') := by
  induction D with
  | nil => intro i h; simp at h
  | cons p D ih =>
    intro i h
    rw [upd]
    rw [List.map_cons, List.findIdx?_cons] at h
    by_cases hp : p.1 = x
    · simp [hp] at h
      subst h
      rw [if_pos hp]; rfl
    · simp [hp] at h
      obtain ⟨j, hj, rfl⟩ := h
      rw [if_neg hp, ih (i := j) (by simpa using hj)]
      rfl
theorem upd_none {D : List (κ × ν)} {x : κ} (v' : ν) (h : look D x = none) : upd D x v' = D ++ [(x, v')] := by
  induction D with
  | nil => rfl
  | cons p D ih =>
    rw [look_cons] at h
    by_cases hp : p.1 = x
    · rw [if_pos hp] at h; cases h
    · rw [if_neg hp] at h
      rw [upd, if_neg hp, ih h]; rfl
theorem upd_keys {D : List (κ × ν)} {x : κ} (v' : ν) : (upd D x v').map (·.1) = if look D x = none then D.map (·.1) ++ [x] else D.map (·.1) := by
  cases h : look D x with
  | none => rw [upd_none v' h]; simp
  | some v =>
    obtain ⟨i, h1, h2, h3⟩ := find_some h
    rw [upd_some v' h1, List.map_set]
    simp only [reduceCtorEq, if_false]
    refine List.ext_getElem (by simp) fun j hj1 hj2 => ?_
    rw [List.getElem_set]
    split
    · rename_i e; subst e; simp [h3]
    · rfl
theorem look_none {D : List (κ × ν)} {x : κ} : look D x = none ↔ x ∉ D.map (·.1) := by
  induction D with
  | nil => simp [look_nil]
  | cons p D ih =>
    rw [look_cons]
    by_cases hp : p.1 = x
    · simp [hp]
    · rw [if_neg hp, ih]; simp [Ne.symm hp]
theorem upd_once {D : List (κ × ν)} (h : (D.map (·.1)).Nodup) (x : κ) (v' : ν) : ((upd D x v').map (·.1)).Nodup := by
  rw [upd_keys]
  split
  · rename_i hn
    rw [List.nodup_append]
    exact ⟨h, by simp, fun a ha b hb => by rw [List.mem_singleton] at hb; subst hb; exact fun e => look_none.1 hn (e ▸ ha)⟩
  · exact h
theorem set_obj {es : Array MapEntry} {clock : Nat} (hb : w.heap[b]? = some (.map es clock)) (o : Obj) : (setObj b o).run P w = .ok () (w.putObj b o) := by
  rw [MapKept.run_setObj_map o hb]; rfl
omit [DecidableEq κ] in
theorem keys_len {es : Array MapEntry} (h1 : es.toList.map (·.key) = D.map (fun p => K p.1)) : es.size = D.length := by have := congrArg List.length h1; simpa using this
theorem mod_map {α β : Type} (g : α → β) (f : α → α) (c : β) (hc : ∀ e, g (f e) = c) : ∀ (l : List α) (i : Nat), (l.modify i f).map g = (l.map g).set i c
  | [], i => by simp
  | e :: l, 0 => by simp [hc]
  | e :: l, i + 1 => by simp [mod_map g f c hc l i]
theorem mod_same {α β : Type} (g : α → β) (f : α → α) (hc : ∀ e, g (f e) = g e) : ∀ (l : List α) (i : Nat), (l.modify i f).map g = l.map g
  | [], i => by simp
  | e :: l, 0 => by simp [hc]
  | e :: l, i + 1 => by simp [mod_same g f hc l i]
theorem run_update (ht : P.underlying mt = some (.map kt et)) (hk : Keys P kt K) (h : MapAt w b K V D) (x : κ) (v : ν) :
    ∃ w', (Instr.mapUpdate mt (.map (some b)) (K x) (V v)).run P w = .ok () w' ∧ MapAt w' b K V (upd D x v) ∧ Keeps (fun k => k = b) w w' := by
  obtain ⟨es, clock, hb, h1, h2, h3, h4⟩ := h.at_
  have hbl : b < w.heap.size := (Array.getElem?_eq_some_iff.1 hb).1
  have hl := keys_len h1
  cases hv : look D x with
  | some v0 =>
    obtain ⟨i, hi, hlt, hD⟩ := find_some hv
    have hf := find_at hk h1 x w
    rw [hi] at hf
    have hkey : (es.toList.getD i default).key = K x := by
      have := congrArg (fun l => l[i]?) h1
      simp only [List.getElem?_map] at this
      rw [List.getElem?_eq_getElem hlt, List.getElem?_eq_getElem (by simp; omega)] at this
      simp [hD] at this
      rw [List.getD_eq_getElem?_getD, List.getElem?_eq_getElem (by simp; omega)]
      simpa using this
    have hget : ((es[i]?).map (·.key)).getD (K x) = K x := by
      rw [Array.getElem?_eq_getElem (by omega)]
      rw [List.getD_eq_getElem?_getD, List.getElem?_eq_getElem (by simp; omega)] at hkey
      simpa using hkey
    refine ⟨w.putObj b (.map (es.modify i fun e => { e with key := K x, val := V v }) clock), ?_, ⟨⟨_, _, World.putObj_heap_same hbl, ?_, ?_, ?_, ?_⟩, upd_once h.once x v⟩, keeps_putObj _ w b _ rfl⟩
    · simp [Instr.mapUpdate, run_underlying ht, MapKept.run_getObj_map hb, hk.check, hf, hget, hk.stays, set_obj hb]
    · rw [upd_some v hi, List.map_set, ← h1, Array.toList_modify]
      exact mod_map MapEntry.key _ (K x) (fun _ => rfl) _ _
    · rw [upd_some v hi, List.map_set, ← h2, Array.toList_modify]
      exact mod_map MapEntry.val _ (V v) (fun _ => rfl) _ _
    · have hq : (es.modify i fun e => { e with key := K x, val := V v }).toList.map (·.born) = es.toList.map (·.born) := by rw [Array.toList_modify]; exact mod_same MapEntry.born (fun e => { e with key := K x, val := V v }) (fun _ => rfl) _ _
      intro e he
      have hm : e.born ∈ es.toList.map (·.born) := by rw [← hq]; exact List.mem_map_of_mem he
      obtain ⟨e', he', hb'⟩ := List.mem_map.1 hm
      rw [← hb']
      exact h3 e' he'
    · have hq : (es.modify i fun e => { e with key := K x, val := V v }).toList.map (·.born) = es.toList.map (·.born) := by rw [Array.toList_modify]; exact mod_same MapEntry.born (fun e => { e with key := K x, val := V v }) (fun _ => rfl) _ _
      have h5 : (es.toList.map (·.born)).Pairwise (· ≠ ·) := List.pairwise_map.2 h4
      rw [← hq] at h5
      exact List.pairwise_map.1 h5
  | none =>
    have hf := find_at hk h1 x w
    rw [find_none hv] at hf
    refine ⟨w.putObj b (.map (es.push { key := K x, val := V v, born := clock }) (clock + 1)), ?_, ⟨⟨_, _, World.putObj_heap_same hbl, ?_, ?_, ?_, ?_⟩, upd_once h.once x v⟩, keeps_putObj _ w b _ rfl⟩
    · simp [Instr.mapUpdate, run_underlying ht, MapKept.run_getObj_map hb, hk.check, hf, set_obj hb]
    · rw [upd_none v hv]; simp [h1]
    · rw [upd_none v hv]; simp [h2]
    · intro e he
      simp at he
      rcases he with he | rfl
      · exact Nat.lt_succ_of_lt (h3 e (by simpa using he))
      · exact Nat.lt_succ_self _
    · simp only [Array.toList_push, List.pairwise_append]
      exact ⟨h4, by simp, fun a ha c hc => by simp at hc; subst hc; exact Nat.ne_of_lt (h3 a ha)⟩
omit [DecidableEq κ] in
theorem made (w : World) (K : κ → Value) (V : ν → Value) : MapAt (w.alloc (.map #[] 0)) w.heap.size K V ([] : List (κ × ν)) :=
  ⟨⟨#[], 0, heap_alloc_new w _, rfl, rfl, fun e he => by simp at he, by simp⟩, by simp⟩
omit [DecidableEq κ] in
theorem MapAt.step {w' : World} (h : MapAt w b K V D) (hh : w'.heap[b]? = w.heap[b]?) : MapAt w' b K V D := by
  obtain ⟨es, clock, hb, h1⟩ := h.at_
  exact ⟨⟨es, clock, hh.trans hb, h1⟩, h.once⟩
omit [DecidableEq κ] in
theorem MapAt.lt (h : MapAt w b K V D) : b < w.heap.size := by
  obtain ⟨es, clock, hb, _⟩ := h.at_
  exact (Array.getElem?_eq_some_iff.1 hb).1
theorem asking {kt : TypeId} {K : κ → Value} (heq : ∀ (x y : κ) (w : World), (Op.equal kt (K x) (K y)).run P w = .ok (decide (y = x)) w) (x : κ) (w : World) : ∀ (es : List MapEntry) (ks : List κ) (i : Nat), es.map (·.key) = ks.map K →
    (Instr.findAsking kt (K x) es i).run P w = .ok ((ks.findIdx? (· = x)).map fun j => (i + j, (es.getD j default).val)) w
  | [], [], i, _ => by simp [Instr.findAsking]
  | e :: es, k :: ks, i, h => by
    simp only [List.map_cons, List.cons.injEq] at h
    have ih := asking heq x w es ks (i + 1) h.2
    rw [Instr.findAsking, h.1]
    simp only [Sem.run_bind, heq, Result.andThen_ok, List.findIdx?_cons]
    by_cases hk : k = x
    · simp [hk]
    · simp only [hk, decide_false, Bool.false_eq_true, if_false]
      rw [ih]
      cases hq : ks.findIdx? (· = x) with
      | none => simp
      | some j => simp [Nat.add_assoc, Nat.add_comm 1 j]
theorem keys_struct {kt : TypeId} {K : κ → Value} {fs : Array Field} (hu : P.underlying kt = some (.struct fs)) (hc : ∀ (em : Bool) (x : κ) (w : World), (Instr.checkKey em 10000 kt (K x)).run P w = .ok () w)
    (heq : ∀ (x y : κ) (w : World), (Op.equal kt (K x) (K y)).run P w = .ok (decide (y = x)) w) (hs : ∀ x, Instr.sameBits 10000 (K x) (K x) = true) : Keys P kt K where
  check := hc
  find := fun x es ks w h => by
    have ha := asking (P := P) heq x w es ks 0 h
    unfold Instr.findKey
    simp only [Sem.run_bind, run_underlying hu, Result.andThen_ok]
    cases es with
    | nil =>
      cases ks with
      | nil => simp [Instr.findNow]
      | cons k ks => simp at h
    | cons e es =>
      simp only [Instr.findNow, Instr.sameNow]
      rw [ha]
      simp
  stays := fun x w => by
    unfold Instr.keyThatStays
    rw [if_pos (hs x)]
    rfl
theorem ba_beq (a b : ByteArray) : (a == b) = decide (a = b) := by
  cases a; cases b
  rename_i x y
  show (x == y) = _
  rw [Bool.eq_iff_iff]; simp
end
end Go.Proofs.Ytenbkljgmgdegaa.XMap
