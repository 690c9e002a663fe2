/- What the rows of this claim use, out of the texts of this work (POx9). No condition beyond those that each statement names. -/
import Derived.Test.YtenbkljgmgdegaaQwPOx0
import Derived.Test.YtenbkljgmgdegaaQwPOx2
import Derived.Test.YtenbkljgmgdegaaQwPOx8
namespace Go.Proofs.Ytenbkljgmgdegaa.PO
open Go.RowKit Go.Proofs.YtenbkljgmgdegaaW.PrintWords Go.Proofs.YtenbkljgmgdegaaW.PrintLast Go.Proofs.YtenbkljgmgdegaaW.PrintMore
attribute [local go_sem] max2_int min2_int max_two min_two max_three min_three max_four min_four   -- for this text's walks alone
set_option linter.unusedVariables false
set_option linter.unusedSimpArgs false
section
variable {P : Program}
structure Hid0 (p : Prop) : Prop where mk :: (out : p)
theorem run_copy_rowK (sz : Nat) (w : World) (dT sT ty elem : TypeId) (g o dLen dCap : Nat) (a : Addr) (sLen sCap : Nat) (cur : Array Value) (t : TypeId) (cs : List Value)
 (hu : P.underlying dT = some (.slice elem)) (hs : (P.info? elem).map (·.size) = some sz)
 (hg : w.heap[g]? = some (.cells cur t (0, 0))) (hn : cs.length = Nat.min sLen dLen * sz)
 (hsrc : ∀ j v, cs[j]? = some v → w.cell? (a.add j) = some v) (hfit : o + cs.length ≤ cur.size) (h1 : ∀ v ∈ cs, v.oneCell' = true) :
 (Builtin.copy_ #[dT, sT] ty #[.slice (some ⟨g, o, none⟩) dLen dCap, .slice (some a) sLen sCap]).run P w =
  .ok (goInt (Nat.min sLen dLen)) (w.setRow g (cur.toList.take o ++ cs ++ cur.toList.drop (o + cs.length)).toArray) := by
 have hl := run_loadCells_list (P := P) w a cs hsrc
 have hst := run_storeCells_at P g o t cs 0 cur w hg (by simpa using hfit) h1
 cases hq : P.info? elem with
 | none => simp [hq] at hs
 | some i =>
   have hi : i.size = sz := by simpa [hq] using hs
   simp [Builtin.copy_, run_underlying hu, Builtin.lenOf, Builtin.firstCells, sizeOf, typeInfo, hq, hi, ← hn, hl, hst]
theorem wp_copy_runJ (w : World) {o : Oper} {a : Act} {K : Act → World → Prop} {Q : Exit → Act → World → Prop} (d s : Operand) (t t' : TypeId)
 (ho : o.op = .call { callee := .builtin .copy, args := #[d, s], argTypes := #[t, t'] }) (v u : Value) (hd : a.eval d = v) (hs : a.eval s = u) {v' : Value} {w' : World}
 (hr : (Builtin.copy_ #[t, t'] o.type #[v, u]).run P w = .ok v' w') (h : K (a.put o.dst v') w') : o.wp P a w K Q := by
 unfold Oper.wp execOp
 simp only [ho, resolve, invoke, builtin, Sem.run_bind, Sem.run_pure, Result.andThen_ok, List.map_toArray, List.map_cons, List.map_nil, hd, hs, hr]
 exact h
theorem wpList_copy_runJ (w : World) {ops : Array Oper} {rest : List Oper} {o : Oper} {a : Act} {Q : Exit → Act → World → Prop} (hgd : o.guard = none) (d s : Operand) (t t' : TypeId)
 (ho : o.op = .call { callee := .builtin .copy, args := #[d, s], argTypes := #[t, t'] }) (v u : Value) (hd : a.eval d = v) (hs : a.eval s = u) {v' : Value} {w' : World}
 (hr : (Builtin.copy_ #[t, t'] o.type #[v, u]).run P w = .ok v' w') (h : wpList P ops Q rest (a.put o.dst v') w') : wpList P ops Q (o :: rest) a w :=
 wpList_plain hgd fun _ hK => wp_copy_runJ w d s t t' ho v u hd hs hr (hK _ _ h)
theorem step_copy_runJ {ops : Array Oper} {o : Oper} {a : Act} {w : World} {K : Act → World → Prop} {Q : Exit → Act → World → Prop} {E : Prop}
 (hg : o.guard = none) (d x : Operand) (dT sT : TypeId) (hop : o.op = Op.call { callee := Callee.builtin Builtin.copy, args := #[d, x], argTypes := #[dT, sT] })
 (v u : Value) (hd : a.eval d = v) (hx : a.eval x = u) {v' : Value} {w' : World} (hr : (Builtin.copy_ #[dT, sT] o.type #[v, u]).run P w = .ok v' w') (hK : K (a.put o.dst v') w') :
 if Region.wanted o (yielded ops a.tmps) = true then Oper.wp P o a w K Q else E := by
 have hw : Region.wanted o (yielded ops a.tmps) = true := by simp [Region.wanted, hg]
 rw [if_pos hw]
 unfold Oper.wp
 simp [execOp, hop, resolve, invoke, builtin, hd, hx, hr, Result.andThen]
 exact hK
def insL (xs : List Value) (j : Nat) (ys : List Value) : List Value := xs.take j ++ ys ++ xs.drop j
section
set_option maxHeartbeats 4000000
set_option maxRecDepth 100000
theorem ins_shift (g n cap i vb : Nat) (cur : Array Value) (a b : Value) (w : World) (hi : i < n) (hroom : n + 1 ≤ cap) (hcap : cap ≤ 9223372036854775807)
 (hg : w.heap[g]? = some (.cells cur 34 (0, 0))) (hsz : cur.size = cap * 2) (hv : w.heap[vb]? = some (.cells #[a, b] 34 (0, 0))) (hne : vb ≠ g)
 (h1 : ∀ v ∈ cur.toList.take (n * 2), v.oneCell' = true) (ha : a.oneCell' = true) (hb : b.oneCell' = true) :
 Calls Try.prog 131 #[.slice (some ⟨g, 0, none⟩) n cap, .int .i64 i, .slice (some ⟨vb, 0, none⟩) 1 1] w fun e w' =>
  e = .returned (.slice (some ⟨g, 0, none⟩) (n + 1) cap) ∧ ∃ C, w'.heap[g]? = some (.cells C 34 (0, 0)) ∧ C.size = cap * 2 ∧ C.toList.take ((n + 1) * 2) = insL (cur.toList.take (n * 2)) (i * 2) [a, b] ∧ w.grownBy w' (some g) := by
 have hz2 : ¬ ((i : Int) = (n : Int)) := by omega
 have hov : ∀ lb cb, (callFunc 140 #[.slice (some ⟨vb, 0, none⟩) 1 1, .slice (some ⟨g, (i + 1) * 2, none⟩) lb cb]).run Try.prog w = .ok (.value (.bool false)) w := fun lb cb => by
  rw [run_callFunc_extern Try.func140 (by kernel_rfl) (by kernel_rfl) (by kernel_rfl) (e := Extern.SlicesOverlaps.overlaps #[23, 23] #[4]) (by kernel_rfl),
   Lib.run_overlaps_apart w 23 4 34 Try.underlying23 2 Try.sizeOf34 ⟨vb, 0, none⟩ ⟨g, (i + 1) * 2, none⟩ 1 1 lb cb hne 34 34 2 (cap * 2) (by simp [World.shape?, hv]) (by simp [World.shape?, hg, hsz]) (by omega) (by simp [World.frozen?, hv]) (by simp [World.frozen?, hv])]
  rfl
 obtain ⟨cs, hcs⟩ : ∃ cs, cs = (cur.toList.drop (i * 2)).take ((n - i) * 2) := ⟨_, rfl⟩
 have hcl : cs.length = (n - i) * 2 := by rw [hcs]; simp; omega
 have hs2 : (Try.prog.info? 34).map (·.size) = some 2 := by kernel_rfl
 obtain ⟨C1, hC1⟩ : ∃ C1, C1 = (cur.toList.take ((i + 1) * 2) ++ cs ++ cur.toList.drop ((i + 1) * 2 + cs.length)).toArray := ⟨_, rfl⟩
 have hC1s : C1.size = cap * 2 := by rw [hC1]; simp [hcl]; omega
 have hgt : ∀ j v, cs[j]? = some v → w.drew.cell? ((⟨g, i * 2, none⟩ : Addr).add j) = some v := fun j v hj => by
  rw [Addr.add_lit]
  have : cur[i * 2 + j]? = some v := by
   rw [hcs, List.getElem?_take] at hj
   split at hj
   · rw [List.getElem?_drop] at hj; simpa using hj
   · cases hj
  show w.cell? _ = _
  simp [World.cell?, hg, this]
 have hc1 : ∀ v ∈ cs, v.oneCell' = true := fun v hv => h1 v (by
  rw [hcs] at hv
  rw [show (cur.toList.drop (i * 2)).take ((n - i) * 2) = (cur.toList.take (n * 2)).drop (i * 2) from by rw [List.drop_take, show n * 2 - i * 2 = (n - i) * 2 by omega]] at hv
  exact List.mem_of_mem_drop hv)
 have hcp1 : ∀ ty dc sc, (Builtin.copy_ #[23, 23] ty #[.slice (some ⟨g, (i + 1) * 2, none⟩) (n - i) dc, .slice (some ⟨g, i * 2, none⟩) (n + 1 - i) sc]).run Try.prog w.drew = .ok (goInt (Nat.min (n + 1 - i) (n - i))) (w.drew.setRow g C1) := fun ty dc sc => by
  rw [hC1]
  exact run_copy_rowK 2 w.drew _ _ ty 34 g ((i + 1) * 2) (n - i) dc ⟨g, i * 2, none⟩ (n + 1 - i) sc cur 34 cs Try.underlying23 hs2 hg (by rw [hcl]; simp only [Nat.min_def]; split <;> omega) hgt (by omega) hc1
 obtain ⟨C2, hC2⟩ : ∃ C2, C2 = (C1.toList.take (i * 2) ++ [a, b] ++ C1.toList.drop (i * 2 + 2)).toArray := ⟨_, rfl⟩
 have hcp2 : ∀ (W : World), W.heap[g]? = some (.cells C1 34 (0, 0)) → W.heap[vb]? = some (.cells #[a, b] 34 (0, 0)) → ∀ ty dc, (Builtin.copy_ #[23, 23] ty #[.slice (some ⟨g, i * 2, none⟩) (n + 1 - i) dc, .slice (some ⟨vb, 0, none⟩) 1 1]).run Try.prog W = .ok (goInt (Nat.min 1 (n + 1 - i))) (W.setRow g C2) := fun W hW hWv ty dc => by
  rw [hC2]
  refine run_copy_rowK 2 W _ _ ty 34 g (i * 2) (n + 1 - i) dc ⟨vb, 0, none⟩ 1 1 C1 34 [a, b] Try.underlying23 hs2 hW (by simp only [Nat.min_def, List.length_cons, List.length_nil]; split <;> omega) (fun j v hj => ?_) (by simp; omega) (fun v hv => by simp at hv; rcases hv with rfl | rfl <;> assumption)
  rw [Addr.add_lit]
  have hlt : j < 2 := by have := (List.getElem?_eq_some_iff.1 hj).1; simpa using this
  simp [World.cell?, hWv]
  simpa using hj
 have hk : (w.drew.setRow g C1).heap[g]? = some (.cells C1 34 (0, 0)) := setRow_heap w.drew g cur C1 34 (0, 0) hg
 have hkv : (w.drew.setRow g C1).heap[vb]? = some (.cells #[a, b] 34 (0, 0)) := (setRow_other w.drew g vb C1 hne).trans hv
 have hfin : C2.toList.take ((n + 1) * 2) = insL (cur.toList.take (n * 2)) (i * 2) [a, b] := by
  have e1 : (cur.toList.take (n * 2)).take (i * 2) = cur.toList.take (i * 2) := by rw [List.take_take, Nat.min_eq_left (by omega)]
  have e2 : (cur.toList.take (n * 2)).drop (i * 2) = cs := by rw [hcs, List.drop_take, show n * 2 - i * 2 = (n - i) * 2 by omega]
  have e3 : C1.toList.take (i * 2) = cur.toList.take (i * 2) := by
   rw [hC1, List.toList_toArray, List.append_assoc, List.take_append_of_le_length (by simp; omega), List.take_take, Nat.min_eq_left (by omega)]
  have e4 : C1.toList.drop (i * 2 + 2) = cs ++ cur.toList.drop ((i + 1) * 2 + cs.length) := by
   rw [hC1, List.toList_toArray, List.append_assoc, List.drop_left' (by simp; omega)]
  unfold insL
  rw [hC2, List.toList_toArray, e3, e4, e1, e2, ← List.append_assoc, List.take_left' (by simp [hcl]; omega)]
 have hC2s : C2.size = cap * 2 := by rw [hC2]; simp [hC1s]; omega
 have hgr : w.grownBy ((w.drew.setRow g C1).setRow g C2) (some g) := ⟨rfl, rfl, rfl, by simp, fun k hk hne => by
  have hkg : k ≠ g := fun e => hne (by rw [e])
  rw [setRow_other _ _ _ _ hkg, setRow_other _ _ _ _ hkg]; rfl⟩
 have hlast : ((w.drew.setRow g C1).setRow g C2).heap[g]? = some (.cells C2 34 (0, 0)) := setRow_heap _ g C1 C2 34 (0, 0) hk
 have hw1 : IntKind.i64.wrap ((i : Int) + (1 : Int)) = (i : Int) + (1 : Int) := by rw [IntKind.wrap_i64]; omega
 have hb1 : (0 : Int) ≤ (i : Int) + (1 : Int) := by omega
 have htn : ((i : Int) + (1 : Int)).toNat = i + 1 := by omega
 have hb2 : ¬ (cap = i + 1) := by omega
 have hb3 : (i : Int) ≤ (n : Int) + (1 : Int) := by omega
 have hb4 : ¬ (cap = i) := by omega
 have hb5 : (i : Int) + (1 : Int) ≤ (n : Int) + (1 : Int) := by omega
 have HF : Hid0 (((w.drew.setRow g C1).setRow g C2).heap[g]? = some (.cells C2 34 (0, 0)) ∧ C2.size = cap * 2 ∧ C2.toList.take ((n + 1) * 2) = insL (cur.toList.take (n * 2)) (i * 2) [a, b] ∧ w.grownBy ((w.drew.setRow g C1).setRow g C2) (some g)) := Hid0.mk ⟨hlast, hC2s, hfin, hgr⟩
 clear hC1 hcs hgt hc1 h1 hfin hC2s hC2 hgr hlast hcl hC1s
 go_enter Try.func131, Try.ntmps131
 go_wp2_with (simp only [hov])
 go_region_law (refine step_copy_runJ rfl _ _ 23 23 rfl _ _ (by simp [Act.eval, Act.put]) (by simp [Act.eval, Act.put]) (hcp1 _ _ _) ?_)
 go_wp2_with (at_builtin; refine wpList_copy_runJ _ rfl _ _ 23 23 rfl _ _ rfl rfl (hcp2 _ hk hkv _ _) ?_)
 go_ret
 exact ⟨rfl, C2, HF.out⟩
theorem ins_end (base : Nat) (v : Value) (n vb : Nat) (xs : List Value) (a b : Value) (w : World) (hn : n ≤ 1000) (hown : w.ownsRow base 34 2 v n xs) (hbase : base ≤ w.heap.size)
 (hv : w.heap[vb]? = some (.cells #[a, b] 34 (0, 0))) (ha : a.oneCell' = true) (hb : b.oneCell' = true) :
 Calls Try.prog 131 #[v, .int .i64 n, .slice (some ⟨vb, 0, none⟩) 1 1] w fun e w' =>
  ∃ v', e = .returned v' ∧ w'.ownsRow base 34 2 v' (n + 1) (xs ++ [a, b]) ∧ w.grownBy w' v.ownBlock := by
 have hinfo : (Try.prog.info? 34).map (fun i => (i.zero, i.size, i.bytes)) = some (some (.agg #[.string ⟨#[]⟩, .int .i64 0]), 2, 24) := by kernel_rfl
 obtain ⟨i0, hi0, hz0, hz1, hz2⟩ := info_parts hinfo
 obtain ⟨A, c, hvc, hle⟩ : ∃ A c, v = .slice A n c ∧ n ≤ c := by
  rcases hown.2 with ⟨rfl, rfl⟩ | ⟨g, cap, cur, rfl, _, _, hle, _⟩
  · exact ⟨none, 0, rfl, Nat.le_refl _⟩
  · exact ⟨_, _, rfl, hle⟩
 subst hvc
 have hnews : ∀ j u, [a, b][j]? = some u → w.cell? ((⟨vb, 0, none⟩ : Addr).add j) = some u := fun j u hj => by
  rw [Addr.add_lit]
  have hlt : j < 2 := by have := (List.getElem?_eq_some_iff.1 hj).1; simpa using this
  simp [World.cell?, hv]
  simpa using hj
 have h1 : ∀ u ∈ [a, b], u.oneCell' = true := fun u hu => by simp at hu; rcases hu with rfl | rfl <;> assumption
 have HN := Hid0.mk hnews
 have HO := Hid0.mk hown
 have H1 := Hid0.mk h1
 clear hnews hown h1 hv
 go_enter Try.func131, Try.ntmps131
 go_wp2_with (at_builtin; refine wpList_append_own _ rfl _ _ 23 rfl base 34 i0 (.agg #[.string ⟨#[]⟩, .int .i64 0]) 2 24 Try.underlying23 hi0 hz0 hz1 hz2 rfl (by decide) (.slice A n c) n xs rfl HO.out ⟨vb, 0, none⟩ 1 1 [a, b] rfl rfl HN.out H1.out (by unfold maxLen; omega) (by omega) hbase ?_; intro v' w' ho hg hnil)
 all_goals (go_ret; first | exact ⟨_, rfl, ho, hg⟩ | (cases A <;> exact ⟨_, rfl, ho, hg⟩))
theorem ins_grow (g n i vb : Nat) (cur : Array Value) (a b : Value) (w : World) (hi : i < n) (hn : n ≤ 1000)
 (hg : w.heap[g]? = some (.cells cur 34 (0, 0))) (hsz : cur.size = n * 2) (hv : w.heap[vb]? = some (.cells #[a, b] 34 (0, 0)))
 (h1 : ∀ v ∈ cur.toList, v.oneCell' = true) (ha : a.oneCell' = true) (hb : b.oneCell' = true) :
 Calls Try.prog 131 #[.slice (some ⟨g, 0, none⟩) n n, .int .i64 i, .slice (some ⟨vb, 0, none⟩) 1 1] w fun e w' =>
  ∃ cap, e = .returned (.slice (some ⟨w.heap.size, 0, none⟩) (n + 1) cap) ∧ ∃ C, n + 1 ≤ cap ∧ cap ≤ maxLen ∧ w'.heap[w.heap.size]? = some (.cells C 34 (0, 0)) ∧ C.size = cap * 2 ∧ C.toList.take ((n + 1) * 2) = insL cur.toList (i * 2) [a, b] ∧ w.grownBy w' none := by
 have hinfo : (Try.prog.info? 34).map (fun i => (i.zero, i.size, i.bytes)) = some (some (.agg #[.string ⟨#[]⟩, .int .i64 0]), 2, 24) := by kernel_rfl
 obtain ⟨i0, hi0, hz0, hzs, hzb⟩ := info_parts hinfo
 have hz2 : ¬ ((i : Int) = (n : Int)) := by omega
 have hs2 : (Try.prog.info? 34).map (·.size) = some 2 := by kernel_rfl
 have hbw : g < w.heap.size := (Array.getElem?_eq_some_iff.1 hg).1
 have hvw : vb < w.heap.size := (Array.getElem?_eq_some_iff.1 hv).1
 have hkk : (n : Int) + 1 - (i : Int) = ((n + 1 - i : Nat) : Int) := by omega
 have hik : i + (n + 1 - i) = n + 1 := by omega
 have hold : (Builtin.firstCells i0.size i (.slice (some ⟨g, 0, none⟩) i n)).run Try.prog w.drew = .ok (cur.toList.take (i * 2)).toArray w.drew := by
  rw [hzs]
  exact run_firstCells_some w.drew 2 i ⟨g, 0, none⟩ i n (cur.toList.take (i * 2)) (by rw [List.length_take, Array.length_toList]; omega) (fun j v hj => by
   rw [Addr.add_lit]
   rw [List.getElem?_take] at hj
   split at hj
   · show w.cell? _ = _
     simp [World.cell?, hg]; simpa using hj
   · cases hj)
 obtain ⟨G, hG⟩ : ∃ G, G = grownCap w (n + 1) n 34 := ⟨_, rfl⟩
 obtain ⟨ROW, hROW⟩ : ∃ ROW : Array Value, ROW = (cur.toList.take (i * 2)).toArray ++ Builtin.zeroCells (Value.agg #[.string ⟨#[]⟩, .int .i64 0]).cells (n + 1 - i) ++ Builtin.zeroCells (Value.agg #[.string ⟨#[]⟩, .int .i64 0]).cells (G - (n + 1)) := ⟨_, rfl⟩
 have hGn : n + 1 ≤ G := by rw [hG]; exact grownCap_ge w _ _ _
 have hGm : G ≤ maxLen := by rw [hG]; exact grownCap_le_maxLen w (n + 1) n 34 (by unfold maxLen; omega)
 have hrz : ∀ ty, (Builtin.append_ #[23, 3] ty #[.slice (some ⟨g, 0, none⟩) i n, .int .i64 ((n : Int) + 1 - (i : Int))]).run Try.prog w =
  .ok (.slice (some ⟨w.heap.size, 0, none⟩) (n + 1) G) (w.drew.alloc (.cells ROW 34)) := fun ty => by
  have h := Lib.run_append_grow_zeros w 23 3 ty 34 i0 _ .i64 .i64 Try.underlying23 Try.underlying3 hi0 hz0 (some ⟨g, 0, none⟩) i n (cur.toList.take (i * 2)) hold (n + 1 - i) (by omega) (by omega) (by omega) (by omega) (by rw [hzb]; omega) (by rw [hzb, hik]; exact growslice_fits (by omega) (by omega))
  rw [hik] at h
  rw [hkk, hROW, hG]
  exact h
 have hRs : ROW.size = G * 2 := by rw [hROW]; simp [Builtin.zeroCells, Value.cells, hsz]; omega
 have hRt : ROW.toList.take (i * 2) = cur.toList.take (i * 2) := by
  rw [hROW]
  simp only [Array.toList_append, List.append_assoc, List.toList_toArray]
  rw [List.take_left' (by simp; omega)]
 obtain ⟨W1, hW1⟩ : ∃ W1, W1 = w.drew.alloc (.cells ROW 34) := ⟨_, rfl⟩
 have hN1 : W1.heap[w.heap.size]? = some (.cells ROW 34 (0, 0)) := by rw [hW1]; exact heap_alloc_new w.drew _
 have ho1 : ∀ k, k < w.heap.size → W1.heap[k]? = w.heap[k]? := fun k hk => by rw [hW1]; exact Below.heap_alloc w.drew _ k hk
 have hz1 : W1.heap.size = w.heap.size + 1 := by rw [hW1]; simp
 obtain ⟨N, hN⟩ : ∃ N, N = w.heap.size := ⟨_, rfl⟩
 rw [← hN] at hrz hN1 ho1 hz1 hbw hvw
 rw [← hW1] at hrz
 obtain ⟨C1, hC1⟩ : ∃ C1, C1 = (ROW.toList.take (i * 2) ++ [a, b] ++ ROW.toList.drop (i * 2 + 2)).toArray := ⟨_, rfl⟩
 have hC1s : C1.size = G * 2 := by rw [hC1]; simp [hRs]; omega
 have hcpA : ∀ (W : World), W.heap[N]? = some (.cells ROW 34 (0, 0)) → W.heap[vb]? = some (.cells #[a, b] 34 (0, 0)) → ∀ ty dc, (Builtin.copy_ #[23, 23] ty #[.slice (some ⟨N, i * 2, none⟩) (n + 1 - i) dc, .slice (some ⟨vb, 0, none⟩) 1 1]).run Try.prog W = .ok (goInt (Nat.min 1 (n + 1 - i))) (W.setRow N C1) := fun W hW hWv ty dc => by
  rw [hC1]
  refine run_copy_rowK 2 W _ _ ty 34 N (i * 2) (n + 1 - i) dc ⟨vb, 0, none⟩ 1 1 ROW 34 [a, b] Try.underlying23 hs2 hW (by simp only [Nat.min_def, List.length_cons, List.length_nil]; split <;> omega) (fun j v hj => ?_) (by simp; omega) (fun v hv => by simp at hv; rcases hv with rfl | rfl <;> assumption)
  rw [Addr.add_lit]
  have hlt : j < 2 := by have := (List.getElem?_eq_some_iff.1 hj).1; simpa using this
  simp [World.cell?, hWv]
  simpa using hj
 have hdl : (cur.toList.drop (i * 2)).length = (n - i) * 2 := by simp; omega
 obtain ⟨C2, hC2⟩ : ∃ C2, C2 = (C1.toList.take ((i + 1) * 2) ++ cur.toList.drop (i * 2) ++ C1.toList.drop ((i + 1) * 2 + (cur.toList.drop (i * 2)).length)).toArray := ⟨_, rfl⟩
 have hC2s : C2.size = G * 2 := by rw [hC2]; simp [hC1s]; omega
 have hcpB : ∀ (W : World), W.heap[N]? = some (.cells C1 34 (0, 0)) → W.heap[g]? = some (.cells cur 34 (0, 0)) → ∀ ty dc sc, (Builtin.copy_ #[23, 23] ty #[.slice (some ⟨N, (i + 1) * 2, none⟩) (n - i) dc, .slice (some ⟨g, i * 2, none⟩) (n - i) sc]).run Try.prog W = .ok (goInt (Nat.min (n - i) (n - i))) (W.setRow N C2) := fun W hW hWg ty dc sc => by
  rw [hC2]
  refine run_copy_rowK 2 W _ _ ty 34 N ((i + 1) * 2) (n - i) dc ⟨g, i * 2, none⟩ (n - i) sc C1 34 (cur.toList.drop (i * 2)) Try.underlying23 hs2 hW (by rw [hdl]; simp only [Nat.min_def]; split <;> omega) (fun j v hj => ?_) (by omega) (fun v hv => h1 v (List.mem_of_mem_drop hv))
  rw [Addr.add_lit]
  rw [List.getElem?_drop] at hj
  simp [World.cell?, hWg]
  simpa using hj
 have hfin : C2.toList.take ((n + 1) * 2) = insL cur.toList (i * 2) [a, b] := by
  have e3 : C1.toList.take ((i + 1) * 2) = cur.toList.take (i * 2) ++ [a, b] := by
   rw [hC1, List.toList_toArray, hRt, List.take_left' (by simp; omega)]
  unfold insL
  rw [hC2, List.toList_toArray, e3, List.take_left' (by simp; omega)]
 have kA : (W1.setRow N C1).heap[N]? = some (.cells C1 34 (0, 0)) := setRow_heap W1 N ROW C1 34 (0, 0) hN1
 have kB : ∀ (W : World), W.heap[N]? = some (.cells C1 34 (0, 0)) → (W.setRow N C2).heap[N]? = some (.cells C2 34 (0, 0)) := fun W h => setRow_heap W N C1 C2 34 (0, 0) h
 have hgA : (W1.setRow N C1).heap[g]? = some (.cells cur 34 (0, 0)) := (setRow_other W1 N g C1 (by omega)).trans ((ho1 g hbw).trans hg)
 have hw1 : IntKind.i64.wrap ((i : Int) + (1 : Int)) = (i : Int) + (1 : Int) := by rw [IntKind.wrap_i64]; omega
 have hb1 : (0 : Int) ≤ (i : Int) + (1 : Int) := by omega
 have htn : ((i : Int) + (1 : Int)).toNat = i + 1 := by omega
 have hb3 : (i : Int) ≤ (n : Int) + (1 : Int) := by omega
 have hb4 : ¬ (n = i) := by omega
 have hb5 : (i : Int) + (1 : Int) ≤ (n : Int) + (1 : Int) := by omega
 have hb9 : i ≤ n := by omega
 have hb10 : (i : Int) ≤ (n : Int) := by omega
 have hb6 : ¬ (G = i) := by omega
 have hb7 : ¬ (G = i + 1) := by omega
 have hb8 : (n : Int) < (n : Int) + 1 := by omega
 have hG63 : G ≤ 9223372036854775807 := by unfold maxLen at hGm; omega
 have HX := Hid0.mk (show n + 1 ≤ G ∧ G ≤ maxLen ∧ C2.size = G * 2 ∧ C2.toList.take ((n + 1) * 2) = insL cur.toList (i * 2) [a, b] from ⟨hGn, hGm, hC2s, hfin⟩)
 have HV := Hid0.mk ((ho1 vb hvw).trans hv)
 have HO := Hid0.mk ho1
 have HS := Hid0.mk (show W1.heap.size = N + 1 ∧ N = w.heap.size from ⟨hz1, hN⟩)
 have HP := Hid0.mk (show W1.os = w.os ∧ W1.tape = w.tape ∧ W1.output = w.output from by rw [hW1]; exact ⟨rfl, rfl, rfl⟩)
 have HK := Hid0.mk (show N + 1 ≤ W1.heap.size ∧ N = w.heap.size from ⟨by omega, hN⟩)
 have HA := Hid0.mk kA
 have HB := Hid0.mk kB
 have HGA := Hid0.mk hgA
 have HN1 := Hid0.mk hN1
 rw [← hN]
 clear hkk hik hold hROW hG hRs hRt hW1 ho1 hz1 hC1 hC1s hdl hC2 hC2s hfin kA kB hgA hGm hN1 hN hv hg hsz h1 hbw hvw
 go_enter Try.func131, Try.ntmps131
 go_wp2_with (first
  | ((with_reducible refine wpList_copy_runJ (o := ⟨some 45, _, _, _, _, _⟩) _ rfl (.tmp 43) (.tmp 44) 23 23 rfl (.slice (some ⟨N, i * 2, none⟩) (n + 1 - i) (G - i)) (.slice (some ⟨vb, 0, none⟩) 1 1) ?_ ?_ (hcpA _ HN1.out HV.out 3 _) ?_); (case refine_1 => rfl); (case refine_2 => rfl))
  | (at_builtin; refine Lib.wpList_append_run _ rfl _ _ _ _ rfl _ _ rfl rfl _ _ (hrz _) ?_))
 go_region_law (refine step_copy_runJ rfl _ _ 23 23 rfl (.slice (some ⟨N, (i + 1) * 2, none⟩) (n - i) (G - (i + 1))) (.slice (some ⟨g, i * 2, none⟩) (n - i) (n - i)) (by simp [Act.eval, Act.put]) (by simp [Act.eval, Act.put]) (hcpB (W1.setRow N C1).drew HA.out HGA.out 3 (G - (i + 1)) (n - i)) ?_)
 go_wp2
 go_ret
 refine ⟨G, rfl, C2, HX.out.1, HX.out.2.1, HB.out _ HA.out, HX.out.2.2.1, HX.out.2.2.2, HP.out.1, HP.out.2.1, HP.out.2.2, ?_, ?_⟩
 · have := HS.out; simp; omega
 · intro k hk _
   have := HS.out
   have hkn : k ≠ N := by omega
   exact (setRow_other _ N k _ hkn).trans ((setRow_other _ N k _ hkn).trans (HO.out k (by omega)))
end
def dcs (x : S34) : List Value := [.string x.f0, .int .i64 x.f1]
def flatD (l : List S34) : List Value := l.flatMap dcs
theorem flat_len : ∀ l : List S34, (flatD l).length = l.length * 2
 | [] => rfl
 | x :: l => by
   have := flat_len l
   simp only [flatD, List.flatMap_cons, List.length_append, List.length_cons, dcs, List.length_nil] at this ⊢
   omega
theorem flat_at : ∀ (l : List S34) (j : Nat) (x : S34), l[j]? = some x → ((flatD l).drop (j * 2)).take 2 = dcs x
 | [], j, x, h => by simp at h
 | y :: l, 0, x, h => by
   simp at h; subst h; simp [flatD, dcs]
 | y :: l, j + 1, x, h => by
   have := flat_at l j x (by simpa using h)
   rw [← this, show (j + 1) * 2 = j * 2 + 1 + 1 by omega]
   simp [flatD, dcs]
theorem flat_of (l : List S34) (cs : List Value) (hl : cs.length = l.length * 2) (h : ∀ j x, l[j]? = some x → (cs.drop (j * 2)).take 2 = dcs x) : cs = flatD l := by
 induction l generalizing cs with
 | nil => exact List.eq_nil_of_length_eq_zero (by simpa using hl)
 | cons y l ih =>
   have h0 := h 0 y rfl
   simp only [Nat.zero_mul, List.drop_zero] at h0
   have h1 := ih (cs.drop 2) (by simp at hl ⊢; omega) (fun j x hj => by rw [List.drop_drop, show 2 + j * 2 = (j + 1) * 2 by omega]; exact h (j + 1) x (by simpa using hj))
   rw [← List.take_append_drop 2 cs, h0, h1]
   rfl
theorem R_flat {w : World} {base : Nat} {ok : Nat → Prop} {v : Value} {l : List S34} (h : Kd.R k34 34 w base ok v l) : w.ownsRow base 34 2 v l.length (flatD l) := by
 obtain ⟨_, cs, ho, hr⟩ := h
 have : cs = flatD l := flat_of l cs hr.1 fun j x hj => k34_openM (hr.2 j x hj)
 rw [← this]
 exact ho
theorem flat_R {w : World} {base : Nat} {v : Value} {l : List S34} (h : w.ownsRow base 34 2 v l.length (flatD l)) : Kd.R k34 34 w base (fun _ => True) v l :=
 ⟨fun _ _ => trivial, flatD l, h, flat_len l, fun j x hj => by
  show k34.M w base _ x (((flatD l).drop (j * 2)).take 2)
  rw [flat_at l j x hj]
  exact k34_mkM _ _ _ _⟩
theorem flat_app (a b : List S34) : flatD (a ++ b) = flatD a ++ flatD b := by simp [flatD]
theorem flat_take : ∀ (l : List S34) (i : Nat), (flatD l).take (i * 2) = flatD (l.take i)
 | [], i => by simp [flatD]
 | x :: l, 0 => by simp [flatD]
 | x :: l, i + 1 => by
   rw [show (i + 1) * 2 = i * 2 + 1 + 1 by omega, List.take_succ_cons]
   have := flat_take l i
   simp only [flatD, List.flatMap_cons, dcs, List.cons_append, List.nil_append, List.take_succ_cons] at this ⊢
   rw [this]
theorem flat_drop : ∀ (l : List S34) (i : Nat), (flatD l).drop (i * 2) = flatD (l.drop i)
 | [], i => by simp [flatD]
 | x :: l, 0 => by simp [flatD]
 | x :: l, i + 1 => by
   rw [show (i + 1) * 2 = i * 2 + 1 + 1 by omega, List.drop_succ_cons]
   have := flat_drop l i
   simp only [flatD, List.flatMap_cons, dcs, List.cons_append, List.nil_append, List.drop_succ_cons] at this ⊢
   rw [this]
theorem ins_flat (l : List S34) (i : Nat) (x : S34) : insL (flatD l) (i * 2) [.string x.f0, .int .i64 x.f1] = flatD (l.take i ++ [x] ++ l.drop i) := by
 unfold insL
 rw [flat_app, flat_app, flat_take, flat_drop]
 rfl
theorem set_flat : ∀ (l : List S34) (i : Nat) (d : Int), i < l.length → (flatD l).set (i * 2 + 1) (.int .i64 d) = flatD (l.set i ⟨(l.getD i z34).f0, d⟩)
 | [], i, d, h => by simp at h
 | x :: l, 0, d, _ => by simp [flatD, dcs]
 | x :: l, i + 1, d, h => by
   have := set_flat l i d (by simpa using h)
   rw [show (i + 1) * 2 + 1 = (i * 2 + 1) + 1 + 1 by omega]
   simp only [flatD, List.flatMap_cons, dcs, List.cons_append, List.nil_append, List.set_cons_succ, List.getD_cons_succ] at this ⊢
   rw [this]
theorem flat_one (l : List S34) : ∀ v ∈ flatD l, v.oneCell' = true := fun v hv => by
 simp only [flatD, List.mem_flatMap] at hv
 obtain ⟨x, _, hx⟩ := hv
 simp [dcs] at hx
 rcases hx with rfl | rfl <;> rfl
theorem insert_dot (base : Nat) (v : Value) (l : List S34) (i vb : Nat) (x : S34) (w : World) (hn : l.length ≤ 1000) (hi : i ≤ l.length) (ho : Kd.R k34 34 w base (fun _ => True) v l) (hbase : base ≤ w.heap.size)
 (hv : w.heap[vb]? = some (.cells #[.string x.f0, .int .i64 x.f1] 34 (0, 0))) (hne : v.ownBlock ≠ some vb) :
 Calls Try.prog 131 #[v, .int .i64 i, .slice (some ⟨vb, 0, none⟩) 1 1] w fun e w' => ∃ v', e = .returned v' ∧ Kd.R k34 34 w' base (fun _ => True) v' (l.take i ++ [x] ++ l.drop i) ∧ Below base w w' := by
 have hown := R_flat ho
 have hone := flat_one l
 by_cases hin : i = l.length
 · subst hin
   refine (ins_end base v l.length vb (flatD l) _ _ w hn hown hbase hv rfl rfl).mono ?_
   rintro e w' ⟨v', rfl, h1, h2⟩
   refine ⟨v', rfl, flat_R ?_, (Below.refl base w).grown h2 hbase (fun k hk => own_base hown k hk)⟩
   rw [List.take_of_length_le (Nat.le_refl _), List.drop_of_length_le (Nat.le_refl _), List.append_nil, flat_app]
   simpa [flatD, dcs] using h1
 · rcases hown.2 with ⟨rfl, h0⟩ | ⟨g, cap, cur, rfl, hg, hc, hle, hcm, hsz, htk⟩
   · omega
   · have hlen : (l.take i ++ [x] ++ l.drop i).length = l.length + 1 := by simp; omega
     have hvg : vb ≠ g := fun e => hne (by rw [e]; rfl)
     by_cases hroom : l.length + 1 ≤ cap
     · refine (ins_shift g l.length cap i vb cur _ _ w (by omega) hroom (by unfold maxLen at hcm; omega) hc hsz hv hvg (by rw [htk]; exact hone) rfl rfl).mono ?_
       rintro e w' ⟨rfl, C, h1, h2, h3, h4⟩
       refine ⟨_, rfl, flat_R ?_, (Below.refl base w).grown h4 hbase (fun k hk => by cases hk; exact hg)⟩
       rw [hlen, ← ins_flat, ← htk]
       exact ⟨by rw [htk]; simp [insL, flat_len]; omega, .inr ⟨g, cap, C, rfl, hg, h1, hroom, hcm, h2, h3⟩⟩
     · obtain rfl : cap = l.length := by omega
       have hcl : cur.toList = flatD l := by rw [← htk, List.take_of_length_le (by rw [Array.length_toList]; omega)]
       refine (ins_grow g l.length i vb cur _ _ w (by omega) hn hc hsz hv (by rw [hcl]; exact hone) rfl rfl).mono ?_
       rintro e w' ⟨cap', rfl, C, h0, h1, h2, h3, h4, h5⟩
       refine ⟨_, rfl, flat_R ?_, (Below.refl base w).grown h5 hbase (fun k hk => by cases hk)⟩
       rw [hlen, ← ins_flat, ← hcl]
       exact ⟨by rw [hcl]; simp [insL, flat_len]; omega, .inr ⟨_, cap', C, rfl, hbase, h2, h0, h1, h3, h4⟩⟩
def vector_With.f (k : Nat) (l0 : List S34) (n : ByteArray) (d : Int) : Option (List S34 × Int) :=
 (vector_Right.f k l0).bind fun r0 => if r0 = true then ((vector_isDot.f n d).bind fun r1 => if r1 = true then ((vector_find.f l0 n).bind fun t => (api_Dot_66.f l0).bind fun out =>
  if t.2 = true then (if 0 ≤ t.1 then (if t.1 < (out.length : Int) then (if (rd_T34 l0 t.1).f1 = d - 1 then some (out.set t.1.toNat ⟨(out.getD t.1.toNat z34).f0, d⟩, 0) else some ([], 70)) else none) else none)
  else (if d = 1 then (if out.length = 64 then some ([], 70) else (if 0 ≤ t.1 then (if t.1 ≤ (out.length : Int) then (if out.length ≤ 1000 then some (out.take t.1.toNat ++ [⟨n, d⟩] ++ out.drop t.1.toNat, 0) else none) else none) else none)) else some ([], 70)))
  else some ([], 2)) else some ([], 2)
set_option maxHeartbeats 4000000 in
set_option maxRecDepth 100000 in
theorem vector_With.calls (k : Nat) (A0 : Option Addr) (c0 : Nat) (l0 : List S34) (n : ByteArray) (d : Int) (r1 : List S34) (r2 : Int) (w : World) (hr0 : Kd.C k34 w A0 l0.length l0) (hc0 : l0.length ≤ c0) (h : vector_With.f k l0 n d = some (r1, r2)) :
 Calls Try.prog 108 #[.slice A0 l0.length c0, .agg #[.string n, .int .i64 d]] w fun e w' => ∃ v0_ : Value, e = .returned (.tuple #[v0_, .int .i64 r2]) ∧ Kd.R k34 34 w' w.heap.size (fun _ => True) v0_ r1 ∧ Below w.heap.size w w' := by
 unfold vector_With.f at h
 obtain ⟨r0, h0, h⟩ := Option.bind_eq_some_iff.mp h
 have H0 := Aside0.mk h0
 have HB0 := Aside0.mk ((Below.refl w.heap.size w).alloc (Nat.le_refl _) (.cells #[.string n, .int .i64 d] 34))
 have HR0 := Aside0.mk hr0
 have HC0 := Aside0.mk hc0
 clear h0 hr0 hc0
 cases r0 with
 | false =>
  simp only [Bool.false_eq_true, if_false] at h
  simp only [Option.some.injEq, Prod.mk.injEq] at h
  obtain ⟨rfl, rfl⟩ := h
  go_enter Try.func108, Try.ntmps108
  go_wp2_with fail
  refine (vector_Right.calls k A0 c0 l0 false _ (Kd.C_below HR0.out HB0.out) HC0.out H0.out).mono ?_
  rintro e w1 ⟨rfl, hb1⟩
  have HB1 := Aside0.mk (HB0.out.trans (hb1.mono (by simp)))
  clear hb1
  go_wp2
  go_ret2
  exact ⟨_, rfl, Kd.R_nil _ _ _ _ _, HB1.out⟩
 | true =>
  simp only [if_true] at h
  obtain ⟨r1_, h1, h⟩ := Option.bind_eq_some_iff.mp h
  have H1 := Aside0.mk h1
  clear h1
  cases r1_ with
  | false =>
   simp only [Bool.false_eq_true, if_false] at h
   simp only [Option.some.injEq, Prod.mk.injEq] at h
   obtain ⟨rfl, rfl⟩ := h
   go_enter Try.func108, Try.ntmps108
   go_wp2_with fail
   refine (vector_Right.calls k A0 c0 l0 true _ (Kd.C_below HR0.out HB0.out) HC0.out H0.out).mono ?_
   rintro e w1 ⟨rfl, hb1⟩
   have HB1 := Aside0.mk (HB0.out.trans (hb1.mono (by simp)))
   have hE1 := (hb1.block w.heap.size (by simp)).trans (blk_new w (.cells #[.string n, .int .i64 d] 34))
   have e0 : w1.cell? ⟨w.heap.size, 0, none⟩ = some (.string n) := (blk_cell hE1 0).trans rfl
   have e1 : w1.cell? ⟨w.heap.size, 1, none⟩ = some (.int .i64 d) := (blk_cell hE1 1).trans rfl
   clear hb1 hE1
   go_wp2_with fail
   refine (vector_isDot.calls n d false _ H1.out).mono ?_
   rintro e w2 ⟨rfl, hb2⟩
   have HB2 := Aside0.mk (HB1.out.trans (hb2.mono HB1.out.size))
   clear hb2 e0 e1
   go_wp2
   go_ret2
   exact ⟨_, rfl, Kd.R_nil _ _ _ _ _, HB2.out⟩
  | true =>
   simp only [if_true] at h
   obtain ⟨⟨i, ok⟩, h2, h⟩ := Option.bind_eq_some_iff.mp h
   obtain ⟨out, h3, h⟩ := Option.bind_eq_some_iff.mp h
   have H2 := Aside0.mk h2
   have H3 := Aside0.mk h3
   have HH := Aside0.mk h
   clear h2 h3 h
   go_enter Try.func108, Try.ntmps108
   go_wp2_with fail
   refine (vector_Right.calls k A0 c0 l0 true _ (Kd.C_below HR0.out HB0.out) HC0.out H0.out).mono ?_
   rintro e w1 ⟨rfl, hb1⟩
   have HB1 := Aside0.mk (HB0.out.trans (hb1.mono (by simp)))
   have hE1 := (hb1.block w.heap.size (by simp)).trans (blk_new w (.cells #[.string n, .int .i64 d] 34))
   have e0 : w1.cell? ⟨w.heap.size, 0, none⟩ = some (.string n) := (blk_cell hE1 0).trans rfl
   have e1 : w1.cell? ⟨w.heap.size, 1, none⟩ = some (.int .i64 d) := (blk_cell hE1 1).trans rfl
   have HE1 := Aside0.mk hE1
   clear hb1 hE1
   go_wp2_with fail
   refine (vector_isDot.calls n d true _ H1.out).mono ?_
   rintro e w2 ⟨rfl, hb2⟩
   have HB2 := Aside0.mk (HB1.out.trans (hb2.mono HB1.out.size))
   have hE2 := (hb2.block w.heap.size (blk_lt HE1.out)).trans HE1.out
   have e2 : w2.cell? ⟨w.heap.size, 0, none⟩ = some (.string n) := (blk_cell hE2 0).trans rfl
   have e3 : w2.cell? ⟨w.heap.size, 1, none⟩ = some (.int .i64 d) := (blk_cell hE2 1).trans rfl
   have HE2 := Aside0.mk hE2
   clear hb2 e0 e1 hE2 HE1
   go_wp2_with fail
   refine (vector_find.calls A0 c0 l0 n i ok _ (Kd.C_below HR0.out HB2.out) HC0.out H2.out).mono ?_
   rintro e w3 ⟨rfl, hb3⟩
   have HB3 := Aside0.mk (HB2.out.trans (hb3.mono HB2.out.size))
   have HE3 := Aside0.mk ((hb3.block w.heap.size (blk_lt HE2.out)).trans HE2.out)
   clear hb3 e2 e3 HE2
   go_wp2_with fail
   refine (api_Dot_66.calls A0 c0 l0 out _ (Kd.C_below HR0.out HB3.out) HC0.out H3.out).mono ?_
   rintro e w4 ⟨v4, rfl, ho4, hb4⟩
   have HB4 := Aside0.mk (HB3.out.trans (hb4.mono HB3.out.size))
   have hE4 := (hb4.block w.heap.size (blk_lt HE3.out)).trans HE3.out
   have HN4 := Aside0.mk (show v4.ownBlock ≠ some w.heap.size from fun e => by
    have := own_base (R_flat ho4) _ e
    have := blk_lt HE3.out
    omega)
   have HO4 := Aside0.mk (Kd.R_lower ho4 HB3.out.size)
   have HC4 := Aside0.mk (Kd.C_below HR0.out HB4.out)
   have HE4 := Aside0.mk hE4
   have hd : 1 ≤ d ∧ d ≤ 4611686018427387904 := by
    have := H1.out
    unfold vector_isDot.f at this
    obtain ⟨b, _, hq⟩ := Option.bind_eq_some_iff.mp this
    cases b with
    | false => simp at hq
    | true =>
      simp only [if_true] at hq
      by_cases hd : d ≥ 1
      · rw [if_pos hd] at hq; simp at hq; exact ⟨hd, hq⟩
      · rw [if_neg hd] at hq; simp at hq
   obtain ⟨hd0, hd1⟩ := hd
   have hol : out = l0 := by
    have := H3.out
    unfold api_Dot_66.f at this
    by_cases hz : l0.length * 24 ≤ 140737488355328
    · rw [if_pos hz] at this; exact (Option.some.inj this).symm
    · rw [if_neg hz] at this; cases this
   subst hol
   clear ho4 hb4 hE4 HE3 H0 H1 H2 H3
   have h := HH.out
   clear HH
   have g0 : w4.cell? ⟨w.heap.size, 0, none⟩ = some (.string n) := (blk_cell HE4.out 0).trans rfl
   have g1 : w4.cell? ⟨w.heap.size, 1, none⟩ = some (.int .i64 d) := (blk_cell HE4.out 1).trans rfl
   have g2 : w4.frozen? ⟨w.heap.size, 0, none⟩ = false := blk_frozen HE4.out 0
   have g3 : w4.frozen? ⟨w.heap.size, 1, none⟩ = false := blk_frozen HE4.out 1
   cases ok with
   | true =>
    simp only [if_true] at h
    by_cases q0 : 0 ≤ i
    case neg => rw [if_neg q0] at h; cases h
    by_cases q1 : i < (out.length : Int)
    case neg => rw [if_pos q0, if_neg q1] at h; cases h
    rw [if_pos q0, if_pos q1] at h
    obtain ⟨ad, hA, hx0, hx1⟩ := at_T34 HC4.out i q0 q1
    subst hA
    by_cases q2 : (rd_T34 out i).f1 = d - 1
    · have q3 : ((rd_T34 out i).f1 == d - 1) = true := by simpa using q2
      rw [if_pos q2] at h
      simp only [Option.some.injEq, Prod.mk.injEq] at h
      obtain ⟨rfl, rfl⟩ := h
      obtain ⟨j, rfl⟩ : ∃ j : Nat, i = (j : Int) := ⟨i.toNat, by omega⟩
      simp only [Int.toNat_natCast] at hx0 hx1
      have hown := R_flat HO4.out
      rcases hown.2 with ⟨_, h0⟩ | ⟨g, cap, cur, rfl, hg, hc, hle, hcm, hsz, htk⟩
      · omega
      have hlen := flat_len out
      have hjl : j * 2 + 1 < cur.size := by omega
      obtain ⟨u0, k0⟩ : ∃ u0, w4.cell? ⟨g, j * 2 + 1, none⟩ = some u0 := ⟨cur[j * 2 + 1], by simp [World.cell?, hc, hjl]⟩
      have k1 : w4.frozen? ⟨g, j * 2 + 1, none⟩ = false := blk_frozen hc _
      have HST := Aside0.mk (fun (nq : Nat) => (show (w4.drewN nq).ownsRow w.heap.size 34 2 (.slice (some ⟨g, 0, none⟩) out.length cap) out.length (flatD out) from hown).stored (j * 2 + 1) (.int .i64 d))
      have HLT := Aside0.mk (show j < out.length by omega)
      have HG := Aside0.mk hg
      clear hown hlen hjl hg hc hcm hsz htk q2
      go_wp2_with fail
      repeat (go_quiet (fail); go_wp2_with fail)
      go_ret2
      refine ⟨_, rfl, flat_R ?_, (pw_below_drewN HB4.out _).setCell HG.out _⟩
      rw [List.length_set, Int.toNat_natCast, ← set_flat out j d HLT.out]
      exact (HST.out _).1
    · have q3 : ((rd_T34 out i).f1 == d - 1) = false := by simpa using q2
      rw [if_neg q2] at h
      simp only [Option.some.injEq, Prod.mk.injEq] at h
      obtain ⟨rfl, rfl⟩ := h
      go_wp2_with fail
      repeat (go_quiet (fail); go_wp2)
      go_ret2
      exact ⟨_, rfl, Kd.R_nil _ _ _ _ _, (by first | exact HB4.out | exact pw_below_drewN HB4.out _)⟩
   | false =>
    simp only [Bool.false_eq_true, if_false] at h
    by_cases q0 : d = 1
    case neg =>
     have q3 : (d != 1) = true := by simpa using q0
     rw [if_neg q0] at h
     simp only [Option.some.injEq, Prod.mk.injEq] at h
     obtain ⟨rfl, rfl⟩ := h
     go_wp2_with fail
     repeat (go_quiet (fail); go_wp2)
     go_ret2
     exact ⟨_, rfl, Kd.R_nil _ _ _ _ _, (by first | exact HB4.out | exact pw_below_drewN HB4.out _)⟩
    subst q0
    rw [if_pos rfl] at h
    by_cases q1 : out.length = 64
    · have q3 : ((out.length : Int) == 64) = true := by simp; omega
      rw [if_pos q1] at h
      simp only [Option.some.injEq, Prod.mk.injEq] at h
      obtain ⟨rfl, rfl⟩ := h
      clear q1
      go_wp2_with fail
      repeat (go_quiet (fail); go_wp2)
      go_ret2
      exact ⟨_, rfl, Kd.R_nil _ _ _ _ _, (by first | exact HB4.out | exact pw_below_drewN HB4.out _)⟩
    have q3 : ((out.length : Int) == 64) = false := by simp; omega
    rw [if_neg q1] at h
    by_cases q4 : 0 ≤ i
    case neg => rw [if_neg q4] at h; cases h
    by_cases q5 : i ≤ (out.length : Int)
    case neg => rw [if_pos q4, if_neg q5] at h; cases h
    by_cases q6 : out.length ≤ 1000
    case neg => rw [if_pos q4, if_pos q5, if_neg q6] at h; cases h
    rw [if_pos q4, if_pos q5, if_pos q6] at h
    simp only [Option.some.injEq, Prod.mk.injEq] at h
    obtain ⟨rfl, rfl⟩ := h
    obtain ⟨j, rfl⟩ : ∃ j : Nat, i = (j : Int) := ⟨i.toNat, by omega⟩
    clear q1
    have HN5 := Aside0.mk (show v4.ownBlock ≠ some w4.heap.size from fun e => by have := own_lt (R_flat HO4.out) _ e; omega)
    have Q5 := Aside0.mk q5
    have Q6 := Aside0.mk q6
    clear q5 q6
    go_wp2_with fail
    repeat (go_quiet (fail); go_wp2_with fail)
    refine (insert_dot w.heap.size v4 out j w4.heap.size ⟨n, 1⟩ _ Q6.out (by have := Q5.out; omega) (Kd.R_alloc (Kd.R_drewN HO4.out _) _) (by have := HB4.out.size; simp; omega) (blk_new _ _) HN5.out).mono ?_
    rintro e w5 ⟨v5, rfl, ho5, hb5⟩
    have HO5 := Aside0.mk ho5
    have HB5 := Aside0.mk (((pw_below_drewN HB4.out _).alloc (by have := HB4.out.size; simpa using this) _).trans hb5)
    clear ho5 hb5
    go_wp2_with fail
    go_ret2
    exact ⟨_, rfl, HO5.out, HB5.out⟩
end
def pannierref07_At.l0 : Nat → List (S34) → ByteArray → Int → Option (Int)
 | 0, _, _, _ => none
 | k + 1, x0, x1, x5 => if x5 < (x0.length : Int) then (if 0 ≤ x5 then (if ((rd_T34 x0 x5).f0).toList = x1.toList then (some ((rd_T34 x0 x5).f1)) else (pannierref07_At.l0 k x0 x1 (wrap64 (x5 + 1)))) else (none)) else (some 0)
def pannierref07_At.f (k : Nat) (l0 : List (S34)) (a1 : ByteArray) : Option (Int) := pannierref07_At.l0 k l0 a1 0
set_option maxHeartbeats 8000000 in
set_option maxRecDepth 100000 in
theorem pannierref07_At.calls (k : Nat) (A0 : Option Addr) (c0 : Nat) (l0 : List (S34)) (a1 : ByteArray) (r : Int) (w : World) (hr0 : Kd.C k34 w A0 l0.length l0) (hc0 : l0.length ≤ c0) (h : pannierref07_At.f k l0 a1 = some r) :
 Calls Try.prog 57 #[.slice A0 l0.length c0, .string a1] w fun e w' => e = .returned (.int .i64 r) ∧ Drawn0 w w' := by
 have HR0 := Aside0.mk hr0
 have HC0 := Aside0.mk hc0
 clear hr0 hc0
 have H : (pannierref07_At.l0 k l0 a1 0) = some r := h
 clear h
 have H' := Aside0.mk H
 clear H
 go_enter Try.func57, Try.ntmps57
 go_wp2
 go_loopg [5] k (fun kq v5 w' => ∃ (x5_1 : Int), v5 = .int .i64 x5_1 ∧ Aside0 (pannierref07_At.l0 kq l0 a1 x5_1 = some r) ∧ Aside0 (kq ≤ k) ∧ Drawn0 w w')
 case atStart => exact ⟨(0), (by first | rfl | (simp; done) | (simp [*]; done)), H', ⟨Nat.le_refl _⟩, by repeat (first | exact Drawn0.refl _ | apply Drawn0.step)⟩
 case round =>
  clear H'
  try clear p2
  obtain ⟨x5_1, rfl, HA, HK1, ⟨m1, rfl⟩⟩ := hrel
  cases gk with
  | zero => exact absurd HA.out (by simp [pannierref07_At.l0])
  | succ k1 =>
   have H := HA.out
   clear HA
   simp only [pannierref07_At.l0] at H
   by_cases c3 : x5_1 < (l0.length : Int)
   · rw [if_pos c3] at H
     have c3b0 : decide (x5_1 < (l0.length : Int)) = true := decide_eq_true c3
     clear c3
     by_cases c4 : 0 ≤ x5_1
     · rw [if_pos c4] at H
       have c4b0 : decide (0 ≤ x5_1) = true := decide_eq_true c4
       clear c4
       by_cases c5 : ((rd_T34 l0 x5_1).f0).toList = a1.toList
       · rw [if_pos c5] at H
         have c5b0 : (((rd_T34 l0 x5_1).f0).toList == a1.toList) = true := beq_iff_eq.mpr c5
         have c5b1 : (((rd_T34 l0 x5_1).f0).toList != a1.toList) = false := bne_eq_false_iff_eq.mpr c5
         clear c5
         obtain rfl := Option.some.inj H
         have p155 : 0 ≤ (x5_1 : Int) := of_decide_eq_true (by first | (with_reducible assumption) | assumption)
         have q155 : x5_1 < (l0.length : Int) := of_decide_eq_true (by first | (with_reducible assumption) | assumption)
         obtain ⟨ad155, e155, hx155_0, hx155_1⟩ := at_T34 HR0.out x5_1 p155 q155
         cases e155
         replace p155 := eq_true p155
         replace q155 := eq_true q155
         have p156 : 0 ≤ (x5_1 : Int) := of_decide_eq_true (by first | (with_reducible assumption) | assumption)
         have q156 : x5_1 < (l0.length : Int) := of_decide_eq_true (by first | (with_reducible assumption) | assumption)
         obtain ⟨ad156, e156, hx156_0, hx156_1⟩ := at_T34 HR0.out x5_1 p156 q156
         obtain rfl : ad155 = ad156 := (by injection e156)
         replace p156 := eq_true p156
         replace q156 := eq_true q156
         go_wp2
         go_ret
         exact ⟨by first | rfl | (simp; done) | (simp [*]; done), by repeat (first | exact Drawn0.refl _ | apply Drawn0.step)⟩
       · rw [if_neg c5] at H
         have c5b0 : (((rd_T34 l0 x5_1).f0).toList == a1.toList) = false := beq_eq_false_iff_ne.mpr c5
         have c5b1 : (((rd_T34 l0 x5_1).f0).toList != a1.toList) = true := bne_iff_ne.mpr c5
         have H' := Aside0.mk H
         clear H
         have p155 : 0 ≤ (x5_1 : Int) := of_decide_eq_true (by first | (with_reducible assumption) | assumption)
         have q155 : x5_1 < (l0.length : Int) := of_decide_eq_true (by first | (with_reducible assumption) | assumption)
         obtain ⟨ad155, e155, hx155_0, hx155_1⟩ := at_T34 HR0.out x5_1 p155 q155
         cases e155
         replace p155 := eq_true p155
         replace q155 := eq_true q155
         go_wp2
         go_roundg k1
         case measure => have := HK1.out; omega
         case rel => exact ⟨(wrap64 (x5_1 + 1)), (by first | rfl | (simp; done) | (simp [*]; done)), H', ⟨by have := HK1.out; omega⟩, by repeat (first | exact Drawn0.refl _ | apply Drawn0.step)⟩
     · rw [if_neg c4] at H
       exact absurd H (by simp)
   · rw [if_neg c3] at H
     have c3b0 : decide (x5_1 < (l0.length : Int)) = false := decide_eq_false c3
     clear c3
     obtain rfl := Option.some.inj H
     go_wp2
     go_ret
     exact ⟨by first | rfl | (simp; done) | (simp [*]; done), by repeat (first | exact Drawn0.refl _ | apply Drawn0.step)⟩
end Go.Proofs.Ytenbkljgmgdegaa.PO
