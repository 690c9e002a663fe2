/- What the rows of this claim use, out of the texts of this work (XColl). No condition beyond those that each statement names. -/
import Derived.Shelf.SlSortCmp.WholeK
import Derived.Test.YtjejhgjdmbodiaaZdX
import Derived.Test.YtjejhgjdmbodiaaZdW
namespace Go.Proofs.Ytjejhgjdmbodiaa.XColl
open Go Go.RowKit Go.Sort Go.Proofs.Ytjejhgjdmbodiaa.XRange Go.Proofs.YtjejhgjdmbodiaaW.PrintWords
set_option linter.unusedVariables false
def flat {α : Type} (k : Nat) (enc : α → List Value) (hl : ∀ x, (enc x).length = k) (h1 : ∀ x, ∀ u ∈ enc x, u.oneCell' = true) : Kd α where
 sz := k
 E := []
 K _ x cs := cs = enc x
 M _ _ _ x cs := cs = enc x
 K_len := fun h => by rw [h]; exact hl _
 K_one := fun h => by rw [h]; exact h1 _
 K_below := fun _ h => h
 K_of_M := fun h => h
 M_mono := fun _ h => h
 M_bound := fun h => h
 M_move := fun _ h => h
 M_lower := fun _ h => h
section
variable {α : Type} [Inhabited α] {k : Nat} {enc : α → List Value} {hl : ∀ x, (enc x).length = k} {h1 : ∀ x, ∀ u ∈ enc x, u.oneCell' = true}
theorem holds_of {e b n c base : Nat} {ok : Nat → Prop} {w : World} {xs : List α} (h : (flat k enc hl h1).R e w base ok (.slice (some ⟨b, 0, none⟩) n c) xs) : HoldsK enc k w b 0 xs.toArray := by
 have hn : n = xs.length := (Kd.R_reads' h).1
 subst hn
 have hc := (Kd.R_reads' h).2.2
 intro t ht
 rw [size_flatK, List.size_toArray] at ht
 have hk : 0 < k := by rcases Nat.eq_zero_or_pos k with h | h; (subst h; simp at ht); exact h
 have hq : t / k < xs.length := Nat.div_lt_of_lt_mul (by rw [Nat.mul_comm]; exact ht)
 have hxp : 0 < xs.length := Nat.lt_of_le_of_lt (Nat.zero_le _) hq
 obtain ⟨ad, e1, hr⟩ := hc.2.2 hxp
 cases e1
 obtain ⟨cs, _, hcs, hcell⟩ := hr (t / k) xs[t / k] (List.getElem?_eq_getElem hq)
 have hm : t % k < (enc xs[t / k]).length := by rw [hl]; exact Nat.mod_lt _ hk
 have hu := hcell (t % k) ((enc xs[t / k])[t % k]) (by rw [hcs]; exact List.getElem?_eq_getElem hm)
 have e2 : t / k * k + t % k = t := by rw [Nat.mul_comm]; exact Nat.div_add_mod t k
 constructor
 · rw [get_flatK _ _ _ _ (by simpa using ht)]
   have e3 : (xs.toArray[t / k]! : α) = xs[t / k] := by simp [hq]
   rw [e3, getElem!_pos (enc xs[t / k]) (t % k) hm]
   have e4 : (Addr.add ⟨b, 0, none⟩ (t / k * (flat k enc hl h1).sz + t % k)) = ⟨b, 0 + t, none⟩ := by
    have e5 : t / k * (flat k enc hl h1).sz + t % k = t := e2
    rw [e5, Nat.zero_add]
    by_cases h0 : t = 0
    · subst h0; rfl
    · simp [Addr.add, h0]
   rw [← e4]
   exact hu
 · obtain ⟨g, cap, hv, _, _, cells, hg⟩ := Kd.R_form h hxp
   cases hv
   simp [World.frozen?, hg]
theorem read_of {w : World} {b : Nat} {d : Array α} (h : HoldsK enc k w b 0 d) (hs : d.size ≤ 9223372036854775807) : (flat k enc hl h1).C w (some ⟨b, 0, none⟩) d.toList.length d.toList := by
 refine ⟨rfl, by simpa using hs, fun hp => ⟨_, rfl, fun j p hj => ⟨enc p, hl p, rfl, fun i u hi => ?_⟩⟩⟩
 have hjl : j < d.size := by simpa using (List.getElem?_eq_some_iff.1 hj).1
 have hil : i < k := by rw [← hl p]; exact (List.getElem?_eq_some_iff.1 hi).1
 have hlt : j * k + i < d.size * k := by
  have := Nat.mul_le_mul_right k (show j + 1 ≤ d.size from hjl)
  rw [Nat.add_mul, Nat.one_mul] at this
  omega
 have h2 := (h (j * k + i) (by simpa using hlt)).1
 have e1 : (j * k + i) / k = j := by rw [Nat.mul_comm, Nat.mul_add_div (by omega), Nat.div_eq_of_lt hil, Nat.add_zero]
 have e2 : (j * k + i) % k = i := by rw [Nat.mul_comm, Nat.mul_add_mod, Nat.mod_eq_of_lt hil]
 rw [get_flatK _ _ _ _ hlt, e1, e2] at h2
 have e3 : d[j]! = p := by
  have := (List.getElem?_eq_some_iff.1 hj).2
  rw [getElem!_pos d j hjl, ← this]
  simp
 rw [e3] at h2
 have e4 : (enc p)[i]! = u := by
  have hh := List.getElem?_eq_some_iff.1 hi
  rw [getElem!_pos (enc p) i hh.1]
  exact hh.2
 rw [e4] at h2
 have e5 : (Addr.add ⟨b, 0, none⟩ (j * (flat k enc hl h1).sz + i)) = ⟨b, 0 + (j * k + i), none⟩ := by
  have : (flat k enc hl h1).sz = k := rfl
  rw [this, Nat.zero_add]
  obtain ⟨q, hq⟩ : ∃ q, j * k + i = q := ⟨_, rfl⟩
  rw [hq]
  by_cases h0 : q = 0
  · subst h0; rfl
  · simp [Addr.add, h0]
 rw [e5]
 exact h2
theorem holds_eq {w w' : World} {b : Nat} {d : Array α} (h : HoldsK enc k w b 0 d) (e : w'.heap[b]? = w.heap[b]?) : HoldsK enc k w' b 0 d := fun t ht => by
 have h2 := h t ht
 unfold World.cell? World.frozen? at h2 ⊢
 rw [e]
 exact h2
theorem keeps_sort {w : World} {b n : Nat} {d : Array α} {os : Array Obj} (hb : b < w.heap.size) : Keeps (fun j => j = b) w (sortWorldK enc k w b 0 n d os) where
 os := rfl
 tape := rfl
 output := rfl
 size := size_sortWorldK_c enc k w b 0 n d os
 block := fun j hj hne => by
  have hne : j ≠ b := hne
  show (((Sort.ahead w n).heap.modify b _) ++ os)[j]? = _
  rw [Array.getElem?_append_left (by simpa [Sort.ahead] using hj), Array.getElem?_modify]
  simp [Sort.ahead, Ne.symm hne]
theorem cells_sort {w : World} {b n : Nat} {d : Array α} {os : Array Obj} {cs : Array Value} {t : TypeId} {f : Nat × Nat} (h : w.heap[b]? = some (.cells cs t f)) : ∃ cells, (sortWorldK enc k w b 0 n d os).heap[b]? = some (.cells cells t f) := by
 have hb := (Array.getElem?_eq_some_iff.1 h).1
 have e : (sortWorldK enc k w b 0 n d os).heap[b]? = (w.heap.modify b (onCells (putCells id 0 (flatK enc k d))))[b]? := by
  show (((Sort.ahead w n).heap.modify b _) ++ os)[b]? = _
  rw [Array.getElem?_append_left (by simpa [Sort.ahead] using hb)]
  rfl
 rw [e, Array.getElem?_modify, if_pos rfl, h]
 exact ⟨_, rfl⟩
end
def G0 (W w : World) : Prop := ∃ q os, w = Sort.grow (W.drewN q) os
theorem G0.refl (W : World) : G0 W W := ⟨0, #[], by cases W; simp [Sort.grow, World.drewN]⟩
theorem G0.alloc {W w : World} (h : G0 W w) (o : Obj) : G0 W (w.alloc o) := by
 obtain ⟨q, os, rfl⟩ := h
 refine ⟨q, os ++ #[o], ?_⟩
 simp [Sort.grow, World.alloc, World.drewN, Array.append_assoc]
theorem G0.drewN {W w : World} (h : G0 W w) (n : Nat) : G0 W (w.drewN n) := by
 obtain ⟨q, os, rfl⟩ := h
 exact ⟨q + n, os, by simp [Sort.grow, World.drewN, Nat.add_assoc]⟩
theorem G0.drew {W w : World} (h : G0 W w) : G0 W w.drew := h.drewN 1
theorem G0.drawn {W w w' : World} (h : G0 W w) (hd : Drawn0 w w') : G0 W w' := by
 obtain ⟨n, rfl⟩ := hd.out
 exact h.drewN n
theorem G0.below {W w : World} (h : G0 W w) : Below W.heap.size W w := by
 obtain ⟨q, os, rfl⟩ := h
 exact ⟨rfl, rfl, rfl, by simp [Sort.grow, World.drewN], fun k hk => by simp [Sort.grow, World.drewN, Array.getElem?_append_left hk]⟩
end Go.Proofs.Ytjejhgjdmbodiaa.XColl
