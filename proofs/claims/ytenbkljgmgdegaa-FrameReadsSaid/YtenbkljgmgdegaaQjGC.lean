/- What the rows of this claim use, out of the texts of this work (GC, GD, GE, GF). No condition beyond those that each statement names. -/
import Derived.Deep.DeepCutAuto
import Derived.Deep.CutBlock
import Derived.Test.YtenbkljgmgdegaaQjRG
import Derived.Test.YtenbkljgmgdegaaQjFU
import Derived.Test.YtenbkljgmgdegaaQjPE19
import Derived.Test.YtenbkljgmgdegaaQjX
section
namespace Go.Proofs.Ytenbkljgmgdegaa.PO
open Go.RowKit Go.Proofs.YtenbkljgmgdegaaW.PrintWords Go.Proofs.YtenbkljgmgdegaaW.PrintLast Go.Proofs.YtenbkljgmgdegaaW.PrintMore Go.Proofs.Ytenbkljgmgdegaa.XW
open Go.Proofs.Ytenbkljgmgdegaa.XRange
set_option linter.unusedVariables false
set_option linter.unusedSimpArgs false
set_option maxHeartbeats 4000000 in
set_option maxRecDepth 100000 in
theorem frt_text (k g : Nat) (mx : Int) (A : Option Addr) (c : Nat) (l : List Int) (at_ : Int) (ok : Bool) (r : ByteArray) (at' : Int) (ok' : Bool) (w : World) (hst : RdAt 100 w g A c l at_ ok) (h : tkText k mx l at_ ok = some (r, at', ok')) :
 Calls Try.prog 74 #[.pointer (some ⟨g, 0, none⟩), .int .i64 mx] w fun e w' => e = .returned (.string r) ∧ RdAt 100 w' g A c l at' ok' ∧ Keeps (fun k => k = g) w w' := by
 unfold tkText at h
 obtain ⟨⟨n, next, e⟩, h0, h⟩ := Option.bind_eq_some_iff.mp h
 have H0 := Aside0.mk h0
 have HS := Aside0.mk hst
 have c0 : w.cell? ⟨g, 0, none⟩ = some (.slice A l.length c) := (blk_cell hst.blk 0).trans rfl
 have c1 : w.cell? ⟨g, 1, none⟩ = some (.int .i64 at_) := (blk_cell hst.blk 1).trans rfl
 have c2 : w.cell? ⟨g, 2, none⟩ = some (.bool ok) := (blk_cell hst.blk 2).trans rfl
 have f0 := blk_frozen hst.blk 0
 have f1 := blk_frozen hst.blk 1
 have f2 := blk_frozen hst.blk 2
 have hz : Keeps (fun _ => False) w w := Keeps.refl _ w
 clear h0 hst
 go_enter Try.func74, Try.ntmps74
 go_wp2_with fail
 go_region_held3 (fun w' => w'.cell? ⟨g, 0, none⟩ = some (.slice A l.length c) ∧ w'.cell? ⟨g, 1, none⟩ = some (.int .i64 at_) ∧ Keeps (fun _ => False) w w')
  (first
   | exact ⟨by assumption, by assumption, by assumption⟩
   | exact ⟨by assumption, by assumption, Keeps.drew (by assumption)⟩
   | exact ⟨pw_cell_below hb (by assumption), pw_cell_below hb (by assumption), Keeps.trans (by first | assumption | exact Keeps.drew (by assumption)) (Keeps.of_below hb)⟩)
  ((go_at_call 116; refine (pannierref02_TakeText.calls k A c l at_ mx n next e _ (Kd.F_now (HS.out.keep (by first | assumption | exact Keeps.drew (by assumption))).foot) HS.out.le H0.out).mono ?_; rintro e' w1 ⟨rfl, hd⟩; have hb := Drawn0.below hd))
 obtain ⟨_, _, hk⟩ := ‹_ ∧ _ ∧ Keeps _ w w1›
 have HK := Aside0.mk hk
 have HS1 := Aside0.mk (HS.out.keep hk)
 have d0 : w1.cell? ⟨g, 0, none⟩ = some (.slice A l.length c) := (blk_cell HS1.out.blk 0).trans rfl
 have d1 : w1.cell? ⟨g, 1, none⟩ = some (.int .i64 at_) := (blk_cell HS1.out.blk 1).trans rfl
 have d2 : w1.cell? ⟨g, 2, none⟩ = some (.bool ok) := (blk_cell HS1.out.blk 2).trans rfl
 have e1 := blk_frozen HS1.out.blk 1
 have e2 := blk_frozen HS1.out.blk 2
 have hkM : Keeps (fun k => k = g) w w1 := ⟨hk.os, hk.tape, hk.output, hk.size, fun k hk' _ => hk.block k hk' (fun f => f)⟩
 have HM := Aside0.mk hkM
 clear c0 c1 c2 f0 f1 f2 hz hk hkM hb
 have h : (if ok = false then some ((⟨#[]⟩ : ByteArray), at_, false) else if e = 0 then some (n, next, true) else some ((⟨#[]⟩ : ByteArray), at_, false)) = some (r, at', ok') := h
 by_cases q0 : ok = false
 · subst q0
   rw [if_pos rfl] at h
   simp only [Option.some.injEq, Prod.mk.injEq] at h
   obtain ⟨rfl, rfl, rfl⟩ := h
   go_wp2
   go_ret
   exact ⟨rfl, HS1.out.flag false, HM.out.setCell (.inl rfl) _⟩
 · have q0' : ok = true := by simpa using q0
   subst q0'
   rw [if_neg (by decide)] at h
   by_cases q1 : e = 0
   · rw [if_pos q1] at h
     have q1' : (e != 0) = false := by simpa using q1
     simp only [Option.some.injEq, Prod.mk.injEq] at h
     obtain ⟨rfl, rfl, rfl⟩ := h
     clear q1
     go_wp2
     go_ret
     exact ⟨rfl, HS1.out.put next, HM.out.setCell (.inl rfl) _⟩
   · rw [if_neg q1] at h
     have q1' : (e != 0) = true := by simpa using q1
     simp only [Option.some.injEq, Prod.mk.injEq] at h
     obtain ⟨rfl, rfl, rfl⟩ := h
     clear q1
     go_wp2
     go_ret
     exact ⟨rfl, HS1.out.flag false, HM.out.setCell (.inl rfl) _⟩
set_option maxHeartbeats 4000000 in
set_option maxRecDepth 100000 in
theorem frt_number (k g : Nat) (A : Option Addr) (c : Nat) (l : List Int) (at_ : Int) (ok : Bool) (r at' : Int) (ok' : Bool) (w : World) (hst : RdAt 100 w g A c l at_ ok) (h : tkNum k 1152921504606846976 l at_ ok = some (r, at', ok')) :
 Calls Try.prog 75 #[.pointer (some ⟨g, 0, none⟩)] w fun e w' => e = .returned (.int .i64 r) ∧ RdAt 100 w' g A c l at' ok' ∧ Keeps (fun k => k = g) w w' := by
 unfold tkNum at h
 obtain ⟨⟨n, next, e⟩, h0, h⟩ := Option.bind_eq_some_iff.mp h
 have H0 := Aside0.mk h0
 have HS := Aside0.mk hst
 have c0 : w.cell? ⟨g, 0, none⟩ = some (.slice A l.length c) := (blk_cell hst.blk 0).trans rfl
 have c1 : w.cell? ⟨g, 1, none⟩ = some (.int .i64 at_) := (blk_cell hst.blk 1).trans rfl
 have c2 : w.cell? ⟨g, 2, none⟩ = some (.bool ok) := (blk_cell hst.blk 2).trans rfl
 have f0 := blk_frozen hst.blk 0
 have f1 := blk_frozen hst.blk 1
 have f2 := blk_frozen hst.blk 2
 have hz : Keeps (fun _ => False) w w := Keeps.refl _ w
 clear h0 hst
 go_enter Try.func75, Try.ntmps75
 go_wp2_with fail
 go_region_held3 (fun w' => w'.cell? ⟨g, 0, none⟩ = some (.slice A l.length c) ∧ w'.cell? ⟨g, 1, none⟩ = some (.int .i64 at_) ∧ Keeps (fun _ => False) w w')
  (first
   | exact ⟨by assumption, by assumption, by assumption⟩
   | exact ⟨by assumption, by assumption, Keeps.drew (by assumption)⟩
   | exact ⟨pw_cell_below hb (by assumption), pw_cell_below hb (by assumption), Keeps.trans (by first | assumption | exact Keeps.drew (by assumption)) (Keeps.of_below hb)⟩)
  ((go_at_call 117; refine (pannierref02_TakeNumber.calls k A c l at_ n next e _ (Kd.F_now (HS.out.keep (by first | assumption | exact Keeps.drew (by assumption))).foot) HS.out.le H0.out).mono ?_; rintro e' w1 ⟨rfl, hd⟩; have hb := Drawn0.below hd))
 obtain ⟨_, _, hk⟩ := ‹_ ∧ _ ∧ Keeps _ w w1›
 have HK := Aside0.mk hk
 have HS1 := Aside0.mk (HS.out.keep hk)
 have d0 : w1.cell? ⟨g, 0, none⟩ = some (.slice A l.length c) := (blk_cell HS1.out.blk 0).trans rfl
 have d1 : w1.cell? ⟨g, 1, none⟩ = some (.int .i64 at_) := (blk_cell HS1.out.blk 1).trans rfl
 have d2 : w1.cell? ⟨g, 2, none⟩ = some (.bool ok) := (blk_cell HS1.out.blk 2).trans rfl
 have e1 := blk_frozen HS1.out.blk 1
 have e2 := blk_frozen HS1.out.blk 2
 have hkM : Keeps (fun k => k = g) w w1 := ⟨hk.os, hk.tape, hk.output, hk.size, fun k hk' _ => hk.block k hk' (fun f => f)⟩
 have HM := Aside0.mk hkM
 clear c0 c1 c2 f0 f1 f2 hz hk hkM hb
 have h : (if ok = false then some (0, at_, false) else if e = 0 then (if n > 1152921504606846976 then some (0, at_, false) else if 0 ≤ n then some (n, next, true) else none) else some (0, at_, false)) = some (r, at', ok') := h
 by_cases q0 : ok = false
 · subst q0
   rw [if_pos rfl] at h
   simp only [Option.some.injEq, Prod.mk.injEq] at h
   obtain ⟨rfl, rfl, rfl⟩ := h
   go_wp2
   go_ret
   exact ⟨rfl, HS1.out.flag false, HM.out.setCell (.inl rfl) _⟩
 · have q0' : ok = true := by simpa using q0
   subst q0'
   rw [if_neg (by decide)] at h
   by_cases q1 : e = 0
   · rw [if_pos q1] at h
     have q1' : (e != 0) = false := by simpa using q1
     by_cases q2 : n > 1152921504606846976
     · rw [if_pos q2] at h
       simp only [Option.some.injEq, Prod.mk.injEq] at h
       obtain ⟨rfl, rfl, rfl⟩ := h
       have q2' : decide (1152921504606846976 < n) = true := decide_eq_true q2
       clear q1 q2
       go_wp2
       go_ret
       exact ⟨rfl, HS1.out.flag false, HM.out.setCell (.inl rfl) _⟩
     · rw [if_neg q2] at h
       have q2' : decide (1152921504606846976 < n) = false := decide_eq_false q2
       by_cases q3 : 0 ≤ n
       · rw [if_pos q3] at h
         simp only [Option.some.injEq, Prod.mk.injEq] at h
         obtain ⟨rfl, rfl, rfl⟩ := h
         have q4 : IntKind.i64.wrap n = n := by rw [IntKind.wrap_i64]; omega
         clear q1 q2
         go_wp2
         go_ret
         exact ⟨rfl, HS1.out.put next, HM.out.setCell (.inl rfl) _⟩
       · rw [if_neg q3] at h; cases h
   · rw [if_neg q1] at h
     have q1' : (e != 0) = true := by simpa using q1
     simp only [Option.some.injEq, Prod.mk.injEq] at h
     obtain ⟨rfl, rfl, rfl⟩ := h
     clear q1
     go_wp2
     go_ret
     exact ⟨rfl, HS1.out.flag false, HM.out.setCell (.inl rfl) _⟩
theorem refTakeTextM_f (m : Int) (hm : 0 ≤ m) (hm1 : m ≤ 1048576) (b : List Int) (hB : isB b) (hb : b.length ≤ 140737488355300) (p : Int) (k : Nat) (hk : 60 ≤ k) : pannierref02_TakeText.f k b p m = some (textM m b p) := by
 unfold pannierref02_TakeText.f textM
 rw [refTakeNumber_f b hB hb p k hk, Option.bind_some]
 by_cases h : (takeS b p).2.2 = 0
 case neg => rw [if_neg h, if_neg h]
 have ho := takeS_ok hB h
 rw [if_pos h, if_pos h, if_neg (by omega), u_id (u := m) (by omega) (by omega)]
 by_cases h1 : (takeS b p).1 > m
 · rw [if_pos h1, if_pos h1]
 rw [if_neg h1, if_neg h1, w_id (u := (b.length : Int) - (takeS b p).2.1) (by omega), u_id (by omega) (by omega)]
 by_cases h2 : (takeS b p).1 > (b.length : Int) - (takeS b p).2.1
 · rw [if_pos h2, if_pos h2]
 rw [if_neg h2, if_neg h2, if_pos (by omega), w_id (u := (takeS b p).1) (by omega), w_id (by omega), if_pos (by omega), if_pos (by omega)]
def txR (m : Int) (l : List Int) (p : Int) (ok : Bool) : ByteArray × Int × Bool := if ok = false then (⟨#[]⟩, p, false) else if (textM m l p).2.2 = 0 then ((textM m l p).1, (textM m l p).2.1, true) else (⟨#[]⟩, p, false)
def nmR (l : List Int) (p : Int) (ok : Bool) : Int × Int × Bool := if ok = false then (0, p, false) else if (takeS l p).2.2 = 0 then (if (takeS l p).1 > 1152921504606846976 then (0, p, false) else ((takeS l p).1, (takeS l p).2.1, true)) else (0, p, false)
theorem txR_f (m : Int) (hm : 0 ≤ m) (hm1 : m ≤ 1048576) (b : List Int) (hB : isB b) (hb : b.length ≤ 140737488355300) (p : Int) (ok : Bool) : tkText 60 m b p ok = some (txR m b p ok) := by
 unfold tkText txR
 rw [refTakeTextM_f m hm hm1 b hB hb p 60 (by omega), Option.bind_some]
 by_cases h0 : ok = false
 · rw [if_pos h0, if_pos h0]
 rw [if_neg h0, if_neg h0]
 by_cases h : (textM m b p).2.2 = 0
 · rw [if_pos h, if_pos h]
 · rw [if_neg h, if_neg h]
theorem nmR_f (b : List Int) (hB : isB b) (hb : b.length ≤ 140737488355300) (p : Int) (ok : Bool) : tkNum 60 1152921504606846976 b p ok = some (nmR b p ok) := by
 unfold tkNum nmR
 rw [refTakeNumber_f b hB hb p 60 (by omega), Option.bind_some]
 by_cases h0 : ok = false
 · rw [if_pos h0, if_pos h0]
 rw [if_neg h0, if_neg h0]
 by_cases h : (takeS b p).2.2 = 0
 · have ho := takeS_ok hB h
   rw [if_pos h, if_pos h]
   by_cases h1 : (takeS b p).1 > 1152921504606846976
   · rw [if_pos h1, if_pos h1]
   · rw [if_neg h1, if_neg h1, if_pos ho.2.2.1]
 · rw [if_neg h, if_neg h]
theorem nmR_range (b : List Int) (hB : isB b) (p : Int) (ok : Bool) : 0 ≤ (nmR b p ok).1 ∧ (nmR b p ok).1 ≤ 1152921504606846976 := by
 unfold nmR
 split
 · simp
 · split
   · rename_i h
     have ho := takeS_ok hB h
     split
     · simp
     · dsimp only; omega
   · simp
theorem txR_size (m : Int) (hm : 0 ≤ m) (b : List Int) (hB : isB b) (p : Int) (ok : Bool) : ((txR m b p ok).1.size : Int) ≤ m := by
 unfold txR
 split
 · exact hm
 · split
   · rename_i h
     exact (text_isM m hm hB h).2.2.1
   · exact hm
end Go.Proofs.Ytenbkljgmgdegaa.PO
end
section
namespace Go.Proofs.Ytenbkljgmgdegaa.PO
open Go.RowKit Go.Proofs.YtenbkljgmgdegaaW.PrintWords Go.Proofs.YtenbkljgmgdegaaW.PrintLast Go.Proofs.YtenbkljgmgdegaaW.PrintMore Go.Proofs.Ytenbkljgmgdegaa.XW
open Go.Proofs.Ytenbkljgmgdegaa.XRange
set_option linter.unusedVariables false
set_option linter.unusedSimpArgs false
theorem bytes_take (s : ByteArray) (n : Nat) : bytesOf (s.extract 0 n) = (bytesOf s).take n := by
 simp [bytesOf, ByteArray.data_extract, List.map_take]
theorem bytes_drop1 (s : ByteArray) : bytesOf (s.extract 1 s.size) = (bytesOf s).drop 1 := by
 have h : s.data.toList.length = s.size := by simp
 unfold bytesOf
 rw [ByteArray.data_extract, Array.toList_extract, List.extract_eq_take_drop, List.take_of_length_le (by rw [List.length_drop]; omega), List.map_drop]
theorem textM_shift {m : Int} (hm : 0 ≤ m) (hm1 : m ≤ 1048576) {x : Int} {l : List Int} (hB : isB (x :: l)) :
 (∀ t q, textM m (x :: l) 1 = (t, q, 0) → textM m l 0 = (t, q - 1, 0)) ∧ (∀ t q, textM m l 0 = (t, q, 0) → textM m (x :: l) 1 = (t, q + 1, 0)) := by
 have hx : isB [x] := fun y hy => hB y (by rw [List.mem_singleton] at hy; rw [hy]; simp)
 have hl : isB l := fun y hy => hB y (by simp [hy])
 constructor
 · intro t q h
   obtain ⟨_, _, hsz, hq0, ht⟩ := text_isM m hm hB (p := 1) (by rw [h])
   have hle := textM_le hB hm h
   rw [h] at hsz hq0 ht
   dsimp only at hsz hq0 ht
   have hlen : q.toNat = 1 + (textB t).length := by
    have := congrArg List.length ht
    simp only [List.length_take, List.length_append, List.length_cons] at this
    rw [List.length_cons] at hle
    simp at this
    omega
   have e : x :: l = [x] ++ textB t ++ (x :: l).drop q.toNat := by
    have h1 := (List.take_append_drop q.toNat (x :: l)).symm
    rw [ht] at h1
    simpa using h1
   have e2 : l = [] ++ textB t ++ (x :: l).drop q.toNat := by
    have := congrArg List.tail e
    simpa using this
   have hr : isB ((x :: l).drop q.toNat) := fun y hy => hB y (List.mem_of_mem_drop hy)
   have h2 := take_textM m hm1 [] ((x :: l).drop q.toNat) nilB hr t hsz
   rw [← e2] at h2
   rw [show (0 : Int) = (([] : List Int).length : Int) from rfl, h2]
   simp
   omega
 · intro t q h
   obtain ⟨_, _, hsz, hq0, ht⟩ := text_isM m hm hl (p := 0) (by rw [h])
   have hle := textM_le hl hm h
   rw [h] at hsz hq0 ht
   dsimp only at hsz hq0 ht
   have ht' : l.take q.toNat = textB t := by simpa using ht
   have hlen : q.toNat = (textB t).length := by
    have := congrArg List.length ht'
    simp only [List.length_take] at this
    omega
   have e : x :: l = [x] ++ textB t ++ l.drop q.toNat := by
    rw [← ht']
    simp
   have hr : isB (l.drop q.toNat) := fun y hy => hl y (List.mem_of_mem_drop hy)
   have h2 := take_textM m hm1 [x] (l.drop q.toNat) hx hr t hsz
   rw [← e] at h2
   rw [show (1 : Int) = ([x].length : Int) from rfl, h2]
   simp
   omega
theorem strOf_eq {a : List Int} (ha : isB a) (s : ByteArray) : strOfNums a = s ↔ a = bytesOf s := by
 constructor
 · intro h
   rw [← h, bytes_nums ha]
 · intro h
   rw [h, nums_bytes]
set_option maxHeartbeats 8000000 in
set_option maxRecDepth 100000 in
theorem refOpen_calls (w : World) (s : ByteArray) (hs : s.size ≤ 1000000) :
 Calls Try.prog 73 #[.string s, .int .i64 0, .int .i64 1048576] w fun e w' => e = .returned (.tuple #[.int .u8 (openS (bytesOf s)).1, .string (openS (bytesOf s)).2.1, .int .i64 (openS (bytesOf s)).2.2.1, .int .i64 (openS (bytesOf s)).2.2.2]) ∧ Below w.heap.size w w' := by
 obtain ⟨l, hl⟩ : ∃ l, bytesOf s = l := ⟨_, rfl⟩
 have hlen : l.length = s.size := by rw [← hl]; exact bytesOf_length s
 have hB : isB l := by rw [← hl]; exact bytes_B s
 rw [hl]
 go_enter Try.func73, Try.ntmps73
 by_cases h0 : s.size = 0
 · have ho : openS l = (0, ⟨#[]⟩, 0, 20) := by unfold openS; rw [if_pos (by omega)]
   have HO := Aside0.mk ho
   clear ho
   go_wp2
   rw [HO.out]
   exact bodyPost_ret (v := .tuple #[.int .u8 0, .string ⟨#[]⟩, .int .i64 0, .int .i64 20]) (by simp [results, Try.f73, go_sem]) rfl ⟨rfl, Below.refl _ _⟩
 obtain ⟨x, l1, rfl⟩ : ∃ x l1, l = x :: l1 := by
  cases l with
  | nil => simp at hlen; omega
  | cons x l1 => exact ⟨x, l1, rfl⟩
 have hsp : 0 < s.size := by omega
 have hx : ((s[0]'hsp).toNat : Int) = x := by
  have h := rd_bytesOf s 0
  rw [hl] at h
  have h2 := bt_at s 0 hsp
  rw [← h] at h2
  exact h2
 have hl1 : bytesOf (s.extract 1 s.size) = l1 := by rw [bytes_drop1, hl]; rfl
 have hB1 : isB l1 := fun y hy => hB y (by simp [hy])
 have hsh := textM_shift (m := 1048576) (by omega) (by omega) hB
 obtain ⟨⟨t, q, er⟩, ht⟩ : ∃ r, textM 1048576 l1 0 = r := ⟨_, rfl⟩
 rw [ht] at hsh
 have hcv := Lib.run_convert_string_bytes (P := Try.prog) w 9 63 5 (s.extract 1 s.size) Try.underlying9 Try.underlying63 Try.underlying5
 have hq1 : (1 : Int) ≤ (s.size : Int) := by omega
 go_wp2_with fail
 have hl1l : l1.length = s.size - 1 := by simp at hlen; omega
 have hes : (s.extract 1 s.size).size = s.size - 1 := by simp
 have hv := Kd.conv_V (W := w) (e := 5) (base := 0) (ok := fun _ => True) (s.extract 1 s.size) (fun _ _ => trivial) (by rw [hes]; omega) (grownCap_ge w _ _ _)
 have hb1 := Kd.conv_below (W := w) (w0 := w) (base := w.heap.size) 5 (s.extract 1 s.size) (Below.refl _ _) (Nat.le_refl _)
 have hcp := grownCap_ge w (s.extract 1 s.size).size 0 5
 rw [hes, hl1, ← hl1l] at hv
 rw [hes, ← hl1l] at hcp
 rw [← hl1l]
 have hF := Kd.V_F hv
 obtain ⟨w1, hw1⟩ : ∃ x, Lib.bytesWorld w 5 (s.extract 1 s.size) = x := ⟨_, rfl⟩
 obtain ⟨cp, hcpp⟩ : ∃ x, grownCap w l1.length 0 5 = x := ⟨_, rfl⟩
 rw [hw1] at hF hb1 ⊢
 rw [hcpp] at hcp ⊢
 have HB1 := Aside0.mk hb1
 refine (pannierref02_TakeText.calls 60 (some ⟨w.heap.size, 0, none⟩) cp l1 0 1048576 t q er w1 (Kd.F_now hF) hcp (by rw [refTakeTextM_f 1048576 (by omega) (by omega) l1 hB1 (by omega) 0 60 (by omega), ht])).mono ?_
 rintro e w2 ⟨rfl, hd⟩
 have HB2 := Aside0.mk (HB1.out.trans (hd.below.mono HB1.out.size))
 clear hd hb1 hv hF hcv hw1 hcpp hcp hes
 by_cases he : er = 0
 case neg =>
  have q1 : (er != 0) = true := by simpa using he
  have ho : openS (x :: l1) = (0, ⟨#[]⟩, 0, 20) := by
   unfold openS
   rw [if_neg (by simp)]
   by_cases h : (textM 1048576 (x :: l1) 1).2.2 = 0
   · obtain ⟨⟨t', q', e'⟩, ht'⟩ : ∃ r, textM 1048576 (x :: l1) 1 = r := ⟨_, rfl⟩
     rw [ht'] at h
     dsimp only at h
     subst h
     have := hsh.1 t' q' ht'
     simp only [Prod.mk.injEq] at this
     exact absurd this.2.2 he
   · rw [if_neg h]
  have HO := Aside0.mk ho
  clear ho he
  go_wp2
  rw [HO.out]
  exact bodyPost_ret (v := .tuple #[.int .u8 0, .string ⟨#[]⟩, .int .i64 0, .int .i64 20]) (by simp [results, Try.f73, go_sem]) rfl ⟨rfl, HB2.out⟩
 subst he
 have ht1 := hsh.2 t q rfl
 obtain ⟨_, _, hsz, hq0, htk⟩ := text_isM 1048576 (by omega) hB (p := 1) (by rw [ht1])
 have hle := textM_le hB (by omega) ht1
 have hi0 := text_isM 1048576 (by omega) hB1 (p := 0) (by rw [ht])
 rw [ht] at hi0
 have hq00 := hi0.2.2.2.1
 rw [ht1] at hsz hq0 htk
 dsimp only at hsz hq0 htk hq00
 have hqs : q + 1 ≤ (s.size : Int) := by simp at hle hlen; omega
 by_cases h4 : (s.size : Int) - (q + 1) < 4
 · have ho : openS (x :: l1) = (0, ⟨#[]⟩, 0, 20) := by
    unfold openS
    rw [if_neg (by simp), ht1, if_pos rfl, if_pos (by rw [hlen]; exact h4)]
   have HO := Aside0.mk ho
   have q2 : ((s.size : Int) - 1 - q < 4) := by omega
   clear ho
   go_wp2
   rw [HO.out]
   exact bodyPost_ret (v := .tuple #[.int .u8 0, .string ⟨#[]⟩, .int .i64 0, .int .i64 20]) (by simp [results, Try.f73, go_sem]) rfl ⟨rfl, HB2.out⟩
 obtain ⟨E, hE⟩ : ∃ E : Nat, q + 5 = (E : Int) := ⟨(q + 5).toNat, by omega⟩
 have hEs : E ≤ s.size := by omega
 have q2 : ¬ ((s.size : Int) - 1 - q < 4) := by omega
 have hP : (x :: l1).take (q + 1).toNat = [x] ++ textB t := by rw [htk]; rfl
 have hx8 : 0 ≤ x ∧ x ≤ 255 := hB x (by simp)
 have hseal : sealT x (bytesOf t) = (x :: l1).take (q + 1).toNat ++ sumB ((x :: l1).take (q + 1).toNat) := by
  rw [hP]
  unfold sealT textB
  rw [bytesOf_length]
  simp
 have hsB : isB (sealT x (bytesOf t)) := by
  rw [hseal]
  exact app_B (fun y hy => hB y (List.mem_of_mem_take hy)) (sumB_B _)
 have heq : (strOfNums (sealT x (bytesOf t)) = s.extract 0 E) ↔ sumB ((x :: l1).take (q + 1).toNat) = ((x :: l1).take (q + 1 + 4).toNat).drop (q + 1).toNat := by
  rw [strOf_eq hsB, bytes_take, hl, hseal, show (q + 1 + 4).toNat = E from by omega]
  have e : (x :: l1).take E = (x :: l1).take (q + 1).toNat ++ ((x :: l1).take E).drop (q + 1).toNat := by
   have h := (List.take_append_drop (q + 1).toNat ((x :: l1).take E)).symm
   rw [List.take_take, show min (q + 1).toNat E = (q + 1).toNat from by omega] at h
   exact h
  constructor
  · intro h
    rw [e] at h
    exact List.append_cancel_left h
  · intro h
    rw [e, h]
 have htt : t.size ≤ 1000000 := by
  have h1 := congrArg List.length hP
  have h2 := bytesOf_length t
  simp only [List.length_take, List.length_append, List.length_cons] at h1
  unfold textB at h1
  simp only [List.length_append] at h1
  simp at hlen
  omega
 have HSE := Aside0.mk (refSeal_f x t htt 20000000 (by omega))
 have hqn : 0 ≤ q := hq00
 have hqm : q ≤ 1000000 := by omega
 have HEQ := Aside0.mk heq
 have HHP := Aside0.mk ht1
 have HLEN := Aside0.mk hlen
 have hE0 : (0 : Int) ≤ (E : Int) := by omega
 clear heq hseal hsB hP ht1 hsh htk hle hi0 hq0 hlen
 go_upto_region 7 with fail
 rw [show 1 + q + 4 = (E : Int) from by omega]
 have hEz : (E : Int) ≤ (s.size : Int) := by omega
 subst hx
 refine start_ (n := 10) (ds := []) (S := fun _ => True) _ (by kernel_rfl) rfl rfl trivial (fun hH => ?_)
 refine XReg.pu 0 50 (h := ?_)
 refine XReg.pu 1 51 (h := ?_)
 refine XReg.pu 2 52 (h := ?_)
 refine XReg.pu 3 53 (h := ?_)
 refine XReg.pu 5 55 (h := ?_)
 refine XReg.pu 6 56 (h := ?_)
 refine XReg.pu 7 57 (h := ?_)
 refine XReg.pu 8 58 (h := ?_)
 refine XReg.one (i := 4) (some 54) rfl rfl (by kernel_rfl) (by decide) (fun Kc hKc => ?_)
 refine goes_ Try.func86 (by kernel_rfl) rfl #[.int .u8 ((s[0]'hsp).toNat : Int), .string t] (by rfl) rfl rfl (by (try simp only [List.map_toArray, List.map_cons, List.map_nil]); first | done | rfl) ?_
 refine (refSeal_calls ((s[0]'hsp).toNat : Int) t htt _).mono ?_
 obtain ⟨Z, hZ⟩ : ∃ Z, strOfNums (sealT ((s[0]'hsp).toNat : Int) (bytesOf t)) = Z := ⟨_, rfl⟩
 rw [hZ] at HEQ ⊢
 rintro e w3 ⟨rfl, hb⟩
 refine ⟨_, rfl, ?_⟩
 have HB3 := Aside0.mk (HB2.out.trans (((below_drew1 (Below.refl _ w2)).trans hb).mono HB2.out.size))
 refine hKc.out _ _ trivial (fun hH2 => ?_)
 clear hKc Kc hb hH hH2 HB2
 refine XReg.pu 9 59 (h := ?_)
 refine done_ (by kernel_rfl) ?_
 go_wp2
 · rename_i hq
   have hz : ¬ Z = s.extract 0 E := fun h => by rw [h] at hq; simp at hq
   rw [show openS (((s[0]'hsp).toNat : Int) :: l1) = (0, ⟨#[]⟩, 0, 21) from by
    unfold openS
    rw [if_neg (by simp), HHP.out, if_pos rfl]
    dsimp only
    rw [if_neg (by rw [HLEN.out]; omega), if_neg (fun h => hz (HEQ.out.2 h))]]
   exact bodyPost_ret (v := .tuple #[.int .u8 0, .string ⟨#[]⟩, .int .i64 0, .int .i64 21]) (by simp [results, Try.f73, go_sem]) rfl ⟨rfl, HB3.out⟩
 · rename_i hq
   have hz : Z = s.extract 0 E := bytes_inj (by simpa using hq)
   have ho := HEQ.out.1 hz
   rw [show openS (((s[0]'hsp).toNat : Int) :: l1) = (((s[0]'hsp).toNat : Int), t, (E : Int), 0) from by
    unfold openS
    rw [if_neg (by simp), HHP.out, if_pos rfl]
    dsimp only
    rw [if_neg (by rw [HLEN.out]; omega), if_pos ho, show q + 1 + 4 = (E : Int) from by omega]
    rfl]
   exact bodyPost_ret (v := .tuple #[.int .u8 ((s[0]'hsp).toNat : Int), .string t, .int .i64 E, .int .i64 0]) (by simp [results, Try.f73, go_sem]) rfl ⟨rfl, HB3.out⟩
end Go.Proofs.Ytenbkljgmgdegaa.PO
end
section
namespace Go.Proofs.Ytenbkljgmgdegaa.PO
open Go.RowKit Go.Proofs.YtenbkljgmgdegaaW.PrintWords Go.Proofs.YtenbkljgmgdegaaW.PrintLast Go.Proofs.YtenbkljgmgdegaaW.PrintMore Go.Proofs.Ytenbkljgmgdegaa.XW
open Go.Proofs.Ytenbkljgmgdegaa.XRange
set_option linter.unusedVariables false
set_option linter.unusedSimpArgs false
def opR (l : List Int) : Nat → Int → Bool → List S36 → Int × Bool × List S36
 | 0, p, ok, o => (p, ok, o)
 | k + 1, p, ok, o => if ok = false then (p, ok, o) else opR l k (txR 1048576 l p true).2.1 ((txR 1048576 l p true).2.2 && (readO (bytesOf (txR 1048576 l p true).1)).2 == 0) (o ++ [(readO (bytesOf (txR 1048576 l p true).1)).1])
theorem opR_no (l : List Int) (k : Nat) (p : Int) (o : List S36) : opR l k p false o = (p, false, o) := by cases k <;> rfl
theorem txR_step {l : List Int} (hB : isB l) (p : Int) : (txR 1048576 l p true).2.2 = true → p + 1 ≤ (txR 1048576 l p true).2.1 ∧ (txR 1048576 l p true).2.1 ≤ (l.length : Int) := by
 intro h
 unfold txR at h ⊢
 rw [if_neg (by simp)] at h ⊢
 by_cases h0 : (textM 1048576 l p).2.2 = 0
 · rw [if_pos h0]
   have h1 := texQ_step hB p false (by show (false || (textM 1048576 l p).2.2 != 0) = false; rw [h0]; rfl)
   exact h1.2
 · rw [if_neg h0] at h
   cases h
structure OQ (w wr : World) (g : Nat) (A : Option Addr) (c : Nat) (l : List Int) (p : Int) (ok : Bool) : Prop where
 blk : wr.heap[g]? = some (.cells #[.slice A l.length c, .int .i64 p, .bool ok] 100 (0, 0))
 le : l.length ≤ c
 ft : Kd.F (Kd.int .u8) wr (fun k => k ≠ g ∧ k < w.heap.size) A l.length l
 kp : Keeps (fun k => k = g ∨ w.heap.size ≤ k) w wr
 hg : g < w.heap.size
section
variable {w wr w1 : World} {g : Nat} {A : Option Addr} {c : Nat} {l : List Int} {p p' : Int} {ok ok' : Bool}
theorem OQ.rdAt (h : OQ w wr g A c l p ok) : RdAt 100 wr g A c l p ok := ⟨h.blk, h.le, Kd.F_mono h.ft (fun k hk => hk.1)⟩
theorem OQ.keeps (h : OQ w wr g A c l p ok) (hk : Keeps (fun k => k = g ∨ w.heap.size ≤ k) wr w1) (h1 : w1.heap[g]? = some (.cells #[.slice A l.length c, .int .i64 p', .bool ok'] 100 (0, 0))) : OQ w w1 g A c l p' ok' :=
 ⟨h1, h.le, Kd.F_step h.ft (fun k hk' hlt => hk.block k hlt (by rintro (h2 | h2); exact hk'.1 h2; have := hk'.2; omega)), h.kp.trans hk, h.hg⟩
theorem OQ.after (h : OQ w wr g A c l p ok) (hs : RdAt 100 w1 g A c l p' ok') (hk : Keeps (fun k => k = g) wr w1) : OQ w w1 g A c l p' ok' :=
 h.keeps (keeps_weak hk (fun k h => .inl h)) hs.blk
theorem OQ.below (h : OQ w wr g A c l p ok) (hb : Below wr.heap.size wr w1) : OQ w w1 g A c l p ok :=
 h.keeps (keeps_weak (Keeps.of_below hb (M := fun _ => False)) (fun _ f => f.elim)) (blk_below h.blk hb)
theorem OQ.grown (h : OQ w wr g A c l p ok) {row : Option Nat} (hg : wr.grownBy w1 row) (hr : ∀ k, row = some k → w.heap.size ≤ k) : OQ w w1 g A c l p ok :=
 h.keeps (keeps_weak (keeps_grown hg) (fun k hk => .inr (hr k hk.symm))) (blk_grown h.blk hg (fun e => by have := hr g e.symm; have := h.hg; omega))
theorem OQ.flag (h : OQ w wr g A c l p ok) (b : Bool) : OQ w (wr.setCell ⟨g, 2, none⟩ (.bool b)) g A c l p b :=
 h.keeps (Keeps.setCell (M := fun k => k = g ∨ w.heap.size ≤ k) (Keeps.refl _ wr) (p := ⟨g, 2, none⟩) (.inl (.inl rfl)) _) (blk_set h.blk 2 _)
theorem OQ.ends (h : OQ w wr g A c l p ok) : Keeps (fun k => k = g) w wr :=
 ⟨h.kp.os, h.kp.tape, h.kp.output, h.kp.size, fun k hk hne => h.kp.block k hk (by rintro (h2 | h2); exact hne h2; omega)⟩
end
set_option maxHeartbeats 8000000 in
set_option maxRecDepth 100000 in
theorem frt_ops (g : Nat) (A : Option Addr) (c : Nat) (l : List Int) (hB : isB l) (hlm : l.length ≤ 1000000) (n : Int) (hn0 : 0 ≤ n) (hn1 : n ≤ 1152921504606846976) (p0 : Int) (ok0 : Bool) (hp : ok0 = true → 0 ≤ p0 ∧ p0 ≤ (l.length : Int)) (w : World) (hst : RdAt 100 w g A c l p0 ok0) :
 Calls Try.prog 77 #[.pointer (some ⟨g, 0, none⟩), .int .i64 n] w fun e w' => ∃ A8 c8, e = .returned (.slice A8 (opR l n.toNat p0 ok0 []).2.2.length c8) ∧
  RdAt 100 w' g A c l (opR l n.toNat p0 ok0 []).1 (opR l n.toNat p0 ok0 []).2.1 ∧ Keeps (fun k => k = g) w w' ∧ Kd.R k36 36 w' w.heap.size (fun _ => True) (.slice A8 (opR l n.toNat p0 ok0 []).2.2.length c8) (opR l n.toNat p0 ok0 []).2.2 := by
 have HT0 := Aside0.mk (show OQ w w g A c l p0 ok0 from ⟨hst.blk, hst.le, Kd.F_mono (Kd.F_bound hst.foot) (fun k hk => hk), Keeps.refl _ w, blk_lt hst.blk⟩)
 have HP := Aside0.mk hp
 obtain ⟨RR, hRR⟩ : ∃ r, opR l n.toNat p0 ok0 [] = r := ⟨_, rfl⟩
 have HRR := Aside0.mk hRR
 rw [hRR]
 clear hst hp hRR
 go_enter Try.func77, Try.ntmps77
 go_wp2
 go_loopw [5, 6, 7, 8] (fun v5 v6 v7 v8 wr => ∃ (i : Int) (A8 : Option Addr) (sl c8 : Nat), v5 = .slice A8 sl c8 ∧ v6 = .int .i64 i ∧ 0 ≤ i ∧ i ≤ n ∧ Aside0 (∃ (p : Int) (b : Bool) (sn : List S36), sn.length = sl ∧ OQ w wr g A c l p b ∧
  Kd.R k36 36 wr w.heap.size (fun _ => True) (.slice A8 sl c8) sn ∧ RR = opR l (n - i).toNat p b sn ∧ (b = true → (sn.length : Int) ≤ p ∧ p ≤ (l.length : Int)) ∧ sn.length ≤ l.length + 1)) (fun _ v6 _ _ _ => (n - intOf v6).toNat)
 case atStart => exact ⟨0, none, 0, 0, rfl, rfl, by omega, hn0, ⟨p0, ok0, [], rfl, HT0.out, Kd.R_nil _ _ _ _ _, by rw [Int.sub_zero]; exact HRR.out.symm, fun h => by simpa using HP.out h, by simp⟩⟩
 case round =>
  clear HT0
  obtain ⟨i, A8, sl, c8, rfl, rfl, hi0, hile, HI0⟩ := hrel
  obtain ⟨p, b, sn, rfl, ht, hr8, hop, hpb, hsl2⟩ := HI0.out
  have HT := Aside0.mk ht
  have HR8 := Aside0.mk hr8
  have HOP := Aside0.mk hop
  have HPB2 := Aside0.mk hpb
  have HSN := Aside0.mk hsl2
  clear ht hr8 hop hpb hsl2 HI0
  have c2 : wr.cell? ⟨g, 2, none⟩ = some (.bool b) := (blk_cell HT.out.blk 2).trans rfl
  by_cases hlt : i < n ∧ b = true
  · obtain ⟨hlt, hb0⟩ := hlt
    subst hb0
    go_wp2_with fail
    have hts := txR_size 1048576 (by omega) l hB p true
    have hto := txR_step hB p
    have hfx := txR_f 1048576 (by omega) (by omega) l hB (by omega) p true
    obtain ⟨⟨tx0, pp, bb⟩, hA⟩ : ∃ x, txR 1048576 l p true = x := ⟨_, rfl⟩
    rw [hA] at hts hto hfx
    dsimp only at hts hto
    refine (frt_text 60 g 1048576 A c l p true tx0 pp bb _ HT.out.rdAt hfx).mono ?_
    rintro e wa ⟨rfl, hra, hka⟩
    have HTa := Aside0.mk (HT.out.after hra hka)
    have HR8a := Aside0.mk (R_apart HR8.out hka (fun k hk => by have := HT.out.hg; omega))
    have HTO := Aside0.mk hto
    have HAT := Aside0.mk hA
    clear hfx
    clear hra hka hA hto HT HR8 c2
    go_wp2_with fail
    refine (read44 _ tx0 (by omega)).mono ?_
    rintro e wb ⟨v2, v7, rfl, hv2, hv7, hbb⟩
    rw [refO_eq (bytes_B tx0)] at hv2 hv7 ⊢
    obtain ⟨⟨x, er2⟩, hX⟩ : ∃ r, readO (bytesOf tx0) = r := ⟨_, rfl⟩
    rw [hX] at hv2 hv7 ⊢
    dsimp only at hv2 hv7 ⊢
    have HX := Aside0.mk hX
    have HTb := Aside0.mk (HTa.out.below hbb)
    have HR8b := Aside0.mk (Kd.R_below HR8a.out hbb)
    have HWa := Aside0.mk (show w.heap.size ≤ wa.heap.size from HTa.out.kp.size)
    have HOWN := Aside0.mk (fun k (hk : (Value.slice A8 sn.length c8).ownBlock = some k) => Kd.R_lt HR8a.out k hk)
    obtain ⟨A2, cc2, rfl⟩ := Kd.R_slice hv2
    obtain ⟨A7, cc7, rfl⟩ := Kd.R_slice hv7
    have HV2 := Aside0.mk hv2
    have HV7 := Aside0.mk hv7
    clear hv2 hv7 hbb hX HTa HR8a
    go_upto_region 6 with fail
    obtain ⟨wd, hwd⟩ : ∃ wd, wb.alloc (.cells #[.string x.f0.f0, .int .i64 x.f0.f1, .slice A2 x.f1.length cc2, .string x.f2, .int .i64 x.f3, .string x.f4, .int .i64 x.f5, .slice A7 x.f6.length cc7] 36) = wd := ⟨_, rfl⟩
    obtain ⟨J, hJ⟩ : ∃ J, wb.heap.size = J := ⟨_, rfl⟩
    have hbd : Below wb.heap.size wb wd := by rw [← hwd]; exact (Below.refl _ wb).alloc (Nat.le_refl _) _
    have HJd := Aside0.mk (show wd.heap[J]? = some (.cells #[.string x.f0.f0, .int .i64 x.f0.f1, .slice A2 x.f1.length cc2, .string x.f2, .int .i64 x.f3, .string x.f4, .int .i64 x.f5, .slice A7 x.f6.length cc7] 36 (0, 0)) from by rw [← hwd, ← hJ]; exact World.alloc_heap_new wb _)
    have HTd := Aside0.mk (HTb.out.below hbd)
    have HR8d := Aside0.mk (Kd.R_below HR8b.out hbd)
    have HJF := Aside0.mk (show w.heap.size ≤ J from by rw [← hJ]; exact HTb.out.kp.size)
    have HV2d := Aside0.mk (Kd.R_below HV2.out hbd)
    have HV7d := Aside0.mk (Kd.R_below HV7.out hbd)
    try rw [hwd]
    try rw [hJ]
    clear hwd hJ hbd HTb HR8b HV2 HV7
    have c2 : wd.cell? ⟨g, 2, none⟩ = some (.bool bb) := (blk_cell HTd.out.blk 2).trans rfl
    have g2 := blk_frozen HTd.out.blk 2
    obtain ⟨be, hbe⟩ : ∃ b, (er2 == 0) = b := ⟨_, rfl⟩
    have HBE := Aside0.mk hbe
    obtain ⟨we, hwe⟩ : ∃ we, wd.setCell ⟨g, 2, none⟩ (.bool (bb && be)) = we := ⟨_, rfl⟩
    have HWE := Aside0.mk hwe
    clear hwe
    go_cut [] (fun wx => wx = we)
    case first =>
     cases bb with
     | false => go_wp2; go_meet; exact HWE.out
     | true => cases be <;> (go_wp2; go_meet; exact HWE.out)
    case rest =>
     obtain rfl := hcut
     have HTe := Aside0.mk (show OQ w wc g A c l pp (bb && be) from by
      rw [← HWE.out]
      exact HTd.out.flag (bb && be))
     have hkd : Keeps (fun k => k = g) wd wc := by
      rw [← HWE.out]
      exact Keeps.setCell (M := fun k => k = g) (Keeps.refl _ wd) (p := ⟨g, 2, none⟩) (.inl rfl) _
     have hgw := HTd.out.hg
     have hJF := HJF.out
     have hWa := HWa.out
     have HJe := Aside0.mk ((hkd.block J (blk_lt HJd.out) (by omega)).trans HJd.out)
     have HR8e := Aside0.mk (R_apart HR8d.out hkd (fun k hk => by omega))
     have HV2e := Aside0.mk (R_apart HV2d.out hkd (fun k hk => by omega))
     have HV7e := Aside0.mk (R_apart HV7d.out hkd (fun k hk => by omega))
     have HM := Aside0.mk (show k36.M wc w.heap.size (fun k => True ∧ some k ≠ (Value.slice A8 sn.length c8).ownBlock) x [.string x.f0.f0, .int .i64 x.f0.f1, .slice A2 x.f1.length cc2, .string x.f2, .int .i64 x.f3, .string x.f4, .int .i64 x.f5, .slice A7 x.f6.length cc7] from by
      refine k36_mkM _ _ _ x (Kd.R_lower (Kd.R_mono (Kd.R_bound HV2e.out) (fun j hj => ⟨trivial, fun e => ?_⟩)) (by omega)) (Kd.R_lower (Kd.R_mono (Kd.R_bound HV7e.out) (fun j hj => ⟨trivial, fun e => ?_⟩)) (by omega))
      · have := HOWN.out j e.symm; have := hj.2.1; omega
      · have := HOWN.out j e.symm; have := hj.2.1; omega)
     have HLN := Aside0.mk (show (sn.length + 1) * 120 ≤ 140737488355328 from by have := HSN.out; omega)
     clear hkd HR8d HTd HJd HV2d HV7d HV2e HV7e c2 g2
     obtain ⟨m0, m1, m2, m3, m4, m5, m6, m7⟩ := cells8 HJe.out
     have HFw := Aside0.mk (show w.heap.size ≤ wc.heap.size from HTe.out.kp.size)
     have HLO := Aside0.mk (show ∀ k, (Value.slice A8 sn.length c8).ownBlock = some k → w.heap.size ≤ k from fun k hk => ((Kd.R_bound HR8e.out).1 k hk).2.1)
     clear hgw hJF hWa
     go_wp2_with ((with_reducible refine gate_builtin (b := .append) (xs := #[.tmp 37, .tmp 39]) rfl ?_); at_builtin; refine Kd.R_append k36 (w0 := wc) w.heap.size rfl (.tmp 37) (.tmp 39) 22 36 _ 120 rfl Try.underlying22 info36 rfl (by decide) (by omega) _ sn x _ (fun _ => True) (fun k => True ∧ some k ≠ (Value.slice A8 sn.length c8).ownBlock) rfl rfl HM.out (fun k hk => hk) (fun _ _ => trivial) HR8e.out (Below.refl _ _) HFw.out HLN.out ?_; intro v1 w6 ho6 hb6 hg6 hat6; have HTg := Aside0.mk (HTe.out.grown hg6 (fun k hk => HLO.out k hk)); have HRg := Aside0.mk ho6; obtain ⟨A1, d1, rfl⟩ := Kd.R_slice ho6; clear ho6 hb6 hg6 hat6)
     have HON := Aside0.mk (show RR = opR l (n - (i + 1)).toNat pp (bb && be) (sn ++ [x]) from by
      rw [HOP.out, show (n - i).toNat = (n - (i + 1)).toNat + 1 from by omega]
      show (if true = false then _ else _) = _
      rw [if_neg (by simp), HAT.out]
      dsimp only
      rw [HX.out]
      dsimp only
      rw [HBE.out])
     try go_round
     case rel => exact ⟨i + 1, A1, (sn ++ [x]).length, d1, by simp, by go_num, by omega, by omega, ⟨pp, bb && be, sn ++ [x], rfl, HTg.out, HRg.out, HON.out, fun h => by
      have hbb : bb = true := by cases bb with | true => rfl | false => cases h
      have h1 := HTO.out hbb
      have h2 := HPB2.out (by first | trivial | rfl)
      rw [List.length_append]
      simp only [List.length_cons, List.length_nil]
      omega, by
      have h2 := HPB2.out (by first | trivial | rfl)
      rw [List.length_append]
      simp only [List.length_cons, List.length_nil]
      omega⟩⟩
     case measure => simp [intOf]; omega
  · have HZ := Aside0.mk (show RR = (p, b, sn) from by
     rw [HOP.out]
     cases b with
     | false => exact opR_no _ _ _ _
     | true =>
       have : i = n := Classical.byContradiction (fun h => hlt ⟨by omega, rfl⟩)
       rw [this, Int.sub_self]
       rfl)
    have hcase : (decide (i < n) = false) ∨ (decide (i < n) = true ∧ b = false) := by
     by_cases h : i < n
     · right
       refine ⟨by simpa using h, ?_⟩
       cases b with
       | false => rfl
       | true => exact absurd ⟨h, rfl⟩ hlt
     · left
       simpa using h
    clear hlt
    rcases hcase with q1 | ⟨q1, rfl⟩
    all_goals
     go_wp2
     go_ret
     rw [HZ.out]
     exact ⟨A8, c8, rfl, HT.out.rdAt, HT.out.ends, HR8.out⟩
end Go.Proofs.Ytenbkljgmgdegaa.PO
end
section
namespace Go.Proofs.Ytenbkljgmgdegaa.PO
open Go.RowKit Go.Proofs.YtenbkljgmgdegaaW.PrintWords Go.Proofs.YtenbkljgmgdegaaW.PrintLast Go.Proofs.YtenbkljgmgdegaaW.PrintMore Go.Proofs.Ytenbkljgmgdegaa.XW
open Go.Proofs.Ytenbkljgmgdegaa.XRange
set_option linter.unusedVariables false
set_option linter.unusedSimpArgs false
def tailR (kd : Int) (l : List Int) (p : Int) (ok : Bool) : Int × List S34 × List S36 × Bool :=
 if kd = 1 then (0, (vecS l p).1, [], ok && (vecS l p).2.2 == 0)
 else if kd = 2 then
  let m := nmR l p ok
  let n := nmR l m.2.1 m.2.2
  let o := opR l n.1.toNat n.2.1 n.2.2 []
  (m.1, [], o.2.2, o.2.1)
 else (0, [], [], ok)
def parseR (kd : Int) (l : List Int) : Fr × Bool :=
 let a := txR 24 l 0 true
 let b := txR 24 l a.2.1 a.2.2
 let c := txR 32 l b.2.1 b.2.2
 let d := nmR l c.2.1 c.2.2
 let i := nmR l d.2.1 d.2.2
 let r := tailR kd l i.2.1 i.2.2
 (⟨kd, a.1, b.1, c.1, d.1, i.1, r.1, r.2.1, r.2.2.1⟩, r.2.2.2)
def refF (s : List Int) : Fr × Int :=
 if (openS s).2.2.2 ≠ 0 ∨ (openS s).2.2.1 ≠ s.length then (zF, 110)
 else if (parseR (openS s).1 (bytesOf (openS s).2.1)).2 = true ∧ layFr (parseR (openS s).1 (bytesOf (openS s).2.1)).1 = (strOfNums s, 0) then ((parseR (openS s).1 (bytesOf (openS s).2.1)).1, 0) else (zF, 110)
theorem txR_of {m : Int} {l : List Int} {p q : Int} {t : ByteArray} (h : texQ m l p false = (t, q, false)) : txR m l p true = (t, q, true) := by
 unfold texQ at h
 unfold txR
 simp only [Prod.mk.injEq] at h
 have h0 : (textM m l p).2.2 = 0 := by
  have := h.2.2
  simpa using this
 rw [if_neg (by simp), if_pos h0, h.1, h.2.1]
theorem nmR_of {l : List Int} {p q n : Int} (h : numQ l p false = (n, q, false)) : nmR l p true = (n, q, true) := by
 unfold numQ at h
 unfold nmR
 simp only [Prod.mk.injEq] at h
 obtain ⟨h1, h2, h3⟩ := h
 rw [Bool.or_eq_false_iff] at h3
 have h0 : (takeS l p).2.2 = 0 := by simpa using h3.1
 have hn : ¬ (takeS l p).1 > 1152921504606846976 := by simpa using h3.2
 rw [if_neg (by simp), if_pos h0, if_neg hn]
 rw [if_pos (by omega)] at h1
 rw [h1, h2]
theorem opR_enc {r l : List Int} (hr : isB r) : ∀ (L : List S36) (a : List Int) (p : Int) (o : List S36), isB a → (∀ x, x ∈ L → rightO x = true) → p = (a.length : Int) → l = a ++ layOps [] L ++ r →
 opR l L.length p true o = (((a ++ layOps [] L).length : Int), true, o ++ L)
 | [], a, p, o, ha, hR, hp, hl => by
   unfold opR
   subst hp
   simp [layOps]
 | x :: L, a, p, o, ha, hR, hp, hl => by
   have hx := hR x (by simp)
   have hsz := layF_size x
   rw [layOps_cons] at hl
   have hT : txR 1048576 l p true = ((layF x).1, ((a ++ textB (layF x).1).length : Int), true) :=
    txR_of (texQ_enc (r := layOps [] L ++ r) (by omega) ha (app_B (layOps_B' (fun x hx => by simp at hx)) hr) (by omega) hp (by rw [hl]; simp))
   have hb : bytesOf (layF x).1 = layO x := by
    unfold layF
    rw [if_pos hx]
    exact bytes_nums (layO_B hx)
   rw [List.length_cons]
   unfold opR
   rw [if_neg (by simp), hT]
   dsimp only
   rw [hb, readO_enc hx]
   dsimp only
   show opR l L.length _ true _ = _
   rw [opR_enc hr L (a ++ textB (layF x).1) _ (o ++ [x]) (app_B ha (textB_B _ (by omega))) (fun y hy => hR y (by simp [hy])) rfl (by rw [hl]; simp), layOps_cons]
   simp
theorem parseR_enc {f : Fr} (h : rightF f = true) : parseR f.k (bodyB f) = (f, true) := by
 obtain ⟨s1, s2, s3, s4, s5, s6, hb⟩ := rightF_sizes h
 have hRR := h
 have hops := rightF_ops h
 obtain ⟨k, fa, fb, ct, se, ix, mn, kn, op⟩ := f
 dsimp only at *
 unfold bodyF at hb
 dsimp only at hb
 have fin : ∀ (l : List Int), (∃ p1 p2 p3 p4 p5, texQ 24 l 0 false = (fa, p1, false) ∧ texQ 24 l p1 false = (fb, p2, false) ∧ texQ 32 l p2 false = (ct, p3, false) ∧ numQ l p3 false = (se, p4, false) ∧ numQ l p4 false = (ix, p5, false) ∧ tailR k l p5 true = (mn, kn, op, true)) → parseR k l = (⟨k, fa, fb, ct, se, ix, mn, kn, op⟩, true) := by
  rintro l ⟨p1, p2, p3, p4, p5, e1, e2, e3, e4, e5, e6⟩
  unfold parseR
  rw [txR_of e1]
  dsimp only
  rw [txR_of e2]
  dsimp only
  rw [txR_of e3]
  dsimp only
  rw [nmR_of e4]
  dsimp only
  rw [nmR_of e5]
  dsimp only
  rw [e6]
 apply fin
 have hhB : ∀ hix : ix ≤ 1152921504606846976, isB (headB ⟨k, fa, fb, ct, se, ix, mn, kn, op⟩) := fun hix => by
  rw [headB_eq]
  exact app_B (app_B (app_B (app_B (textB_B _ (by show fa.size ≤ 1000000; omega)) (textB_B _ (by show fb.size ≤ 1000000; omega))) (textB_B _ (by show ct.size ≤ 1000000; omega))) (enc_R (by show 0 ≤ se; omega) s5)) (enc_R s6 hix)
 unfold bodyB
 dsimp only
 by_cases k1 : k = 1
 · rw [if_pos k1] at hb ⊢
   simp only [Bool.and_eq_true, decide_eq_true_eq] at hb
   have hix := hb.2
   obtain ⟨p1, p2, p3, p4, e1, e2, e3, e4, e5⟩ := head_enc hRR hix (layV_B hb.1.2) rfl
   refine ⟨p1, p2, p3, p4, _, e1, e2, e3, e4, e5, ?_⟩
   unfold tailR
   rw [if_pos k1]
   have hv := vec_enc_at (headB ⟨k, fa, fb, ct, se, ix, mn, kn, op⟩) [] (hhB hix) nilB kn hb.1.2
   rw [List.append_nil] at hv
   try dsimp only
   rw [hv, len0 hb.1.1.2, hb.1.1.1]
   rfl
 · rw [if_neg k1] at hb ⊢
   by_cases k2 : k = 2
   · rw [if_pos k2] at hb ⊢
     simp only [Bool.and_eq_true, decide_eq_true_eq] at hb
     have hix : ix ≤ 1152921504606846976 := by omega
     rw [layOps_app]
     have hm := enc_R (n := mn) (by omega) (by omega)
     have hn := enc_R (n := (op.length : Int)) (by omega) (by omega)
     have hL := layOps_B' (l := op) nilB
     obtain ⟨p1, p2, p3, p4, e1, e2, e3, e4, e5⟩ := head_enc hRR hix (app_B hm (app_B hn hL)) (l := headB ⟨k, fa, fb, ct, se, ix, mn, kn, op⟩ ++ encN mn ++ encN (op.length : Int) ++ layOps [] op) (by simp)
     refine ⟨p1, p2, p3, p4, _, e1, e2, e3, e4, e5, ?_⟩
     unfold tailR
     rw [if_neg k1, if_pos k2]
     have q1 := nmR_of (numQ_enc (l := headB ⟨k, fa, fb, ct, se, ix, mn, kn, op⟩ ++ encN mn ++ encN (op.length : Int) ++ layOps [] op) (a := headB ⟨k, fa, fb, ct, se, ix, mn, kn, op⟩) (hhB hix) (app_B hn hL) (n := mn) (by omega) (by omega) rfl (by simp))
     have q2 := nmR_of (numQ_enc (l := headB ⟨k, fa, fb, ct, se, ix, mn, kn, op⟩ ++ encN mn ++ encN (op.length : Int) ++ layOps [] op) (a := headB ⟨k, fa, fb, ct, se, ix, mn, kn, op⟩ ++ encN mn) (app_B (hhB hix) hm) hL (n := (op.length : Int)) (by omega) (by omega) rfl (by simp))
     have q3 := opR_enc (r := []) (l := headB ⟨k, fa, fb, ct, se, ix, mn, kn, op⟩ ++ encN mn ++ encN (op.length : Int) ++ layOps [] op) nilB op (headB ⟨k, fa, fb, ct, se, ix, mn, kn, op⟩ ++ encN mn ++ encN (op.length : Int)) _ [] (app_B (app_B (hhB hix) hm) hn) hops rfl (by simp)
     dsimp only
     rw [q1]
     dsimp only
     rw [q2]
     dsimp only
     rw [Int.toNat_natCast, q3, len0 hb.1.1.1.1.1]
     rfl
   · rw [if_neg k2] at hb ⊢
     simp only [Bool.and_eq_true, decide_eq_true_eq] at hb
     have hix : ix ≤ 1152921504606846976 := by omega
     obtain ⟨p1, p2, p3, p4, e1, e2, e3, e4, e5⟩ := head_enc (T := []) hRR hix nilB (by rw [List.append_nil])
     refine ⟨p1, p2, p3, p4, _, e1, e2, e3, e4, e5, ?_⟩
     unfold tailR
     rw [if_neg k1, if_neg k2, len0 hb.1.2, len0 hb.1.1.2, hb.1.1.1.2]
theorem layFr_right {f : Fr} {s : ByteArray} (h : layFr f = (s, 0)) : rightF f = true := by
 cases hr : rightF f with
 | true => rfl
 | false =>
   unfold layFr at h
   rw [if_neg (by rw [hr]; simp)] at h
   cases h
theorem refF_eq {s : List Int} (hB : isB s) : refF s = readF s := by
 unfold refF
 by_cases h0 : (openS s).2.2.2 ≠ 0 ∨ (openS s).2.2.1 ≠ s.length
 · unfold readF
   rw [if_pos h0, if_pos h0]
 rw [if_neg h0]
 have hb : readF s = readB (openS s).1 (bytesOf (openS s).2.1) := by unfold readF; rw [if_neg h0]
 by_cases h1 : (parseR (openS s).1 (bytesOf (openS s).2.1)).2 = true ∧ layFr (parseR (openS s).1 (bytesOf (openS s).2.1)).1 = (strOfNums s, 0)
 · rw [if_pos h1]
   have hr := layFr_right h1.2
   have h2 := readF_back hr
   rw [h1.2] at h2
   dsimp only at h2
   rw [bytes_nums hB] at h2
   rw [h2]
 · rw [if_neg h1]
   rcases readF_err s with h | h
   · exfalso
     obtain ⟨r1, r2⟩ := readF_is hB h
     rw [hb] at h r1 r2
     obtain ⟨_, r3, r4⟩ := readB_is (bytes_B _) _ h
     have h5 := parseR_enc r1
     rw [r3, r4] at h5
     rw [h5] at h1
     exact h1 ⟨rfl, r2⟩
   · unfold readF at h ⊢
     rw [if_neg h0] at h ⊢
     unfold readB at h ⊢
     dsimp only at h ⊢
     split
     · rfl
     · rename_i h2
       rw [if_neg h2] at h
       cases h
theorem readO_ok (m : Nat) (hm : 1000 ≤ m) (b : List Int) (hB : isB b) : WfO m (readO b).1 := by
 have hw := refO_wf b
 rw [refO_eq hB] at hw
 rcases hw with h | h
 · obtain ⟨h1, h2, h3, h4, h5, h6, h7, h8, h9⟩ := rightO_all (readO_is hB h).1
   have hd := dotOk_32 h1
   refine ⟨by omega, fun y hy => ?_, fun y hy => ?_⟩
   · have := (right_fine h2 y hy).1
     omega
   · have := (h6 y hy).1
     omega
 · rw [h]
   exact ⟨Nat.zero_le _, (fun (y : S34) (hy : y ∈ ([] : List S34)) => by cases hy), (fun (y : S34) (hy : y ∈ ([] : List S34)) => by cases hy)⟩
theorem opR_ok {l : List Int} (hB : isB l) (m : Nat) (hm : 1000 ≤ m) : ∀ (k : Nat) (p : Int) (ok : Bool) (o : List S36), (∀ x, x ∈ o → WfO m x) → ∀ x, x ∈ (opR l k p ok o).2.2 → WfO m x
 | 0, p, ok, o, h => h
 | k + 1, p, ok, o, h => by
   unfold opR
   by_cases h0 : ok = false
   · rw [if_pos h0]
     exact h
   · rw [if_neg h0]
     refine opR_ok hB m hm k _ _ _ (fun x hx => ?_)
     rcases List.mem_append.1 hx with h1 | h1
     · exact h x h1
     · rw [List.mem_singleton.1 h1]
       exact readO_ok m hm _ (bytes_B _)
theorem vecS_ok {l : List Int} (hB : isB l) (p : Int) (m : Nat) (hm : 1000 ≤ m) : sizes m (vecS l p).1 := by
 by_cases h : (vecS l p).2.2 = 0
 · intro x hx
   have := (right_fine (vec_is_at hB h).1 x hx).1
   omega
 · have key : ∀ (c : Nat) (q : Int) (v : List S34), (tl l c q v).2.2 ≠ 0 → (tl l c q v).1 = [] := by
    intro c
    induction c with
    | zero =>
      intro q v h
      unfold tl at h ⊢
      split
      · rename_i h1
        rw [if_pos h1] at h
        exact absurd rfl h
      · rfl
    | succ c ih =>
      intro q v h
      unfold tl at h ⊢
      by_cases a1 : (textT l q).2.2 = 0
      · rw [if_pos a1] at h ⊢
        by_cases a2 : (takeS l (textT l q).2.1).2.2 = 0
        · rw [if_pos a2] at h ⊢
          by_cases a3 : (takeS l (textT l q).2.1).1 > 4611686018427387904
          · rw [if_pos a3]
          · rw [if_neg a3] at h ⊢
            exact ih _ _ h
        · rw [if_neg a2]
      · rw [if_neg a1]
   have : (vecS l p).1 = [] := by
    unfold vecS at h ⊢
    by_cases a1 : (takeS l p).2.2 = 0
    · rw [if_pos a1] at h ⊢
      by_cases a2 : (takeS l p).1 > 64
      · rw [if_pos a2]
      · rw [if_neg a2] at h ⊢
        exact key _ _ _ h
    · rw [if_neg a1]
   rw [this]
   intro x hx
   cases hx
end Go.Proofs.Ytenbkljgmgdegaa.PO
end
