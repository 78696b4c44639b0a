/-
  Rows of rows: are there few; the sum of their squares by the document; one behind the other.
-/
import Derived.Test.YtfgmfhdcdhanbaaGreatGO
import Derived.Test.YtfgmfhdcdhanbaaGreatGJ
import Derived.Test.YtfgmfhdcdhanbaaGreatGH
import Derived.Test.YtfgmfhdcdhanbaaGreatFixD
import Derived.Lib.Walk
import Derived.Lib.AppendZerosOnto
namespace Go.Rt
open Go Go.RowKit Go.Proofs

theorem OwnI.block {W : World} {base : Nat} {e : TypeId} {v : Value} {l : List Int} (h : OwnI W base e v l) : ∀ g, v.ownBlock = some g → base ≤ g ∧ g < W.heap.size := by
  intro g hg
  rcases h.2 with ⟨rfl, -⟩ | ⟨b, cap, cur, rfl, hb, hk, -⟩
  · cases hg
  · cases hg
    exact ⟨hb, (Array.getElem?_eq_some_iff.1 hk).1⟩

theorem wrap_nat {a b : Nat} (h : a + b ≤ 9223372036854775807) : IntKind.i64.wrap ((a : Int) + (b : Int)) = ((a + b : Nat) : Int) := by rw [IntKind.wrap_i64]; omega

set_option maxRecDepth 100000 in
set_option maxHeartbeats 4000000 in
theorem Tryz.refFew16 {lo hh n c : Nat} {a : Option Addr} {ls : List (List Int)} {w : World} (h : Mw lo hh w a n c ls) (hn : n ≤ 140737488351232) (hl : ∀ l ∈ ls, l.length ≤ 140737488351232) :
  Calls Tryz.prog 4 #[.slice a n c, .int .i64 40] w fun e w' => e = .returned (.bool (decide (n + ls.flatten.length ≤ 40))) ∧ w' = w := by
 have hlen := h.len
 have HL := Lib.hid (And.intro hlen (And.intro hl hn))
 have hn63 : n ≤ 9223372036854775807 := by omega
 obtain ⟨B, hB⟩ : ∃ B, B = decide (n + ls.flatten.length ≤ 40) := ⟨_, rfl⟩
 rw [← hB]
 have HB := Lib.hid hB
 clear hl hn hlen hB
 go_enter Tryz.func4, Tryz.ntmps4
 go_wp2_with fail
 go_loopw [5, 6] (fun s i wr => ∃ k t : Nat, i = .int .i64 (k : Int) ∧ s = .int .i64 (t : Int) ∧ k ≤ n ∧ Hid (t = n + (ls.take k).flatten.length) ∧ Hid (k = 0 ∨ t ≤ 40) ∧ w = wr) (fun _ i _ => n - (intOf i).toNat)
 case atStart => exact ⟨0, n, rfl, rfl, by omega, Lib.hid (by simp), Lib.hid (.inl rfl), rfl⟩
 case round =>
  obtain ⟨k, t, rfl, rfl, hk, HT, HK, rfl⟩ := hrel
  by_cases hlt : k < n
  ·have hltI : (k : Int) < (n : Int) := by omega
   obtain ⟨b, o, rfl, -, -⟩ := h.some (by omega)
   obtain ⟨ai, ci, hc, hi⟩ := h.cell hlt
   obtain ⟨m, hm⟩ : ∃ m, m = (atR ls k).length := ⟨_, rfl⟩
   rw [← hm] at hc
   have hmb : t + m ≤ 9223372036854775807 := by
    have h1 := HL.out.2.1 (atR ls k) (atR_mem (by have := HL.out.1; omega))
    have h2 := HL.out.2.2
    have h3 := HT.out
    rcases HK.out with rfl | h4
    ·simp at h3
     omega
    ·omega
   have hw := wrap_nat hmb
   have HM : Hid (t + m = n + (ls.take (k + 1)).flatten.length ∧ n + (ls.take (k + 1)).flatten.length ≤ n + ls.flatten.length) := Lib.hid (by
    have h5 := flat_split (ls := ls) (i := k) (by have := HL.out.1; omega)
    rw [flat_take (by have := HL.out.1; omega), List.length_append]
    have := HT.out
    omega)
   have hk63 : (k : Int) < 9223372036854775807 := by omega
   obtain ⟨s, hs⟩ : ∃ s, t + m = s := ⟨_, rfl⟩
   rw [hs] at hw HM
   clear hm hi hmb h hs
   by_cases h40 : 40 < s
   ·have hg : (s : Int) > 40 := by omega
    have HO : Hid (B = false) := Lib.hid (by rw [HB.out]; exact decide_eq_false (by have := HM.out; omega))
    clear h40
    go_wp2; go_ret
    exact ⟨ret_b HO.out.symm, rfl⟩
   ·have hg : ¬ (s : Int) > 40 := by omega
    have HQ : Hid (s ≤ 40) := Lib.hid (by omega)
    clear h40
    go_wp2
    go_roundw
    case rel => exact ⟨k + 1, s, by go_num, rfl, by omega, Lib.hid HM.out.1, Lib.hid (.inr HQ.out), trivial⟩
    case measure => simp [intOf]; omega
  ·have hge : ¬ (k : Int) < (n : Int) := by omega
   have HR : Hid (decide ((t : Int) ≤ 40) = B) := Lib.hid (by
    have h1 := HT.out
    rw [HB.out]
    rw [show k = n by omega, List.take_of_length_le (by have := HL.out.1; omega)] at h1
    rw [Bool.eq_iff_iff, decide_eq_true_iff, decide_eq_true_iff]
    omega)
   clear h; go_wp2; go_ret
   exact ⟨ret_b HR.out, rfl⟩

theorem Nw.empty (w : World) (t : TypeId) : Nw (w.alloc (.cells #[] t)) (.slice (some ⟨w.heap.size, 0, none⟩) 0 0) 0 :=
  ⟨[], ⟨_, w.heap.size, 0, 0, rfl, ⟨.inl rfl, Nat.le_refl _, Nat.zero_le _, fun _ hi => absurd hi (Nat.not_lt_zero _)⟩, Lim.nil _⟩, .inl rfl, rfl⟩

set_option maxRecDepth 100000 in
set_option maxHeartbeats 4000000 in
theorem Tryz.refSquares16 {lo hh n c : Nat} {a : Option Addr} {ls : List (List Int)} {w : World} (h : Mw lo hh w a n c ls) (hL : ls.flatten.length ≤ 100) :
  Calls Tryz.prog 32 #[.slice a n c] w fun e w' => ∃ v', e = .returned v' ∧ Nw w' v' (sqs ls.flatten) ∧ Ext w w' := by
 have hlen := h.len
 have hc := h.cap
 have HL := Lib.hid (And.intro hlen hL)
 have HI := Lib.hid h.i64
 have hn63 : n ≤ 9223372036854775807 := by omega
 clear hlen hL hc
 go_enter Tryz.func32, Tryz.ntmps32
 go_wp2_with fail
 go_loopw [3, 4] (fun s i wr => ∃ k : Nat, i = .int .i64 (k : Int) ∧ k ≤ n ∧ Nw wr s (sqs (ls.take k).flatten) ∧ Ext w wr) (fun _ i _ => n - (intOf i).toNat)
 case atStart => exact ⟨0, rfl, by omega, Nw.empty _ _, Ext.alloc1 _ _⟩
 case round =>
  obtain ⟨k, rfl, hk, hs, E0⟩ := hrel
  by_cases hlt : k < n
  ·have hltI : (k : Int) < (n : Int) := by omega
   have HK : Hid (k < ls.length) := Lib.hid (by have := HL.out.1; omega)
   have h2 := h.ext E0
   obtain ⟨b, o, rfl, -, -⟩ := h2.some (by omega)
   obtain ⟨ai, ci, hc, hi⟩ := h2.cell hlt
   obtain ⟨m, hm⟩ : ∃ m, m = (atR ls k).length := ⟨_, rfl⟩
   rw [← hm] at hc
   have hm63 : m ≤ 9223372036854775807 := by have := hi.cap; omega
   have HM := Lib.hid hm
   have HS : Hid (sqs (ls.take k).flatten = sqs (ls.take k).flatten + sqs ((atR ls k).take 0)) := Lib.hid rfl
   have hk63 : (k : Int) < 9223372036854775807 := by omega
   rw [HS.out] at hs
   clear hm h2
   go_wp2_with fail
   go_loopw [3, 5] (fun s i wq => ∃ j : Nat, i = .int .i64 (j : Int) ∧ j ≤ m ∧ Nw wq s (sqs (ls.take k).flatten + sqs ((atR ls k).take j)) ∧ Ext w wq) (fun _ i _ => m - (intOf i).toNat)
   case atStart => exact ⟨0, rfl, by omega, hs, E0⟩
   case round =>
    clear hs E0 hc hi
    obtain ⟨j, rfl, hj, hs, E0⟩ := hrel
    have h2 := h.ext E0
    obtain ⟨ai', ci', hc, hi⟩ := h2.cell hlt
    rw [← HM.out] at hc hi
    by_cases hjt : j < m
    ·have hjI : (j : Int) < (m : Int) := by omega
     have hiw := hi.iw (by omega)
     obtain ⟨bi, oi, rfl, -, -⟩ := hiw.some (by omega)
     have hcc := hiw.cell hjt
     have hx := hiw.i64 hjt
     have hj63 : (j : Int) < 9223372036854775807 := by omega
     have HSM : Hid (Sm 3 (sqs (ls.take k).flatten + sqs ((atR ls k).take j)) ∧ Sm 1 (atL (atR ls k) j).natAbs ∧ sqs (ls.take k).flatten + sqs ((atR ls k).take j) + (atL (atR ls k) j).natAbs * (atL (atR ls k) j).natAbs = sqs (ls.take k).flatten + sqs ((atR ls k).take (j + 1)) ∧ Sm 3 ((atL (atR ls k) j).natAbs * (atL (atR ls k) j).natAbs)) := Lib.hid (by
      unfold I64 at hx
      have q1 : Sm 1 (atL (atR ls k) j).natAbs := by unfold Sm; rw [B64_eq]; omega
      have q2 : Sm 3 ((atL (atR ls k) j).natAbs * (atL (atR ls k) j).natAbs) := (Sm.mul q1 q1).mono (by omega)
      refine ⟨?_, q1, ?_, q2⟩
      ·rw [← sqs_append]
       refine sqs_sm (fun x hx => ?_) ?_
       ·rcases List.mem_append.1 hx with hx | hx
        ·obtain ⟨l, hl, hx⟩ := List.mem_flatten.1 hx
         exact HI.out x (List.mem_flatten.2 ⟨l, List.mem_of_mem_take hl, hx⟩)
        ·exact HI.out x (List.mem_flatten.2 ⟨_, atR_mem HK.out, List.mem_of_mem_take hx⟩)
       ·have h5 := flat_split HK.out
        have := HL.out.2
        simp only [List.length_append, List.length_take]
        omega
      ·rw [sqs_take (by rw [← HM.out]; exact hjt)]
       omega)
     have HX := Lib.hid hx
     clear hx hi hiw h2
     go_wp2_with fail
     refine (Tryz.refZOf (atL (atR ls k) j) _ HX.out.1 HX.out.2).mono ?_
     rintro e W1 ⟨v1, rfl, hz, hE⟩
     obtain ⟨bz, az, nz, cz, rfl, -, hz⟩ := hz
     have hfz := Tryz.fieldZ bz az nz cz
     replace hs := hs.ext hE
     replace E0 := E0.trans hE
     clear hE hc hcc
     go_wp2_with fail
     refine (Tryz.refMul hz hz HSM.out.2.1 HSM.out.2.1 (by omega)).mono ?_
     rintro e W2 ⟨v2, rfl, hq, hE, -⟩
     replace hs := hs.ext hE
     replace E0 := E0.trans hE
     clear hE hz
     go_wp2_with fail
     refine (Tryz.refAdd hs hq HSM.out.1 HSM.out.2.2.2 (by omega)).mono ?_
     rintro e W3 ⟨v3, rfl, hs2, hE, -⟩
     replace E0 := E0.trans hE
     rw [HSM.out.2.2.1] at hs2
     clear hE hq hs
     go_wp2
     go_roundw
     case rel => exact ⟨j + 1, by go_num, by omega, hs2, E0⟩
     case measure => simp [intOf]; omega
    ·have hge : ¬ (j : Int) < (m : Int) := by omega
     have HE : Hid (sqs (ls.take k).flatten + sqs ((atR ls k).take j) = sqs (ls.take (k + 1)).flatten) := Lib.hid (by
      rw [flat_take HK.out, sqs_append, List.take_of_length_le (i := j) (l := atR ls k) (by have := HM.out; omega)])
     rw [HE.out] at hs
     clear hi h2
     go_wp2
     go_roundw
     case rel => exact ⟨k + 1, by go_num, by omega, hs, E0⟩
     case measure => simp [intOf]; omega
  ·have hge : ¬ (k : Int) < (n : Int) := by omega
   have HE : Hid ((ls.take k).flatten = ls.flatten) := Lib.hid (by rw [List.take_of_length_le (by have := HL.out.1; omega)])
   rw [HE.out] at hs
   clear h; go_wp2; go_ret
   exact ⟨_, rfl, hs, E0⟩

set_option maxRecDepth 100000 in
set_option maxHeartbeats 4000000 in
theorem Tryz.growNil (n : Nat) (w : World) (hn : n ≤ 1099511627776) :
  Calls Tryz.prog 57 #[.slice none 0 0, .int .i64 (n : Int)] w fun e w' => ∃ v', e = .returned v' ∧ OwnI w' w.heap.size 2 v' [] ∧ Ext w w' := by
 have h1 : ¬ ((n : Int) < 0) := by omega
 have h3 : wrap64 ((n : Int) - 0) = (n : Int) := by unfold wrap64; omega
 rcases Nat.eq_zero_or_pos n with h0 | h0
 ·subst h0
  go_enter Tryz.func57, Tryz.ntmps57
  go_wp2; go_ret
  exact ⟨_, rfl, OwnI.nil _ _ _, Ext.refl _⟩
 ·have hp : (n : Int) > 0 := by omega
  obtain ⟨i0, q1, q2, q3, q4⟩ := Tryz.infoI.get
  have hrz : ∀ ty, (Builtin.append_ #[28, 3] ty #[.slice none 0 0, .int .i64 (n : Int)]).run Tryz.prog w = .ok (.slice (some ⟨w.heap.size, 0, none⟩) n (grownCap w n 0 2)) (w.drew.alloc (.cells (Builtin.zeroCells (Value.int .i64 0).cells n ++ Builtin.zeroCells (Value.int .i64 0).cells (grownCap w n 0 2 - n)) 2)) :=
   fun ty => Lib.run_append_nil_zeros w _ _ ty _ i0 (.int .i64 0) .i64 .i64 Tryz.underlying28 Tryz.underlying3 q1 q2 n h0 (by omega) (by omega) (by rw [q4]; omega)
  have hge := grownCap_ge w n 0 2
  have hmax := grownCap_le_maxLen w n 0 2 (by unfold maxLen; omega)
  unfold maxLen at hmax
  obtain ⟨G, hG⟩ : ∃ G, G = grownCap w n 0 2 := ⟨_, rfl⟩
  rw [← hG] at hrz hge hmax
  obtain ⟨W2, hW2⟩ : ∃ W2, W2 = w.drew.alloc (.cells (Builtin.zeroCells (Value.int .i64 0).cells n ++ Builtin.zeroCells (Value.int .i64 0).cells (G - n)) 2) := ⟨_, rfl⟩
  rw [← hW2] at hrz
  have hE : Ext w W2 := by rw [hW2]; exact (Ext.drew1 w).alloc _
  have ho : OwnI W2 w.heap.size 2 (.slice (some ⟨w.heap.size, 0, none⟩) 0 G) [] := by
   refine ⟨rfl, .inr ⟨w.heap.size, G, _, rfl, Nat.le_refl _, by rw [hW2]; exact heap_alloc_new w.drew _, Nat.zero_le _, by unfold maxLen; omega, ?_, rfl⟩⟩
   rw [Array.size_append, size_zeroCells, size_zeroCells]
   simp [Value.cells]
   omega
  have HH := Lib.hid (And.intro ho hE)
  clear hG hW2 ho hE q1 q2 q3 q4
  go_enter Tryz.func57, Tryz.ntmps57
  go_wp2_with (at_builtin; refine Lib.wpList_append_run _ rfl _ _ _ _ rfl _ _ rfl rfl _ _ (hrz _) ?_)
  all_goals go_ret
  all_goals exact ⟨_, rfl, HH.out.1, HH.out.2⟩

set_option maxRecDepth 100000 in
set_option maxHeartbeats 4000000 in
/-- rows, one behind the other -/
theorem Tryz.concat {lo hh n c : Nat} {a : Option Addr} {ls : List (List Int)} {w : World} (h : Mw lo hh w a n c ls) (hL : ls.flatten.length ≤ 100) :
  Calls Tryz.prog 27 #[.slice a n c] w fun e w' => ∃ a' c', e = .returned (.slice a' ls.flatten.length c') ∧ Iw w.heap.size w'.heap.size w' a' ls.flatten.length c' ls.flatten ∧ Ext w w' := by
 have hlen := h.len
 have hc := h.cap
 have HL := Lib.hid (And.intro hlen hL)
 have HI := Lib.hid h.i64
 have hn63 : n ≤ 9223372036854775807 := by omega
 obtain ⟨f, hf⟩ : ∃ f, f = ls.flatten := ⟨_, rfl⟩
 have HF := Lib.hid hf
 rw [← hf]
 clear hlen hL hc hf
 go_enter Tryz.func27, Tryz.ntmps27
 go_wp2_with fail
 go_loopw [3, 11] (fun s i wr => ∃ k t : Nat, i = .int .i64 (k : Int) ∧ s = .int .i64 (t : Int) ∧ k ≤ n ∧ Hid (t = (ls.take k).flatten.length) ∧ w = wr) (fun _ i _ => n - (intOf i).toNat)
 case atStart => exact ⟨0, 0, rfl, rfl, by omega, Lib.hid rfl, rfl⟩
 case round =>
  obtain ⟨k, t, rfl, rfl, hk, HT, rfl⟩ := hrel
  by_cases hlt : k < n
  ·have hltI : (k : Int) < (n : Int) := by omega
   have HK : Hid (k < ls.length) := Lib.hid (by have := HL.out.1; omega)
   obtain ⟨b, o, rfl, -, -⟩ := h.some (by omega)
   obtain ⟨ai, ci, hc, hi⟩ := h.cell hlt
   obtain ⟨m, hm⟩ : ∃ m, m = (atR ls k).length := ⟨_, rfl⟩
   rw [← hm] at hc
   have h5 := flat_split HK.out
   have HM : Hid (t + m = (ls.take (k + 1)).flatten.length) := Lib.hid (by rw [flat_take HK.out, List.length_append]; have := HT.out; omega)
   have hw := wrap_nat (a := t) (b := m) (by have := HT.out; have := HL.out.2; omega)
   obtain ⟨s, hs⟩ : ∃ s, t + m = s := ⟨_, rfl⟩
   rw [hs] at hw HM
   have hn0 : ¬ (s : Int) < 0 := by omega
   have hk63 : (k : Int) < 9223372036854775807 := by omega
   clear hm hi h5 h hs
   go_wp2
   go_roundw
   case rel => exact ⟨k + 1, s, by go_num, rfl, by omega, HM, trivial⟩
   case measure => simp [intOf]; omega
  ·have hge : ¬ (k : Int) < (n : Int) := by omega
   have HE : Hid (k = n) := Lib.hid (by omega)
   have HTL : Hid (t ≤ 1099511627776) := Lib.hid (by
    have h1 := HT.out
    rw [List.take_of_length_le (by have := HL.out.1; omega)] at h1
    have := HL.out.2
    omega)
   go_wp2_with fail
   refine (Tryz.growNil t _ HTL.out).mono ?_
   rintro e W1 ⟨v1, rfl, ho, hE⟩
   have szw := hE.size
   go_wp2_with fail
   go_loopw [6, 27] (fun s i wq => ∃ j : Nat, i = .int .i64 (j : Int) ∧ j ≤ n ∧ OwnI wq w.heap.size 2 s (ls.take j).flatten ∧ Ext w wq) (fun _ i _ => n - (intOf i).toNat)
   case atStart => exact ⟨0, rfl, by omega, ho, hE⟩
   case round =>
    clear ho hE szw hge
    obtain ⟨j, rfl, hj, ho, hE⟩ := hrel
    have szw := hE.size
    by_cases hjt : j < n
    ·have hjI : (j : Int) < (n : Int) := by omega
     have HK : Hid (j < ls.length) := Lib.hid (by have := HL.out.1; omega)
     have h2 := h.ext hE
     obtain ⟨b, o, rfl, -, -⟩ := h2.some (by omega)
     obtain ⟨ai, ci, hc, hi⟩ := h2.cell hjt
     obtain ⟨m, hm⟩ : ∃ m, m = (atR ls j).length := ⟨_, rfl⟩
     rw [← hm] at hc hi
     have hsm : (ls.take j).flatten.length + m ≤ 1099511627776 := by
      have h5 := flat_split HK.out
      have := HL.out.2
      omega
     have HM : Hid ((ls.take j).flatten ++ atR ls j = (ls.take (j + 1)).flatten) := Lib.hid (flat_take HK.out).symm
     have hj63 : (j : Int) < 9223372036854775807 := by omega
     clear hm h2
     go_wp2_with (at_builtin; go_loud (refine append_row Tryz.underlying28 Tryz.infoI rfl _ _ rfl w.heap.size _ (ls.take j).flatten (atR ls j) lo hh m ci ai (by rfl) (by rfl) ho hi hsm szw ?_); intro v' w3 ho1 hg1 hat)
     go_roundw
     case rel =>
      have hsz := hg1.size
      exact ⟨j + 1, by go_num, by omega, by rw [← HM.out]; exact ho1, hE.grown hg1 (fun q e => (ho.block q e).1)⟩
     case measure => simp [intOf]; omega
    ·have hge : ¬ (j : Int) < (n : Int) := by omega
     have HE : Hid ((ls.take j).flatten = f) := Lib.hid (by rw [List.take_of_length_le (by have := HL.out.1; omega), HF.out])
     rw [HE.out] at ho
     obtain ⟨a', c', rfl, hi⟩ := ho.iw (by rw [HF.out]; exact HI.out) (fun g hg => (ho.block g hg).2)
     clear h ho; go_wp2; go_ret
     exact ⟨_, _, rfl, hi, hE⟩

set_option maxRecDepth 100000 in
set_option maxHeartbeats 4000000 in
/-- the norm of rows -/
theorem Tryz.clipNorm {lo hh n c : Nat} {a : Option Addr} {ls : List (List Int)} {w : World} (h : Mw lo hh w a n c ls) (hL : ls.flatten.length ≤ 100) :
  Calls Tryz.prog 11 #[.slice a n c] w fun e w' => ∃ v', e = .returned v' ∧ Nw w' v' (rootU (sqs ls.flatten) 2) ∧ Ext w w' := by
 have HL := Lib.hid hL
 have HI := Lib.hid h.i64
 obtain ⟨f, hff⟩ : ∃ f, f = ls.flatten := ⟨_, rfl⟩
 rw [← hff] at HI ⊢
 have HF := Lib.hid hff
 clear hL hff
 go_enter Tryz.func11, Tryz.ntmps11
 go_wp2_with fail
 refine (Tryz.concat h HL.out).mono ?_
 rintro e W1 ⟨a1, c1, rfl, hf, hE1⟩
 rw [← HF.out] at hf HL ⊢
 obtain ⟨m, hm⟩ : ∃ m, m = f.length := ⟨_, rfl⟩
 rw [← hm] at hf HL ⊢
 have HM := Lib.hid hm
 have hm63 : m ≤ 9223372036854775807 := by have := HL.out; omega
 clear hm h
 go_wp2_with fail
 go_loopw [3, 12] (fun s i wr => ∃ k : Nat, i = .int .i64 (k : Int) ∧ k ≤ m ∧ Nw wr s (sqs (f.take k)) ∧ Ext W1 wr ∧ Ext w wr) (fun _ i _ => m - (intOf i).toNat)
 case atStart => exact ⟨0, rfl, by omega, Nw.nil _, Ext.refl _, hE1⟩
 case round =>
  clear hE1
  obtain ⟨k, rfl, hk, hs, E1, E0⟩ := hrel
  by_cases hlt : k < m
  ·have hltI : (k : Int) < (m : Int) := by omega
   have h2 := hf.ext E1
   obtain ⟨b, o, rfl, -, -⟩ := h2.some (by omega)
   have hc := h2.cell hlt
   have hx := h2.i64 hlt
   have hk63 : (k : Int) < 9223372036854775807 := by omega
   have HSM : Hid (Sm 3 (sqs (f.take k)) ∧ Sm 1 (atL f k).natAbs ∧ sqs (f.take k) + (atL f k).natAbs * (atL f k).natAbs = sqs (f.take (k + 1)) ∧ Sm 3 ((atL f k).natAbs * (atL f k).natAbs)) := Lib.hid (by
    unfold I64 at hx
    have q1 : Sm 1 (atL f k).natAbs := by unfold Sm; rw [B64_eq]; omega
    have q2 : Sm 3 ((atL f k).natAbs * (atL f k).natAbs) := (Sm.mul q1 q1).mono (by omega)
    exact ⟨sqs_sm (fun x hx => HI.out x (List.mem_of_mem_take hx)) (by have := HL.out; have := HM.out; simp; omega), q1, (sqs_take (by have := HM.out; omega)).symm, q2⟩)
   have HX := Lib.hid hx
   clear hx h2
   go_wp2_with fail
   refine (Tryz.zedOf (atL f k) _ HX.out.1 HX.out.2).mono ?_
   rintro e W2 ⟨v1, rfl, hz, hE⟩
   obtain ⟨bz, az, nz, cz, rfl, -, hz⟩ := hz
   have hfz := Tryz.fieldZ bz az nz cz
   replace hs := hs.ext hE
   replace E0 := E0.trans hE
   replace E1 := E1.trans hE
   clear hE hc
   go_wp2_with fail
   refine (Tryz.natMul hz hz HSM.out.2.1 HSM.out.2.1 (by omega)).mono ?_
   rintro e W3 ⟨v2, rfl, hq, hE, -⟩
   replace hs := hs.ext hE
   replace E0 := E0.trans hE
   replace E1 := E1.trans hE
   clear hE hz
   go_wp2_with fail
   refine (Tryz.natAdd hs hq HSM.out.1 HSM.out.2.2.2 (by omega)).mono ?_
   rintro e W4 ⟨v3, rfl, hs2, hE, -⟩
   replace E0 := E0.trans hE
   replace E1 := E1.trans hE
   rw [HSM.out.2.2.1] at hs2
   clear hE hq hs
   go_wp2
   go_roundw
   case rel => exact ⟨k + 1, by go_num, by omega, hs2, E1, E0⟩
   case measure => simp [intOf]; omega
  ·have hge : ¬ (k : Int) < (m : Int) := by omega
   have HE : Hid (f.take k = f) := Lib.hid (by rw [List.take_of_length_le (by have := HM.out; omega)])
   rw [HE.out] at hs
   have HS : Hid (Sm 3 (sqs f)) := Lib.hid (sqs_sm HI.out (by have := HL.out; have := HM.out; omega))
   clear hf E1
   go_wp2_with fail
   refine (Tryz.rootUp hs HS.out (by omega) 2).mono ?_
   rintro e W2 ⟨v1, rfl, hr, hE⟩
   replace E0 := E0.trans hE
   clear hE hs
   go_wp2; go_ret
   exact ⟨_, rfl, hr, E0⟩
end Go.Rt
