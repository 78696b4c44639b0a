/-
  Rows' mean by the document; the program's in one.
-/
import Derived.Test.YtfgmfhdcdhanbaaGreatClipF
import Derived.Test.YtfgmfhdcdhanbaaGreatGU
import Derived.Test.YtfgmfhdcdhanbaaGreatGL
import Derived.Test.YtfgmfhdcdhanbaaGreatFixN
import Derived.Deep.QuietTactic
import Derived.BigQuiet
namespace Go.Rt
open Go Go.RowKit Go.Proofs

theorem SmR.whole {L : Nat} {z : Int} (h : Sm L z.natAbs) (hL : 1 ≤ L) : SmR L (z : Rat) := ⟨by rw [Rat.num_intCast]; exact h, by rw [Rat.den_intCast]; exact (Sm.small (by omega)).mono hL⟩

/-- a mean's code and its row -/
def meanC (ls : List (List Int)) : Int := if ls.length = 0 then 9 else if oddR ls = true then 5 else 0

def meanS (ls : List (List Int)) : List Int := if ls.length = 0 then [] else if oddR ls = true then [] else meanL ls

theorem Tryz.meanAny {lo hh n c : Nat} {a : Option Addr} {ls : List (List Int)} {w : World} (h : Mw lo hh w a n c ls) (hn : n ≤ 1000) (hm : ls.flatten.length ≤ 1000) (hhw : hh ≤ w.heap.size) :
    Calls Tryz.prog 7 #[.slice a n c] w fun e w' => ∃ a' n' c', e = .returned (.tuple #[.slice a' n' c', .int .i64 (meanC ls)]) ∧ Iz w.heap.size w'.heap.size w' a' n' c' (meanS ls) ∧ Ext w w' := by
  have hl := h.len
  unfold meanC meanS
  rcases Nat.eq_zero_or_pos n with h0 | h0
  · subst h0
    refine (Tryz.meanEmpty _).mono ?_
    rintro e W ⟨rfl, hE⟩
    rw [if_pos hl, if_pos hl]
    exact ⟨_, _, _, rfl, clipZ _ _ _, hE⟩
  · have hne : ls.length ≠ 0 := by omega
    rw [if_neg hne, if_neg hne]
    cases ho : oddR ls
    · have h1 := flat_split (ls := ls) (i := 0) (by omega)
      refine (Tryz.meanYes h h0 hn (by omega) hhw ho).mono ?_
      rintro e W ⟨a', c', rfl, hi, hE⟩
      exact ⟨_, _, _, rfl, .inl hi, hE⟩
    · refine (Tryz.meanShape h h0 ho).mono ?_
      rintro e W ⟨rfl, hE⟩
      exact ⟨_, _, _, rfl, clipZ _ _ _, hE⟩

set_option maxRecDepth 100000 in
set_option maxHeartbeats 4000000 in
theorem Tryz.refMeanNo {a : Option Addr} {c : Nat} (w : World) :
  Calls Tryz.prog 8 #[.slice a 0 c] w fun e w' => e = .returned (.tuple #[.slice none 0 0, .int .i64 9]) ∧ Ext w w' := by
 go_enter Tryz.func8, Tryz.ntmps8
 go_wp2
 go_ret2
 exact ⟨rfl, Ext.refl _⟩

set_option maxRecDepth 100000 in
set_option maxHeartbeats 8000000 in
theorem Tryz.refMeanOdd {lo hh n c : Nat} {a : Option Addr} {ls : List (List Int)} {w : World} (h : Mw lo hh w a n c ls) (hn : n ≤ 1000) (hm : ls.flatten.length ≤ 1000) (hp : 0 < n) (ho : oddR ls = true) :
  Calls Tryz.prog 8 #[.slice a n c] w fun e w' => e = .returned (.tuple #[.slice none 0 0, .int .i64 5]) ∧ Ext w w' := by
 have HI := Lib.hid h.i64
 have HLN := Lib.hid h.len
 have HL := Lib.hid hm
 have HP := Lib.hid hp
 have HO := Lib.hid ho
 have hn40 : n ≤ 1000 := hn
 have hn0 : ((n : Int) == 0) = false := by simp; omega
 clear hn ho hm
 obtain ⟨r, hr⟩ : ∃ r, r = (atR ls 0).length := ⟨_, rfl⟩
 have HR := Lib.hid hr
 obtain ⟨b, o, rfl, -, hbW⟩ := h.some hp
 have HBW := Lib.hid hbW
 obtain ⟨a0, c0, hc0, hi0⟩ := h.cell hp
 rw [Nat.add_zero, ← hr] at hc0
 rw [← hr] at hi0
 have HC0 := Lib.hid hc0
 have hnP : (0 : Int) < (n : Int) := by omega
 clear hr hc0 hbW
 obtain ⟨W1, hW1⟩ : ∃ W1, W1 = w.alloc (.cells #[] 2) := ⟨_, rfl⟩
 have E0 : Ext w W1 := by rw [hW1]; exact Ext.alloc1 _ _
 have hown : OwnI W1 w.heap.size 2 (.slice (some ⟨w.heap.size, 0, none⟩) 0 0) [] := by rw [hW1]; exact ownsRow_empty w _
 go_enter Tryz.func8, Tryz.ntmps8
 go_wp2_with fail
 rw [← hW1]
 clear hW1
 go_loopw [5] (fun i wr => ∃ j : Nat, i = .int .i64 (j : Int) ∧ j ≤ n ∧ Hid (∀ q, q < j → (atR ls q).length = r) ∧ Ext w wr) (fun i _ => n - (intOf i).toNat)
 case atStart => exact ⟨0, rfl, by omega, Lib.hid (fun q hq => absurd hq (by omega)), E0⟩
 case round =>
  clear E0
  obtain ⟨j, rfl, hj, HQ, E2⟩ := hrel
  by_cases hlt : j < n
  · have hltI : (j : Int) < (n : Int) := by omega
    have hj63 : (j : Int) < 9223372036854775807 := by omega
    obtain ⟨ai, ci, hc, -⟩ := h.cell hlt
    replace hc := E2.cell hc
    have hc0 := E2.cell HC0.out
    obtain ⟨m, hm⟩ : ∃ m, m = (atR ls j).length := ⟨_, rfl⟩
    rw [← hm] at hc
    by_cases he : m = r
    · have HE : Hid ((atR ls j).length = r) := Lib.hid (by rw [← hm]; exact he)
      subst he
      have hne : ((m : Int) != (m : Int)) = false := by simp
      clear hm
      go_wp2_with fail
      go_quiet (fail)
      go_wp2
      go_roundw
      case rel => exact ⟨j + 1, by go_num, by omega, Lib.hid (grow_upto (p := fun q => (atR ls q).length = m) HQ.out HE.out), E2.drewN _⟩
      case measure => simp [intOf]; omega
    · have hne : ((m : Int) != (r : Int)) = true := by simp; omega
      clear he hm
      go_wp2_with fail
      go_quiet (fail)
      have E9 := E2.drewN
      clear hc hc0 E2
      go_wp2
      go_ret2
      exact ⟨rfl, E9 _⟩
  · exfalso
    have := oddR_false (ls := ls) (fun i hi => by rw [HQ.out i (by have := HLN.out; omega), ← HR.out])
    rw [HO.out] at this
    cases this

set_option maxRecDepth 100000 in
set_option maxHeartbeats 8000000 in
theorem Tryz.refMeanYes {lo hh n c : Nat} {a : Option Addr} {ls : List (List Int)} {w : World} (h : Mw lo hh w a n c ls) (hn : n ≤ 1000) (hm : ls.flatten.length ≤ 1000) (hp : 0 < n) (hhw : hh ≤ w.heap.size) (ho : oddR ls = false) :
  Calls Tryz.prog 8 #[.slice a n c] w fun e w' => ∃ a' c', e = .returned (.tuple #[.slice a' (meanL ls).length c', .int .i64 0]) ∧ Iw w.heap.size w'.heap.size w' a' (meanL ls).length c' (meanL ls) ∧ Ext w w' := by
 have HR0 : Hid ((atR ls 0).length ≤ 1000) := Lib.hid (by
  have h1 := flat_split (ls := ls) (i := 0) (by have := h.len; omega)
  omega)
 have HI := Lib.hid h.i64
 have HLN := Lib.hid h.len
 have HL := Lib.hid hm
 have HP := Lib.hid hp
 have HO := Lib.hid ho
 have hn40 : n ≤ 1000 := hn
 have hn0 : ((n : Int) == 0) = false := by simp; omega
 clear hn ho hm
 obtain ⟨r, hr⟩ : ∃ r, r = (atR ls 0).length := ⟨_, rfl⟩
 have HR := Lib.hid hr
 obtain ⟨b, o, rfl, -, hbW⟩ := h.some hp
 have HBW := Lib.hid hbW
 obtain ⟨a0, c0, hc0, hi0⟩ := h.cell hp
 rw [Nat.add_zero, ← hr] at hc0
 rw [← hr] at hi0
 have HC0 := Lib.hid hc0
 have hnP : (0 : Int) < (n : Int) := by omega
 clear hr hc0 hbW
 obtain ⟨W1, hW1⟩ : ∃ W1, W1 = w.alloc (.cells #[] 2) := ⟨_, rfl⟩
 have E0 : Ext w W1 := by rw [hW1]; exact Ext.alloc1 _ _
 have hown : OwnI W1 w.heap.size 2 (.slice (some ⟨w.heap.size, 0, none⟩) 0 0) [] := by rw [hW1]; exact ownsRow_empty w _
 go_enter Tryz.func8, Tryz.ntmps8
 go_wp2_with fail
 rw [← hW1]
 clear hW1
 go_loopw [5] (fun i wr => ∃ j : Nat, i = .int .i64 (j : Int) ∧ j ≤ n ∧ Hid (∀ q, q < j → (atR ls q).length = r) ∧ Ext w wr ∧ OwnI wr w.heap.size 2 (.slice (some ⟨w.heap.size, 0, none⟩) 0 0) []) (fun i _ => n - (intOf i).toNat)
 case atStart => exact ⟨0, rfl, by omega, Lib.hid (fun q hq => absurd hq (by omega)), E0, hown⟩
 case round =>
  clear hown
  clear E0
  obtain ⟨j, rfl, hj, HQ, E2, hown⟩ := hrel
  by_cases hlt : j < n
  · have hltI : (j : Int) < (n : Int) := by omega
    have hj63 : (j : Int) < 9223372036854775807 := by omega
    obtain ⟨ai, ci, hc, -⟩ := h.cell hlt
    replace hc := E2.cell hc
    have hc0 := E2.cell HC0.out
    obtain ⟨m, hm⟩ : ∃ m, m = (atR ls j).length := ⟨_, rfl⟩
    rw [← hm] at hc
    have HE : Hid ((atR ls j).length = r) := Lib.hid (by rw [oddR_at HO.out (by have := HLN.out; omega), ← HR.out])
    have he : m = r := by rw [hm, HE.out]
    subst he
    have hne : ((m : Int) != (m : Int)) = false := by simp
    clear hm
    go_wp2_with fail
    go_quiet (fail)
    go_wp2
    go_roundw
    case rel => exact ⟨j + 1, by go_num, by omega, Lib.hid (grow_upto (p := fun q => (atR ls q).length = m) HQ.out HE.out), E2.drewN _, hown.ext ((Ext.refl _).drewN _)⟩
    case measure => simp [intOf]; omega
  ·    have hge : ¬ (j : Int) < (n : Int) := by omega
       have hhw0 := Lib.hid hhw
       have HRR : Hid (r ≤ 1000) := Lib.hid (by rw [HR.out]; exact HR0.out)
       clear HQ hlt hj hhw
       go_wp2_with fail
       go_loopw [4, 6] (fun s i wk => ∃ k : Nat, i = .int .i64 (k : Int) ∧ k ≤ r ∧ OwnI wk w.heap.size 2 s ((List.range k).map (meanV ls)) ∧ Ext w wk) (fun _ i _ => r - (intOf i).toNat)
       case atStart => exact ⟨0, rfl, by omega, hown, E2⟩
       case round =>
    clear hown E2
    obtain ⟨k, rfl, hk, hown, E2⟩ := hrel
    have hc0 := E2.cell HC0.out
    by_cases hkr : k < r
    ·      have hkI : (k : Int) < (r : Int) := by omega
           have HK := Lib.hid hkr
           have hk63 : (k : Int) < 9223372036854775807 := by have := HRR.out; omega
           go_wp2_with fail
           refine (Tryz.refROf 0 _ (by omega) (by omega)).mono ?_
           rintro e W6 ⟨v6, rfl, hs, hE⟩
           obtain ⟨b9, a9, n9, c9, d9, m9, o9, rfl, q9⟩ : ∃ b a n c d m o, v6 = .agg #[.bool b, .slice a n c, .slice d m o] ∧ True := let ⟨b, a, n, c, d, m, o, e, _⟩ := hs; ⟨b, a, n, c, d, m, o, e, trivial⟩
           clear q9
           replace hown := hown.ext hE
           replace E2 := E2.trans hE
           clear hE hc0
           obtain ⟨W7, hW7⟩ : ∃ W7, W7 = W6.alloc (.cells #[.bool b9, .slice a9 n9 c9, .slice d9 m9 o9] 46) := ⟨_, rfl⟩
           obtain ⟨g7, hg7⟩ : ∃ g7, g7 = W6.heap.size := ⟨_, rfl⟩
           have p7 : Bx3 W7 g7 46 (.bool b9) (.slice a9 n9 c9) (.slice d9 m9 o9) := by rw [hW7, hg7]; exact Bx3.new _ _ _ _ _
           have hE : Ext W6 W7 := by rw [hW7]; exact Ext.alloc1 _ _
           have HG7 : Hid (W6.heap.size ≤ g7 ∧ w.heap.size ≤ W6.heap.size) := Lib.hid ⟨by rw [hg7]; exact Nat.le_refl _, E2.size⟩
           replace hs := hs.ext hE
           have HZ0 : Hid (colS (ls.take 0) k = 0) := Lib.hid (by simp [colS])
           rw [← HZ0.out] at hs
           go_upto_region 13 with (fail)
           rw [← hW7, ← hg7]
           clear hW7 hg7
           go_wp2_with fail
           go_loopw [8] (fun i wq => ∃ (j : Nat) (bs : Bool) (az : Option Addr) (ns cs : Nat) (dz : Option Addr) (ms os : Nat), i = .int .i64 (j : Int) ∧ j ≤ n ∧ Bx3 wq g7 46 (.bool bs) (.slice az ns cs) (.slice dz ms os) ∧ Rw wq (.agg #[.bool bs, .slice az ns cs, .slice dz ms os]) ((colS (ls.take j) k : Int) : Rat) ∧ Ext W6 wq) (fun i _ => n - (intOf i).toNat)
           case atStart => exact ⟨0, _, _, _, _, _, _, _, rfl, by omega, p7, hs, hE⟩
           case round =>
      clear p7 hs hE HZ0
      obtain ⟨j, bs, az, ns, cs, dz, ms, os, rfl, hj, p7, hs, E0⟩ := hrel
      by_cases hjt : j < n
      · have hjI : (j : Int) < (n : Int) := by omega
        have hj63 : (j : Int) < 9223372036854775807 := by omega
        have HJ : Hid (j < ls.length) := Lib.hid (by have := HLN.out; omega)
        obtain ⟨ai, ci, hc, hi⟩ := h.cell hjt
        have hel := oddR_at HO.out HJ.out
        rw [← HR.out] at hel
        rw [hel] at hc hi
        replace hc := (E2.trans E0).cell hc
        have hi2 := (hi.iw (by omega)).ext (E2.trans E0)
        obtain ⟨bi, oi, rfl, -, -⟩ := hi2.some (by omega)
        have HX : Hid (I64 (atL (atR ls j) k)) := Lib.hid (hi2.i64 HK.out)
        have HST : Hid (((colS (ls.take j) k : Int) : Rat) + ((atL (atR ls j) k : Int) : Rat) = ((colS (ls.take (j + 1)) k : Int) : Rat)) := Lib.hid (by rw [colS_take HJ.out k, Rat.intCast_add])
        have SS : Hid (SmR 3 ((colS (ls.take j) k : Int) : Rat)) := Lib.hid (SmR.whole ((colS_sm (fun x hx => by obtain ⟨l, hl, hx⟩ := List.mem_flatten.1 hx; exact HI.out x (List.mem_flatten.2 ⟨l, List.mem_of_mem_take hl, hx⟩)) (by have := HLN.out; simp; omega) k).mono (by omega)) (by omega))
        have SX : Hid (SmR 3 ((atL (atR ls j) k : Int) : Rat)) := Lib.hid (SmR.whole (by have h1 := HX.out; unfold I64 at h1; unfold Sm; rw [B64_eq]; omega) (by omega))
        clear hel hi
        have kp7_0 := p7.cell0
        have kp7_1 := p7.cell1
        have kp7_2 := p7.cell2
        go_upto_region 16 with (fail)
        clear kp7_0 kp7_1 kp7_2
        have hG7 := HG7.out
        have hhw1 := hhw0.out
        have hbW := HBW.out
        have hr : Rest (fun W => Bx3 W g7 46 (.bool bs) (.slice az ns cs) (.slice dz ms os)) g7 := ⟨fun W W1 h hE => h.ext hE⟩
        have hRR := p7
        have fop7 := p7.form
        clear p7
        have ltf := fop7.lt
        have szw2 := Ext.size E0
        refine region_go3 [.one fun v _ => v = .agg #[.bool bs, .slice az ns cs, .slice dz ms os],
            .one fun v _ => v = .slice (some ⟨b, o, none⟩) n c,
            .one fun v _ => v = .int .i64 (j : Int),
            .one fun v _ => v = .pointer (some ⟨b, o + j, none⟩),
            .one fun v _ => v = .slice (some ⟨bi, oi, none⟩) r ci,
            .one fun v _ => v = .int .i64 (k : Int),
            .one fun v _ => v = .pointer (some ⟨bi, oi + k, none⟩),
            .one fun v _ => v = .int .i64 (atL (atR ls j) k),
            .one fun v W => Rw W v (((atL (atR ls j) k : Int) : Rat)),
            .one fun v W => Rw W v (((colS (ls.take j) k : Int) : Rat) + ((atL (atR ls j) k : Int) : Rat)),
            .two 9 (fun r _ W => At3 g7 46 r W)]
          (fun W => Ext W6 W ∧ Form W g7 46 3 ∧ Rw W (.agg #[.bool bs, .slice az ns cs, .slice dz ms os]) (((colS (ls.take j) k : Int) : Rat)) ∧ Iw lo hh W (some ⟨bi, oi, none⟩) r ci (atR ls j) ∧ World.cell? W ⟨b, o + j, none⟩ = some (.slice (some ⟨bi, oi, none⟩) r ci) ∧ wr.heap.size ≤ W.heap.size) wr.heap.size [] [Tag.any, Tag.any, Tag.any, Tag.any, Tag.any, Tag.any, Tag.any, Tag.any, Tag.any, Tag.any, Tag.old (g7)] ⟨Good.is _, Good.is _, Good.is _, Good.is _, Good.is _, Good.is _, Good.is _, Good.is _, Good.rat _, Good.rat _, tag_at3, trivial⟩ (fun g0 hg => by simp at hg; omega)
          (fun W W1 hS hE => ⟨(Ext.trans hS.1 hE), (hS.2.1.ext hE), (hS.2.2.1.ext hE), (hS.2.2.2.1.ext hE), (Ext.cell hE hS.2.2.2.2.1), (Nat.le_trans hS.2.2.2.2.2 (Ext.size hE))⟩) ⟨E0, fop7, hs, hi2, hc, Nat.le_refl _⟩ (fun m hm => by simp at hm) 10 hr hRR (by kernel_rfl) (by kernel_rfl) (by kernel_rfl) (by kernel_rfl) (A := ?A2) ?hA2 ?howe2 ?hfin2
        case hA2 =>
          intro vs
          simp only [putAll, Act.put, List.setIfInBounds_toArray, List.set_cons_zero, List.set_cons_succ, Nat.zero_add, Nat.reduceAdd]
          exact rfl
        case howe2 =>
          clear E0 fop7 hs hi2 hc
          intro hf
          refine ⟨owesR3 0 [] hf hr rfl rfl (by kernel_rfl) rfl rfl rfl (by kernel_rfl) ?_, owesM3 1 [] hf hr rfl rfl rfl (by kernel_rfl) ?_, owesM3 2 [] hf hr rfl rfl rfl (by kernel_rfl) ?_, owesM3 3 [1, 2] hf hr rfl rfl rfl (by kernel_rfl) ?_, owesM3 4 [3] hf hr rfl rfl rfl (by kernel_rfl) ?_, owesM3 5 [] hf hr rfl rfl rfl (by kernel_rfl) ?_, owesM3 6 [4, 5] hf hr rfl rfl rfl (by kernel_rfl) ?_, owesM3 7 [6] hf hr rfl rfl rfl (by kernel_rfl) ?_, owesM3 8 [7] hf hr rfl rfl rfl (by kernel_rfl) ?_, owesM3 9 [0, 8] hf hr rfl rfl rfl (by kernel_rfl) ?_, owesL3 (g7) [9] hf rfl (by omega) ⟨.inr trivial, .inr trivial, .inr trivial, .inr trivial, .inr trivial, .inr trivial, .inr trivial, .inr trivial, .inr trivial, .inr trivial, .inl rfl, trivial⟩ rfl (by kernel_rfl) ?_, trivial⟩
          all_goals intro vs W hS hp hx KO hKO
          all_goals simp only [Act.put, List.setIfInBounds_toArray, List.set_cons_zero, List.set_cons_succ] at hKO
          · have hb0 : Bx3 W g7 46 (.bool bs) (.slice az ns cs) (.slice dz ms os) := hS.2
            have fc0 := hb0.cell0
            have fc1 := hb0.cell1
            have fc2 := hb0.cell2
            clear hb0
            go_simp
            exact hKO _ W (Ext.refl W) rfl
          · go_simp
            exact hKO _ W (Ext.refl W) rfl
          · go_simp
            exact hKO _ W (Ext.refl W) rfl
          · have e1 := isOf hp.1
            have e2 := isOf hp.2.1
            simp only [e1, e2] at hKO
            go_simp
            exact hKO _ W (Ext.refl W) rfl
          · have e3 := isOf hp.1
            simp only [e3] at hKO
            have fc := hS.2.2.2.2.1
            go_simp
            exact hKO _ W (Ext.refl W) rfl
          · go_simp
            exact hKO _ W (Ext.refl W) rfl
          · have e4 := isOf hp.1
            have e5 := isOf hp.2.1
            simp only [e4, e5] at hKO
            go_simp
            exact hKO _ W (Ext.refl W) rfl
          · have e6 := isOf hp.1
            simp only [e6] at hKO
            have fc := Iw.cell (hS.2.2.2.1) (i := k) (by omega)
            go_simp
            exact hKO _ W (Ext.refl W) rfl
          · have e7 := isOf hp.1
            simp only [e7] at hKO
            go_simp
            refine (Tryz.refROf _ _ HX.out.1 HX.out.2).mono ?_
            rintro e W1 ⟨v, rfl, hv, hE⟩
            exact hKO _ W1 hE hv
          · have e0 := isOf hp.1
            have q8 := hp.2.1
            simp only [e0] at hKO
            go_simp
            refine (Tryz.refRAdd (hS.2.2.1) q8 SS.out SX.out (by omega)).mono ?_
            rintro e W1 ⟨v, rfl, hv, hE⟩
            exact hKO _ W1 hE hv
          · have q9 := hp.1
            have qr := q9
            obtain ⟨b3, a3, n3, c3, d3, m3, o3, er, -, -, -⟩ := qr
            replace er : vs 9 = _ := er
            have hf := hS.2.1
            obtain ⟨x0_0, x0_1, x0_2, hx2, hno⟩ := hf.bx3
            have r0 := hx2.froz0
            have t0 := hx2.cell0
            have r1 := hx2.froz1
            have t1 := hx2.cell1
            have r2 := hx2.froz2
            have t2 := hx2.cell2
            have hw := Wr.set3 hx2 hno b3 a3 n3 c3 d3 m3 o3
            have hq := hx2.set (.bool b3) (.slice a3 n3 c3) (.slice d3 m3 o3)
            simp only [er] at hKO
            clear hf hx2
            go_simp
            exact hKO _ hw ⟨(Ext.wr hS.1 hw (by omega)), (hS.2.1.wr hw), (hS.2.2.1.wr hw), (hS.2.2.2.1.wr hw (by omega)), (hw.apart.cell (by simp; omega) hS.2.2.2.2.1), (Nat.le_trans hS.2.2.2.2.2 hw.apart.size)⟩ ⟨_, _, _, _, _, _, _, er, hq⟩
        intro vs W2 hS hM hp
        clear szw2 E0 fop7 hs hi2 hc
        obtain ⟨E0, fop7, hs, hi2, hc, sz2⟩ := hS
        obtain ⟨h2_0, h2_1, h2_2, h2_3, h2_4, h2_5, h2_6, h2_7, h2_8, h2_9, h2_10, -⟩ := hp
        have hh := h2_10
        obtain ⟨bs2, as2, ns2, cs2, ds2, ms2, os2, ers2, p7⟩ := hh
        replace ers2 : vs 9 = _ := ers2
        clear fop7
        have hzs2 : Rw W2 (vs 9) (((colS (ls.take j) k : Int) : Rat) + ((atL (atR ls j) k : Int) : Rat)) := h2_9
        rw [ers2] at hzs2
        replace h2_0 : vs 0 = .agg #[.bool bs, .slice az ns cs, .slice dz ms os] := h2_0
        replace h2_1 : vs 1 = .slice (some ⟨b, o, none⟩) n c := h2_1
        replace h2_2 : vs 2 = .int .i64 (j : Int) := h2_2
        replace h2_3 : vs 3 = .pointer (some ⟨b, o + j, none⟩) := h2_3
        replace h2_4 : vs 4 = .slice (some ⟨bi, oi, none⟩) r ci := h2_4
        replace h2_5 : vs 5 = .int .i64 (k : Int) := h2_5
        replace h2_6 : vs 6 = .pointer (some ⟨bi, oi + k, none⟩) := h2_6
        replace h2_7 : vs 7 = .int .i64 (atL (atR ls j) k) := h2_7
        clear hM
        simp only [ers2, h2_0, h2_1, h2_2, h2_3, h2_4, h2_5, h2_6, h2_7]
        replace h2_8 : Rw W2 (vs 8) (((atL (atR ls j) k : Int) : Rat)) := h2_8
        generalize vs 8 = u2_8 at h2_8 ⊢
        replace h2_9 : Rw W2 (vs 9) (((colS (ls.take j) k : Int) : Rat) + ((atL (atR ls j) k : Int) : Rat)) := h2_9
        generalize vs 9 = u2_9 at h2_9 ⊢
        clear ers2 h2_0 h2_1 h2_2 h2_3 h2_4 h2_5 h2_6 h2_7 h2_10
        clear hr hRR ltf
        clear hG7 hhw1 hbW
        rw [HST.out] at hzs2
        go_wp2
        go_roundw
        case rel => exact ⟨j + 1, _, _, _, _, _, _, _, by go_num, by omega, p7, hzs2, E0⟩
        case measure => simp [intOf]; omega
      · obtain rfl : n = j := by omega
        have HTJ : Hid (ls.take n = ls) := Lib.hid (List.take_of_length_le (by have := HLN.out; omega))
        rw [HTJ.out] at hs
        have hge3 : ¬ (n : Int) < (n : Int) := by omega
        have HNI : Hid (-9223372036854775808 ≤ (n : Int) ∧ (n : Int) < 9223372036854775808) := Lib.hid (by omega)
        have SN : Hid (SmR 3 ((n : Int) : Rat)) := Lib.hid (SmR.whole (by unfold Sm; rw [B64_eq]; omega) (by omega))
        have SQ : Hid (SmR 3 ((colS ls k : Int) : Rat)) := Lib.hid (SmR.whole ((colS_sm HI.out (by have := HLN.out; omega) k).mono (by omega)) (by omega))
        have HN0 : Hid (((n : Int) : Rat) ≠ 0) := Lib.hid (fun e => by have h1 := Rat.intCast_eq_zero_iff.1 e; have := HP.out; omega)
        have kp7_0 := p7.cell0
        have kp7_1 := p7.cell1
        have kp7_2 := p7.cell2
        go_upto_region 17 with (fail)
        clear kp7_0 kp7_1 kp7_2
        have ltp7 := p7.lt
        have szw3 := Ext.size E0
        refine region_go [.one fun v _ => v = .agg #[.bool bs, .slice az ns cs, .slice dz ms os],
            .one fun v _ => v = .slice (some ⟨b, o, none⟩) n c,
            .one fun v _ => v = .int .i64 (n : Int),
            .one fun v W => Rw W v (((n : Int) : Rat)),
            .one fun v W => ∃ v', v = .tuple #[v', .int .i64 0] ∧ (fun v W => Rw W v (((colS ls k : Int) : Rat) / ((n : Int) : Rat))) v' W,
            .one fun v W => ∃ v', v = .tuple #[v', .int .i64 0] ∧ (fun v W => Rw W v (((colS ls k : Int) : Rat) / ((n : Int) : Rat))) v' W,
            .one fun v W => Rw W v (((colS ls k : Int) : Rat) / ((n : Int) : Rat)),
            .one fun v _ => v = .int .i64 0,
            .one fun v W => ∃ g, v = .pointer (some ⟨g, 0, none⟩) ∧ wr.heap.size ≤ g ∧ Form W g 46 3,
            .three 8 6 (fun p r _ W => Put3 wr.heap.size 46 p r W),
            .one fun v _ => v = .int .i64 0]
          (fun W => Ext W6 W ∧ Bx3 W g7 46 (.bool bs) (.slice az ns cs) (.slice dz ms os) ∧ Rw W (.agg #[.bool bs, .slice az ns cs, .slice dz ms os]) (((colS ls k : Int) : Rat)) ∧ wr.heap.size ≤ W.heap.size) ⟨Good.is _, Good.is _, Good.is _, Good.rat _, (Good.rat _).tup _, (Good.rat _).tup _, Good.rat _, Good.is _, Good.box _ _ _, cert_put3, Good.is _, trivial⟩
          (fun W W1 hS hE => ⟨(Ext.trans hS.1 hE), (hS.2.1.ext hE), (hS.2.2.1.ext hE), (Nat.le_trans hS.2.2.2 (Ext.size hE))⟩) ⟨E0, p7, hs, Nat.le_refl _⟩ (by kernel_rfl) (by kernel_rfl) (by kernel_rfl) (by kernel_rfl) (A := ?A3) ?hA3 ?howe3 ?hfin3
        case hA3 =>
          intro vs
          simp only [putAll, Act.put, List.setIfInBounds_toArray, List.set_cons_zero, List.set_cons_succ, Nat.zero_add, Nat.reduceAdd]
          exact rfl
        case howe3 =>
          clear E0 p7 hs
          intro hf
          refine ⟨owesE 0 [] hf rfl (by kernel_rfl) ?_, owesE 1 [] hf rfl (by kernel_rfl) ?_, owesE 2 [1] hf rfl (by kernel_rfl) ?_, owesE 3 [2] hf rfl (by kernel_rfl) ?_, owesE 4 [0, 3] hf rfl (by kernel_rfl) ?_, owesE 5 [4] hf rfl (by kernel_rfl) ?_, owesE 6 [5] hf rfl (by kernel_rfl) ?_, owesE 7 [5] hf rfl (by kernel_rfl) ?_, owesE 8 [] hf rfl (by kernel_rfl) ?_, owesW 9 [8, 6] hf rfl (by kernel_rfl) (by kernel_rfl) ?_, owesE 10 [7] hf rfl (by kernel_rfl) ?_, trivial⟩
          all_goals intro vs W hS hp hx KO hKO
          all_goals simp only [Act.put, List.setIfInBounds_toArray, List.set_cons_zero, List.set_cons_succ] at hKO
          · have fc0 := hS.2.1.cell0
            have fc1 := hS.2.1.cell1
            have fc2 := hS.2.1.cell2
            go_simp
            exact hKO _ W (Ext.refl W) rfl
          · go_simp
            exact hKO _ W (Ext.refl W) rfl
          · have e1 := isOf hp.1
            simp only [e1] at hKO
            go_simp
            exact hKO _ W (Ext.refl W) rfl
          · have e2 := isOf hp.1
            simp only [e2] at hKO
            go_simp
            refine (Tryz.refROf _ _ HNI.out.1 HNI.out.2).mono ?_
            rintro e W1 ⟨v, rfl, hv, hE⟩
            exact hKO _ W1 hE hv
          · have e0 := isOf hp.1
            have q3 := hp.2.1
            simp only [e0] at hKO
            go_simp
            refine (Tryz.refRDiv (hS.2.2.1) q3 SQ.out SN.out (by omega) HN0.out).mono ?_
            rintro e W1 ⟨v, rfl, hv, hE⟩
            exact hKO _ W1 hE ⟨_, rfl, hv⟩
          · have q4 := hp.1
            obtain ⟨u, ev, hu⟩ := q4
            replace ev : vs 4 = _ := ev
            simp only [ev] at hKO
            go_simp
            exact hKO _ W (Ext.refl W) ⟨u, rfl, hu⟩
          · have q5 := hp.1
            obtain ⟨u, ev, hu⟩ := q5
            replace ev : vs 5 = _ := ev
            simp only [ev] at hKO
            go_simp
            exact hKO _ W (Ext.refl W) hu
          · have q5 := hp.1
            obtain ⟨u, ev, hu⟩ := q5
            replace ev : vs 5 = _ := ev
            simp only [ev] at hKO
            go_simp
            exact hKO _ W (Ext.refl W) rfl
          · have hn := Bx3.new W 46 (.bool false) (.slice none 0 0) (.slice none 0 0)
            have hE := Ext.alloc1 W (.cells #[.bool false, .slice none 0 0, .slice none 0 0] 46)
            have hsz := hS.2.2.2
            go_simp
            exact hKO _ _ hE ⟨_, rfl, hsz, hn.form⟩
          · have q8 := hp.1
            have q6 := hp.2.1
            obtain ⟨g, ev, hg, hf⟩ := q8
            replace ev : vs 8 = _ := ev
            obtain ⟨x0_0, x0_1, x0_2, hx, hno⟩ := hf.bx3
            have qr := q6
            obtain ⟨b3, a3, n3, c3, d3, m3, o3, er, -, -, -⟩ := qr
            replace er : vs 6 = _ := er
            have r0 := hx.froz0
            have t0 := hx.cell0
            have r1 := hx.froz1
            have t1 := hx.cell1
            have r2 := hx.froz2
            have t2 := hx.cell2
            have hw := Wr.set3 hx hno b3 a3 n3 c3 d3 m3 o3
            have hq := hx.set (.bool b3) (.slice a3 n3 c3) (.slice d3 m3 o3)
            simp only [ev, er] at hKO
            go_simp
            exact hKO _ _ hw ⟨(Ext.wr hS.1 hw (by omega)), (hS.2.1.wr hw (by omega)), (hS.2.2.1.wr hw), (Nat.le_trans hS.2.2.2 hw.apart.size)⟩ ⟨g, b3, a3, n3, c3, d3, m3, o3, ev, er, hg, hq⟩
          · have e7 := isOf hp.1
            simp only [e7] at hKO
            go_simp
            exact hKO _ W (Ext.refl W) rfl
        intro vs W3 hS hp
        clear szw3 E0 p7 hs
        obtain ⟨E0, p7, hs, sz3⟩ := hS
        obtain ⟨h3_0, h3_1, h3_2, h3_3, h3_4, h3_5, h3_6, h3_7, h3_8, h3_9, h3_10, -⟩ := hp
        obtain ⟨g3_9, b3_9, a3_9, n3_9, c3_9, d3_9, m3_9, o3_9, ev3_9, er3_9, hg3_9, p3_9⟩ := h3_9
        replace ev3_9 : vs 8 = _ := ev3_9
        replace er3_9 : vs 6 = _ := er3_9
        replace h3_6 := (show Rw W3 (vs 6) (((colS ls k : Int) : Rat) / ((n : Int) : Rat)) from h3_6)
        rw [er3_9] at h3_6
        replace h3_0 : vs 0 = .agg #[.bool bs, .slice az ns cs, .slice dz ms os] := h3_0
        replace h3_1 : vs 1 = .slice (some ⟨b, o, none⟩) n c := h3_1
        replace h3_2 : vs 2 = .int .i64 (n : Int) := h3_2
        replace h3_7 : vs 7 = .int .i64 0 := h3_7
        replace h3_10 : vs 10 = .int .i64 0 := h3_10
        simp only [ev3_9, er3_9, h3_0, h3_1, h3_2, h3_7, h3_10]
        replace h3_3 : Rw W3 (vs 3) (((n : Int) : Rat)) := h3_3
        generalize vs 3 = u3_3 at h3_3 ⊢
        clear ev3_9 er3_9 h3_0 h3_1 h3_2 h3_7 h3_10 h3_4 h3_5 h3_8
        have hd := h3_6
        have HV : Hid (fitV (nearR (((colS ls k : Int) : Rat) / ((n : Int) : Rat) * P2 0)) = meanV ls k) := Lib.hid (by unfold meanV; rw [HLN.out, Rat.mkRat_eq_div, Rat.intCast_natCast])
        have SR : Hid (SmR 6 (((colS ls k : Int) : Rat) / ((n : Int) : Rat))) := Lib.hid (SQ.out.div SN.out HN0.out)
        have kd0 := p3_9.cell0
        have kd1 := p3_9.cell1
        have kd2 := p3_9.cell2
        go_wp2_with fail
        refine (Tryz.ref08Of hd SR.out (by omega) 0 (by omega) HV.out rfl).mono ?_
        rintro e W8 ⟨rfl, hE⟩
        have E9 := E2.trans (E0.trans hE)
        replace hown := hown.ext (E0.trans hE)
        clear hE kd0 kd1 kd2
        have HST : Hid ((List.range k).map (meanV ls) ++ [meanV ls k] = (List.range (k + 1)).map (meanV ls)) := Lib.hid (by rw [List.range_succ, List.map_append]; rfl)
        have hlz : ((List.range k).map (meanV ls)).length ≤ 1099511627776 := by have := HRR.out; simp; omega
        have hgz : w.heap.size ≤ W8.heap.size := E9.size
        obtain ⟨L, hL⟩ : ∃ L, L = (List.range k).map (meanV ls) := ⟨_, rfl⟩
        rw [← hL] at hown HST hlz
        clear hL
        go_wp2_with (at_builtin; go_loud (refine append_i Tryz.underlying28 Tryz.infoI rfl _ _ rfl w.heap.size _ L (meanV ls k) (by rfl) (by rfl) hown hlz hgz ?_); intro gq cc W11 ho4 hg4 hat4 hlt4)
        go_roundw
        case rel =>
         have E8 := (E9.trans (Ext.alloc1 W8 (.cells #[.int .i64 (meanV ls k)] 2))).grown hg4 (fun q e => (hown.block q e).1)
         refine ⟨k + 1, by go_num, by omega, ?_, E8⟩
         rw [← HST.out]
         exact ho4
        case measure => simp [intOf]; omega
    · have hge2 : ¬ (k : Int) < (r : Int) := by omega
      have HE : Hid ((List.range k).map (meanV ls) = meanL ls) := Lib.hid (by unfold meanL; rw [show k = (atR ls 0).length by rw [← HR.out]; omega])
      rw [HE.out] at hown
      obtain ⟨a', c', rfl, hi⟩ := hown.iw (fun x hx => by unfold meanL at hx; obtain ⟨y, -, rfl⟩ := List.mem_map.1 hx; exact fitV_in64 _) (fun g hg => (hown.block g hg).2)
      clear hown h HC0
      go_wp2
      go_ret2
      exact ⟨_, _, rfl, hi, E2⟩

theorem Tryz.refMeanAny {lo hh n c : Nat} {a : Option Addr} {ls : List (List Int)} {w : World} (h : Mw lo hh w a n c ls) (hn : n ≤ 1000) (hm : ls.flatten.length ≤ 1000) (hhw : hh ≤ w.heap.size) :
    Calls Tryz.prog 8 #[.slice a n c] w fun e w' => ∃ a' n' c', e = .returned (.tuple #[.slice a' n' c', .int .i64 (meanC ls)]) ∧ Iz w.heap.size w'.heap.size w' a' n' c' (meanS ls) ∧ Ext w w' := by
  have hl := h.len
  unfold meanC meanS
  rcases Nat.eq_zero_or_pos n with h0 | h0
  · subst h0
    refine (Tryz.refMeanNo _).mono ?_
    rintro e W ⟨rfl, hE⟩
    rw [if_pos hl, if_pos hl]
    exact ⟨_, _, _, rfl, clipZ _ _ _, hE⟩
  · have hne : ls.length ≠ 0 := by omega
    rw [if_neg hne, if_neg hne]
    cases ho : oddR ls
    · refine (Tryz.refMeanYes h hn hm h0 hhw ho).mono ?_
      rintro e W ⟨a', c', rfl, hi, hE⟩
      exact ⟨_, _, _, rfl, .inl hi, hE⟩
    · refine (Tryz.refMeanOdd h hn hm h0 ho).mono ?_
      rintro e W ⟨rfl, hE⟩
      exact ⟨_, _, _, rfl, clipZ _ _ _, hE⟩
end Go.Rt
