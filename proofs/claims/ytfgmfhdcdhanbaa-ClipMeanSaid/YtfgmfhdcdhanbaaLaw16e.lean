/-
  Chapter 16: the mean of rows.
-/
import Derived.Test.YtfgmfhdcdhanbaaSqz
import Derived.Test.YtfgmfhdcdhanbaaClipE
import Derived.Test.YtfgmfhdcdhanbaaLaw16d
import Derived.Deep.QuietTactic
import Derived.BigQuiet
namespace Go.Rt
open Go Go.RowKit Go.Proofs

theorem meanL_at {ls : List (List Int)} {k : Nat} (h : k < (atR ls 0).length) : atL (meanL ls) k = meanV ls k := by
  unfold meanL
  rw [atL_eq (by simpa using h)]
  simp

set_option maxRecDepth 100000 in
set_option maxHeartbeats 4000000 in
theorem Try.meanEmpty {a : Option Addr} {c : Nat} (w : World) :
  Calls Try.prog 20 #[.slice a 0 c] w fun e w' => e = .returned (.tuple #[.slice none 0 0, .int .i64 9]) ∧ Ext w w' := by
 go_enter Try.func20, Try.ntmps20
 go_wp2; go_ret2
 exact ⟨rfl, Ext.alloc1 _ _⟩

set_option maxRecDepth 100000 in
set_option maxHeartbeats 8000000 in
theorem Try.refZSub {v1 v2 : Value} {x y : Int} {L : Nat} {w : World} (h1 : Zw w v1 x) (h2 : Zw w v2 y) (s1 : Sm L x.natAbs) (s2 : Sm L y.natAbs) (hL : L ≤ 10000000) :
    Calls Try.prog 22 #[v1, v2] w fun e w' => ∃ v', e = .returned v' ∧ Zw w' v' (x - y) ∧ Ext w w' := by
  obtain ⟨b1, a1, n1, c1, rfl, q1⟩ : ∃ b a n c, v1 = .agg #[.bool b, .slice a n c] ∧ True := let ⟨b, a, n, c, e, _⟩ := h1; ⟨b, a, n, c, e, trivial⟩
  clear q1
  obtain ⟨b2, a2, n2, c2, rfl, q2⟩ : ∃ b a n c, v2 = .agg #[.bool b, .slice a n c] ∧ True := let ⟨b, a, n, c, e, _⟩ := h2; ⟨b, a, n, c, e, trivial⟩
  clear q2; rw [Int.sub_eq_add_neg]
  replace s2 : Sm L (-y).natAbs := by rw [Int.natAbs_neg]; exact s2
  obtain ⟨W0, hW0⟩ : ∃ W0, W0 = (((w.alloc (.cells #[.bool b1, .slice a1 n1 c1] 29)).alloc (.cells #[.bool b2, .slice a2 n2 c2] 29)).alloc (.cells #[.bool false, .slice none 0 0] 29)) := ⟨_, rfl⟩
  have E0 : Ext w W0 := by rw [hW0]; exact (((Ext.alloc1 w (.cells #[.bool b1, .slice a1 n1 c1] 29)).alloc (.cells #[.bool b2, .slice a2 n2 c2] 29)).alloc (.cells #[.bool false, .slice none 0 0] 29))
  replace h1 : Zw W0 (.agg #[.bool b1, .slice a1 n1 c1]) x := h1.ext E0
  replace h2 : Zw W0 (.agg #[.bool b2, .slice a2 n2 c2]) y := h2.ext E0
  have p2 : Bx2 W0 w.heap.size 29 (.bool b1) (.slice a1 n1 c1) := by rw [hW0]; exact (Bx2.new w 29 (.bool b1) (.slice a1 n1 c1)).ext ((Ext.alloc1 (w.alloc (.cells #[.bool b1, .slice a1 n1 c1] 29)) (.cells #[.bool b2, .slice a2 n2 c2] 29)).alloc (.cells #[.bool false, .slice none 0 0] 29))
  have p3 : Bx2 W0 (w.heap.size + 1) 29 (.bool b2) (.slice a2 n2 c2) := by rw [hW0]; simpa using (Bx2.new (w.alloc (.cells #[.bool b1, .slice a1 n1 c1] 29)) 29 (.bool b2) (.slice a2 n2 c2)).ext (Ext.alloc1 ((w.alloc (.cells #[.bool b1, .slice a1 n1 c1] 29)).alloc (.cells #[.bool b2, .slice a2 n2 c2] 29)) (.cells #[.bool false, .slice none 0 0] 29))
  have p4 : Bx2 W0 (w.heap.size + 1 + 1) 29 (.bool false) (.slice none 0 0) := by rw [hW0]; simpa using (Bx2.new ((w.alloc (.cells #[.bool b1, .slice a1 n1 c1] 29)).alloc (.cells #[.bool b2, .slice a2 n2 c2] 29)) 29 (.bool false) (.slice none 0 0))
  go_enter Try.func22, Try.ntmps22
  obtain ⟨kp2_0, kp2_1⟩ := p2.c2
  obtain ⟨kp3_0, kp3_1⟩ := p3.c2
  obtain ⟨kp4_0, kp4_1⟩ := p4.c2
  go_upto_region 1 with (fail)
  rw [← hW0]
  clear hW0; clear kp2_0 kp2_1 kp3_0 kp3_1 kp4_0 kp4_1; have fp4 := p4.form; have ltp2 := p2.lt; have ltp3 := p3.lt; have ltfp4 := fp4.lt; have szw2 := Ext.size E0
  refine region_gs [.one fun v _ => v = .agg #[.bool b1, .slice a1 n1 c1],
      .one fun v _ => v = .agg #[.bool b2, .slice a2 n2 c2],
      .one fun v W => Zw W v (-y),
      .one fun v W => Zw W v (x + -y),
      .two 3 (fun r _ W => At2 (w.heap.size + 1 + 1) 29 r W)]
    (fun W => Ext w W ∧ Zw W (.agg #[.bool b1, .slice a1 n1 c1]) x ∧ Zw W (.agg #[.bool b2, .slice a2 n2 c2]) y ∧ Bx2 W w.heap.size 29 (.bool b1) (.slice a1 n1 c1) ∧ Bx2 W (w.heap.size + 1) 29 (.bool b2) (.slice a2 n2 c2) ∧ Form W (w.heap.size + 1 + 1) 29 2 ∧ W0.heap.size ≤ W.heap.size) ⟨Good.is _, Good.is _, Good.zed _, Good.zed _, cert_at2, trivial⟩
    ⟨E0, h1, h2, p2, p3, fp4, Nat.le_refl _⟩ (A := ?A2) ?hA2 ?howe2 ?hfin2
  case hA2 =>
    intro vs
    simp only [putAll, Act.put, sA, sZ, sS, Nat.zero_add, Nat.reduceAdd]
    exact rfl
  case howe2 =>
    clear E0 h1 h2 p2 p3 fp4
    intro hf
    refine ⟨oE 0 [] hf rfl ?_, oE 1 [] hf rfl ?_, oE 2 [1] hf rfl ?_, oE 3 [0, 2] hf rfl ?_, oW 4 [3] hf rfl ?_, trivial⟩
    all_goals intro vs W hS hp hx KO hKO
    all_goals simp only [Act.put, sA, sZ, sS] at hKO
    · have fc0 := hS.2.2.2.1.cell0
      have fc1 := hS.2.2.2.1.cell1; go_simp; exact hKO _ W (.refl W) rfl
    · have fc0 := hS.2.2.2.2.1.cell0
      have fc1 := hS.2.2.2.2.1.cell1; go_simp; exact hKO _ W (.refl W) rfl
    · have e1 := isOf hp.1
      simp only [e1] at hKO; go_simp
      refine (Try.refNeg (hS.2.2.1)).mono ?_
      rintro e W1 ⟨v, rfl, hv, hE⟩
      exact hKO _ W1 hE hv
    · have e0 := isOf hp.1
      have q2 := hp.2.1; simp only [e0] at hKO; go_simp
      refine (Try.refZAdd (hS.2.1) q2 s1 s2 hL).mono ?_
      rintro e W1 ⟨v, rfl, hv, hE⟩
      exact hKO _ W1 hE hv
    · have q3 := hp.1
      have hf := hS.2.2.2.2.2.1
      obtain ⟨x0_0, x0_1, hx, hno⟩ := hf.bx2
      have qr := q3
      obtain ⟨b3, a3, n3, c3, er, -, -⟩ := qr
      replace er : vs 3 = _ := er
      have r0 := hx.froz0
      have t0 := hx.cell0
      have r1 := hx.froz1
      have t1 := hx.cell1
      have hw := Wr.set2 hx hno b3 a3 n3 c3
      have hq := hx.set (.bool b3) (.slice a3 n3 c3)
      have hg : (w.heap.size + 1 + 1) ≤ (w.heap.size + 1 + 1) := Nat.le_refl _
      simp only [er] at hKO; go_simp
      exact hKO _ _ hw ⟨(Ext.wr hS.1 hw (by omega)), (hS.2.1.wr hw), (hS.2.2.1.wr hw), (hS.2.2.2.1.wr hw (by omega)), (hS.2.2.2.2.1.wr hw (by omega)), (hS.2.2.2.2.2.1.wr hw), (Nat.le_trans hS.2.2.2.2.2.2 hw.apart.size)⟩ ⟨b3, a3, n3, c3, er, hq⟩
  intro vs W2 hS hp
  clear szw2 E0 h1 h2 p2 p3 fp4
  obtain ⟨E0, h1, h2, p2, p3, fp4, sz2⟩ := hS
  obtain ⟨h2_0, h2_1, h2_2, h2_3, h2_4, -⟩ := hp
  obtain ⟨b2_4, a2_4, n2_4, c2_4, er2_4, p2_4⟩ := h2_4
  replace er2_4 : vs 3 = _ := er2_4; replace h2_3 := (show Zw W2 (vs 3) (x + -y) from h2_3)
  rw [er2_4] at h2_3
  replace h2_0 : vs 0 = .agg #[.bool b1, .slice a1 n1 c1] := h2_0
  replace h2_1 : vs 1 = .agg #[.bool b2, .slice a2 n2 c2] := h2_1
  simp only [er2_4, h2_0, h2_1]
  replace h2_2 : Zw W2 (vs 2) (-y) := h2_2
  generalize vs 2 = u2_2 at h2_2 ⊢
  clear er2_4 h2_0 h2_1
  obtain ⟨kp2_0, kp2_1⟩ := p2.c2
  obtain ⟨kp3_0, kp3_1⟩ := p3.c2
  obtain ⟨kp2_4_0, kp2_4_1⟩ := p2_4.c2
  go_wp2
  exact bodyPost_ret (v := .agg #[.bool b2_4, .slice a2_4 n2_4 c2_4]) (by simp [results, Try.results22, go_sem, kp2_4_0, kp2_4_1]) rfl ⟨_, rfl, h2_3, E0⟩

set_option maxRecDepth 100000 in
set_option maxHeartbeats 8000000 in
theorem Try.clipMeanOdd {n c : Nat} {a : Option Addr} {ls : List (List Int)} {w : World} (h : Mw 0 w.heap.size w a n c ls) (hn : n ≤ 140737488351232) (hl : ∀ l ∈ ls, l.length ≤ 140737488351232) (hf : n + ls.flatten.length ≤ 40) (hp : 0 < n) (ho : oddR ls = true) :
  Calls Try.prog 6 #[.slice a n c] w fun e w' => e = .returned (.bool true) ∧ Ext w w' := by
 have HI := Lib.hid h.i64
 have HLN := Lib.hid h.len
 have HF : Hid (decide (n + ls.flatten.length ≤ 40) = true) := Lib.hid (decide_eq_true hf)
 have HL : Hid (n ≤ 40 ∧ ls.flatten.length ≤ 40) := Lib.hid ⟨by omega, by omega⟩
 have HB := Lib.hid (And.intro hn hl)
 have HP := Lib.hid hp
 have HO := Lib.hid ho
 have hn40 : n ≤ 40 := by omega
 clear hf hn hl ho
 go_enter Try.func6, Try.ntmps6
 go_wp2_with fail
 refine (Try.refFew16 h HB.out.1 HB.out.2).mono ?_
 rintro e W ⟨rfl, rfl⟩
 rw [HF.out]
 go_wp2_with fail
 refine (Try.meanShape h HP.out HO.out).mono ?_
 rintro e W1 ⟨rfl, E0⟩
 obtain ⟨r, hr⟩ : ∃ r, r = (atR ls 0).length := ⟨_, rfl⟩
 have HR := Lib.hid hr
 replace h := h.ext E0
 obtain ⟨b, o, rfl, -, hbW⟩ := h.some hp
 have HBW := Lib.hid hbW
 obtain ⟨a0, c0, hc0, hi0⟩ := h.cell hp
 rw [Nat.add_zero, ← hr] at hc0
 rw [← hr] at hi0
 have HC0 := Lib.hid hc0
 have h0 := h
 have hnP : (0 : Int) < (n : Int) := by omega
 clear hr hc0 h hbW
 go_wp2_with fail
 go_loopw [5] (fun i wr => ∃ j : Nat, i = .int .i64 (j : Int) ∧ j ≤ n ∧ Hid (∀ q, q < j → (atR ls q).length = r) ∧ Ext W1 wr) (fun i _ => n - (intOf i).toNat)
 case atStart => exact ⟨0, rfl, by omega, Lib.hid (fun q hq => absurd hq (by omega)), Ext.refl _⟩
 case round =>
  obtain ⟨j, rfl, hj, HQ, E2⟩ := hrel
  by_cases hlt : j < n
  · have hltI : (j : Int) < (n : Int) := by omega
    have hj63 : (j : Int) < 9223372036854775807 := by omega
    obtain ⟨ai, ci, hc, -⟩ := h0.cell hlt
    replace hc := E2.cell hc
    have hc0 := E2.cell HC0.out
    obtain ⟨m, hm⟩ : ∃ m, m = (atR ls j).length := ⟨_, rfl⟩
    rw [← hm] at hc
    by_cases he : m = r
    · have HE : Hid ((atR ls j).length = r) := Lib.hid (by rw [← hm]; exact he)
      subst he
      have hne : ((m : Int) != (m : Int)) = false := by simp
      clear hm
      go_wp2_with fail
      go_quiet (fail)
      go_wp2
      go_roundw
      case rel => exact ⟨j + 1, by go_num, by omega, Lib.hid (grow_upto (p := fun q => (atR ls q).length = m) HQ.out HE.out), E2.drewN _⟩
      case measure => simp [intOf]; omega
    · have hne : ((m : Int) != (r : Int)) = true := by simp; omega
      clear he hm
      go_wp2_with fail
      go_quiet (fail)
      go_wp2_with fail
      refine (Try.alive16 _).mono ?_
      rintro e W7 ⟨rfl, hE⟩
      have E9 := ((E0.trans E2).drewN _).trans hE
      clear hc hc0 hE
      go_wp2; go_ret
      exact ⟨rfl, E9⟩
  · have hge : ¬ (j : Int) < (n : Int) := by omega
    exfalso
    have := oddR_false (ls := ls) (fun i hi => by rw [HQ.out i (by have := HLN.out; omega), ← HR.out])
    rw [HO.out] at this
    cases this

set_option maxRecDepth 100000 in
set_option maxHeartbeats 8000000 in
theorem Try.clipMeanEven {n c : Nat} {a : Option Addr} {ls : List (List Int)} {w : World} (h : Mw 0 w.heap.size w a n c ls) (hn : n ≤ 140737488351232) (hl : ∀ l ∈ ls, l.length ≤ 140737488351232) (hf : n + ls.flatten.length ≤ 40) (hp : 0 < n) (ho : oddR ls = false) :
  Calls Try.prog 6 #[.slice a n c] w fun e w' => e = .returned (.bool true) ∧ Ext w w' := by
 have HI := Lib.hid h.i64
 have HLN := Lib.hid h.len
 have HF : Hid (decide (n + ls.flatten.length ≤ 40) = true) := Lib.hid (decide_eq_true hf)
 have HL : Hid (n ≤ 40 ∧ ls.flatten.length ≤ 40) := Lib.hid ⟨by omega, by omega⟩
 have HB := Lib.hid (And.intro hn hl)
 have HP := Lib.hid hp
 have HO := Lib.hid ho
 have hn40 : n ≤ 40 := by omega
 clear hf hn hl ho
 go_enter Try.func6, Try.ntmps6
 go_wp2_with fail
 refine (Try.refFew16 h HB.out.1 HB.out.2).mono ?_
 rintro e W ⟨rfl, rfl⟩
 rw [HF.out]
 go_wp2_with fail
 have HR0 : Hid ((atR ls 0).length ≤ 1000) := Lib.hid (by
  have h1 := flat_split (ls := ls) (i := 0) (by have := HLN.out; have := HP.out; omega)
  have := HL.out
  omega)
 have hmy := Try.meanYes h HP.out (by have := HL.out; omega) HR0.out (Nat.le_refl _) HO.out
 obtain ⟨r, hr⟩ : ∃ r, r = (atR ls 0).length := ⟨_, rfl⟩
 have HR := Lib.hid hr
 rw [← hr] at hmy
 refine hmy.mono ?_
 rintro e W1 ⟨am, cm, rfl, hm0, E0⟩
 obtain ⟨M, hM⟩ : ∃ M, M = meanL ls := ⟨_, rfl⟩
 have HMD := Lib.hid hM
 rw [← hM] at hm0
 clear hM
 obtain ⟨s0, hs0⟩ : ∃ s, s = W.heap.size := ⟨_, rfl⟩
 obtain ⟨s1, hs1⟩ : ∃ s, s = W1.heap.size := ⟨_, rfl⟩
 have hs01 : s0 ≤ s1 := by rw [hs0, hs1]; exact E0.size
 have HS := Lib.hid (And.intro hs0 (And.intro hs1 hs01))
 rw [← hs0] at h
 rw [← hs0, ← hs1] at hm0
 clear hs0 hs1 hs01; replace h := h.ext E0
 obtain ⟨b, o, rfl, -, hbW⟩ := h.some hp
 have HBW := Lib.hid hbW
 obtain ⟨a0, c0, hc0, hi0⟩ := h.cell hp
 rw [Nat.add_zero, ← hr] at hc0
 rw [← hr] at hi0
 have HC0 := Lib.hid hc0
 have h0 := h
 have hnP : (0 : Int) < (n : Int) := by omega
 clear hr hc0 h hbW
 go_wp2_with fail
 go_loopw [5] (fun i wr => ∃ j : Nat, i = .int .i64 (j : Int) ∧ j ≤ n ∧ Hid (∀ q, q < j → (atR ls q).length = r) ∧ Ext W1 wr) (fun i _ => n - (intOf i).toNat)
 case atStart => exact ⟨0, rfl, by omega, Lib.hid (fun q hq => absurd hq (by omega)), Ext.refl _⟩
 case round =>
  obtain ⟨j, rfl, hj, HQ, E2⟩ := hrel
  by_cases hlt : j < n
  · have hltI : (j : Int) < (n : Int) := by omega
    have hj63 : (j : Int) < 9223372036854775807 := by omega
    obtain ⟨ai, ci, hc, -⟩ := h0.cell hlt
    replace hc := E2.cell hc
    have hc0 := E2.cell HC0.out
    obtain ⟨m, hm⟩ : ∃ m, m = (atR ls j).length := ⟨_, rfl⟩
    rw [← hm] at hc
    have HE : Hid ((atR ls j).length = r) := Lib.hid (by rw [oddR_at HO.out (by have := HLN.out; omega), ← HR.out])
    have he : m = r := by rw [hm, HE.out]
    subst he
    have hne : ((m : Int) != (m : Int)) = false := by simp
    clear hm
    go_wp2_with fail
    go_quiet (fail)
    go_wp2
    go_roundw
    case rel => exact ⟨j + 1, by go_num, by omega, Lib.hid (grow_upto (p := fun q => (atR ls q).length = m) HQ.out HE.out), E2.drewN _⟩
    case measure => simp [intOf]; omega
  · have hge : ¬ (j : Int) < (n : Int) := by omega
    clear HQ hlt hj
    have hc0 := E2.cell HC0.out
    have hn0 : ((n : Int) == 0) = false := by simp; omega
    have HRR : Hid (r ≤ 1000) := Lib.hid (by rw [HR.out]; exact HR0.out)
    have hnr : ((r : Int) != (r : Int)) = false := by simp
    by_cases h1 : n = 1
    ·     have hnI : ((n : Int) == 1) = true := by simp; omega
          have HM1 : Hid (decide (M = atR ls 0) = true) := Lib.hid (decide_eq_true (by rw [HMD.out]; exact mean_one HI.out (by rw [HLN.out]; exact h1)))
          clear h1
          go_wp2_with fail
          refine (Try.refSameZ (.inl (hm0.ext E2)) (hi0.ext E2)).mono ?_
          rintro e W5 ⟨rfl, hE⟩
          rw [HM1.out]
          have E3 := E2.trans hE
          clear hE hc0
          go_wp2_with fail
          go_loopw [6] (fun i wk => ∃ k : Nat, i = .int .i64 (k : Int) ∧ k ≤ r ∧ Ext W1 wk) (fun i _ => r - (intOf i).toNat)
          case atStart => exact ⟨0, rfl, by omega, E3⟩
          case round =>
      clear E3
      obtain ⟨k, rfl, hk, E3⟩ := hrel
      by_cases hkr : k < r
      ·       have hkI : (k : Int) < (r : Int) := by omega
              have HK := Lib.hid hkr
              have hk63 : (k : Int) < 9223372036854775807 := by have := HRR.out; omega
              have hszk := E3.size
              obtain ⟨W8, hW8⟩ : ∃ W8, W8 = wr.alloc (.cells #[.bool false, .slice none 0 0] 29) := ⟨_, rfl⟩
              obtain ⟨g7, hg7⟩ : ∃ g7, g7 = wr.heap.size := ⟨_, rfl⟩
              have p7 : Bx2 W8 g7 29 (.bool false) (.slice none 0 0) := by rw [hW8, hg7]; exact Bx2.new _ _ _ _
              have hE : Ext wr W8 := by rw [hW8]; exact Ext.alloc1 _ _
              have hs : Zw W8 (.agg #[.bool false, .slice none 0 0]) (colS (ls.take 0) k) := Zw.nought W8
              have HG7 : Hid (s1 ≤ g7) := Lib.hid (by rw [hg7, HS.out.2.1]; exact hszk)
              replace E3 := E3.trans hE
              have hc0 := E3.cell HC0.out
              have hi1 := (hi0.ext E3).iw (by omega)
              obtain ⟨b0, o0, rfl, -, -⟩ := hi1.some (by omega)
              have hx0 := hi1.cell hkr
              have hmin : atL (atR ls 0) k = minK ls k 0 := rfl
              go_upto_region 17 with (fail)
              rw [← hW8, ← hg7]
              clear hE hW8 hg7 hszk hmin
              go_quiet (fail)
              clear hc0 hx0 hi1
              go_wp2_with fail
              
              go_loopw [8, 9, 10] (fun vl vh i wq => ∃ (j : Nat) (bs : Bool) (az : Option Addr) (ns cs : Nat), i = .int .i64 (j : Int) ∧ vl = .int .i64 (minK ls k j) ∧ vh = .int .i64 (maxK ls k j) ∧ j ≤ n ∧ Bx2 wq g7 29 (.bool bs) (.slice az ns cs) ∧ Zw wq (.agg #[.bool bs, .slice az ns cs]) (colS (ls.take j) k) ∧ Ext W1 wq) (fun _ _ i _ => n - (intOf i).toNat)
              case atStart => exact ⟨0, _, _, _, _, rfl, rfl, rfl, by omega, p7.ext ((Ext.refl _).drewN _), hs.ext ((Ext.refl _).drewN _), E3.drewN _⟩
              case round =>
        have EA := E0
        clear p7 hs E3 E0
        obtain ⟨j, bs, az, ns, cs, rfl, rfl, rfl, hj, p7, hs, E0⟩ := hrel
        by_cases hjt : j < n
        · have hjI : (j : Int) < (n : Int) := by omega
          have hj63 : (j : Int) < 9223372036854775807 := by omega
          have HJ : Hid (j < ls.length) := Lib.hid (by have := HLN.out; omega)
          obtain ⟨ai, ci, hc, hi⟩ := h0.cell hjt
          have hel := oddR_at HO.out HJ.out
          rw [← HR.out] at hel
          rw [hel] at hc hi
          replace hc := E0.cell hc
          have hi2 := (hi.iw (by omega)).ext E0
          obtain ⟨bi, oi, rfl, -, -⟩ := hi2.some (by omega)
          have HX : Hid (I64 (atL (atR ls j) k)) := Lib.hid (hi2.i64 HK.out)
          have HST : Hid (colS (ls.take j) k + atL (atR ls j) k = colS (ls.take (j + 1)) k) := Lib.hid (colS_take HJ.out k).symm
          have SS : Hid (Sm 3 (colS (ls.take j) k).natAbs) := Lib.hid ((colS_sm (fun x hx => by obtain ⟨l, hl, hx⟩ := List.mem_flatten.1 hx; exact HI.out x (List.mem_flatten.2 ⟨l, List.mem_of_mem_take hl, hx⟩)) (by have := HLN.out; have := HL.out; simp; omega) k).mono (by omega))
          have SX : Hid (Sm 3 (atL (atR ls j) k).natAbs) := Lib.hid (by have h1 := HX.out; unfold I64 at h1; unfold Sm; rw [B64_eq]; omega)
          clear hel hi
          obtain ⟨kp7_0, kp7_1⟩ := p7.c2
          go_upto_region 21 with (fail)
          clear kp7_0 kp7_1
          have hG7 := HG7.out
          have hs01 := HS.out.2.2
          have hbW := HBW.out
          have hs1e : W1.heap.size ≤ s1 := Nat.le_of_eq HS.out.2.1.symm
          have hr : Rest (fun W => Bx2 W g7 29 (.bool bs) (.slice az ns cs)) g7 := ⟨fun W W1 h hE => h.ext hE⟩
          have hRR := p7
          have fop7 := p7.form; clear p7; have ltf := fop7.lt; have szw3 := Ext.size E0
          refine region_go3 [.one fun v _ => v = .agg #[.bool bs, .slice az ns cs],
              .one fun v _ => v = .slice (some ⟨b, o, none⟩) n c,
              .one fun v _ => v = .int .i64 (j : Int),
              .one fun v _ => v = .pointer (some ⟨b, o + j, none⟩),
              .one fun v _ => v = .slice (some ⟨bi, oi, none⟩) r ci,
              .one fun v _ => v = .int .i64 (k : Int),
              .one fun v _ => v = .pointer (some ⟨bi, oi + k, none⟩),
              .one fun v _ => v = .int .i64 (atL (atR ls j) k),
              .one fun v W => Zw W v (atL (atR ls j) k),
              .one fun v W => Zw W v (colS (ls.take j) k + atL (atR ls j) k),
              .two 9 (fun r _ W => At2 g7 29 r W)]
            (fun W => Ext W1 W ∧ Form W g7 29 2 ∧ Zw W (.agg #[.bool bs, .slice az ns cs]) (colS (ls.take j) k) ∧ Iw 0 s0 W (some ⟨bi, oi, none⟩) r ci (atR ls j) ∧ World.cell? W ⟨b, o + j, none⟩ = some (.slice (some ⟨bi, oi, none⟩) r ci) ∧ wr.heap.size ≤ W.heap.size) wr.heap.size [] [Tag.any, Tag.any, Tag.any, Tag.any, Tag.any, Tag.any, Tag.any, Tag.any, Tag.any, Tag.any, Tag.old (g7)] ⟨Good.is _, Good.is _, Good.is _, Good.is _, Good.is _, Good.is _, Good.is _, Good.is _, Good.zed _, Good.zed _, tag_at2, trivial⟩ (fun g0 hg => by simp at hg; omega)
            (fun W W1 hS hE => ⟨(Ext.trans hS.1 hE), (hS.2.1.ext hE), (hS.2.2.1.ext hE), (hS.2.2.2.1.ext hE), (Ext.cell hE hS.2.2.2.2.1), (Nat.le_trans hS.2.2.2.2.2 (Ext.size hE))⟩) ⟨E0, fop7, hs, hi2, hc, Nat.le_refl _⟩ (fun m hm => by simp at hm) 10 hr hRR (by kernel_rfl) (by kernel_rfl) (by kernel_rfl) (by kernel_rfl) (A := ?A3) ?hA3 ?howe3 ?hfin3
          case hA3 =>
            intro vs
            simp only [putAll, Act.put, sA, sZ, sS, Nat.zero_add, Nat.reduceAdd]
            exact rfl
          case howe3 =>
            clear E0 fop7 hs hi2 hc
            intro hf
            refine ⟨owesR3 0 [] hf hr rfl rfl (by kernel_rfl) rfl rfl rfl (by kernel_rfl) ?_, owesM3 1 [] hf hr rfl rfl rfl (by kernel_rfl) ?_, owesM3 2 [] hf hr rfl rfl rfl (by kernel_rfl) ?_, owesM3 3 [1, 2] hf hr rfl rfl rfl (by kernel_rfl) ?_, owesM3 4 [3] hf hr rfl rfl rfl (by kernel_rfl) ?_, owesM3 5 [] hf hr rfl rfl rfl (by kernel_rfl) ?_, owesM3 6 [4, 5] hf hr rfl rfl rfl (by kernel_rfl) ?_, owesM3 7 [6] hf hr rfl rfl rfl (by kernel_rfl) ?_, owesM3 8 [7] hf hr rfl rfl rfl (by kernel_rfl) ?_, owesM3 9 [0, 8] hf hr rfl rfl rfl (by kernel_rfl) ?_, owesL3 (g7) [9] hf rfl (by omega) ⟨.inr trivial, .inr trivial, .inr trivial, .inr trivial, .inr trivial, .inr trivial, .inr trivial, .inr trivial, .inr trivial, .inr trivial, .inl rfl, trivial⟩ rfl (by kernel_rfl) ?_, trivial⟩
            all_goals intro vs W hS hp hx KO hKO
            all_goals simp only [Act.put, sA, sZ, sS] at hKO
            · have hb0 : Bx2 W g7 29 (.bool bs) (.slice az ns cs) := hS.2
              have fc0 := hb0.cell0; have fc1 := hb0.cell1; clear hb0; go_simp; exact hKO _ W (.refl W) rfl
            · go_simp
              exact hKO _ W (.refl W) rfl
            · go_simp
              exact hKO _ W (.refl W) rfl
            · have e1 := isOf hp.1
              have e2 := isOf hp.2.1; simp only [e1, e2] at hKO; go_simp; exact hKO _ W (.refl W) rfl
            · have e3 := isOf hp.1
              simp only [e3] at hKO
              have fc := hS.2.2.2.2.1
              go_simp; exact hKO _ W (.refl W) rfl
            · go_simp
              exact hKO _ W (.refl W) rfl
            · have e4 := isOf hp.1
              have e5 := isOf hp.2.1; simp only [e4, e5] at hKO; go_simp; exact hKO _ W (.refl W) rfl
            · have e6 := isOf hp.1
              simp only [e6] at hKO
              have fc := Iw.cell (hS.2.2.2.1) (i := k) (by omega)
              go_simp; exact hKO _ W (.refl W) rfl
            · have e7 := isOf hp.1
              simp only [e7] at hKO; go_simp
              refine (Try.refZOf _ _ HX.out.1 HX.out.2).mono ?_
              rintro e W1 ⟨v, rfl, hv, hE⟩
              exact hKO _ W1 hE hv
            · have e0 := isOf hp.1
              have q8 := hp.2.1; simp only [e0] at hKO; go_simp
              refine (Try.refZAdd (hS.2.2.1) q8 SS.out SX.out (by omega)).mono ?_
              rintro e W1 ⟨v, rfl, hv, hE⟩
              exact hKO _ W1 hE hv
            · have q9 := hp.1
              have qr := q9
              obtain ⟨b3, a3, n3, c3, er, -, -⟩ := qr
              replace er : vs 9 = _ := er
              have hf := hS.2.1
              obtain ⟨x0_0, x0_1, hx2, hno⟩ := hf.bx2
              have r0 := hx2.froz0
              have t0 := hx2.cell0
              have r1 := hx2.froz1
              have t1 := hx2.cell1
              have hw := Wr.set2 hx2 hno b3 a3 n3 c3
              have hq := hx2.set (.bool b3) (.slice a3 n3 c3)
              simp only [er] at hKO; clear hf hx2; go_simp
              exact hKO _ hw ⟨(Ext.wr hS.1 hw (by omega)), (hS.2.1.wr hw), (hS.2.2.1.wr hw), (hS.2.2.2.1.wr hw (by omega)), (hw.apart.cell (by simp; omega) hS.2.2.2.2.1), (Nat.le_trans hS.2.2.2.2.2 hw.apart.size)⟩ ⟨_, _, _, _, er, hq⟩
          intro vs W3 hS hM hp
          clear szw3 E0 fop7 hs hi2 hc
          obtain ⟨E0, fop7, hs, hi2, hc, sz3⟩ := hS
          obtain ⟨h3_0, h3_1, h3_2, h3_3, h3_4, h3_5, h3_6, h3_7, h3_8, h3_9, h3_10, -⟩ := hp
          have hh := h3_10
          obtain ⟨bs2, as2, ns2, cs2, ers2, p7⟩ := hh
          replace ers2 : vs 9 = _ := ers2; clear fop7
          have hzs2 : Zw W3 (vs 9) (colS (ls.take j) k + atL (atR ls j) k) := h3_9
          rw [ers2] at hzs2
          replace h3_0 : vs 0 = .agg #[.bool bs, .slice az ns cs] := h3_0
          replace h3_1 : vs 1 = .slice (some ⟨b, o, none⟩) n c := h3_1
          replace h3_2 : vs 2 = .int .i64 (j : Int) := h3_2
          replace h3_3 : vs 3 = .pointer (some ⟨b, o + j, none⟩) := h3_3
          replace h3_4 : vs 4 = .slice (some ⟨bi, oi, none⟩) r ci := h3_4
          replace h3_5 : vs 5 = .int .i64 (k : Int) := h3_5
          replace h3_6 : vs 6 = .pointer (some ⟨bi, oi + k, none⟩) := h3_6
          replace h3_7 : vs 7 = .int .i64 (atL (atR ls j) k) := h3_7
          clear hM
          simp only [ers2, h3_0, h3_1, h3_2, h3_3, h3_4, h3_5, h3_6, h3_7]
          replace h3_8 : Zw W3 (vs 8) (atL (atR ls j) k) := h3_8
          generalize vs 8 = u3_8 at h3_8 ⊢
          replace h3_9 : Zw W3 (vs 9) (colS (ls.take j) k + atL (atR ls j) k) := h3_9
          generalize vs 9 = u3_9 at h3_9 ⊢
          clear ers2 h3_0 h3_1 h3_2 h3_3 h3_4 h3_5 h3_6 h3_7 h3_10; clear hr hRR ltf; clear hG7 hs01 hbW hs1e
          rw [HST.out] at hzs2
          have hx2 := hi2.cell hkr
          go_wp2
          go_roundw
          case rel => exact ⟨j + 1, _, _, _, _, by go_num, rfl, rfl, by omega, p7, hzs2, E0⟩
          case measure => simp [intOf]; omega
        · obtain rfl : n = j := by omega
          have HTJ : Hid (ls.take n = ls) := Lib.hid (List.take_of_length_le (by have := HLN.out; omega))
          rw [HTJ.out] at hs
          have hge3 : ¬ (n : Int) < (n : Int) := by omega
          have hm2 := hm0.ext E0
          obtain ⟨bm, om, rfl, -, -⟩ := hm2.some (by omega)
          have hmi := mean_is HI.out (by have := HLN.out; have := HP.out; omega) k
          rw [HLN.out, ← meanL_at (by rw [← HR.out]; exact HK.out), ← HMD.out] at hmi
          have HXM : Hid (I64 (atL M k)) := Lib.hid (hm2.i64 HK.out)
          have HNI : Hid (-9223372036854775808 ≤ (n : Int) ∧ (n : Int) < 9223372036854775808) := Lib.hid (by omega)
          have SX1 : Hid (Sm 1 (atL M k).natAbs) := Lib.hid (by have h1 := HXM.out; unfold I64 at h1; unfold Sm; rw [B64_eq]; omega)
          have SN1 : Hid (Sm 1 ((n : Int)).natAbs) := Lib.hid (by unfold Sm; rw [B64_eq]; omega)
          have SP : Hid (Sm 3 (atL M k * (n : Int)).natAbs) := Lib.hid (by rw [Int.natAbs_mul]; exact (SX1.out.mul SN1.out).mono (by omega))
          have SQ : Hid (Sm 3 (colS ls k).natAbs) := Lib.hid ((colS_sm HI.out (by have := HLN.out; omega) k).mono (by omega))
          have HD := Lib.hid hmi.2.2
          have hlow : ¬ atL M k < minK ls k n := by omega
          have hhigh : ¬ atL M k > maxK ls k n := by omega
          have hwn : IntKind.u64.wrap (n : Int) = (n : Int) := by rw [IntKind.wrap_u64]; omega
          have HNB : Hid (n < B64) := Lib.hid (by rw [B64_eq]; omega)
          clear hmi
          obtain ⟨kp7_0, kp7_1⟩ := p7.c2
          go_upto_region 24 with (fail)
          clear kp7_0 kp7_1
          have hs1u : s1 ≤ W1.heap.size := Nat.le_of_eq HS.out.2.1
          have ltp7 := p7.lt; have szw4 := Ext.size E0
          refine region_gs [.one fun v _ => v = .slice (some ⟨bm, om, none⟩) r cm,
              .one fun v _ => v = .int .i64 (k : Int),
              .one fun v _ => v = .pointer (some ⟨bm, om + k, none⟩),
              .one fun v _ => v = .int .i64 (atL M k),
              .one fun v W => Zw W v (atL M k),
              .one fun v _ => v = .slice (some ⟨b, o, none⟩) n c,
              .one fun v _ => v = .int .i64 (n : Int),
              .one fun v W => Zw W v ((n : Int)),
              .one fun v W => Zw W v (atL M k * (n : Int)),
              .one fun v _ => v = .agg #[.bool bs, .slice az ns cs],
              .one fun v W => Zw W v (atL M k * (n : Int) - colS ls k),
              .one fun v W => ∃ g, v = .pointer (some ⟨g, 0, none⟩) ∧ wr.heap.size ≤ g ∧ Form W g 29 2,
              .three 11 10 (fun p r _ W => Put2 wr.heap.size 29 p r W)]
            (fun W => Ext W1 W ∧ Bx2 W g7 29 (.bool bs) (.slice az ns cs) ∧ Zw W (.agg #[.bool bs, .slice az ns cs]) (colS ls k) ∧ Iw s0 s1 W (some ⟨bm, om, none⟩) r cm (M) ∧ wr.heap.size ≤ W.heap.size) ⟨Good.is _, Good.is _, Good.is _, Good.is _, Good.zed _, Good.is _, Good.is _, Good.zed _, Good.zed _, Good.is _, Good.zed _, Good.box _ _ _, cert_put2, trivial⟩
            ⟨E0, p7, hs, hm2, Nat.le_refl _⟩ (A := ?A4) ?hA4 ?howe4 ?hfin4
          case hA4 =>
            intro vs
            simp only [putAll, Act.put, sA, sZ, sS, Nat.zero_add, Nat.reduceAdd]
            exact rfl
          case howe4 =>
            clear E0 p7 hs hm2
            intro hf
            refine ⟨oE 0 [] hf rfl ?_, oE 1 [] hf rfl ?_, oE 2 [0, 1] hf rfl ?_, oE 3 [2] hf rfl ?_, oE 4 [3] hf rfl ?_, oE 5 [] hf rfl ?_, oE 6 [5] hf rfl ?_, oE 7 [6] hf rfl ?_, oE 8 [4, 7] hf rfl ?_, oE 9 [] hf rfl ?_, oE 10 [8, 9] hf rfl ?_, oE 11 [] hf rfl ?_, oW 12 [11, 10] hf rfl ?_, trivial⟩
            all_goals intro vs W hS hp hx KO hKO
            all_goals simp only [Act.put, sA, sZ, sS] at hKO
            · go_simp
              exact hKO _ W (.refl W) rfl
            · go_simp
              exact hKO _ W (.refl W) rfl
            · have e0 := isOf hp.1
              have e1 := isOf hp.2.1; simp only [e0, e1] at hKO; go_simp; exact hKO _ W (.refl W) rfl
            · have e2 := isOf hp.1
              simp only [e2] at hKO
              have fc := Iw.cell (hS.2.2.2.1) (i := k) (by omega)
              go_simp; exact hKO _ W (.refl W) rfl
            · have e3 := isOf hp.1
              simp only [e3] at hKO; go_simp
              refine (Try.refZOf _ _ HXM.out.1 HXM.out.2).mono ?_
              rintro e W1 ⟨v, rfl, hv, hE⟩
              exact hKO _ W1 hE hv
            · go_simp
              exact hKO _ W (.refl W) rfl
            · have e5 := isOf hp.1
              simp only [e5] at hKO; go_simp; exact hKO _ W (.refl W) rfl
            · have e6 := isOf hp.1
              simp only [e6] at hKO; go_simp
              refine (Try.refZOf _ _ HNI.out.1 HNI.out.2).mono ?_
              rintro e W1 ⟨v, rfl, hv, hE⟩
              exact hKO _ W1 hE hv
            · have q4 := hp.1
              have q7 := hp.2.1; go_simp
              refine (Try.refZMul q4 q7 SX1.out SN1.out (by omega)).mono ?_
              rintro e W1 ⟨v, rfl, hv, hE⟩
              exact hKO _ W1 hE hv
            · have fc0 := hS.2.1.cell0
              have fc1 := hS.2.1.cell1; go_simp; exact hKO _ W (.refl W) rfl
            · have q8 := hp.1
              have e9 := isOf hp.2.1; simp only [e9] at hKO; go_simp
              refine (Try.refZSub q8 (hS.2.2.1) SP.out SQ.out (by omega)).mono ?_
              rintro e W1 ⟨v, rfl, hv, hE⟩
              exact hKO _ W1 hE hv
            · have hn := Bx2.new W 29 (.bool false) (.slice none 0 0)
              have hE := Ext.alloc1 W (.cells #[.bool false, .slice none 0 0] 29)
              have hsz := hS.2.2.2.2
              go_simp
              exact hKO _ _ hE ⟨_, rfl, hsz, hn.form⟩
            · have q11 := hp.1
              have q10 := hp.2.1
              obtain ⟨g, ev, hg, hf⟩ := q11
              replace ev : vs 11 = _ := ev
              obtain ⟨x0_0, x0_1, hx, hno⟩ := hf.bx2
              have qr := q10
              obtain ⟨b3, a3, n3, c3, er, -, -⟩ := qr
              replace er : vs 10 = _ := er
              have r0 := hx.froz0
              have t0 := hx.cell0
              have r1 := hx.froz1
              have t1 := hx.cell1
              have hw := Wr.set2 hx hno b3 a3 n3 c3
              have hq := hx.set (.bool b3) (.slice a3 n3 c3)
              simp only [ev, er] at hKO; go_simp
              exact hKO _ _ hw ⟨(Ext.wr hS.1 hw (by omega)), (hS.2.1.wr hw (by omega)), (hS.2.2.1.wr hw), (hS.2.2.2.1.wr hw (by omega)), (Nat.le_trans hS.2.2.2.2 hw.apart.size)⟩ ⟨g, b3, a3, n3, c3, ev, er, hg, hq⟩
          intro vs W4 hS hp
          clear szw4 E0 p7 hs hm2
          obtain ⟨E0, p7, hs, hm2, sz4⟩ := hS
          obtain ⟨h4_0, h4_1, h4_2, h4_3, h4_4, h4_5, h4_6, h4_7, h4_8, h4_9, h4_10, h4_11, h4_12, -⟩ := hp
          obtain ⟨g4_12, b4_12, a4_12, n4_12, c4_12, ev4_12, er4_12, hg4_12, p4_12⟩ := h4_12
          replace ev4_12 : vs 11 = _ := ev4_12; replace er4_12 : vs 10 = _ := er4_12; replace h4_10 := (show Zw W4 (vs 10) (atL M k * (n : Int) - colS ls k) from h4_10)
          rw [er4_12] at h4_10
          replace h4_0 : vs 0 = .slice (some ⟨bm, om, none⟩) r cm := h4_0
          replace h4_1 : vs 1 = .int .i64 (k : Int) := h4_1
          replace h4_2 : vs 2 = .pointer (some ⟨bm, om + k, none⟩) := h4_2
          replace h4_3 : vs 3 = .int .i64 (atL M k) := h4_3
          replace h4_5 : vs 5 = .slice (some ⟨b, o, none⟩) n c := h4_5
          replace h4_6 : vs 6 = .int .i64 (n : Int) := h4_6
          replace h4_9 : vs 9 = .agg #[.bool bs, .slice az ns cs] := h4_9
          simp only [ev4_12, er4_12, h4_0, h4_1, h4_2, h4_3, h4_5, h4_6, h4_9]
          replace h4_4 : Zw W4 (vs 4) (atL M k) := h4_4
          generalize vs 4 = u4_4 at h4_4 ⊢
          replace h4_7 : Zw W4 (vs 7) ((n : Int)) := h4_7
          generalize vs 7 = u4_7 at h4_7 ⊢
          replace h4_8 : Zw W4 (vs 8) (atL M k * (n : Int)) := h4_8
          generalize vs 8 = u4_8 at h4_8 ⊢
          clear ev4_12 er4_12 h4_0 h4_1 h4_2 h4_3 h4_5 h4_6 h4_9 h4_11; clear hs1u
          have hd := h4_10.num
          obtain ⟨D, hD⟩ : ∃ D, D = (atL M k * (n : Int) - colS ls k).natAbs := ⟨_, rfl⟩
          rw [← hD] at hd
          have HDD : Hid (D + D ≤ n) := Lib.hid (by rw [hD]; exact HD.out)
          have SD : Hid (Sm 1 D) := Lib.hid (by have := HDD.out; unfold Sm; rw [B64_eq]; omega)
          have hx3 := hm2.cell hkr
          have kd0 := p4_12.cell0
          have kd1 := p4_12.cell1
          clear hD
          go_wp2_with fail
          refine (Try.refAdd hd hd SD.out SD.out (by omega)).mono ?_
          rintro e Wa ⟨va, rfl, ha, hE, -⟩
          replace E0 := E0.trans hE; clear hE kd0 kd1 hx3
          go_wp2_with fail
          refine (Try.refOf n _ HNB.out).mono ?_
          rintro e Wb ⟨vb, rfl, hb, hE, -⟩
          replace ha := ha.ext hE; replace E0 := E0.trans hE; clear hE
          go_wp2_with fail
          refine (Try.refCmpLe ha hb HDD.out).mono ?_
          rintro e Wd ⟨y, rfl, hy, hE⟩
          have hy0 : decide (0 < y) = false := decide_eq_false (by omega)
          replace E0 := E0.trans hE; clear hE hy; go_wp2
          go_roundw
          case rel => exact ⟨k + 1, by go_num, by omega, E0⟩
          case measure => simp [intOf]; omega
      · have hge2 : ¬ (k : Int) < (r : Int) := by omega
        go_wp2_with fail
        refine (Try.alive16 _).mono ?_
        rintro e W7 ⟨rfl, hE⟩
        have E9 := E0.trans (E3.trans hE)
        clear hE
        go_wp2; go_ret
        exact ⟨rfl, E9⟩
    ·     have hnI : ((n : Int) == 1) = false := by simp; omega
          clear h1
          have E3 := E2
          go_wp2_with fail
          go_loopw [6] (fun i wk => ∃ k : Nat, i = .int .i64 (k : Int) ∧ k ≤ r ∧ Ext W1 wk) (fun i _ => r - (intOf i).toNat)
          case atStart => exact ⟨0, rfl, by omega, E3⟩
          case round =>
      clear E3
      obtain ⟨k, rfl, hk, E3⟩ := hrel
      by_cases hkr : k < r
      ·       have hkI : (k : Int) < (r : Int) := by omega
              have HK := Lib.hid hkr
              have hk63 : (k : Int) < 9223372036854775807 := by have := HRR.out; omega
              have hszk := E3.size
              obtain ⟨W8, hW8⟩ : ∃ W8, W8 = wr.alloc (.cells #[.bool false, .slice none 0 0] 29) := ⟨_, rfl⟩
              obtain ⟨g7, hg7⟩ : ∃ g7, g7 = wr.heap.size := ⟨_, rfl⟩
              have p7 : Bx2 W8 g7 29 (.bool false) (.slice none 0 0) := by rw [hW8, hg7]; exact Bx2.new _ _ _ _
              have hE : Ext wr W8 := by rw [hW8]; exact Ext.alloc1 _ _
              have hs : Zw W8 (.agg #[.bool false, .slice none 0 0]) (colS (ls.take 0) k) := Zw.nought W8
              have HG7 : Hid (s1 ≤ g7) := Lib.hid (by rw [hg7, HS.out.2.1]; exact hszk)
              replace E3 := E3.trans hE
              have hc0 := E3.cell HC0.out
              have hi1 := (hi0.ext E3).iw (by omega)
              obtain ⟨b0, o0, rfl, -, -⟩ := hi1.some (by omega)
              have hx0 := hi1.cell hkr
              have hmin : atL (atR ls 0) k = minK ls k 0 := rfl
              go_upto_region 17 with (fail)
              rw [← hW8, ← hg7]
              clear hE hW8 hg7 hszk hmin
              go_quiet (fail)
              clear hc0 hx0 hi1
              go_wp2_with fail
              
              go_loopw [8, 9, 10] (fun vl vh i wq => ∃ (j : Nat) (bs : Bool) (az : Option Addr) (ns cs : Nat), i = .int .i64 (j : Int) ∧ vl = .int .i64 (minK ls k j) ∧ vh = .int .i64 (maxK ls k j) ∧ j ≤ n ∧ Bx2 wq g7 29 (.bool bs) (.slice az ns cs) ∧ Zw wq (.agg #[.bool bs, .slice az ns cs]) (colS (ls.take j) k) ∧ Ext W1 wq) (fun _ _ i _ => n - (intOf i).toNat)
              case atStart => exact ⟨0, _, _, _, _, rfl, rfl, rfl, by omega, p7.ext ((Ext.refl _).drewN _), hs.ext ((Ext.refl _).drewN _), E3.drewN _⟩
              case round =>
        have EA := E0
        clear p7 hs E3 E0
        obtain ⟨j, bs, az, ns, cs, rfl, rfl, rfl, hj, p7, hs, E0⟩ := hrel
        by_cases hjt : j < n
        · have hjI : (j : Int) < (n : Int) := by omega
          have hj63 : (j : Int) < 9223372036854775807 := by omega
          have HJ : Hid (j < ls.length) := Lib.hid (by have := HLN.out; omega)
          obtain ⟨ai, ci, hc, hi⟩ := h0.cell hjt
          have hel := oddR_at HO.out HJ.out
          rw [← HR.out] at hel
          rw [hel] at hc hi
          replace hc := E0.cell hc
          have hi2 := (hi.iw (by omega)).ext E0
          obtain ⟨bi, oi, rfl, -, -⟩ := hi2.some (by omega)
          have HX : Hid (I64 (atL (atR ls j) k)) := Lib.hid (hi2.i64 HK.out)
          have HST : Hid (colS (ls.take j) k + atL (atR ls j) k = colS (ls.take (j + 1)) k) := Lib.hid (colS_take HJ.out k).symm
          have SS : Hid (Sm 3 (colS (ls.take j) k).natAbs) := Lib.hid ((colS_sm (fun x hx => by obtain ⟨l, hl, hx⟩ := List.mem_flatten.1 hx; exact HI.out x (List.mem_flatten.2 ⟨l, List.mem_of_mem_take hl, hx⟩)) (by have := HLN.out; have := HL.out; simp; omega) k).mono (by omega))
          have SX : Hid (Sm 3 (atL (atR ls j) k).natAbs) := Lib.hid (by have h1 := HX.out; unfold I64 at h1; unfold Sm; rw [B64_eq]; omega)
          clear hel hi
          obtain ⟨kp7_0, kp7_1⟩ := p7.c2
          go_upto_region 21 with (fail)
          clear kp7_0 kp7_1
          have hG7 := HG7.out
          have hs01 := HS.out.2.2
          have hbW := HBW.out
          have hs1e : W1.heap.size ≤ s1 := Nat.le_of_eq HS.out.2.1.symm
          have hr : Rest (fun W => Bx2 W g7 29 (.bool bs) (.slice az ns cs)) g7 := ⟨fun W W1 h hE => h.ext hE⟩
          have hRR := p7
          have fop7 := p7.form; clear p7; have ltf := fop7.lt; have szw5 := Ext.size E0
          refine region_go3 [.one fun v _ => v = .agg #[.bool bs, .slice az ns cs],
              .one fun v _ => v = .slice (some ⟨b, o, none⟩) n c,
              .one fun v _ => v = .int .i64 (j : Int),
              .one fun v _ => v = .pointer (some ⟨b, o + j, none⟩),
              .one fun v _ => v = .slice (some ⟨bi, oi, none⟩) r ci,
              .one fun v _ => v = .int .i64 (k : Int),
              .one fun v _ => v = .pointer (some ⟨bi, oi + k, none⟩),
              .one fun v _ => v = .int .i64 (atL (atR ls j) k),
              .one fun v W => Zw W v (atL (atR ls j) k),
              .one fun v W => Zw W v (colS (ls.take j) k + atL (atR ls j) k),
              .two 9 (fun r _ W => At2 g7 29 r W)]
            (fun W => Ext W1 W ∧ Form W g7 29 2 ∧ Zw W (.agg #[.bool bs, .slice az ns cs]) (colS (ls.take j) k) ∧ Iw 0 s0 W (some ⟨bi, oi, none⟩) r ci (atR ls j) ∧ World.cell? W ⟨b, o + j, none⟩ = some (.slice (some ⟨bi, oi, none⟩) r ci) ∧ wr.heap.size ≤ W.heap.size) wr.heap.size [] [Tag.any, Tag.any, Tag.any, Tag.any, Tag.any, Tag.any, Tag.any, Tag.any, Tag.any, Tag.any, Tag.old (g7)] ⟨Good.is _, Good.is _, Good.is _, Good.is _, Good.is _, Good.is _, Good.is _, Good.is _, Good.zed _, Good.zed _, tag_at2, trivial⟩ (fun g0 hg => by simp at hg; omega)
            (fun W W1 hS hE => ⟨(Ext.trans hS.1 hE), (hS.2.1.ext hE), (hS.2.2.1.ext hE), (hS.2.2.2.1.ext hE), (Ext.cell hE hS.2.2.2.2.1), (Nat.le_trans hS.2.2.2.2.2 (Ext.size hE))⟩) ⟨E0, fop7, hs, hi2, hc, Nat.le_refl _⟩ (fun m hm => by simp at hm) 10 hr hRR (by kernel_rfl) (by kernel_rfl) (by kernel_rfl) (by kernel_rfl) (A := ?A5) ?hA5 ?howe5 ?hfin5
          case hA5 =>
            intro vs
            simp only [putAll, Act.put, sA, sZ, sS, Nat.zero_add, Nat.reduceAdd]
            exact rfl
          case howe5 =>
            clear E0 fop7 hs hi2 hc
            intro hf
            refine ⟨owesR3 0 [] hf hr rfl rfl (by kernel_rfl) rfl rfl rfl (by kernel_rfl) ?_, owesM3 1 [] hf hr rfl rfl rfl (by kernel_rfl) ?_, owesM3 2 [] hf hr rfl rfl rfl (by kernel_rfl) ?_, owesM3 3 [1, 2] hf hr rfl rfl rfl (by kernel_rfl) ?_, owesM3 4 [3] hf hr rfl rfl rfl (by kernel_rfl) ?_, owesM3 5 [] hf hr rfl rfl rfl (by kernel_rfl) ?_, owesM3 6 [4, 5] hf hr rfl rfl rfl (by kernel_rfl) ?_, owesM3 7 [6] hf hr rfl rfl rfl (by kernel_rfl) ?_, owesM3 8 [7] hf hr rfl rfl rfl (by kernel_rfl) ?_, owesM3 9 [0, 8] hf hr rfl rfl rfl (by kernel_rfl) ?_, owesL3 (g7) [9] hf rfl (by omega) ⟨.inr trivial, .inr trivial, .inr trivial, .inr trivial, .inr trivial, .inr trivial, .inr trivial, .inr trivial, .inr trivial, .inr trivial, .inl rfl, trivial⟩ rfl (by kernel_rfl) ?_, trivial⟩
            all_goals intro vs W hS hp hx KO hKO
            all_goals simp only [Act.put, sA, sZ, sS] at hKO
            · have hb0 : Bx2 W g7 29 (.bool bs) (.slice az ns cs) := hS.2
              have fc0 := hb0.cell0; have fc1 := hb0.cell1; clear hb0; go_simp; exact hKO _ W (.refl W) rfl
            · go_simp
              exact hKO _ W (.refl W) rfl
            · go_simp
              exact hKO _ W (.refl W) rfl
            · have e1 := isOf hp.1
              have e2 := isOf hp.2.1; simp only [e1, e2] at hKO; go_simp; exact hKO _ W (.refl W) rfl
            · have e3 := isOf hp.1
              simp only [e3] at hKO
              have fc := hS.2.2.2.2.1
              go_simp; exact hKO _ W (.refl W) rfl
            · go_simp
              exact hKO _ W (.refl W) rfl
            · have e4 := isOf hp.1
              have e5 := isOf hp.2.1; simp only [e4, e5] at hKO; go_simp; exact hKO _ W (.refl W) rfl
            · have e6 := isOf hp.1
              simp only [e6] at hKO
              have fc := Iw.cell (hS.2.2.2.1) (i := k) (by omega)
              go_simp; exact hKO _ W (.refl W) rfl
            · have e7 := isOf hp.1
              simp only [e7] at hKO; go_simp
              refine (Try.refZOf _ _ HX.out.1 HX.out.2).mono ?_
              rintro e W1 ⟨v, rfl, hv, hE⟩
              exact hKO _ W1 hE hv
            · have e0 := isOf hp.1
              have q8 := hp.2.1; simp only [e0] at hKO; go_simp
              refine (Try.refZAdd (hS.2.2.1) q8 SS.out SX.out (by omega)).mono ?_
              rintro e W1 ⟨v, rfl, hv, hE⟩
              exact hKO _ W1 hE hv
            · have q9 := hp.1
              have qr := q9
              obtain ⟨b3, a3, n3, c3, er, -, -⟩ := qr
              replace er : vs 9 = _ := er
              have hf := hS.2.1
              obtain ⟨x0_0, x0_1, hx2, hno⟩ := hf.bx2
              have r0 := hx2.froz0
              have t0 := hx2.cell0
              have r1 := hx2.froz1
              have t1 := hx2.cell1
              have hw := Wr.set2 hx2 hno b3 a3 n3 c3
              have hq := hx2.set (.bool b3) (.slice a3 n3 c3)
              simp only [er] at hKO; clear hf hx2; go_simp
              exact hKO _ hw ⟨(Ext.wr hS.1 hw (by omega)), (hS.2.1.wr hw), (hS.2.2.1.wr hw), (hS.2.2.2.1.wr hw (by omega)), (hw.apart.cell (by simp; omega) hS.2.2.2.2.1), (Nat.le_trans hS.2.2.2.2.2 hw.apart.size)⟩ ⟨_, _, _, _, er, hq⟩
          intro vs W5 hS hM hp
          clear szw5 E0 fop7 hs hi2 hc
          obtain ⟨E0, fop7, hs, hi2, hc, sz5⟩ := hS
          obtain ⟨h5_0, h5_1, h5_2, h5_3, h5_4, h5_5, h5_6, h5_7, h5_8, h5_9, h5_10, -⟩ := hp
          have hh := h5_10
          obtain ⟨bs2, as2, ns2, cs2, ers2, p7⟩ := hh
          replace ers2 : vs 9 = _ := ers2; clear fop7
          have hzs2 : Zw W5 (vs 9) (colS (ls.take j) k + atL (atR ls j) k) := h5_9
          rw [ers2] at hzs2
          replace h5_0 : vs 0 = .agg #[.bool bs, .slice az ns cs] := h5_0
          replace h5_1 : vs 1 = .slice (some ⟨b, o, none⟩) n c := h5_1
          replace h5_2 : vs 2 = .int .i64 (j : Int) := h5_2
          replace h5_3 : vs 3 = .pointer (some ⟨b, o + j, none⟩) := h5_3
          replace h5_4 : vs 4 = .slice (some ⟨bi, oi, none⟩) r ci := h5_4
          replace h5_5 : vs 5 = .int .i64 (k : Int) := h5_5
          replace h5_6 : vs 6 = .pointer (some ⟨bi, oi + k, none⟩) := h5_6
          replace h5_7 : vs 7 = .int .i64 (atL (atR ls j) k) := h5_7
          clear hM
          simp only [ers2, h5_0, h5_1, h5_2, h5_3, h5_4, h5_5, h5_6, h5_7]
          replace h5_8 : Zw W5 (vs 8) (atL (atR ls j) k) := h5_8
          generalize vs 8 = u5_8 at h5_8 ⊢
          replace h5_9 : Zw W5 (vs 9) (colS (ls.take j) k + atL (atR ls j) k) := h5_9
          generalize vs 9 = u5_9 at h5_9 ⊢
          clear ers2 h5_0 h5_1 h5_2 h5_3 h5_4 h5_5 h5_6 h5_7 h5_10; clear hr hRR ltf; clear hG7 hs01 hbW hs1e
          rw [HST.out] at hzs2
          have hx2 := hi2.cell hkr
          go_wp2
          go_roundw
          case rel => exact ⟨j + 1, _, _, _, _, by go_num, rfl, rfl, by omega, p7, hzs2, E0⟩
          case measure => simp [intOf]; omega
        · obtain rfl : n = j := by omega
          have HTJ : Hid (ls.take n = ls) := Lib.hid (List.take_of_length_le (by have := HLN.out; omega))
          rw [HTJ.out] at hs
          have hge3 : ¬ (n : Int) < (n : Int) := by omega
          have hm2 := hm0.ext E0
          obtain ⟨bm, om, rfl, -, -⟩ := hm2.some (by omega)
          have hmi := mean_is HI.out (by have := HLN.out; have := HP.out; omega) k
          rw [HLN.out, ← meanL_at (by rw [← HR.out]; exact HK.out), ← HMD.out] at hmi
          have HXM : Hid (I64 (atL M k)) := Lib.hid (hm2.i64 HK.out)
          have HNI : Hid (-9223372036854775808 ≤ (n : Int) ∧ (n : Int) < 9223372036854775808) := Lib.hid (by omega)
          have SX1 : Hid (Sm 1 (atL M k).natAbs) := Lib.hid (by have h1 := HXM.out; unfold I64 at h1; unfold Sm; rw [B64_eq]; omega)
          have SN1 : Hid (Sm 1 ((n : Int)).natAbs) := Lib.hid (by unfold Sm; rw [B64_eq]; omega)
          have SP : Hid (Sm 3 (atL M k * (n : Int)).natAbs) := Lib.hid (by rw [Int.natAbs_mul]; exact (SX1.out.mul SN1.out).mono (by omega))
          have SQ : Hid (Sm 3 (colS ls k).natAbs) := Lib.hid ((colS_sm HI.out (by have := HLN.out; omega) k).mono (by omega))
          have HD := Lib.hid hmi.2.2
          have hlow : ¬ atL M k < minK ls k n := by omega
          have hhigh : ¬ atL M k > maxK ls k n := by omega
          have hwn : IntKind.u64.wrap (n : Int) = (n : Int) := by rw [IntKind.wrap_u64]; omega
          have HNB : Hid (n < B64) := Lib.hid (by rw [B64_eq]; omega)
          clear hmi
          obtain ⟨kp7_0, kp7_1⟩ := p7.c2
          go_upto_region 24 with (fail)
          clear kp7_0 kp7_1
          have hs1u : s1 ≤ W1.heap.size := Nat.le_of_eq HS.out.2.1
          have ltp7 := p7.lt; have szw6 := Ext.size E0
          refine region_gs [.one fun v _ => v = .slice (some ⟨bm, om, none⟩) r cm,
              .one fun v _ => v = .int .i64 (k : Int),
              .one fun v _ => v = .pointer (some ⟨bm, om + k, none⟩),
              .one fun v _ => v = .int .i64 (atL M k),
              .one fun v W => Zw W v (atL M k),
              .one fun v _ => v = .slice (some ⟨b, o, none⟩) n c,
              .one fun v _ => v = .int .i64 (n : Int),
              .one fun v W => Zw W v ((n : Int)),
              .one fun v W => Zw W v (atL M k * (n : Int)),
              .one fun v _ => v = .agg #[.bool bs, .slice az ns cs],
              .one fun v W => Zw W v (atL M k * (n : Int) - colS ls k),
              .one fun v W => ∃ g, v = .pointer (some ⟨g, 0, none⟩) ∧ wr.heap.size ≤ g ∧ Form W g 29 2,
              .three 11 10 (fun p r _ W => Put2 wr.heap.size 29 p r W)]
            (fun W => Ext W1 W ∧ Bx2 W g7 29 (.bool bs) (.slice az ns cs) ∧ Zw W (.agg #[.bool bs, .slice az ns cs]) (colS ls k) ∧ Iw s0 s1 W (some ⟨bm, om, none⟩) r cm (M) ∧ wr.heap.size ≤ W.heap.size) ⟨Good.is _, Good.is _, Good.is _, Good.is _, Good.zed _, Good.is _, Good.is _, Good.zed _, Good.zed _, Good.is _, Good.zed _, Good.box _ _ _, cert_put2, trivial⟩
            ⟨E0, p7, hs, hm2, Nat.le_refl _⟩ (A := ?A6) ?hA6 ?howe6 ?hfin6
          case hA6 =>
            intro vs
            simp only [putAll, Act.put, sA, sZ, sS, Nat.zero_add, Nat.reduceAdd]
            exact rfl
          case howe6 =>
            clear E0 p7 hs hm2
            intro hf
            refine ⟨oE 0 [] hf rfl ?_, oE 1 [] hf rfl ?_, oE 2 [0, 1] hf rfl ?_, oE 3 [2] hf rfl ?_, oE 4 [3] hf rfl ?_, oE 5 [] hf rfl ?_, oE 6 [5] hf rfl ?_, oE 7 [6] hf rfl ?_, oE 8 [4, 7] hf rfl ?_, oE 9 [] hf rfl ?_, oE 10 [8, 9] hf rfl ?_, oE 11 [] hf rfl ?_, oW 12 [11, 10] hf rfl ?_, trivial⟩
            all_goals intro vs W hS hp hx KO hKO
            all_goals simp only [Act.put, sA, sZ, sS] at hKO
            · go_simp
              exact hKO _ W (.refl W) rfl
            · go_simp
              exact hKO _ W (.refl W) rfl
            · have e0 := isOf hp.1
              have e1 := isOf hp.2.1; simp only [e0, e1] at hKO; go_simp; exact hKO _ W (.refl W) rfl
            · have e2 := isOf hp.1
              simp only [e2] at hKO
              have fc := Iw.cell (hS.2.2.2.1) (i := k) (by omega)
              go_simp; exact hKO _ W (.refl W) rfl
            · have e3 := isOf hp.1
              simp only [e3] at hKO; go_simp
              refine (Try.refZOf _ _ HXM.out.1 HXM.out.2).mono ?_
              rintro e W1 ⟨v, rfl, hv, hE⟩
              exact hKO _ W1 hE hv
            · go_simp
              exact hKO _ W (.refl W) rfl
            · have e5 := isOf hp.1
              simp only [e5] at hKO; go_simp; exact hKO _ W (.refl W) rfl
            · have e6 := isOf hp.1
              simp only [e6] at hKO; go_simp
              refine (Try.refZOf _ _ HNI.out.1 HNI.out.2).mono ?_
              rintro e W1 ⟨v, rfl, hv, hE⟩
              exact hKO _ W1 hE hv
            · have q4 := hp.1
              have q7 := hp.2.1; go_simp
              refine (Try.refZMul q4 q7 SX1.out SN1.out (by omega)).mono ?_
              rintro e W1 ⟨v, rfl, hv, hE⟩
              exact hKO _ W1 hE hv
            · have fc0 := hS.2.1.cell0
              have fc1 := hS.2.1.cell1; go_simp; exact hKO _ W (.refl W) rfl
            · have q8 := hp.1
              have e9 := isOf hp.2.1; simp only [e9] at hKO; go_simp
              refine (Try.refZSub q8 (hS.2.2.1) SP.out SQ.out (by omega)).mono ?_
              rintro e W1 ⟨v, rfl, hv, hE⟩
              exact hKO _ W1 hE hv
            · have hn := Bx2.new W 29 (.bool false) (.slice none 0 0)
              have hE := Ext.alloc1 W (.cells #[.bool false, .slice none 0 0] 29)
              have hsz := hS.2.2.2.2
              go_simp
              exact hKO _ _ hE ⟨_, rfl, hsz, hn.form⟩
            · have q11 := hp.1
              have q10 := hp.2.1
              obtain ⟨g, ev, hg, hf⟩ := q11
              replace ev : vs 11 = _ := ev
              obtain ⟨x0_0, x0_1, hx, hno⟩ := hf.bx2
              have qr := q10
              obtain ⟨b3, a3, n3, c3, er, -, -⟩ := qr
              replace er : vs 10 = _ := er
              have r0 := hx.froz0
              have t0 := hx.cell0
              have r1 := hx.froz1
              have t1 := hx.cell1
              have hw := Wr.set2 hx hno b3 a3 n3 c3
              have hq := hx.set (.bool b3) (.slice a3 n3 c3)
              simp only [ev, er] at hKO; go_simp
              exact hKO _ _ hw ⟨(Ext.wr hS.1 hw (by omega)), (hS.2.1.wr hw (by omega)), (hS.2.2.1.wr hw), (hS.2.2.2.1.wr hw (by omega)), (Nat.le_trans hS.2.2.2.2 hw.apart.size)⟩ ⟨g, b3, a3, n3, c3, ev, er, hg, hq⟩
          intro vs W6 hS hp
          clear szw6 E0 p7 hs hm2
          obtain ⟨E0, p7, hs, hm2, sz6⟩ := hS
          obtain ⟨h6_0, h6_1, h6_2, h6_3, h6_4, h6_5, h6_6, h6_7, h6_8, h6_9, h6_10, h6_11, h6_12, -⟩ := hp
          obtain ⟨g6_12, b6_12, a6_12, n6_12, c6_12, ev6_12, er6_12, hg6_12, p6_12⟩ := h6_12
          replace ev6_12 : vs 11 = _ := ev6_12; replace er6_12 : vs 10 = _ := er6_12; replace h6_10 := (show Zw W6 (vs 10) (atL M k * (n : Int) - colS ls k) from h6_10)
          rw [er6_12] at h6_10
          replace h6_0 : vs 0 = .slice (some ⟨bm, om, none⟩) r cm := h6_0
          replace h6_1 : vs 1 = .int .i64 (k : Int) := h6_1
          replace h6_2 : vs 2 = .pointer (some ⟨bm, om + k, none⟩) := h6_2
          replace h6_3 : vs 3 = .int .i64 (atL M k) := h6_3
          replace h6_5 : vs 5 = .slice (some ⟨b, o, none⟩) n c := h6_5
          replace h6_6 : vs 6 = .int .i64 (n : Int) := h6_6
          replace h6_9 : vs 9 = .agg #[.bool bs, .slice az ns cs] := h6_9
          simp only [ev6_12, er6_12, h6_0, h6_1, h6_2, h6_3, h6_5, h6_6, h6_9]
          replace h6_4 : Zw W6 (vs 4) (atL M k) := h6_4
          generalize vs 4 = u6_4 at h6_4 ⊢
          replace h6_7 : Zw W6 (vs 7) ((n : Int)) := h6_7
          generalize vs 7 = u6_7 at h6_7 ⊢
          replace h6_8 : Zw W6 (vs 8) (atL M k * (n : Int)) := h6_8
          generalize vs 8 = u6_8 at h6_8 ⊢
          clear ev6_12 er6_12 h6_0 h6_1 h6_2 h6_3 h6_5 h6_6 h6_9 h6_11; clear hs1u
          have hd := h6_10.num
          obtain ⟨D, hD⟩ : ∃ D, D = (atL M k * (n : Int) - colS ls k).natAbs := ⟨_, rfl⟩
          rw [← hD] at hd
          have HDD : Hid (D + D ≤ n) := Lib.hid (by rw [hD]; exact HD.out)
          have SD : Hid (Sm 1 D) := Lib.hid (by have := HDD.out; unfold Sm; rw [B64_eq]; omega)
          have hx3 := hm2.cell hkr
          have kd0 := p6_12.cell0
          have kd1 := p6_12.cell1
          clear hD
          go_wp2_with fail
          refine (Try.refAdd hd hd SD.out SD.out (by omega)).mono ?_
          rintro e Wa ⟨va, rfl, ha, hE, -⟩
          replace E0 := E0.trans hE; clear hE kd0 kd1 hx3
          go_wp2_with fail
          refine (Try.refOf n _ HNB.out).mono ?_
          rintro e Wb ⟨vb, rfl, hb, hE, -⟩
          replace ha := ha.ext hE; replace E0 := E0.trans hE; clear hE
          go_wp2_with fail
          refine (Try.refCmpLe ha hb HDD.out).mono ?_
          rintro e Wd ⟨y, rfl, hy, hE⟩
          have hy0 : decide (0 < y) = false := decide_eq_false (by omega)
          replace E0 := E0.trans hE; clear hE hy; go_wp2
          go_roundw
          case rel => exact ⟨k + 1, by go_num, by omega, E0⟩
          case measure => simp [intOf]; omega
      · have hge2 : ¬ (k : Int) < (r : Int) := by omega
        go_wp2_with fail
        refine (Try.alive16 _).mono ?_
        rintro e W7 ⟨rfl, hE⟩
        have E9 := E0.trans (E3.trans hE)
        clear hE
        go_wp2; go_ret
        exact ⟨rfl, E9⟩

set_option maxRecDepth 100000 in
set_option maxHeartbeats 8000000 in
theorem Try.lawClipMean {n c : Nat} {a : Option Addr} {ls : List (List Int)} {w : World} (h : Mw 0 w.heap.size w a n c ls) (hn : n ≤ 140737488351232) (hl : ∀ l ∈ ls, l.length ≤ 140737488351232) :
  Calls Try.prog 6 #[.slice a n c] w fun e w' => e = .returned (.bool true) ∧ Ext w w' := by
 by_cases hf : n + ls.flatten.length ≤ 40
 ·rcases Nat.eq_zero_or_pos n with hp | hp
  ·have HLN := Lib.hid h.len
   have HF : Hid (decide (n + ls.flatten.length ≤ 40) = true) := Lib.hid (decide_eq_true hf)
   have HB := Lib.hid (And.intro hn hl)
   clear hf hn hl
   subst hp
   go_enter Try.func6, Try.ntmps6
   go_wp2_with fail
   refine (Try.refFew16 h HB.out.1 HB.out.2).mono ?_
   rintro e W ⟨rfl, rfl⟩
   rw [HF.out]; clear h; go_wp2_with fail
   refine (Try.meanEmpty _).mono ?_
   rintro e W1 ⟨rfl, E0⟩
   go_wp2_with fail
   go_loopw [5] (fun i wr => i = .int .i64 0 ∧ W1 = wr) (fun i _ => 0)
   case atStart => exact ⟨rfl, rfl⟩
   case round =>
    obtain ⟨rfl, rfl⟩ := hrel
    go_wp2_with fail
    refine (Try.alive16 _).mono ?_
    rintro e W7 ⟨rfl, hE⟩
    replace E0 := E0.trans hE; clear hE
    go_wp2; go_ret
    exact ⟨rfl, E0⟩
  ·cases ho : oddR ls
   ·exact Try.clipMeanEven h hn hl hf hp ho
   ·exact Try.clipMeanOdd h hn hl hf hp ho
 ·have HF : Hid (decide (n + ls.flatten.length ≤ 40) = false) := Lib.hid (decide_eq_false hf)
  have HB := Lib.hid (And.intro hn hl)
  clear hf hn hl
  go_enter Try.func6, Try.ntmps6
  go_wp2_with fail
  refine (Try.refFew16 h HB.out.1 HB.out.2).mono ?_
  rintro e W ⟨rfl, rfl⟩
  rw [HF.out]; clear h; go_wp2_with fail
  refine (Try.alive16 _).mono ?_
  rintro e W7 ⟨rfl, hE⟩
  go_wp2; go_ret
  exact ⟨rfl, hE⟩

end Go.Rt
