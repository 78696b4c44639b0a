/-
  The reference's DivMod, Gcd, Goes.
-/
import Derived.Test.YtbfojmhigfeahaaRefF
namespace Go.Rt
open Go.RowKit Go.Proofs

/-- a quotient, what is left, and the error -/
def dvR (N M : Nat) : Nat := if M = 0 then 0 else N % M
def dvE (M : Nat) : Int := if M = 0 then 4 else 0
theorem dvR_pos {N M : Nat} (h : 0 < M) : dvR N M = N % M := if_neg (by omega)
theorem dvE_pos {M : Nat} (h : 0 < M) : dvE M = 0 := if_neg (by omega)

/-- what holds ahead of a round: I binary figures are still to come -/
structure DivR (N M I len : Nat) (qs : List Nat) (R : Nat) : Prop where
  rest : R = N / 2 ^ I % M
  len : qs.length = len
  limb : qs.getD (I / 64) 0 = qp N M I % 2 ^ (64 - I % 64)
  low : ∀ j, j < I / 64 → qs.getD j 0 = 0
  val : ev B64 qs = qrow N M I

theorem DivR.start {N M I n : Nat} (h : N / 2 ^ I < M) : DivR N M I n (List.replicate n 0) (N / 2 ^ I) :=
  let ⟨a, b, c⟩ := qp_start h
  ⟨b.symm, by simp, by rw [a]; simp [List.getElem?_replicate]; split <;> simp, fun j _ => by simp [List.getElem?_replicate]; split <;> simp, by rw [c, ev_zeros]⟩

theorem DivR.low' {N M i n R : Nat} {qs : List Nat} (h : DivR N M (i + 1) n qs R) (v : Nat) : ∀ j, j < i / 64 → (qs.set (i / 64) v).getD j 0 = 0 := fun j hj => by
  rw [getD_set_ne (by omega)]; exact h.low j (by omega)

theorem DivR.step {N M i n R T d v : Nat} {qs : List Nat} (h : DivR N M (i + 1) n qs R) (hM : 0 < M) (hi : i / 64 < n) (hT : T = 2 * R + N / 2 ^ i % 2)
    (hd : d = if T < M then 0 else 1) (hv : v = 2 * qs.getD (i / 64) 0 + d) :
    v < B64 ∧ DivR N M i n (qs.set (i / 64) v) (if T < M then T else T - M) := by
  obtain ⟨a, b⟩ := div_bit (i := i) hM h.rest
  rw [← hT] at a b
  by_cases hlt : T < M
  · obtain ⟨e1, e2⟩ := a hlt
    rw [if_pos hlt] at hd ⊢
    obtain ⟨c1, c2, c3⟩ := qrow_bit (d := d) (by omega) (by rw [hd]; exact e2) (by rw [h.len]; exact hi) h.limb h.low h.val hv
    exact ⟨c1, ⟨e1.symm, by rw [List.length_set]; exact h.len, c2, h.low' v, c3⟩⟩
  · obtain ⟨e1, e2⟩ := b (by omega)
    rw [if_neg hlt] at hd ⊢
    obtain ⟨c1, c2, c3⟩ := qrow_bit (d := d) (by omega) (by rw [hd]; exact e2) (by rw [h.len]; exact hi) h.limb h.low h.val hv
    exact ⟨c1, ⟨e1.symm, by rw [List.length_set]; exact h.len, c2, h.low' v, c3⟩⟩

theorem getD_lg (xs : List Nat) (i : Nat) : xs.getD i 0 = lg xs i := rfl

set_option maxHeartbeats 4000000 in
theorem Try.refDivMod {v1 v2 : Value} {N M L : Nat} {w : World} (h1 : Nw w v1 N) (h2 : Nw w v2 M) (s1 : Sm L N) (s2 : Sm L M) (hL : L ≤ 300) :
    Calls Try.prog 59 #[v1, v2] w fun e w' => ∃ vq vr, e = .returned (.tuple #[vq, vr, .int .i64 (dvE M)]) ∧ Nw w' vq (N / M) ∧ Nw w' vr (dvR N M) ∧ Ext w w' ∧ Fr w vq ∧ Fr w vr := by
  obtain ⟨ys, ⟨a2, b2, o2, c2, rfl, hs2, hl2⟩, hn2, hm2, l2⟩ := h2.lens s2
  rcases Nat.eq_zero_or_pos M with h0 | hM
  · have hy0 : ((ys.length : Int) == 0) = true := by
      have := (hn2.zero_iff B64_pos).1 (hm2.trans h0)
      simp [this]
    have HE : Hid (dvE M = 4) := Lib.hid (if_pos h0)
    have HQ : Hid (N / M = 0) := Lib.hid (by rw [h0, Nat.div_zero])
    have HR : Hid (dvR N M = 0) := Lib.hid (if_pos h0)
    clear hs2 hm2 h0 h1 h2 s1 s2
    go_enter Try.func59, Try.ntmps59
    go_wp2
    go_ret3
    exact ⟨_, _, by rw [HE.out]; rfl, by rw [HQ.out]; exact Nw.nil _, by rw [HR.out]; exact Nw.nil _, Ext.refl _, Fr.nil _, Fr.nil _⟩
  · have hy0 : ((ys.length : Int) == 0) = false := beq_eq_false_iff_ne.2 (by
      intro h
      have := (hn2.zero_iff (b := B64) B64_pos).2 (by omega)
      omega)
    have HE : Hid (dvE M = 0) := Lib.hid (dvE_pos hM)
    have HR : Hid (dvR N M = N % M) := Lib.hid (dvR_pos hM)
    clear hs2 hm2 hn2 hl2
    have bN := bl_sm s1
    have bM := bl_sm s2
    by_cases hfr : bl N < bl M
    · have hNM : N < M := by
        rcases Nat.lt_or_ge N M with h | h
        · exact h
        · have := bl_mono h; omega
      have HQ : Hid (N / M = 0) := Lib.hid (Nat.div_eq_of_lt hNM)
      have HR2 : Hid (dvR N M = N) := Lib.hid (by rw [HR.out, Nat.mod_eq_of_lt hNM])
      obtain ⟨xs, ⟨a1, b1, o1, c1, rfl, hs1, hl1⟩, hn1, hm1, l1⟩ := h1.lens s1
      have HM1 := Lib.hid hm1
      have hsl : Sl ((w.alloc (.cells #[] 43)).alloc (.cells #[] 43)) a1 b1 o1 xs.length c1 (fun i => .int .u64 ((lg xs i : Nat) : Int)) := hs1.ext ((Ext.alloc1 _ _).alloc _)
      have ho := Own.lit (w.alloc (.cells #[] 43)) [] w.heap.size 43 (by simp) (Nat.zero_le _)
      simp only [World.size_alloc] at ho
      have hx0 := ((Ext.alloc1 w (.cells #[] 43)).alloc (.cells #[] 43))
      clear hm1 hs1 hNM
      go_enter Try.func59, Try.ntmps59
      go_wp2_with (first
        | (go_at_call 79; first | ((with_reducible refine (Try.refBits h1 s1 (by omega)).mono ?_); rintro e w' ⟨rfl, rfl⟩) | ((with_reducible refine (Try.refBits h2 s2 (by omega)).mono ?_); rintro e w' ⟨rfl, rfl⟩))
        | (at_builtin; go_loud (refine append_all Try.underlying23 Try.infoU rfl _ _ rfl w.heap.size _ [] xs _ b1 o1 c1 xs.length (by rfl) (by rfl) rfl ho hsl (by simp; omega) (by simp; omega) ?_); intro v' w' ho' hg'))
      all_goals go_ret3
      all_goals exact ⟨_, _, by rw [HE.out]; rfl, by rw [HQ.out]; exact (Nt.nil0 w 43).ext ((Ext.alloc1 _ _).grown hg' (fun j e => by cases e; simp)), by rw [HR2.out]; exact ⟨xs, by simpa using ho'.nt (by simpa using hl1), hn1, HM1.out⟩, hx0.grown hg' (fun j e => by cases e; simp), Fr.at (Nat.le_refl _), ho'.fr⟩
    · have hblM : 0 < bl M := (bl_ge (N := M) (by omega)).2
      obtain ⟨F, hF⟩ : ∃ F, bl N = bl M + F := ⟨bl N - bl M, by omega⟩
      have hFI : ((bl N : Nat) : Int) - ((bl M : Nat) : Int) = (F : Int) := by omega
      have hF2 : F + 1 ≤ 20000 := by omega
      have hFb : F + 1 ≤ bl N := by omega
      have HF := Lib.hid hF
      obtain ⟨xs, ⟨a1, b1, o1, c1, rfl, hs1, hl1⟩, hn1, hm1, l1⟩ := h1.lens s1
      have hxl : bl N ≤ 64 * xs.length := bl_sm (hm1 ▸ ev_lt hl1)
      have hSE : Hid (shE ((F : Int) + 1) = 0) := Lib.hid (by unfold shE; rw [if_neg (by omega)])
      have hSV : Hid (shrV N ((F : Int) + 1) = N / 2 ^ (F + 1)) := Lib.hid (by unfold shrV; rw [if_neg (by omega)]; rfl)
      have hst := start_lt (N := N) (M := M) (by omega) (by omega)
      have hst' : Hid (N / 2 ^ (F + 1) < M) := Lib.hid (by rwa [show bl N - bl M = F from by omega] at hst)
      have hmx := hs1.max
      have hle := hs1.le
      have hnt : Nt w (.slice a1 xs.length c1) xs := ⟨a1, b1, o1, c1, rfl, hs1, hl1⟩
      have HM1 := Lib.hid hm1
      clear hF hst hm1 hn1 hs1
      go_enter Try.func59, Try.ntmps59
      go_wp2_with (first
        | (go_at_call 79; first | ((with_reducible refine (Try.refBits h1 s1 (by omega)).mono ?_); rintro e w' ⟨rfl, rfl⟩) | ((with_reducible refine (Try.refBits h2 s2 (by omega)).mono ?_); rintro e w' ⟨rfl, rfl⟩))
        | (at_make; go_loud (refine make_full Try.underlying23 Try.infoU rfl _ _ rfl w.heap.size xs.length _ _ (by rfl) (by rfl) rfl rfl (by omega) (by omega) ?_); intro w1 hown0 hgrow0))
      have hE1 : Ext w w1 := (Ext.refl w).grown hgrow0 (fun k e => by cases e)
      refine (Try.refShr (h1.ext hE1) s1 (by omega) _).mono ?_
      rintro e w2 ⟨vr0, rfl, hr0, hE2, hfr0⟩
      have hw1 : w.heap.size < w1.heap.size := (hown0.head).2
      rw [hSE.out]
      rw [hSV.out] at hr0
      have hown1 := hown0.ext hE2
      have hE3 := hE1.trans hE2
      have hE1' := hE1
      clear hown0 hgrow0 hE1 hE2
      go_wp2_with fail
      go_loopw [9, 11, 12, 13] (fun r i _ _ wr => ∃ (I : Nat) (qs : List Nat) (R : Nat), i = .int .i64 ((I : Int) - 1) ∧ I ≤ F + 1 ∧ Nw wr r R ∧ Fr w r ∧ r.ownBlock ≠ some w.heap.size ∧ R < M ∧ Own wr w.heap.size 43 (.slice (some ⟨w.heap.size, 0, none⟩) xs.length xs.length) qs ∧ Lim B64 qs ∧ DivR N M I xs.length qs R ∧ Ext w wr) (fun _ i _ _ _ => (intOf i + 1).toNat)
      case atStart => exact ⟨F + 1, _, _, by go_num, Nat.le_refl _, hr0, hfr0.back hE1', hfr0.ne hw1, hst'.out, hown1, Lim.zeros B64_pos _, DivR.start hst'.out, hE3⟩
      case round =>
        obtain ⟨I, qs, R, rfl, hI, hR, hRf, hRb, hRM, hown, hlim, hdr, hEr⟩ := hrel
        rcases Nat.eq_zero_or_pos I with rfl | hpos
        · have hd := hdr.rest
          have hv := hdr.val
          rw [qrow_zero] at hv
          rw [Nat.pow_zero, Nat.div_one] at hd
          have HV := Lib.hid hv; have HD := Lib.hid hd
          have hql : qs.length ≤ xs.length := by rw [hdr.len]; omega
          clear hv hd hdr
          go_wp2_with (go_at_call 72; refine (Try.refBare (hown.nt hlim) (by omega)).mono ?_; rintro e w' ⟨v', rfl, hn, hx, hf⟩)
          go_ret3
          rw [HV.out] at hn
          rw [HE.out, HR.out]
          exact ⟨_, _, rfl, hn, by rw [← HD.out]; exact hR.ext hx, hEr.trans hx, hf.back hEr, hRf⟩
        · obtain ⟨i, rfl⟩ : ∃ i, I = i + 1 := ⟨I - 1, by omega⟩
          have ei : ((i + 1 : Nat) : Int) - 1 = (i : Int) := by omega
          rw [ei]
          clear ei
          have hi : i / 64 < xs.length := by omega
          have sR : Sm L R := s2.le (Nat.le_of_lt hRM)
          obtain ⟨c, hc⟩ : ∃ c, c = N / 2 ^ i % 2 := ⟨_, rfl⟩
          have hc2 : c < 2 := by omega
          obtain ⟨T, hT⟩ : ∃ T, T = R + R + c := ⟨_, rfl⟩
          obtain ⟨d, hd⟩ : ∃ d, d = if T < M then 0 else 1 := ⟨_, rfl⟩
          obtain ⟨v, hv⟩ : ∃ v, v = 2 * qs.getD (i / 64) 0 + d := ⟨_, rfl⟩
          have hstep := hdr.step hM hi (show T = 2 * R + N / 2 ^ i % 2 by omega) hd hv
          have HT := Lib.hid hT; have HD := Lib.hid hd; have HVV := Lib.hid hv; have HS := Lib.hid hstep
          have hc64 : c < B64 := by rw [B64_eq]; omega
          have sT1 : Sm (L + 1) (R + R) := sR.add sR
          have sB : Sm (L + 1) c := (Sm.one hc64).mono (by omega)
          have sT : Sm (L + 2) T := by rw [hT]; exact sT1.add sB
          have HC := Lib.hid hc
          have hqc := hown.cellAt (i := i / 64) (by rw [hdr.len]; exact hi)
          obtain ⟨g0, hg0⟩ : ∃ g0, g0 = lg qs (i / 64) := ⟨_, rfl⟩
          rw [← hg0] at hqc
          have HG := Lib.hid hg0
          have hql := hdr.len
          have HQL := Lib.hid hql
          clear hT hd hv hstep hc hg0 hql
          go_wp2_with fail
          refine (Try.refAdd hR hR sR sR (by omega)).mono ?_
          rintro e w3 ⟨v3, rfl, hn3, hE3', _⟩
          go_wp2_with fail
          have hE03 := hE3.trans (Ext.refl _)
          have hbit := Try.bit (hnt.ext (hEr.trans hE3')) i hi (by omega)
          rw [HM1.out, ← HC.out] at hbit
          refine hbit.mono ?_
          clear hbit
          rintro e w3' ⟨rfl, rfl⟩
          go_wp2_with fail
          refine (Try.refOf c _ hc64).mono ?_
          rintro e w4 ⟨v4, rfl, hn4, hE4, _⟩
          go_wp2_with fail
          refine (Try.refAdd (hn3.ext hE4) hn4 sT1 sB (by omega)).mono ?_
          rintro e w5 ⟨v5, rfl, hn5, hE5, hf5'⟩
          have hwr := hown.head.2
          have hf5r := hf5'.back (hE3'.trans hE4)
          have hv5b := hf5r.ne hwr
          have hv5f := hf5r.back hEr
          clear hf5' hf5r
          rw [← HT.out] at hn5
          have hE35 := hE3'.trans (hE4.trans hE5)
          have hE05 := hEr.trans hE35
          have hown5 := hown.ext hE35
          have hq5 := hE35.cell hqc
          have hf5 := hown5.frozenAt (i / 64)
          clear hqc hn3 hn4 hE3' hE4 hE5 hown hE03
          have g64 : g0 < B64 := by rw [HG.out]; exact lg_lt hlim _
          have hd2 : d < 2 := by rw [HD.out]; split <;> omega
          have hvv : v = 2 * g0 + d := by rw [HVV.out, HG.out]; rfl
          have hw1 : IntKind.u64.wrap ((g0 : Int) * 2) = ((g0 * 2 : Nat) : Int) := wmul g0 2 (by have := HS.out.1; omega)
          have HW1 := Lib.hid hw1; have HVD := Lib.hid hvv
          have hst5 := Own.stored hown5 (i / 64) (g0 * 2) rfl
          clear hvv g64
          go_wp2_with fail
          have hn6 := hn5.set_other (p := ⟨w.heap.size, i / 64, none⟩) hv5b (.int .u64 ((g0 : Int) * 2))
          have hE06 := hE05.setCell (p := ⟨w.heap.size, i / 64, none⟩) (Nat.le_refl _) (.int .u64 ((g0 : Int) * 2))
          have hst6 : Own (w5.setCell ⟨w.heap.size, i / 64, none⟩ (.int .u64 ((g0 : Int) * 2))) w.heap.size 43 (.slice (some ⟨w.heap.size, 0, none⟩) xs.length xs.length) (qs.set (i / 64) (g0 * 2)) := hst5
          obtain ⟨w6, hw6⟩ : ∃ w6, w6 = w5.setCell ⟨w.heap.size, i / 64, none⟩ (.int .u64 ((g0 : Int) * 2)) := ⟨_, rfl⟩
          rw [← hw6] at hn6 hE06 hst6 ⊢
          clear hw6 hst5 hq5 hf5 hE05 hown5 hE35 hR hn5
          refine (Try.refCmp hn6 (h2.ext hE06)).mono ?_
          rintro e w7 ⟨rfl, hE7⟩
          have hlim6 : Lim B64 (qs.set (i / 64) (g0 * 2)) := hlim.set (by have := HS.out.1; have := HVD.out; omega) _
          have hn7 := hn6.ext hE7
          have hst7 := hst6.ext hE7
          have hE07 := hE06.trans hE7
          clear hn6 hst6 hE7
          by_cases hlt : T < M
          · have hneg : (cmpI T M) < 0 := cmpI_neg.2 (by omega)
            have hge : ¬ 0 ≤ cmpI T M := by omega
            have hd0 : Hid (d = 0) := Lib.hid (by rw [HD.out, if_pos hlt])
            have HS2 := Lib.hid (show DivR N M i xs.length (qs.set (i / 64) v) T from by have h := HS.out.2; rwa [if_pos hlt] at h)
            clear hE06
            go_wp2_with fail
            go_roundw
            case rel =>
              refine ⟨i, qs.set (i / 64) (g0 * 2), T, by go_num, by omega, hn7, hv5f, hv5b, by omega, hst7, hlim6, ?_, hE07⟩
              have h1 := HVD.out; have h0 := hd0.out
              rw [show g0 * 2 = v by omega]; exact HS2.out
            case measure => simp [intOf] <;> omega
          · have hneg : ¬ (cmpI T M) < 0 := fun h => hlt (by have := cmpI_neg.1 h; omega)
            have hge : 0 ≤ cmpI T M := by omega
            have hd1 : Hid (d = 1) := Lib.hid (by rw [HD.out, if_neg hlt])
            have HS2 := Lib.hid (show DivR N M i xs.length (qs.set (i / 64) v) (T - M) from by have h := HS.out.2; rwa [if_neg hlt] at h)
            have hsE : Hid (subE T M = 0) := Lib.hid (if_neg hlt)
            have hTM : T - M < M := by
              have := HT.out; omega
            go_wp2_with fail
            refine (Try.refSub hn7 (h2.ext hE07) sT (s2.mono (by omega)) (by omega)).mono ?_
            rintro e w8 ⟨v8, rfl, hn8, hE8, hf8⟩
            have hst8 := hst7.ext hE8
            have hE08 := hE07.trans hE8
            have hv8b := hf8.ne hst7.head.2
            have hv8f := hf8.back hE07
            have hqc8 := hst8.cellAt (i := i / 64) (by rw [List.length_set, HQL.out]; exact hi)
            have hgq : lg (qs.set (i / 64) (g0 * 2)) (i / 64) = g0 * 2 := getD_set_eq (by rw [HQL.out]; exact hi)
            rw [hgq] at hqc8
            have hfq8 := hst8.frozenAt (i / 64)
            obtain ⟨g2, hg2⟩ : ∃ g2, g2 = g0 * 2 := ⟨_, rfl⟩
            rw [← hg2] at hqc8
            have HG2 := Lib.hid hg2
            have hw9 : IntKind.u64.wrap ((g2 : Int) + 1) = ((g2 + 1 : Nat) : Int) := wadd g2 1 (by have := HS.out.1; have := HVD.out; have := hd1.out; omega)
            have HW9 := Lib.hid hw9
            have hst9 := Own.stored hst8 (i / 64) (g2 + 1) (Y := (g2 : Int) + 1) rfl
            have hst9' := Own.stored hst8 (i / 64) (g2 + 1) hw9
            rw [List.set_set] at hst9 hst9'
            have hn9 := hn8.set_other (p := ⟨w.heap.size, i / 64, none⟩) hv8b (.int .u64 ((g2 : Int) + 1))
            have hn9' := hn8.set_other (p := ⟨w.heap.size, i / 64, none⟩) hv8b (.int .u64 (IntKind.u64.wrap ((g2 : Int) + 1)))
            have hE09 := hE08.setCell (p := ⟨w.heap.size, i / 64, none⟩) (Nat.le_refl _) (.int .u64 ((g2 : Int) + 1))
            have hE09' := hE08.setCell (p := ⟨w.heap.size, i / 64, none⟩) (Nat.le_refl _) (.int .u64 (IntKind.u64.wrap ((g2 : Int) + 1)))
            have HH := Lib.hid (And.intro hst9' (And.intro hn9' hE09'))
            have HHH := Lib.hid (And.intro hst9 (And.intro hn9 hE09))
            clear hg2 hw9 hgq hn7 hst7 hE07 hE06 hst9 hst9' hn9 hn9' hE09 hE09' hn8 hst8 hE8
            go_wp2_with fail
            go_roundw
            case rel =>
              have h1 := HVD.out; have h0 := hd1.out; have h2 := HG2.out
              have hv1 : v = g2 + 1 := by omega
              rw [HW9.out] at *
              refine ⟨i, qs.set (i / 64) (g2 + 1), T - M, by go_num, by omega, HHH.out.2.1, hv8f, hv8b, hTM, HHH.out.1, hlim.set (by rw [← hv1]; exact HS.out.1) _, ?_, HHH.out.2.2⟩
              rw [← hv1]; exact HS2.out
            case measure => simp [intOf] <;> omega

end Go.Rt
