/-
  The laws of chapter 02: their walks.
-/
import Derived.Test.YtlknbbehjcklmaaGiven
namespace Go.Rt
open Go.RowKit Go.Shelf Go.Proofs

theorem gvn1 {xs : List Nat} (h : gvn [xs] = true) : xs.length ≤ 20 ∧ Norm xs := by
  simp [gvn] at h
  exact ⟨h.1, normB_iff.1 h.2⟩
theorem gvn2 {xs ys : List Nat} (h : gvn [xs, ys] = true) : xs.length ≤ 20 ∧ Norm xs ∧ ys.length ≤ 20 ∧ Norm ys := by
  simp [gvn] at h
  exact ⟨h.1.1, normB_iff.1 h.1.2, h.2.1, normB_iff.1 h.2.2⟩
theorem gvn3 {xs ys zs : List Nat} (h : gvn [xs, ys, zs] = true) : xs.length ≤ 20 ∧ Norm xs ∧ ys.length ≤ 20 ∧ Norm ys ∧ zs.length ≤ 20 ∧ Norm zs := by
  simp [gvn] at h
  exact ⟨h.1.1, normB_iff.1 h.1.2, h.2.1.1, normB_iff.1 h.2.1.2, h.2.2.1, normB_iff.1 h.2.2.2⟩
theorem Sm.of_len {L : Nat} {xs : List Nat} (hl : Lim B64 xs) (h : xs.length ≤ L) : Sm L (ev B64 xs) :=
  Nat.lt_of_lt_of_le (ev_lt hl) (Nat.pow_le_pow_right B64_pos h)

/-- a row of these values, as '...' makes it -/
theorem row1 {w : World} {v0 : Value} {x0 : List Nat} (t : TypeId) (h0 : Nt w v0 x0) : ∀ i (hi : i < [x0].length), ∃ v, (w.alloc (.cells #[v0] t)).cell? ⟨w.heap.size, i, none⟩ = some v ∧ Nt (w.alloc (.cells #[v0] t)) v [x0][i] := fun i hi => by
  match i, hi with
  | 0, _ => exact ⟨v0, by rw [World.cell?_alloc_at _ _ _ _ rfl]; rfl, h0.ext (Ext.alloc1 _ _)⟩
theorem row2 {w : World} {v0 v1 : Value} {x0 x1 : List Nat} (t : TypeId) (h0 : Nt w v0 x0) (h1 : Nt w v1 x1) : ∀ i (hi : i < [x0, x1].length), ∃ v, (w.alloc (.cells #[v0, v1] t)).cell? ⟨w.heap.size, i, none⟩ = some v ∧ Nt (w.alloc (.cells #[v0, v1] t)) v [x0, x1][i] := fun i hi => by
  match i, hi with
  | 0, _ => exact ⟨v0, by rw [World.cell?_alloc_at _ _ _ _ rfl]; rfl, h0.ext (Ext.alloc1 _ _)⟩
  | 1, _ => exact ⟨v1, by rw [World.cell?_alloc_at _ _ _ _ rfl]; rfl, h1.ext (Ext.alloc1 _ _)⟩
theorem row3 {w : World} {v0 v1 v2 : Value} {x0 x1 x2 : List Nat} (t : TypeId) (h0 : Nt w v0 x0) (h1 : Nt w v1 x1) (h2 : Nt w v2 x2) : ∀ i (hi : i < [x0, x1, x2].length), ∃ v, (w.alloc (.cells #[v0, v1, v2] t)).cell? ⟨w.heap.size, i, none⟩ = some v ∧ Nt (w.alloc (.cells #[v0, v1, v2] t)) v [x0, x1, x2][i] := fun i hi => by
  match i, hi with
  | 0, _ => exact ⟨v0, by rw [World.cell?_alloc_at _ _ _ _ rfl]; rfl, h0.ext (Ext.alloc1 _ _)⟩
  | 1, _ => exact ⟨v1, by rw [World.cell?_alloc_at _ _ _ _ rfl]; rfl, h1.ext (Ext.alloc1 _ _)⟩
  | 2, _ => exact ⟨v2, by rw [World.cell?_alloc_at _ _ _ _ rfl]; rfl, h2.ext (Ext.alloc1 _ _)⟩

theorem Try.sameT {v1 v2 : Value} {N M : Nat} {w : World} (h1 : Nw w v1 N) (h2 : Nw w v2 M) (he : N = M) :
    Calls Try.prog 16 #[v1, v2] w fun e w' => e = .returned (.bool true) ∧ Ext w w' := by
  have := Try.refSame h1 h2
  rwa [decide_eq_true he] at this

theorem Try.rightT {v : Value} {N : Nat} {w : World} (h : Nw w v N) : Calls Try.prog 21 #[v] w fun e w' => e = .returned (.bool true) ∧ w = w' := by
  obtain ⟨xs, h1, h2, -⟩ := h
  have := Try.refRight h1
  rwa [normB_iff.2 h2] at this
theorem Try.ltT {v1 v2 : Value} {N M : Nat} {w : World} (h1 : Nw w v1 N) (h2 : Nw w v2 M) (hlt : N < M) :
    Calls Try.prog 22 #[v1, v2] w fun e w' => e = .returned (.int .i64 (-1)) ∧ Ext w w' := by
  have := Try.refCmp h1 h2
  rwa [cmpI_nat_lt hlt] at this
theorem Nw.lenS {w : World} {a : Option Addr} {n cap N : Nat} (h : Nw w (.slice a n cap) N) : (n = 0 ↔ N = 0) ∧ (∀ L, n ≤ L ↔ N < B64 ^ L) ∧ n ≤ cap ∧ cap ≤ 9223372036854775807 := by
  obtain ⟨xs, ⟨a', b, o, cap', hv, hs, hl⟩, hn, he⟩ := h
  cases hv
  refine ⟨?_, fun L => ?_, hs.le, hs.max⟩
  · rw [← he]; exact (hn.zero_iff B64_pos).symm
  · rw [← he]; exact len_le_iff (by rw [B64_eq]; omega) hl hn L

set_option maxHeartbeats 1000000 in
theorem Try.lawShifts {v : Value} {xs : List Nat} {w : World} (h : Nt w v xs) (n : Int) :
    Calls Try.prog 3 #[v, .int .i64 n] w fun e w' => e = .returned (.bool true) ∧ Ext w w' := by
  have h' := h
  obtain ⟨a, b, o, cap, rfl, hs, hl⟩ := h
  have hcap := hs.le
  have hmx := hs.max
  clear hs
  go_enter Try.func3, Try.ntmps3
  have E := Ext.refl w
  go_wp2_with fail
  refine (Try.given (xss := [xs]) (by simp) (row1 _ h')).mono ?_
  rintro e w' ⟨rfl, rfl⟩
  replace E := E.alloc (.cells #[.slice a xs.length cap] 23)
  cases hgv : gvn [xs]
  · clear hgv
    go_wp2_with fail
    refine (Try.alive _).mono ?_
    rintro e w1 ⟨rfl, hE1⟩
    go_wp2
    go_ret
    exact ⟨rfl, E.trans hE1⟩
  · obtain ⟨g1, g2⟩ := gvn1 hgv
    have hs := Sm.of_len hl g1
    have hN : Nw w (.slice a xs.length cap) (ev B64 xs) := ⟨xs, h', g2, rfl⟩
    replace hN := hN.ext E
    clear hgv
    go_wp2_with fail
    refine (Try.divShl hN hs (by omega) n).mono ?_
    rintro e w101 ⟨v1, rfl, hx1, hE, -⟩
    replace E := E.trans hE
    replace hN := hN.ext hE
    clear hE
    go_wp2_with fail
    refine (Try.refShl hN hs (by omega) n).mono ?_
    rintro e w102 ⟨v2, rfl, hx2, hE, -⟩
    replace E := E.trans hE
    replace hN := hN.ext hE
    replace hx1 := hx1.ext hE
    clear hE
    go_wp2_with fail
    refine (Try.divShr hN hs (by omega) n).mono ?_
    rintro e w103 ⟨v3, rfl, hy1, hE, -⟩
    replace E := E.trans hE
    replace hN := hN.ext hE
    replace hx1 := hx1.ext hE
    replace hx2 := hx2.ext hE
    clear hE
    go_wp2_with fail
    refine (Try.refShr hN hs (by omega) n).mono ?_
    rintro e w104 ⟨v4, rfl, hy2, hE, -⟩
    replace E := E.trans hE
    replace hx1 := hx1.ext hE
    replace hx2 := hx2.ext hE
    replace hy1 := hy1.ext hE
    clear hE
    go_wp2_with fail
    refine (Try.alive _).mono ?_
    rintro e w105 ⟨rfl, hE⟩
    replace E := E.trans hE
    replace hx1 := hx1.ext hE
    replace hx2 := hx2.ext hE
    replace hy1 := hy1.ext hE
    replace hy2 := hy2.ext hE
    clear hE
    go_wp2_with fail
    refine (Try.sameT hx1 hx2 rfl).mono ?_
    rintro e w106 ⟨rfl, hE⟩
    replace E := E.trans hE
    replace hy1 := hy1.ext hE
    replace hy2 := hy2.ext hE
    clear hE
    go_wp2_with fail
    refine (Try.sameT hy1 hy2 rfl).mono ?_
    rintro e w107 ⟨rfl, hE⟩
    replace E := E.trans hE
    clear hE
    go_wp2
    go_ret
    exact ⟨rfl, E⟩

set_option maxHeartbeats 1000000 in
theorem Try.lawDivides {v1 v2 : Value} {xs ys : List Nat} {w : World} (h1 : Nt w v1 xs) (h2 : Nt w v2 ys) :
    Calls Try.prog 4 #[v1, v2] w fun e w' => e = .returned (.bool true) ∧ Ext w w' := by
  have h1' := h1
  have h2' := h2
  obtain ⟨a1, b1, o1, c1, rfl, hs1, hl1⟩ := h1
  obtain ⟨a2, b2, o2, c2, rfl, hs2, hl2⟩ := h2
  clear hs1 hs2
  go_enter Try.func4, Try.ntmps4
  have E := Ext.refl w
  go_wp2_with fail
  refine (Try.given (xss := [xs, ys]) (by simp) (row2 _ h1' h2')).mono ?_
  rintro e w' ⟨rfl, rfl⟩
  replace E := E.alloc (.cells #[.slice a1 xs.length c1, .slice a2 ys.length c2] 23)
  cases hgv : gvn [xs, ys]
  · clear hgv
    go_wp2_with fail
    refine (Try.alive _).mono ?_
    rintro e w1 ⟨rfl, hE1⟩
    go_wp2
    go_ret
    exact ⟨rfl, E.trans hE1⟩
  · obtain ⟨g1, g2, g3, g4⟩ := gvn2 hgv
    have s1 := Sm.of_len hl1 g1
    have s2 := Sm.of_len hl2 g3
    have hN : Nw w (.slice a1 xs.length c1) (ev B64 xs) := ⟨xs, h1', g2, rfl⟩
    have hM : Nw w (.slice a2 ys.length c2) (ev B64 ys) := ⟨ys, h2', g4, rfl⟩
    replace hN := hN.ext E
    replace hM := hM.ext E
    clear hgv
    go_wp2_with fail
    refine (Try.divDivMod hN hM s1 (by omega)).mono ?_
    rintro e w108 ⟨q1, r1, rfl, hq1, hr1, hE, -, -⟩
    replace E := E.trans hE
    replace hN := hN.ext hE
    replace hM := hM.ext hE
    clear hE
    go_wp2_with fail
    refine (Try.refDivMod hN hM s1 s2 (by omega)).mono ?_
    rintro e w109 ⟨q2, r2, rfl, hq2, hr2, hE, -, -⟩
    replace E := E.trans hE
    replace hN := hN.ext hE
    replace hM := hM.ext hE
    replace hq1 := hq1.ext hE
    replace hr1 := hr1.ext hE
    clear hE
    go_wp2_with fail
    refine (Try.alive _).mono ?_
    rintro e w110 ⟨rfl, hE⟩
    replace E := E.trans hE
    replace hN := hN.ext hE
    replace hM := hM.ext hE
    replace hq1 := hq1.ext hE
    replace hr1 := hr1.ext hE
    replace hq2 := hq2.ext hE
    replace hr2 := hr2.ext hE
    clear hE
    go_wp2_with fail
    refine (Try.sameT hq1 hq2 rfl).mono ?_
    rintro e w111 ⟨rfl, hE⟩
    replace E := E.trans hE
    replace hN := hN.ext hE
    replace hM := hM.ext hE
    replace hr1 := hr1.ext hE
    replace hr2 := hr2.ext hE
    clear hE
    go_wp2_with fail
    refine (Try.sameT hr1 hr2 rfl).mono ?_
    rintro e w112 ⟨rfl, hE⟩
    replace E := E.trans hE
    replace hN := hN.ext hE
    replace hM := hM.ext hE
    clear hE
    go_wp2_with fail
    refine (Try.divGcd hN hM s1 s2 (by omega)).mono ?_
    rintro e w113 ⟨g1, rfl, hg1, hE⟩
    replace E := E.trans hE
    replace hN := hN.ext hE
    replace hM := hM.ext hE
    clear hE
    go_wp2_with fail
    refine (Try.refGcd hN hM s1 s2 (by omega)).mono ?_
    rintro e w114 ⟨g2, rfl, hg2, hE⟩
    replace E := E.trans hE
    replace hg1 := hg1.ext hE
    clear hE
    go_wp2_with fail
    refine (Try.sameT hg1 hg2 rfl).mono ?_
    rintro e w115 ⟨rfl, hE⟩
    replace E := E.trans hE
    clear hE
    go_wp2
    go_ret
    exact ⟨rfl, E⟩

set_option maxHeartbeats 1000000 in
theorem Try.lawWhole {v1 v2 : Value} {xs ys : List Nat} {w : World} (h1 : Nt w v1 xs) (h2 : Nt w v2 ys) :
    Calls Try.prog 5 #[v1, v2] w fun e w' => e = .returned (.bool true) ∧ Ext w w' := by
  have h1' := h1
  have h2' := h2
  obtain ⟨a1, b1, o1, c1, rfl, hs1, hl1⟩ := h1
  obtain ⟨a2, b2, o2, c2, rfl, hs2, hl2⟩ := h2
  clear hs1 hs2
  go_enter Try.func5, Try.ntmps5
  have E := Ext.refl w
  go_wp2_with fail
  refine (Try.given (xss := [xs, ys]) (by simp) (row2 _ h1' h2')).mono ?_
  rintro e w' ⟨rfl, rfl⟩
  replace E := E.alloc (.cells #[.slice a1 xs.length c1, .slice a2 ys.length c2] 23)
  cases hgv : gvn [xs, ys]
  · clear hgv
    go_wp2_with fail
    refine (Try.alive _).mono ?_
    rintro e w1 ⟨rfl, hE1⟩
    go_wp2
    go_ret
    exact ⟨rfl, E.trans hE1⟩
  · obtain ⟨g1, g2, g3, g4⟩ := gvn2 hgv
    have s1 := Sm.of_len hl1 g1
    have s2 := Sm.of_len hl2 g3
    have hN : Nw w (.slice a1 xs.length c1) (ev B64 xs) := ⟨xs, h1', g2, rfl⟩
    have hM : Nw w (.slice a2 ys.length c2) (ev B64 ys) := ⟨ys, h2', g4, rfl⟩
    have hz := hM.lenS.1
    generalize ev B64 xs = N at *
    generalize ev B64 ys = M at *
    replace hN := hN.ext E
    replace hM := hM.ext E
    clear hgv
    rcases Nat.eq_zero_or_pos M with rfl | hM0
    · have hy0 : ((ys.length : Int) == 0) = true := by simp [hz.2 rfl]
      have e4 : dvE 0 = 4 := rfl
      have eQ : N / 0 = 0 := Nat.div_zero _
      have eR : dvR N 0 = 0 := rfl
      have HE := Lib.hid e4
      have HQ := Lib.hid eQ
      have HR := Lib.hid eR
      clear hz e4 eQ eR
      go_wp2_with fail
      refine (Try.divDivMod hN hM s1 (by omega)).mono ?_
      rintro e w116 ⟨q1, r1, rfl, hq1, hr1, hE, -, -⟩
      replace E := E.trans hE
      replace hN := hN.ext hE
      replace hM := hM.ext hE
      clear hE
      rw [HE.out]
      rw [HQ.out] at hq1
      rw [HR.out] at hr1
      obtain ⟨qa, qn, qc, rfl, qz, -⟩ := hq1.len
      obtain ⟨ra, rn, rc, rfl, rz, -⟩ := hr1.len
      obtain rfl : qn = 0 := qz.2 rfl
      obtain rfl : rn = 0 := rz.2 rfl
      clear qz rz
      go_wp2_with fail
      refine (Try.alive _).mono ?_
      rintro e w117 ⟨rfl, hE⟩
      replace E := E.trans hE
      clear hE
      go_wp2
      go_ret
      exact ⟨rfl, E⟩
    · have hy0 : ((ys.length : Int) == 0) = false := beq_eq_false_iff_ne.2 (by omega)
      have HE := Lib.hid (dvE_pos hM0)
      have HR := Lib.hid (dvR_pos (N := N) hM0)
      have hrlt : N % M < M := Nat.mod_lt _ hM0
      have hdm : N / M * M + N % M = N := Nat.div_add_mod' N M
      have HDM := Lib.hid hdm
      have sr : Sm 20 (N % M) := s2.le (Nat.le_of_lt hrlt)
      have sq : Sm 20 (N / M) := s1.le (Nat.div_le_self _ _)
      have sqm : Sm 40 (N / M * M) := sq.mul s2
      clear hz hdm
      go_wp2_with fail
      refine (Try.divDivMod hN hM s1 (by omega)).mono ?_
      rintro e w118 ⟨q1, r1, rfl, hq1, hr1, hE, -, -⟩
      replace E := E.trans hE
      replace hN := hN.ext hE
      replace hM := hM.ext hE
      clear hE
      rw [HE.out]
      rw [HR.out] at hr1
      go_wp2_with fail
      refine (Try.alive _).mono ?_
      rintro e w119 ⟨rfl, hE⟩
      replace E := E.trans hE
      replace hN := hN.ext hE
      replace hM := hM.ext hE
      replace hq1 := hq1.ext hE
      replace hr1 := hr1.ext hE
      clear hE
      go_wp2_with fail
      refine (Try.rightT hq1).mono ?_
      rintro e w120 ⟨rfl, rfl⟩
      go_wp2_with fail
      refine (Try.rightT hr1).mono ?_
      rintro e w121 ⟨rfl, rfl⟩
      go_wp2_with fail
      refine (Try.ltT hr1 hM hrlt).mono ?_
      rintro e w122 ⟨rfl, hE⟩
      replace E := E.trans hE
      replace hN := hN.ext hE
      replace hM := hM.ext hE
      replace hq1 := hq1.ext hE
      replace hr1 := hr1.ext hE
      clear hE
      go_wp2_with fail
      refine (Try.refMul hq1 hM sq s2 (by omega)).mono ?_
      rintro e w123 ⟨m1, rfl, hm1, hE, -⟩
      replace E := E.trans hE
      replace hN := hN.ext hE
      replace hr1 := hr1.ext hE
      clear hE
      go_wp2_with fail
      refine (Try.refAdd hm1 hr1 sqm (sr.mono (by omega)) (by omega)).mono ?_
      rintro e w124 ⟨s3, rfl, hs3, hE, -⟩
      replace E := E.trans hE
      replace hN := hN.ext hE
      clear hE
      go_wp2_with fail
      refine (Try.sameT hs3 hN HDM.out).mono ?_
      rintro e w125 ⟨rfl, hE⟩
      replace E := E.trans hE
      clear hE
      go_wp2
      go_ret
      exact ⟨rfl, E⟩

theorem Sm8 {L : Nat} {xs : List Nat} (hl : Lim B64 xs) (h : ¬ (L : Int) < (xs.length : Int)) : Sm L (ev B64 xs) := Sm.of_len hl (by omega)

set_option maxHeartbeats 1000000 in
theorem Try.lawBack {v1 v2 : Value} {xs ys : List Nat} {w : World} (h1 : Nt w v1 xs) (h2 : Nt w v2 ys) (n : Int) :
    Calls Try.prog 6 #[v1, v2, .int .i64 n] w fun e w' => e = .returned (.bool true) ∧ Ext w w' := by
  have h1' := h1
  have h2' := h2
  obtain ⟨a1, b1, o1, c1, rfl, hs1, hl1⟩ := h1
  obtain ⟨a2, b2, o2, c2, rfl, hs2, hl2⟩ := h2
  clear hs1 hs2
  go_enter Try.func6, Try.ntmps6
  have E := Ext.refl w
  go_wp2_with fail
  refine (Try.given (xss := [xs, ys]) (by simp) (row2 _ h1' h2')).mono ?_
  rintro e w' ⟨rfl, rfl⟩
  replace E := E.alloc (.cells #[.slice a1 xs.length c1, .slice a2 ys.length c2] 23)
  cases hgv : gvn [xs, ys]
  · clear hgv
    go_wp2_with fail
    refine (Try.alive _).mono ?_
    rintro e w1 ⟨rfl, hE1⟩
    go_wp2
    go_ret
    exact ⟨rfl, E.trans hE1⟩
  by_cases k1 : (10 : Int) < (xs.length : Int)
  · clear hgv
    go_wp2_with fail
    refine (Try.alive _).mono ?_
    rintro e w1 ⟨rfl, hE1⟩
    go_wp2
    go_ret
    exact ⟨rfl, E.trans hE1⟩
  by_cases k2 : (10 : Int) < (ys.length : Int)
  · clear hgv
    go_wp2_with fail
    refine (Try.alive _).mono ?_
    rintro e w1 ⟨rfl, hE1⟩
    go_wp2
    go_ret
    exact ⟨rfl, E.trans hE1⟩
  by_cases k3 : n < 0
  · clear hgv
    go_wp2_with fail
    refine (Try.alive _).mono ?_
    rintro e w1 ⟨rfl, hE1⟩
    go_wp2
    go_ret
    exact ⟨rfl, E.trans hE1⟩
  by_cases k4 : 2000 < n
  · clear hgv
    go_wp2_with fail
    refine (Try.alive _).mono ?_
    rintro e w1 ⟨rfl, hE1⟩
    go_wp2
    go_ret
    exact ⟨rfl, E.trans hE1⟩
  obtain ⟨g1, g2, g3, g4⟩ := gvn2 hgv
  have s1 := Sm8 (L := 10) hl1 k1
  have s2 := Sm8 (L := 10) hl2 k2
  have hN : Nw w (.slice a1 xs.length c1) (ev B64 xs) := ⟨xs, h1', g2, rfl⟩
  have hM : Nw w (.slice a2 ys.length c2) (ev B64 ys) := ⟨ys, h2', g4, rfl⟩
  have hz := hM.lenS.1
  generalize ev B64 xs = N at *
  generalize ev B64 ys = M at *
  replace hN := hN.ext E
  replace hM := hM.ext E
  have H1 : Hid (shE n = 0) := Lib.hid (if_neg (by omega))
  have H2 : Hid (shlV N n = N * 2 ^ n.toNat) := Lib.hid (if_neg (by omega))
  have H3 : Hid (shrV (N * 2 ^ n.toNat) n = N) := Lib.hid (by unfold shrV; rw [if_neg (by omega), Nat.mul_div_cancel _ (Nat.two_pow_pos _)])
  have sx : Sm 42 (N * 2 ^ n.toNat) := (s1.mul ((Sm.pow2 n.toNat).mono (show n.toNat / 64 + 1 ≤ 32 by omega)))
  clear hgv
  go_wp2_with fail
  refine (Try.divShl hN s1 (by omega) n).mono ?_
  rintro e w126 ⟨v1, rfl, hx1, hE, -⟩
  replace E := E.trans hE
  replace hN := hN.ext hE
  replace hM := hM.ext hE
  clear hE
  rw [H1.out]
  rw [H2.out] at hx1
  go_wp2_with fail
  refine (Try.divShr hx1 sx (by omega) n).mono ?_
  rintro e w127 ⟨v2, rfl, hy1, hE, -⟩
  replace E := E.trans hE
  replace hN := hN.ext hE
  replace hM := hM.ext hE
  clear hE
  rw [H1.out]
  rw [H3.out] at hy1
  go_wp2_with fail
  refine (Try.sameT hy1 hN rfl).mono ?_
  rintro e w128 ⟨rfl, hE⟩
  replace E := E.trans hE
  replace hN := hN.ext hE
  replace hM := hM.ext hE
  clear hE
  rcases Nat.eq_zero_or_pos M with rfl | hM0
  · have hy0 : ((ys.length : Int) == 0) = true := by simp [hz.2 rfl]
    clear hz
    go_wp2_with fail
    refine (Try.alive _).mono ?_
    rintro e w1 ⟨rfl, hE1⟩
    go_wp2
    go_ret
    exact ⟨rfl, E.trans hE1⟩
  · have hy0 : ((ys.length : Int) == 0) = false := beq_eq_false_iff_ne.2 (by omega)
    have HQ : Hid ((N * M + (M - 1)) / M = N) := Lib.hid (by rw [Nat.mul_comm, Nat.mul_add_div hM0, Nat.div_eq_of_lt (by omega), Nat.add_zero])
    have HR : Hid (dvR (N * M + (M - 1)) M = M - 1) := Lib.hid (by rw [dvR_pos hM0, Nat.mul_comm, Nat.mul_add_mod, Nat.mod_eq_of_lt (by omega)])
    have HE := Lib.hid (dvE_pos hM0)
    have b1 : 1 < B64 := by rw [B64_eq]; omega
    have sl : Sm 20 (M - 1) := (s2.le (by omega)).mono (by omega)
    have sm : Sm 20 (N * M) := s1.mul s2
    clear hz
    go_wp2_with fail
    refine (Try.refOf 1 _ b1).mono ?_
    rintro e w129 ⟨u1, rfl, hu, hE, -⟩
    replace E := E.trans hE
    replace hN := hN.ext hE
    replace hM := hM.ext hE
    clear hE
    go_wp2_with fail
    refine (Try.refSub hM hu s2 ((Sm.one b1).mono (by omega)) (by omega)).mono ?_
    rintro e w130 ⟨u2, rfl, hl, hE, -⟩
    replace E := E.trans hE
    replace hN := hN.ext hE
    replace hM := hM.ext hE
    clear hE
    go_wp2_with fail
    refine (Try.refMul hN hM s1 s2 (by omega)).mono ?_
    rintro e w131 ⟨u3, rfl, hm, hE, -⟩
    replace E := E.trans hE
    replace hN := hN.ext hE
    replace hM := hM.ext hE
    replace hl := hl.ext hE
    clear hE
    go_wp2_with fail
    refine (Try.refAdd hm hl sm sl (by omega)).mono ?_
    rintro e w132 ⟨u4, rfl, ha, hE, -⟩
    replace E := E.trans hE
    replace hN := hN.ext hE
    replace hM := hM.ext hE
    replace hl := hl.ext hE
    clear hE
    go_wp2_with fail
    refine (Try.divDivMod ha hM (sm.add sl) (by omega)).mono ?_
    rintro e w133 ⟨q1, r1, rfl, hq1, hr1, hE, -, -⟩
    replace E := E.trans hE
    replace hN := hN.ext hE
    replace hl := hl.ext hE
    clear hE
    rw [HE.out]
    rw [HQ.out] at hq1
    rw [HR.out] at hr1
    go_wp2_with fail
    refine (Try.alive _).mono ?_
    rintro e w134 ⟨rfl, hE⟩
    replace E := E.trans hE
    replace hN := hN.ext hE
    replace hl := hl.ext hE
    replace hq1 := hq1.ext hE
    replace hr1 := hr1.ext hE
    clear hE
    go_wp2_with fail
    refine (Try.sameT hq1 hN rfl).mono ?_
    rintro e w135 ⟨rfl, hE⟩
    replace E := E.trans hE
    replace hl := hl.ext hE
    replace hr1 := hr1.ext hE
    clear hE
    go_wp2_with fail
    refine (Try.sameT hr1 hl rfl).mono ?_
    rintro e w136 ⟨rfl, hE⟩
    replace E := E.trans hE
    clear hE
    go_wp2
    go_ret
    exact ⟨rfl, E⟩

set_option maxHeartbeats 1000000 in
theorem Try.lawHalves {v1 : Value} {xs : List Nat} {w : World} (h1 : Nt w v1 xs) (n : Int) :
    Calls Try.prog 9 #[v1, .int .i64 n] w fun e w' => e = .returned (.bool true) ∧ Ext w w' := by
  have h1' := h1
  obtain ⟨a1, b1, o1, c1, rfl, hs1, hl1⟩ := h1
  clear hs1
  go_enter Try.func9, Try.ntmps9
  have E := Ext.refl w
  go_wp2_with fail
  refine (Try.given (xss := [xs]) (by simp) (row1 _ h1')).mono ?_
  rintro e w' ⟨rfl, rfl⟩
  replace E := E.alloc (.cells #[.slice a1 xs.length c1] 23)
  cases hgv : gvn [xs]
  · clear hgv
    go_wp2_with fail
    refine (Try.alive _).mono ?_
    rintro e w1 ⟨rfl, hE1⟩
    go_wp2
    go_ret
    exact ⟨rfl, E.trans hE1⟩
  by_cases k1 : (10 : Int) < (xs.length : Int)
  · clear hgv
    go_wp2_with fail
    refine (Try.alive _).mono ?_
    rintro e w1 ⟨rfl, hE1⟩
    go_wp2
    go_ret
    exact ⟨rfl, E.trans hE1⟩
  by_cases k3 : n < 0
  · clear hgv
    go_wp2_with fail
    refine (Try.alive _).mono ?_
    rintro e w1 ⟨rfl, hE1⟩
    go_wp2
    go_ret
    exact ⟨rfl, E.trans hE1⟩
  by_cases k4 : 600 < n
  · clear hgv
    go_wp2_with fail
    refine (Try.alive _).mono ?_
    rintro e w1 ⟨rfl, hE1⟩
    go_wp2
    go_ret
    exact ⟨rfl, E.trans hE1⟩
  obtain ⟨g1, g2⟩ := gvn1 hgv
  have s1 := Sm8 (L := 10) hl1 k1
  have hN : Nw w (.slice a1 xs.length c1) (ev B64 xs) := ⟨xs, h1', g2, rfl⟩
  generalize ev B64 xs = N at *
  replace hN := hN.ext E
  have H1 : Hid (shE n = 0) := Lib.hid (if_neg (by omega))
  have H2 : Hid (shlV 1 n = 2 ^ n.toNat) := Lib.hid (by unfold shlV; rw [if_neg (by omega), Nat.one_mul])
  have H3 : Hid (shrV N n = N / 2 ^ n.toNat) := Lib.hid (if_neg (by omega))
  have H4 : Hid (shlV N n = N * 2 ^ n.toNat) := Lib.hid (if_neg (by omega))
  have hp := Nat.two_pow_pos n.toNat
  have HE := Lib.hid (dvE_pos hp)
  have HR := Lib.hid (dvR_pos (N := N) hp)
  have b1 : 1 < B64 := by rw [B64_eq]; omega
  have sp : Sm 10 (2 ^ n.toNat) := (Sm.pow2 n.toNat).mono (show n.toNat / 64 + 1 ≤ 10 by omega)
  have sr : Sm 10 (N % 2 ^ n.toNat) := sp.le (Nat.le_of_lt (Nat.mod_lt _ hp))
  have hb : bl (N % 2 ^ n.toNat) ≤ n.toNat := (bl_le_iff _ _).2 (Nat.mod_lt _ hp)
  have hb2 : ((bl (N % 2 ^ n.toNat) : Nat) : Int) ≤ n := by omega
  generalize 2 ^ n.toNat = P at *
  clear hgv hb
  go_wp2_with fail
  refine (Try.refOf 1 _ b1).mono ?_
  rintro e w137 ⟨u1, rfl, hu, hE, -⟩
  replace E := E.trans hE
  replace hN := hN.ext hE
  clear hE
  go_wp2_with fail
  refine (Try.divShl hu (Sm.one b1) (by omega) n).mono ?_
  rintro e w138 ⟨v1, rfl, hy, hE, -⟩
  replace E := E.trans hE
  replace hN := hN.ext hE
  clear hE
  rw [H1.out]
  rw [H2.out] at hy
  go_wp2_with fail
  refine (Try.divDivMod hN hy s1 (by omega)).mono ?_
  rintro e w139 ⟨q1, r1, rfl, hq1, hr1, hE, -, -⟩
  replace E := E.trans hE
  replace hN := hN.ext hE
  replace hy := hy.ext hE
  clear hE
  rw [HE.out]
  rw [HR.out] at hr1
  go_wp2_with fail
  refine (Try.divShr hN s1 (by omega) n).mono ?_
  rintro e w140 ⟨v3, rfl, hd, hE, -⟩
  replace E := E.trans hE
  replace hN := hN.ext hE
  replace hy := hy.ext hE
  replace hq1 := hq1.ext hE
  replace hr1 := hr1.ext hE
  clear hE
  rw [H1.out]
  rw [H3.out] at hd
  go_wp2_with fail
  refine (Try.divShl hN s1 (by omega) n).mono ?_
  rintro e w141 ⟨v4, rfl, hup, hE, -⟩
  replace E := E.trans hE
  replace hN := hN.ext hE
  replace hy := hy.ext hE
  replace hq1 := hq1.ext hE
  replace hr1 := hr1.ext hE
  replace hd := hd.ext hE
  clear hE
  rw [H1.out]
  rw [H4.out] at hup
  go_wp2_with fail
  refine (Try.alive _).mono ?_
  rintro e w142 ⟨rfl, hE⟩
  replace E := E.trans hE
  replace hN := hN.ext hE
  replace hy := hy.ext hE
  replace hq1 := hq1.ext hE
  replace hr1 := hr1.ext hE
  replace hd := hd.ext hE
  replace hup := hup.ext hE
  clear hE
  go_wp2_with fail
  refine (Try.sameT hq1 hd rfl).mono ?_
  rintro e w143 ⟨rfl, hE⟩
  replace E := E.trans hE
  replace hN := hN.ext hE
  replace hy := hy.ext hE
  replace hr1 := hr1.ext hE
  replace hup := hup.ext hE
  clear hE
  go_wp2_with fail
  refine (Try.refBits hr1 sr (by omega)).mono ?_
  rintro e w144 ⟨rfl, rfl⟩
  go_wp2_with fail
  refine (Try.refMul hN hy s1 sp (by omega)).mono ?_
  rintro e w145 ⟨u3, rfl, hm, hE, -⟩
  replace E := E.trans hE
  replace hup := hup.ext hE
  clear hE
  go_wp2_with fail
  refine (Try.sameT hup hm rfl).mono ?_
  rintro e w146 ⟨rfl, hE⟩
  replace E := E.trans hE
  clear hE
  go_wp2
  go_ret
  exact ⟨rfl, E⟩

end Go.Rt
