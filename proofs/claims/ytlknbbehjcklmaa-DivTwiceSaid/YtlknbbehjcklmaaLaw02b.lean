/-
  Two laws more of chapter 02: their walks.
-/
import Derived.Test.YtlknbbehjcklmaaLaw02
namespace Go.Rt
open Go.RowKit Go.Shelf Go.Proofs

theorem Try.goesT {v1 v2 : Value} {N M L : Nat} {w : World} (h1 : Nw w v1 N) (h2 : Nw w v2 M) (s1 : Sm L N) (s2 : Sm L M) (hL : L ≤ 300) (hd : N ∣ M) :
    Calls Try.prog 27 #[v1, v2] w fun e w' => e = .returned (.bool true) ∧ Ext w w' := by
  have := Try.refGoes h1 h2 s1 s2 hL
  rwa [decide_eq_true hd] at this
theorem Try.goesF {v1 v2 : Value} {N M L : Nat} {w : World} (h1 : Nw w v1 N) (h2 : Nw w v2 M) (s1 : Sm L N) (s2 : Sm L M) (hL : L ≤ 300) (hd : ¬ N ∣ M) :
    Calls Try.prog 27 #[v1, v2] w fun e w' => e = .returned (.bool false) ∧ Ext w w' := by
  have := Try.refGoes h1 h2 s1 s2 hL
  rwa [decide_eq_false hd] at this
theorem beq0 {n : Nat} (h : n = 0) : ((n : Int) == 0) = true := by simp [h]
theorem bne0 {n : Nat} (h : n ≠ 0) : ((n : Int) == 0) = false := beq_eq_false_iff_ne.2 (by omega)

set_option maxHeartbeats 2000000 in
theorem Try.lawGcd {v1 v2 v3 : Value} {xs ys zs : List Nat} {w : World} (h1 : Nt w v1 xs) (h2 : Nt w v2 ys) (h3 : Nt w v3 zs) :
    Calls Try.prog 7 #[v1, v2, v3] w fun e w' => e = .returned (.bool true) ∧ Ext w w' := by
  have h1' := h1
  have h2' := h2
  have h3' := h3
  obtain ⟨a1, b1, o1, c1, rfl, hs1, hl1⟩ := h1
  obtain ⟨a2, b2, o2, c2, rfl, hs2, hl2⟩ := h2
  obtain ⟨a3, b3, o3, c3, rfl, hs3, hl3⟩ := h3
  clear hs1 hs2 hs3
  go_enter Try.func7, Try.ntmps7
  have E := Ext.refl w
  go_wp2_with fail
  refine (Try.given (xss := [xs, ys, zs]) (by simp) (row3 _ h1' h2' h3')).mono ?_
  rintro e w' ⟨rfl, rfl⟩
  replace E := E.alloc (.cells #[.slice a1 xs.length c1, .slice a2 ys.length c2, .slice a3 zs.length c3] 23)
  cases hgv : gvn [xs, ys, zs]
  · clear hgv
    go_wp2_with fail
    refine (Try.alive _).mono ?_
    rintro e w1 ⟨rfl, hE1⟩
    go_wp2
    go_ret
    exact ⟨rfl, E.trans hE1⟩
  by_cases k1 : (8 : Int) < (xs.length : Int)
  · clear hgv
    go_wp2_with fail
    refine (Try.alive _).mono ?_
    rintro e w1 ⟨rfl, hE1⟩
    go_wp2
    go_ret
    exact ⟨rfl, E.trans hE1⟩
  by_cases k2 : (8 : Int) < (ys.length : Int)
  · clear hgv
    go_wp2_with fail
    refine (Try.alive _).mono ?_
    rintro e w1 ⟨rfl, hE1⟩
    go_wp2
    go_ret
    exact ⟨rfl, E.trans hE1⟩
  by_cases k3 : (8 : Int) < (zs.length : Int)
  · clear hgv
    go_wp2_with fail
    refine (Try.alive _).mono ?_
    rintro e w1 ⟨rfl, hE1⟩
    go_wp2
    go_ret
    exact ⟨rfl, E.trans hE1⟩
  obtain ⟨g1, g2, g3, g4, g5, g6⟩ := gvn3 hgv
  have s1 := Sm8 (L := 8) hl1 k1
  have s2 := Sm8 (L := 8) hl2 k2
  have s3 := Sm8 (L := 8) hl3 k3
  have hA : Nw w (.slice a1 xs.length c1) (ev B64 xs) := ⟨xs, h1', g2, rfl⟩
  have hB : Nw w (.slice a2 ys.length c2) (ev B64 ys) := ⟨ys, h2', g4, rfl⟩
  have hC : Nw w (.slice a3 zs.length c3) (ev B64 zs) := ⟨zs, h3', g6, rfl⟩
  have z1 := hA.lenS.1
  have z2 := hB.lenS.1
  generalize ev B64 xs = A at *
  generalize ev B64 ys = B at *
  generalize ev B64 zs = C at *
  replace hA := hA.ext E
  replace hB := hB.ext E
  replace hC := hC.ext E
  have dA := Nat.gcd_dvd_left A B
  have dB := Nat.gcd_dvd_right A B
  have HG : Hid (Nat.gcd B A = Nat.gcd A B) := Lib.hid (Nat.gcd_comm B A)
  have HM : Hid (Nat.gcd (A * C) (B * C) = Nat.gcd A B * C) := Lib.hid (Nat.gcd_mul_right A C B)
  have sg : Sm 8 (Nat.gcd A B) := by
    rcases Nat.eq_zero_or_pos A with rfl | h
    · rw [Nat.gcd_zero_left]; exact s2
    · exact s1.le (Nat.le_of_dvd h dA)
  clear hgv
  go_wp2_with fail
  refine (Try.divGcd hA hB s1 s2 (by omega)).mono ?_
  rintro e w101 ⟨v1, rfl, hg, hE⟩
  replace E := E.trans hE
  replace hA := hA.ext hE
  replace hB := hB.ext hE
  replace hC := hC.ext hE
  clear hE
  obtain ⟨ga, gn, gc, rfl, gz, -⟩ := hg.len
  have HL : Hid ((((xs.length : Int) == 0) = false ∧ ((gn : Int) == 0) = false) ∨ (((xs.length : Int) == 0) = true ∧ ((ys.length : Int) == 0) = true ∧ ((gn : Int) == 0) = true) ∨ (((xs.length : Int) == 0) = true ∧ ((ys.length : Int) == 0) = false ∧ ((gn : Int) == 0) = false)) := by
    refine Lib.hid ?_
    by_cases hA0 : A = 0
    · right
      by_cases hB0 : B = 0
      · exact .inl ⟨beq0 (z1.2 hA0), beq0 (z2.2 hB0), beq0 (gz.2 (by rw [hA0, hB0]; rfl))⟩
      · exact .inr ⟨beq0 (z1.2 hA0), bne0 (fun e => hB0 (z2.1 e)), bne0 (fun e => hB0 (by have := gz.1 e; rwa [hA0, Nat.gcd_zero_left] at this))⟩
    · exact .inl ⟨bne0 (fun e => hA0 (z1.1 e)), bne0 (fun e => hA0 (Nat.eq_zero_of_gcd_eq_zero_left (gz.1 e)))⟩
  clear gz z1 z2
  go_wp2_with fail
  refine (Try.rightT hg).mono ?_
  rintro e w102 ⟨rfl, rfl⟩
  go_wp2_with fail
  refine (Try.goesT hg hA sg s1 (by omega) dA).mono ?_
  rintro e w103 ⟨rfl, hE⟩
  replace E := E.trans hE
  replace hA := hA.ext hE
  replace hB := hB.ext hE
  replace hC := hC.ext hE
  replace hg := hg.ext hE
  clear hE
  go_wp2_with fail
  refine (Try.goesT hg hB sg s2 (by omega) dB).mono ?_
  rintro e w104 ⟨rfl, hE⟩
  replace E := E.trans hE
  replace hA := hA.ext hE
  replace hB := hB.ext hE
  replace hC := hC.ext hE
  replace hg := hg.ext hE
  clear hE
  go_wp2_with fail
  refine (Try.divGcd hB hA s2 s1 (by omega)).mono ?_
  rintro e w105 ⟨v2, rfl, hg2, hE⟩
  replace E := E.trans hE
  replace hA := hA.ext hE
  replace hB := hB.ext hE
  replace hC := hC.ext hE
  replace hg := hg.ext hE
  clear hE
  rw [HG.out] at hg2
  go_wp2_with fail
  refine (Try.sameT hg hg2 rfl).mono ?_
  rintro e w106 ⟨rfl, hE⟩
  replace E := E.trans hE
  replace hA := hA.ext hE
  replace hB := hB.ext hE
  replace hC := hC.ext hE
  replace hg := hg.ext hE
  clear hE
  by_cases d1 : C ∣ A
  · by_cases d2 : C ∣ B
    · have d3 := Nat.dvd_gcd d1 d2
      go_wp2_with fail
      refine (Try.goesT hC hA s3 s1 (by omega) d1).mono ?_
      rintro e w107 ⟨rfl, hE⟩
      replace E := E.trans hE
      replace hA := hA.ext hE
      replace hB := hB.ext hE
      replace hC := hC.ext hE
      replace hg := hg.ext hE
      clear hE
      go_wp2_with fail
      refine (Try.goesT hC hB s3 s2 (by omega) d2).mono ?_
      rintro e w108 ⟨rfl, hE⟩
      replace E := E.trans hE
      replace hA := hA.ext hE
      replace hB := hB.ext hE
      replace hC := hC.ext hE
      replace hg := hg.ext hE
      clear hE
      go_wp2_with fail
      refine (Try.goesT hC hg s3 sg (by omega) d3).mono ?_
      rintro e w109 ⟨rfl, hE⟩
      replace E := E.trans hE
      replace hA := hA.ext hE
      replace hB := hB.ext hE
      replace hC := hC.ext hE
      replace hg := hg.ext hE
      clear hE
      go_wp2_with fail
      refine (Try.refMul hA hC s1 s3 (by omega)).mono ?_
      rintro e w110 ⟨u1, rfl, hac, hE, -⟩
      replace E := E.trans hE
      replace hA := hA.ext hE
      replace hB := hB.ext hE
      replace hC := hC.ext hE
      replace hg := hg.ext hE
      clear hE
      go_wp2_with fail
      refine (Try.refMul hB hC s2 s3 (by omega)).mono ?_
      rintro e w111 ⟨u2, rfl, hbc, hE, -⟩
      replace E := E.trans hE
      replace hC := hC.ext hE
      replace hg := hg.ext hE
      replace hac := hac.ext hE
      clear hE
      go_wp2_with fail
      refine (Try.divGcd hac hbc (s1.mul s3) (s2.mul s3) (by omega)).mono ?_
      rintro e w112 ⟨u3, rfl, hm, hE⟩
      replace E := E.trans hE
      replace hC := hC.ext hE
      replace hg := hg.ext hE
      clear hE
      rw [HM.out] at hm
      go_wp2_with fail
      refine (Try.alive _).mono ?_
      rintro e w113 ⟨rfl, hE⟩
      replace E := E.trans hE
      replace hC := hC.ext hE
      replace hg := hg.ext hE
      replace hm := hm.ext hE
      clear hE
      go_wp2_with fail
      refine (Try.refMul hg hC sg s3 (by omega)).mono ?_
      rintro e w114 ⟨u4, rfl, hgc, hE, -⟩
      replace E := E.trans hE
      replace hm := hm.ext hE
      clear hE
      go_wp2_with fail
      refine (Try.sameT hm hgc rfl).mono ?_
      rintro e w115 ⟨rfl, hE⟩
      replace E := E.trans hE
      clear hE
      rcases HL.out with ⟨t1, t2⟩ | ⟨t1, t2, t3⟩ | ⟨t1, t2, t3⟩
      all_goals clear hgc HL
      · skip
        go_wp2
        go_ret
        exact ⟨rfl, E⟩
      · skip
        go_wp2
        go_ret
        exact ⟨rfl, E⟩
      · skip
        go_wp2
        go_ret
        exact ⟨rfl, E⟩
    · skip
      go_wp2_with fail
      refine (Try.goesT hC hA s3 s1 (by omega) d1).mono ?_
      rintro e w116 ⟨rfl, hE⟩
      replace E := E.trans hE
      replace hA := hA.ext hE
      replace hB := hB.ext hE
      replace hC := hC.ext hE
      replace hg := hg.ext hE
      clear hE
      go_wp2_with fail
      refine (Try.goesF hC hB s3 s2 (by omega) d2).mono ?_
      rintro e w117 ⟨rfl, hE⟩
      replace E := E.trans hE
      replace hA := hA.ext hE
      replace hB := hB.ext hE
      replace hC := hC.ext hE
      replace hg := hg.ext hE
      clear hE
      go_wp2_with fail
      refine (Try.refMul hA hC s1 s3 (by omega)).mono ?_
      rintro e w118 ⟨u1, rfl, hac, hE, -⟩
      replace E := E.trans hE
      replace hA := hA.ext hE
      replace hB := hB.ext hE
      replace hC := hC.ext hE
      replace hg := hg.ext hE
      clear hE
      go_wp2_with fail
      refine (Try.refMul hB hC s2 s3 (by omega)).mono ?_
      rintro e w119 ⟨u2, rfl, hbc, hE, -⟩
      replace E := E.trans hE
      replace hC := hC.ext hE
      replace hg := hg.ext hE
      replace hac := hac.ext hE
      clear hE
      go_wp2_with fail
      refine (Try.divGcd hac hbc (s1.mul s3) (s2.mul s3) (by omega)).mono ?_
      rintro e w120 ⟨u3, rfl, hm, hE⟩
      replace E := E.trans hE
      replace hC := hC.ext hE
      replace hg := hg.ext hE
      clear hE
      rw [HM.out] at hm
      go_wp2_with fail
      refine (Try.alive _).mono ?_
      rintro e w121 ⟨rfl, hE⟩
      replace E := E.trans hE
      replace hC := hC.ext hE
      replace hg := hg.ext hE
      replace hm := hm.ext hE
      clear hE
      go_wp2_with fail
      refine (Try.refMul hg hC sg s3 (by omega)).mono ?_
      rintro e w122 ⟨u4, rfl, hgc, hE, -⟩
      replace E := E.trans hE
      replace hm := hm.ext hE
      clear hE
      go_wp2_with fail
      refine (Try.sameT hm hgc rfl).mono ?_
      rintro e w123 ⟨rfl, hE⟩
      replace E := E.trans hE
      clear hE
      rcases HL.out with ⟨t1, t2⟩ | ⟨t1, t2, t3⟩ | ⟨t1, t2, t3⟩
      all_goals clear hgc HL
      · skip
        go_wp2
        go_ret
        exact ⟨rfl, E⟩
      · skip
        go_wp2
        go_ret
        exact ⟨rfl, E⟩
      · skip
        go_wp2
        go_ret
        exact ⟨rfl, E⟩
  · skip
    go_wp2_with fail
    refine (Try.goesF hC hA s3 s1 (by omega) d1).mono ?_
    rintro e w124 ⟨rfl, hE⟩
    replace E := E.trans hE
    replace hA := hA.ext hE
    replace hB := hB.ext hE
    replace hC := hC.ext hE
    replace hg := hg.ext hE
    clear hE
    go_wp2_with fail
    refine (Try.refMul hA hC s1 s3 (by omega)).mono ?_
    rintro e w125 ⟨u1, rfl, hac, hE, -⟩
    replace E := E.trans hE
    replace hA := hA.ext hE
    replace hB := hB.ext hE
    replace hC := hC.ext hE
    replace hg := hg.ext hE
    clear hE
    go_wp2_with fail
    refine (Try.refMul hB hC s2 s3 (by omega)).mono ?_
    rintro e w126 ⟨u2, rfl, hbc, hE, -⟩
    replace E := E.trans hE
    replace hC := hC.ext hE
    replace hg := hg.ext hE
    replace hac := hac.ext hE
    clear hE
    go_wp2_with fail
    refine (Try.divGcd hac hbc (s1.mul s3) (s2.mul s3) (by omega)).mono ?_
    rintro e w127 ⟨u3, rfl, hm, hE⟩
    replace E := E.trans hE
    replace hC := hC.ext hE
    replace hg := hg.ext hE
    clear hE
    rw [HM.out] at hm
    go_wp2_with fail
    refine (Try.alive _).mono ?_
    rintro e w128 ⟨rfl, hE⟩
    replace E := E.trans hE
    replace hC := hC.ext hE
    replace hg := hg.ext hE
    replace hm := hm.ext hE
    clear hE
    go_wp2_with fail
    refine (Try.refMul hg hC sg s3 (by omega)).mono ?_
    rintro e w129 ⟨u4, rfl, hgc, hE, -⟩
    replace E := E.trans hE
    replace hm := hm.ext hE
    clear hE
    go_wp2_with fail
    refine (Try.sameT hm hgc rfl).mono ?_
    rintro e w130 ⟨rfl, hE⟩
    replace E := E.trans hE
    clear hE
    rcases HL.out with ⟨t1, t2⟩ | ⟨t1, t2, t3⟩ | ⟨t1, t2, t3⟩
    all_goals clear hgc HL
    · skip
      go_wp2
      go_ret
      exact ⟨rfl, E⟩
    · skip
      go_wp2
      go_ret
      exact ⟨rfl, E⟩
    · skip
      go_wp2
      go_ret
      exact ⟨rfl, E⟩

set_option maxHeartbeats 2000000 in
theorem Try.lawTwice {v1 v2 v3 : Value} {xs ys zs : List Nat} {w : World} (h1 : Nt w v1 xs) (h2 : Nt w v2 ys) (h3 : Nt w v3 zs) :
    Calls Try.prog 8 #[v1, v2, v3] w fun e w' => e = .returned (.bool true) ∧ Ext w w' := by
  have h1' := h1
  have h2' := h2
  have h3' := h3
  obtain ⟨a1, b1, o1, c1, rfl, hs1, hl1⟩ := h1
  obtain ⟨a2, b2, o2, c2, rfl, hs2, hl2⟩ := h2
  obtain ⟨a3, b3, o3, c3, rfl, hs3, hl3⟩ := h3
  go_enter Try.func8, Try.ntmps8
  have E := Ext.refl w
  go_wp2_with fail
  refine (Try.given (xss := [xs, ys, zs]) (by simp) (row3 _ h1' h2' h3')).mono ?_
  rintro e w' ⟨rfl, rfl⟩
  replace E := E.alloc (.cells #[.slice a1 xs.length c1, .slice a2 ys.length c2, .slice a3 zs.length c3] 23)
  cases hgv : gvn [xs, ys, zs]
  · clear hgv
    go_wp2_with fail
    refine (Try.alive _).mono ?_
    rintro e w1 ⟨rfl, hE1⟩
    go_wp2
    go_ret
    exact ⟨rfl, E.trans hE1⟩
  by_cases k1 : (8 : Int) < (xs.length : Int)
  · clear hgv
    go_wp2_with fail
    refine (Try.alive _).mono ?_
    rintro e w1 ⟨rfl, hE1⟩
    go_wp2
    go_ret
    exact ⟨rfl, E.trans hE1⟩
  by_cases k2 : (8 : Int) < (ys.length : Int)
  · clear hgv
    go_wp2_with fail
    refine (Try.alive _).mono ?_
    rintro e w1 ⟨rfl, hE1⟩
    go_wp2
    go_ret
    exact ⟨rfl, E.trans hE1⟩
  by_cases k3 : (8 : Int) < (zs.length : Int)
  · clear hgv
    go_wp2_with fail
    refine (Try.alive _).mono ?_
    rintro e w1 ⟨rfl, hE1⟩
    go_wp2
    go_ret
    exact ⟨rfl, E.trans hE1⟩
  cases k4 : ((ys.length : Int) == 0)
  case true =>
    clear hgv
    go_wp2_with fail
    refine (Try.alive _).mono ?_
    rintro e w1 ⟨rfl, hE1⟩
    go_wp2
    go_ret
    exact ⟨rfl, E.trans hE1⟩
  cases k5 : ((zs.length : Int) == 0)
  case true =>
    clear hgv
    go_wp2_with fail
    refine (Try.alive _).mono ?_
    rintro e w1 ⟨rfl, hE1⟩
    go_wp2
    go_ret
    exact ⟨rfl, E.trans hE1⟩
  obtain ⟨g1, g2, g3, g4, g5, g6⟩ := gvn3 hgv
  have s1 := Sm8 (L := 8) hl1 k1
  have s2 := Sm8 (L := 8) hl2 k2
  have s3 := Sm8 (L := 8) hl3 k3
  have hA : Nw w (.slice a1 xs.length c1) (ev B64 xs) := ⟨xs, h1', g2, rfl⟩
  have hB : Nw w (.slice a2 ys.length c2) (ev B64 ys) := ⟨ys, h2', g4, rfl⟩
  have hC : Nw w (.slice a3 zs.length c3) (ev B64 zs) := ⟨zs, h3', g6, rfl⟩
  have z2 := hB.lenS.1
  have z3 := hC.lenS.1
  have y0 : 0 < ys.length := by have := beq_eq_false_iff_ne.1 k4; omega
  have y1 : 0 < zs.length := by have := beq_eq_false_iff_ne.1 k5; omega
  obtain rfl := hs2.addr y0
  obtain rfl := hs3.addr y1
  have cB := hs2.cell y0
  have cC := hs3.cell y1
  rw [Nat.add_zero] at cB cC
  have rB := lg_lt hl2 0
  have rC := lg_lt hl3 0
  generalize lg ys 0 = p at *
  generalize lg zs 0 = q at *
  generalize ev B64 xs = A at *
  generalize ev B64 ys = B at *
  generalize ev B64 zs = C at *
  have hB0 : 0 < B := Nat.pos_of_ne_zero (fun e => by have := z2.2 e; omega)
  have hC0 : 0 < C := Nat.pos_of_ne_zero (fun e => by have := z3.2 e; omega)
  replace hA := hA.ext E
  replace hB := hB.ext E
  replace hC := hC.ext E
  replace cB := E.cell cB
  replace cC := E.cell cC
  have HB := Lib.hid (dvE_pos hB0)
  have HC := Lib.hid (dvE_pos hC0)
  have HBC := Lib.hid (dvE_pos (Nat.mul_pos hB0 hC0))
  have HD : Hid (A / B / C = A / (B * C)) := Lib.hid (Nat.div_div_eq_div_mul A B C)
  clear hgv hs1 hs2 hs3 z2 z3
  go_wp2_with fail
  refine (Try.divDivMod hA hB s1 (by omega)).mono ?_
  rintro e w131 ⟨q1, r1, rfl, hq1, -, hE, -, -⟩
  replace E := E.trans hE
  replace hA := hA.ext hE
  replace hB := hB.ext hE
  replace hC := hC.ext hE
  replace cB := hE.cell cB
  replace cC := hE.cell cC
  clear hE
  rw [HB.out]
  go_wp2_with fail
  refine (Try.divDivMod hq1 hC (s1.le (Nat.div_le_self _ _)) (by omega)).mono ?_
  rintro e w132 ⟨q2, r2, rfl, hq2, -, hE, -, -⟩
  replace E := E.trans hE
  replace hA := hA.ext hE
  replace hB := hB.ext hE
  replace hC := hC.ext hE
  replace cB := hE.cell cB
  replace cC := hE.cell cC
  clear hE
  rw [HC.out]
  go_wp2_with fail
  refine (Try.refMul hB hC s2 s3 (by omega)).mono ?_
  rintro e w133 ⟨u1, rfl, hbc, hE, -⟩
  replace E := E.trans hE
  replace hA := hA.ext hE
  replace hq2 := hq2.ext hE
  replace cB := hE.cell cB
  replace cC := hE.cell cC
  clear hE
  go_wp2_with fail
  refine (Try.divDivMod hA hbc s1 (by omega)).mono ?_
  rintro e w134 ⟨q3, r3, rfl, hq3, -, hE, -, -⟩
  replace E := E.trans hE
  replace hA := hA.ext hE
  replace hq2 := hq2.ext hE
  replace cB := hE.cell cB
  replace cC := hE.cell cC
  clear hE
  rw [HBC.out]
  rw [HD.out] at hq2
  go_wp2_with fail
  have y0I : (0 : Int) < (ys.length : Int) := by omega
  have y1I : (0 : Int) < (zs.length : Int) := by omega
  obtain ⟨n, hn⟩ : ∃ n, n = p % 300 := ⟨_, rfl⟩
  obtain ⟨m, hm⟩ : ∃ m, m = q % 300 := ⟨_, rfl⟩
  have hn3 : n < 300 := by omega
  have hm3 : m < 300 := by omega
  have tm1 : ((p : Int)).tmod 300 = (n : Int) := by rw [Int.tmod_eq_emod_of_nonneg (by omega), hn]; rfl
  have tm2 : ((q : Int)).tmod 300 = (m : Int) := by rw [Int.tmod_eq_emod_of_nonneg (by omega), hm]; rfl
  have te1 : ((p : Int)) % 300 = (n : Int) := by rw [hn]; rfl
  have te2 : ((q : Int)) % 300 = (m : Int) := by rw [hm]; rfl
  have wu1 : IntKind.u64.wrap (n : Int) = (n : Int) := wrap_u64 n (by rw [B64_eq]; omega)
  have wu2 : IntKind.u64.wrap (m : Int) = (m : Int) := wrap_u64 m (by rw [B64_eq]; omega)
  have wi1 : IntKind.i64.wrap (n : Int) = (n : Int) := IntWalk.i64_in _ (by omega)
  have wi2 : IntKind.i64.wrap (m : Int) = (m : Int) := IntWalk.i64_in _ (by omega)
  clear hn hm
  go_quiet (fail)
  clear tm1 tm2 te1 te2 wu1 wu2 wi1 wi2 cB cC
  have V1 : Hid (shrV A (n : Int) = A / 2 ^ n) := Lib.hid (if_neg (by omega))
  have V2 : Hid (shrV (A / 2 ^ n) (m : Int) = A / 2 ^ n / 2 ^ m) := Lib.hid (if_neg (by omega))
  have V3 : Hid (shrV A ((n : Int) + (m : Int)) = A / 2 ^ n / 2 ^ m) := Lib.hid (by
    unfold shrV
    rw [if_neg (by omega), show ((n : Int) + (m : Int)).toNat = n + m from by omega, Nat.pow_add, Nat.div_div_eq_div_mul])
  have U1 : Hid (shE (n : Int) = 0) := Lib.hid (if_neg (by omega))
  have U2 : Hid (shE (m : Int) = 0) := Lib.hid (if_neg (by omega))
  have U3 : Hid (shE ((n : Int) + (m : Int)) = 0) := Lib.hid (if_neg (by omega))
  go_wp2_with fail
  refine (Try.divShr (hA.ext ((Ext.refl _).drewN _)) s1 (by omega) (n : Int)).mono ?_
  rintro e w90 ⟨v3, rfl, hu, hE, -⟩
  replace E := (E.drewN _).trans hE
  replace hA := (hA.ext ((Ext.refl _).drewN _)).ext hE
  replace hq2 := (hq2.ext ((Ext.refl _).drewN _)).ext hE
  replace hq3 := (hq3.ext ((Ext.refl _).drewN _)).ext hE
  clear hE
  rw [U1.out]
  rw [V1.out] at hu
  go_wp2_with fail
  refine (Try.divShr hu (s1.le (Nat.div_le_self _ _)) (by omega) (m : Int)).mono ?_
  rintro e w135 ⟨v4, rfl, hv, hE, -⟩
  replace E := E.trans hE
  replace hA := hA.ext hE
  replace hq2 := hq2.ext hE
  replace hq3 := hq3.ext hE
  clear hE
  rw [U2.out]
  rw [V2.out] at hv
  go_wp2_with fail
  refine (Try.divShr hA s1 (by omega) ((n : Int) + (m : Int))).mono ?_
  rintro e w136 ⟨v5, rfl, hw, hE, -⟩
  replace E := E.trans hE
  replace hq2 := hq2.ext hE
  replace hq3 := hq3.ext hE
  replace hv := hv.ext hE
  clear hE
  rw [U3.out]
  rw [V3.out] at hw
  go_wp2_with fail
  refine (Try.alive _).mono ?_
  rintro e w137 ⟨rfl, hE⟩
  replace E := E.trans hE
  replace hq2 := hq2.ext hE
  replace hq3 := hq3.ext hE
  replace hv := hv.ext hE
  replace hw := hw.ext hE
  clear hE
  go_wp2_with fail
  refine (Try.sameT hq2 hq3 rfl).mono ?_
  rintro e w138 ⟨rfl, hE⟩
  replace E := E.trans hE
  replace hv := hv.ext hE
  replace hw := hw.ext hE
  clear hE
  go_wp2_with fail
  refine (Try.sameT hv hw rfl).mono ?_
  rintro e w139 ⟨rfl, hE⟩
  replace E := E.trans hE
  clear hE
  go_wp2
  go_ret
  exact ⟨rfl, E⟩

end Go.Rt
