/-
  Numbers that are reckoned, with whether all ahead was there: as pairs; a place's step in them is the step in numbers that may not be there.
  Numbers that are reckoned, by definition: sums, differences, products, quotients, roots.
  A place's step, by definition: its moments, its weight; powers.
-/
import Derived.Test.YtkbalokicnogbaaGreatAdamS
import Derived.Test.YtkbalokicnogbaaGreatGY
import Derived.Test.YtkbalokicnogbaaGreatGQ
import Derived.Test.YtkbalokicnogbaaGreatHC
namespace Go.Rt

open Go Go.RowKit Go.Proofs

abbrev NumP := Int × Bool

def fitP (z : Int) (b : Bool) : NumP := (fitV z, b && decide (fitE z = 0))

def addP (u v : NumP) : NumP := fitP (u.1 + v.1) (u.2 && v.2)

def subP (u v : NumP) : NumP := fitP (u.1 - v.1) (u.2 && v.2)

def mulP (K : Nat) (u v : NumP) : NumP := fitP (mulZ K u.1 v.1) (u.2 && v.2)

def divP (K : Nat) (u v : NumP) : NumP := if v.1 = 0 then (0, false) else fitP (divZ K u.1 v.1) (u.2 && v.2)

noncomputable def sqrtP (K : Nat) (u : NumP) : NumP := if u.1 < 0 then (0, false) else (rootW K u.1, u.2)

def toO (u : NumP) : Option Int := if u.2 = true then some u.1 else none

theorem fitV_i64 (z : Int) : I64 (fitV z) := by
 unfold fitV
 split
 ·rename_i h; exact fits_iff.1 h
 ·unfold I64; omega

theorem addP_i64 (u v : NumP) : I64 (addP u v).1 := fitV_i64 _

theorem subP_i64 (u v : NumP) : I64 (subP u v).1 := fitV_i64 _

theorem mulP_i64 (K : Nat) (u v : NumP) : I64 (mulP K u v).1 := fitV_i64 _

theorem divP_i64 (K : Nat) (u v : NumP) : I64 (divP K u v).1 := by
 unfold divP
 split
 ·exact ⟨by decide, by decide⟩
 ·exact fitV_i64 _

theorem sqrtP_i64 {K : Nat} (hK : K ≤ 40) {u : NumP} (h : I64 u.1) : I64 (sqrtP K u).1 := by
 unfold sqrtP
 split
 ·exact ⟨by decide, by decide⟩
 ·exact rootW_i64 hK h

theorem toO_fit (z : Int) (b : Bool) : toO (fitP z b) = if b = true then okZ z else none := by
 unfold toO fitP okZ fitV fitE
 cases b <;> cases h : fits z <;> simp

theorem toO_true (n : Int) : toO (n, true) = some n := rfl

theorem toO_some {u : NumP} {n : Int} (h : toO u = some n) : u = (n, true) := by
 obtain ⟨m, b⟩ := u
 cases b
 ·cases h
 ·cases h; rfl

theorem toO_add (u v : NumP) : toO (addP u v) = (toO u).bind fun x => (toO v).bind fun y => addO x y := by
 unfold addP
 rw [toO_fit]
 obtain ⟨a, x⟩ := u
 obtain ⟨b, y⟩ := v
 cases x <;> cases y <;> rfl

theorem toO_sub (u v : NumP) : toO (subP u v) = (toO u).bind fun x => (toO v).bind fun y => subO x y := by
 unfold subP
 rw [toO_fit]
 obtain ⟨a, x⟩ := u
 obtain ⟨b, y⟩ := v
 cases x <;> cases y <;> rfl

theorem toO_mul (K : Nat) (u v : NumP) : toO (mulP K u v) = (toO u).bind fun x => (toO v).bind fun y => mulO K x y := by
 unfold mulP
 rw [toO_fit]
 obtain ⟨a, x⟩ := u
 obtain ⟨b, y⟩ := v
 cases x <;> cases y <;> rfl

theorem toO_div (K : Nat) (u v : NumP) (h : ∀ b, toO v = some b → b ≠ 0) : toO (divP K u v) = (toO u).bind fun x => (toO v).bind fun y => divO K x y := by
 obtain ⟨a, x⟩ := u
 obtain ⟨b, y⟩ := v
 cases y
 ·unfold divP
  by_cases hb : b = 0
  ·rw [if_pos hb]; cases x <;> rfl
  ·rw [if_neg hb, toO_fit]; cases x <;> rfl
 ·have hb : b ≠ 0 := h b rfl
  unfold divP
  rw [if_neg hb, toO_fit]
  cases x <;> rfl

theorem toO_sqrt (K : Nat) (u : NumP) (h : ∀ a, toO u = some a → 0 ≤ a) : toO (sqrtP K u) = (toO u).bind fun x => some (rootW K x) := by
 obtain ⟨a, x⟩ := u
 cases x
 ·unfold sqrtP
  split <;> rfl
 ·have ha : 0 ≤ a := h a rfl
  unfold sqrtP
  rw [if_neg (by omega)]
  rfl

/-- a beta's mix -/
def mixP (K : Nat) (be : Int) (a b : NumP) : NumP := addP (mulP K (be, true) a) (mulP K (oneZ K - be, true) b)

theorem toO_mix (K : Nat) (be a : Int) (v : NumP) : toO (mixP K be (a, true) v) = (toO v).bind fun b => mixO K be a b := by
 unfold mixP
 rw [toO_add, toO_mul, toO_mul, toO_true, toO_true, toO_true]
 simp only [Option.bind_some]
 unfold mixO
 cases toO v with
 | none => cases mulO K be a <;> rfl
 | some b => simp only [Option.bind_some]

def gradP (K : Nat) (A : AdamP) (w g : Int) : NumP := if A.ap = true then (g, true) else addP (g, true) (mulP K (A.wd, true) (w, true))

theorem toO_grad (K : Nat) (A : AdamP) (w g : Int) : toO (gradP K A w g) = gradO K A w g := by
 unfold gradP gradO
 split
 ·rfl
 ·rw [toO_add, toO_mul]
  simp only [toO_true, Option.bind_some]

def momM (K : Nat) (A : AdamP) (w m g : Int) : NumP := mixP K A.b1 (m, true) (gradP K A w g)

def momV (K : Nat) (A : AdamP) (w v g : Int) : NumP := mixP K A.b2 (v, true) (mulP K (gradP K A w g) (gradP K A w g))

noncomputable def quotP (K : Nat) (A : AdamP) (p0 p1 w m v g : Int) : NumP := divP K (divP K (momM K A w m g) (oneZ K - p0, true)) (addP (sqrtP K (divP K (momV K A w v g) (oneZ K - p1, true))) (A.eps, true))

noncomputable def outP (K : Nat) (A : AdamP) (p0 p1 w m v g : Int) : NumP :=
 if A.ap = true then subP (subP (w, true) (mulP K (A.lr, true) (quotP K A p0 p1 w m v g))) (mulP K (mulP K (A.lr, true) (A.wd, true)) (w, true))
 else subP (w, true) (mulP K (A.lr, true) (quotP K A p0 p1 w m v g))

theorem toO_out (K : Nat) (A : AdamP) (p0 p1 w m v g : Int) : toO (outP K A p0 p1 w m v g) = (toO (quotP K A p0 p1 w m v g)).bind fun u => (mulO K A.lr u).bind fun t => (subO w t).bind fun n => lessO K A w n := by
 unfold outP lessO
 split
 ·rw [toO_sub, toO_sub, toO_mul, toO_mul, toO_mul]
  simp only [toO_true, Option.bind_some]
  cases toO (quotP K A p0 p1 w m v g) with
  | none => rfl
  | some u =>
   simp only [Option.bind_some]
   cases mulO K A.lr u with
   | none => rfl
   | some t =>
    simp only [Option.bind_some]
    cases subO w t with
    | none => rfl
    | some n =>
     simp only [Option.bind_some]
     cases mulO K A.lr A.wd with
     | none => rfl
     | some q => simp only [Option.bind_some]
 ·rw [toO_sub, toO_mul]
  simp only [toO_true, Option.bind_some]
  cases toO (quotP K A p0 p1 w m v g) with
  | none => rfl
  | some u =>
   simp only [Option.bind_some]
   cases mulO K A.lr u with
   | none => rfl
   | some t =>
    simp only [Option.bind_some]
    cases subO w t <;> rfl

/-- the step in pairs tells the step in numbers -/
theorem place_pairs {K : Nat} {A : AdamP} {p0 p1 w m v g : Int} (h0 : mayB K p0 = true) (h1 : mayB K p1 = true) (he : 0 < A.eps) (hb1 : 0 ≤ A.b2) (hb2 : A.b2 < oneZ K) (hv : 0 ≤ v) :
  placeO K A p0 p1 w m v g = (toO (outP K A p0 p1 w m v g)).bind fun n => (toO (momM K A w m g)).bind fun m' => (toO (momV K A w v g)).bind fun v' => some (n, m', v') := by
 have k0 := mayB_iff.1 h0
 have k1 := mayB_iff.1 h1
 have hM : toO (momM K A w m g) = (gradO K A w g).bind fun d => mixO K A.b1 m d := by
  unfold momM
  rw [toO_mix, toO_grad]
 have hV : toO (momV K A w v g) = (gradO K A w g).bind fun d => (mulO K d d).bind fun q => mixO K A.b2 v q := by
  unfold momV
  rw [toO_mix, toO_mul, toO_grad]
  cases gradO K A w g <;> rfl
 have hVn : ∀ v', toO (momV K A w v g) = some v' → 0 ≤ v' := by
  intro v' e
  rw [hV] at e
  simp only [Option.bind_eq_some_iff] at e
  obtain ⟨d, -, q, hq, e⟩ := e
  refine mixO_nonneg e hb1 (by omega) hv ?_
  obtain ⟨-, rfl⟩ := okZ_some hq
  refine ratio_nonneg (Nat.pow_pos (by omega)) ?_
  rcases Int.le_total 0 d with hs | hs
  ·exact Int.mul_nonneg hs hs
  ·exact Int.mul_nonneg_of_nonpos_of_nonpos hs hs
 have hX : toO (divP K (momM K A w m g) (oneZ K - p0, true)) = (toO (momM K A w m g)).bind fun m' => divO K m' (oneZ K - p0) := by
  rw [toO_div K _ _ (fun b e => by rw [toO_true] at e; cases e; omega), toO_true]
  simp only [Option.bind_some]
 have hY : toO (divP K (momV K A w v g) (oneZ K - p1, true)) = (toO (momV K A w v g)).bind fun v' => divO K v' (oneZ K - p1) := by
  rw [toO_div K _ _ (fun b e => by rw [toO_true] at e; cases e; omega), toO_true]
  simp only [Option.bind_some]
 have hYn : ∀ y, toO (divP K (momV K A w v g) (oneZ K - p1, true)) = some y → 0 ≤ y := by
  intro y e
  rw [hY] at e
  simp only [Option.bind_eq_some_iff] at e
  obtain ⟨v', hv', e⟩ := e
  obtain ⟨-, rfl⟩ := okZ_some e
  exact divZ_nonneg (hVn v' hv') (by omega)
 have hS : toO (addP (sqrtP K (divP K (momV K A w v g) (oneZ K - p1, true))) (A.eps, true)) = (toO (divP K (momV K A w v g) (oneZ K - p1, true))).bind fun y => addO (rootW K y) A.eps := by
  rw [toO_add, toO_sqrt K _ hYn, toO_true]
  cases toO (divP K (momV K A w v g) (oneZ K - p1, true)) <;> rfl
 have hSn : ∀ s, toO (addP (sqrtP K (divP K (momV K A w v g) (oneZ K - p1, true))) (A.eps, true)) = some s → s ≠ 0 := by
  intro s e
  rw [hS] at e
  simp only [Option.bind_eq_some_iff] at e
  obtain ⟨y, -, e⟩ := e
  obtain ⟨-, rfl⟩ := okZ_some e
  have := rootW_nonneg K y
  omega
 have hQ : toO (quotP K A p0 p1 w m v g) = (toO (divP K (momM K A w m g) (oneZ K - p0, true))).bind fun x => (toO (addP (sqrtP K (divP K (momV K A w v g) (oneZ K - p1, true))) (A.eps, true))).bind fun s => divO K x s := by
  unfold quotP
  exact toO_div K _ _ hSn
 rw [toO_out, hQ, hX, hS, hY, hM, hV]
 unfold placeO
 cases gradO K A w g with
 | none => rfl
 | some d =>
  simp only [Option.bind_some]
  cases mixO K A.b1 m d with
  | none => rfl
  | some m' =>
   simp only [Option.bind_some]
   cases mulO K d d with
   | none => simp only [Option.bind_none, Option.bind_none]; cases divO K m' (oneZ K - p0) <;> rfl
   | some q =>
    simp only [Option.bind_some]
    cases mixO K A.b2 v q with
    | none => cases divO K m' (oneZ K - p0) <;> rfl
    | some v' =>
     simp only [Option.bind_some]
     cases divO K m' (oneZ K - p0) with
     | none => rfl
     | some x =>
      simp only [Option.bind_some]
      cases divO K v' (oneZ K - p1) with
      | none => rfl
      | some y =>
       simp only [Option.bind_some]
       cases addO (rootW K y) A.eps with
       | none => rfl
       | some s =>
        simp only [Option.bind_some]
        cases divO K x s with
        | none => rfl
        | some u =>
         simp only [Option.bind_some]
         cases mulO K A.lr u with
         | none => rfl
         | some t =>
          simp only [Option.bind_some]
          cases subO w t with
          | none => rfl
          | some n => simp only [Option.bind_some]

/-- told by the pairs' own words -/
theorem place_told {K : Nat} {A : AdamP} {p0 p1 w m v g : Int} (h0 : mayB K p0 = true) (h1 : mayB K p1 = true) (he : 0 < A.eps) (hb1 : 0 ≤ A.b2) (hb2 : A.b2 < oneZ K) (hv : 0 ≤ v) :
  placeO K A p0 p1 w m v g = if ((outP K A p0 p1 w m v g).2 && (momM K A w m g).2 && (momV K A w v g).2) = true then some ((outP K A p0 p1 w m v g).1, (momM K A w m g).1, (momV K A w v g).1) else none := by
 rw [place_pairs h0 h1 he hb1 hb2 hv]
 generalize outP K A p0 p1 w m v g = a
 generalize momM K A w m g = b
 generalize momV K A w v g = c
 obtain ⟨a, x⟩ := a
 obtain ⟨b, y⟩ := b
 obtain ⟨c, z⟩ := c
 cases x <;> cases y <;> cases z <;> rfl

end Go.Rt

namespace Go.Rt
open Go Go.RowKit Go.Proofs

theorem noU_num (a : Int) (x : Bool) : NoU #[.int .i64 a, .bool x] := fun i v h k q => by
 match i, h with
 | 0, h => simp at h; subst h; cases q
 | 1, h => simp at h; subst h; cases q
 | i + 2, h => simp at h

theorem noU_num3 (a : Int) (x : Bool) (b : Int) (y : Bool) (c : Int) (z : Bool) : NoU #[.int .i64 a, .bool x, .int .i64 b, .bool y, .int .i64 c, .bool z] := fun i v h k q => by
 match i, h with
 | 0, h => simp at h; subst h; cases q
 | 1, h => simp at h; subst h; cases q
 | 2, h => simp at h; subst h; cases q
 | 3, h => simp at h; subst h; cases q
 | 4, h => simp at h; subst h; cases q
 | 5, h => simp at h; subst h; cases q
 | i + 6, h => simp at h

theorem Form.put2 {W : World} {g : Nat} {t : TypeId} (h : Form W g t 2) (v0 v1 : Value) (hn : NoU #[v0, v1]) :
  ∃ x0 x1, W.cell? ⟨g, 0, none⟩ = some x0 ∧ W.cell? ⟨g, 1, none⟩ = some x1 ∧ (∀ i, W.frozen? ⟨g, i, none⟩ = false) ∧
   ∃ W', W' = (W.setCell ⟨g, 0, none⟩ v0).setCell ⟨g, 1, none⟩ v1 ∧ Wr g W W' ∧ BxA W' g t #[v0, v1] := by
 obtain ⟨cs, h1, h2, h3⟩ := h
 obtain ⟨l⟩ := cs
 match l, h3 with
 | [x0, x1], _ =>
  have hb : BxA W g t #[x0, x1] := h1
  have hq : BxA ((W.setCell ⟨g, 0, none⟩ v0).setCell ⟨g, 1, none⟩ v1) g t #[v0, v1] := BxA.putN (BxA.putN hb 0 v0) 1 v1
  refine ⟨x0, x1, BxA.cell hb 0 rfl, BxA.cell hb 1 rfl, BxA.frozN hb, _, rfl, ⟨?_, ⟨_, t, hb, h2⟩, fun cs t' hc => ?_⟩, hq⟩
  ·exact (Apart.setCell (p := ⟨g, 0, none⟩) _ (by simp) _).trans (Apart.setCell (p := ⟨g, 1, none⟩) _ (by simp) _)
  ·rw [show W.heap[g]? = _ from hb] at hc
   cases hc
   exact ⟨_, hq, hn, rfl⟩

theorem Bx2.formN {W : World} {g : Nat} {t : TypeId} {a : Int} {x : Bool} (h : Bx2 W g t (.int .i64 a) (.bool x)) : Form W g t 2 := ⟨_, h, noU_num a x, rfl⟩

theorem cert_newA {B i : Nat} {t : TypeId} {xs : Array Value} : Cert (PS.two i (fun p _ W => NewA B t xs p W)) := fun _ _ _ _ hE ⟨g, h1, h2, h3⟩ => ⟨g, h1, h2, BxA.ext h3 hE⟩

theorem beq_dec (E : Int) : (E == 0) = decide (E = 0) := by rw [Bool.eq_iff_iff]; simp

set_option maxRecDepth 100000 in
set_option maxHeartbeats 8000000 in
theorem Tryz.refOf17 (n : Int) (w : World) : Calls Tryz.prog 40 #[.int .i64 n] w fun e w' => e = .returned (.agg #[.int .i64 n, .bool true]) ∧ Ext w w' := by
 obtain ⟨W0, hW0, E0, p2⟩ := boxed1 w 73 #[.int .i64 0, .bool false]
 replace p2 := p2.b2
 go_enter Tryz.func40, Tryz.ntmps40
 obtain ⟨k2a, k2b⟩ := p2.c2
 go_upto_region 1 with (fail)
 rw [← hW0]
 clear hW0; clear k2a k2b
 have zp2_0 := p2.froz0
 have zp2_1 := p2.froz1
 obtain ⟨k2a, k2b⟩ := p2.c2
 go_wp2; clear k2a k2b
 obtain ⟨-, -, -, -, -, W2, hW2, hw, hq⟩ := p2.formN.put2 (.int .i64 n) (.bool true) (noU_num _ _)
 rw [← hW2]
 have kq0 := BxA.cell hq 0 (v := .int .i64 n) rfl
 have kq1 := BxA.cell hq 1 (v := .bool true) rfl
 exact bodyPost_ret (v := .agg #[.int .i64 n, .bool true]) (by simp [results, Tryz.results40, go_sem, kq0, kq1]) rfl ⟨rfl, Ext.wr E0 hw (by omega)⟩

set_option maxRecDepth 100000 in
set_option maxHeartbeats 8000000 in
theorem Tryz.refAdd17 (a b : Int) (x y : Bool) {r : NumP} (h : addP (a, x) (b, y) = r) (w : World) (ha : I64 a) (hb : I64 b) :
  Calls Tryz.prog 70 #[.agg #[.int .i64 a, .bool x], .agg #[.int .i64 b, .bool y]] w fun e w' => e = .returned (.agg #[.int .i64 r.1, .bool r.2]) ∧ Ext w w' := by
 rw [← h]
 have HI := Lib.hid (And.intro ha hb)
 clear ha hb
 obtain ⟨V, hV⟩ : ∃ V, fitV (a + b) = V := ⟨_, rfl⟩
 obtain ⟨E, hE0⟩ : ∃ V, fitE (a + b) = V := ⟨_, rfl⟩
 have HR : Hid (addP (a, x) (b, y) = (V, x && y && decide (E = 0))) := Lib.hid (by unfold addP fitP; rw [hV, hE0])
 have HV : Hid (fitV (a + b) = V) := Lib.hid hV
 have HE : Hid (fitE (a + b) = E) := Lib.hid hE0
 clear hV hE0
 obtain ⟨W0, hW0, E0, p2, p3, p4⟩ := boxed3 w 73 #[.int .i64 a, .bool x] 73 #[.int .i64 b, .bool y] 73 #[.int .i64 0, .bool false]
 replace p2 := p2.b2
 replace p3 := p3.b2
 replace p4 := p4.b2
 go_enter Tryz.func70, Tryz.ntmps70
 obtain ⟨k2a, k2b⟩ := p2.c2
 obtain ⟨k3a, k3b⟩ := p3.c2
 obtain ⟨k4a, k4b⟩ := p4.c2
 go_wp2_with fail
 rw [← hW0]
 clear hW0; clear k2a k2b k3a k3b k4a k4b
 refine (Tryz.ref08Add a b _ HI.out.1.1 HI.out.1.2 HI.out.2.1 HI.out.2.2).mono ?_
 rintro e Wc ⟨rfl, hE⟩
 rw [HV.out, HE.out]
 replace E0 := (Ext.trans E0 hE); replace p2 := (p2.ext hE); replace p3 := (p3.ext hE); replace p4 := (p4.ext hE); clear hE
 cases x
 ·have zp4_0 := p4.froz0
  have zp4_1 := p4.froz1
  obtain ⟨k2a, k2b⟩ := p2.c2
  obtain ⟨k3a, k3b⟩ := p3.c2
  obtain ⟨k4a, k4b⟩ := p4.c2
  go_wp2; clear k2a k2b k3a k3b k4a k4b
  obtain ⟨-, -, -, -, -, W2, hW2, hw, hq⟩ := p4.formN.put2 (.int .i64 V) (.bool false) (noU_num _ _)
  rw [← hW2]
  have kq0 := BxA.cell hq 0 (v := .int .i64 V) rfl
  have kq1 := BxA.cell hq 1 (v := .bool false) rfl
  exact bodyPost_ret (v := .agg #[.int .i64 V, .bool false]) (by simp [results, Tryz.results70, go_sem, kq0, kq1]) rfl ⟨by rw [HR.out]; rfl, Ext.wr E0 hw (by omega)⟩
 ·cases y
  ·have zp4_0 := p4.froz0
   have zp4_1 := p4.froz1
   obtain ⟨k2a, k2b⟩ := p2.c2
   obtain ⟨k3a, k3b⟩ := p3.c2
   obtain ⟨k4a, k4b⟩ := p4.c2
   go_wp2; clear k2a k2b k3a k3b k4a k4b
   obtain ⟨-, -, -, -, -, W2, hW2, hw, hq⟩ := p4.formN.put2 (.int .i64 V) (.bool false) (noU_num _ _)
   rw [← hW2]
   have kq0 := BxA.cell hq 0 (v := .int .i64 V) rfl
   have kq1 := BxA.cell hq 1 (v := .bool false) rfl
   exact bodyPost_ret (v := .agg #[.int .i64 V, .bool false]) (by simp [results, Tryz.results70, go_sem, kq0, kq1]) rfl ⟨by rw [HR.out]; rfl, Ext.wr E0 hw (by omega)⟩
  ·have zp4_0 := p4.froz0
   have zp4_1 := p4.froz1
   obtain ⟨k2a, k2b⟩ := p2.c2
   obtain ⟨k3a, k3b⟩ := p3.c2
   obtain ⟨k4a, k4b⟩ := p4.c2
   go_wp2; clear k2a k2b k3a k3b k4a k4b
   obtain ⟨-, -, -, -, -, W2, hW2, hw, hq⟩ := p4.formN.put2 (.int .i64 V) (.bool ((E == 0))) (noU_num _ _)
   rw [← hW2]
   have kq0 := BxA.cell hq 0 (v := .int .i64 V) rfl
   have kq1 := BxA.cell hq 1 (v := .bool ((E == 0))) rfl
   exact bodyPost_ret (v := .agg #[.int .i64 V, .bool ((E == 0))]) (by simp [results, Tryz.results70, go_sem, kq0, kq1]) rfl ⟨by rw [HR.out]; exact congrArg (fun q => Ending.returned (.agg #[.int .i64 V, .bool q])) (beq_dec E), Ext.wr E0 hw (by omega)⟩

set_option maxRecDepth 100000 in
set_option maxHeartbeats 8000000 in
theorem Tryz.refSub17 (a b : Int) (x y : Bool) {r : NumP} (h : subP (a, x) (b, y) = r) (w : World) (ha : I64 a) (hb : I64 b) :
  Calls Tryz.prog 74 #[.agg #[.int .i64 a, .bool x], .agg #[.int .i64 b, .bool y]] w fun e w' => e = .returned (.agg #[.int .i64 r.1, .bool r.2]) ∧ Ext w w' := by
 rw [← h]
 have HI := Lib.hid (And.intro ha hb)
 clear ha hb
 obtain ⟨V, hV⟩ : ∃ V, fitV (a - b) = V := ⟨_, rfl⟩
 obtain ⟨E, hE0⟩ : ∃ V, fitE (a - b) = V := ⟨_, rfl⟩
 have HR : Hid (subP (a, x) (b, y) = (V, x && y && decide (E = 0))) := Lib.hid (by unfold subP fitP; rw [hV, hE0])
 have HV : Hid (fitV (a - b) = V) := Lib.hid hV
 have HE : Hid (fitE (a - b) = E) := Lib.hid hE0
 clear hV hE0
 obtain ⟨W0, hW0, E0, p2, p3, p4⟩ := boxed3 w 73 #[.int .i64 a, .bool x] 73 #[.int .i64 b, .bool y] 73 #[.int .i64 0, .bool false]
 replace p2 := p2.b2
 replace p3 := p3.b2
 replace p4 := p4.b2
 go_enter Tryz.func74, Tryz.ntmps74
 obtain ⟨k2a, k2b⟩ := p2.c2
 obtain ⟨k3a, k3b⟩ := p3.c2
 obtain ⟨k4a, k4b⟩ := p4.c2
 go_wp2_with fail
 rw [← hW0]
 clear hW0; clear k2a k2b k3a k3b k4a k4b
 refine (Tryz.ref08Sub a b _ HI.out.1.1 HI.out.1.2 HI.out.2.1 HI.out.2.2).mono ?_
 rintro e Wc ⟨rfl, hE⟩
 rw [HV.out, HE.out]
 replace E0 := (Ext.trans E0 hE); replace p2 := (p2.ext hE); replace p3 := (p3.ext hE); replace p4 := (p4.ext hE); clear hE
 cases x
 ·have zp4_0 := p4.froz0
  have zp4_1 := p4.froz1
  obtain ⟨k2a, k2b⟩ := p2.c2
  obtain ⟨k3a, k3b⟩ := p3.c2
  obtain ⟨k4a, k4b⟩ := p4.c2
  go_wp2; clear k2a k2b k3a k3b k4a k4b
  obtain ⟨-, -, -, -, -, W2, hW2, hw, hq⟩ := p4.formN.put2 (.int .i64 V) (.bool false) (noU_num _ _)
  rw [← hW2]
  have kq0 := BxA.cell hq 0 (v := .int .i64 V) rfl
  have kq1 := BxA.cell hq 1 (v := .bool false) rfl
  exact bodyPost_ret (v := .agg #[.int .i64 V, .bool false]) (by simp [results, Tryz.results74, go_sem, kq0, kq1]) rfl ⟨by rw [HR.out]; rfl, Ext.wr E0 hw (by omega)⟩
 ·cases y
  ·have zp4_0 := p4.froz0
   have zp4_1 := p4.froz1
   obtain ⟨k2a, k2b⟩ := p2.c2
   obtain ⟨k3a, k3b⟩ := p3.c2
   obtain ⟨k4a, k4b⟩ := p4.c2
   go_wp2; clear k2a k2b k3a k3b k4a k4b
   obtain ⟨-, -, -, -, -, W2, hW2, hw, hq⟩ := p4.formN.put2 (.int .i64 V) (.bool false) (noU_num _ _)
   rw [← hW2]
   have kq0 := BxA.cell hq 0 (v := .int .i64 V) rfl
   have kq1 := BxA.cell hq 1 (v := .bool false) rfl
   exact bodyPost_ret (v := .agg #[.int .i64 V, .bool false]) (by simp [results, Tryz.results74, go_sem, kq0, kq1]) rfl ⟨by rw [HR.out]; rfl, Ext.wr E0 hw (by omega)⟩
  ·have zp4_0 := p4.froz0
   have zp4_1 := p4.froz1
   obtain ⟨k2a, k2b⟩ := p2.c2
   obtain ⟨k3a, k3b⟩ := p3.c2
   obtain ⟨k4a, k4b⟩ := p4.c2
   go_wp2; clear k2a k2b k3a k3b k4a k4b
   obtain ⟨-, -, -, -, -, W2, hW2, hw, hq⟩ := p4.formN.put2 (.int .i64 V) (.bool ((E == 0))) (noU_num _ _)
   rw [← hW2]
   have kq0 := BxA.cell hq 0 (v := .int .i64 V) rfl
   have kq1 := BxA.cell hq 1 (v := .bool ((E == 0))) rfl
   exact bodyPost_ret (v := .agg #[.int .i64 V, .bool ((E == 0))]) (by simp [results, Tryz.results74, go_sem, kq0, kq1]) rfl ⟨by rw [HR.out]; exact congrArg (fun q => Ending.returned (.agg #[.int .i64 V, .bool q])) (beq_dec E), Ext.wr E0 hw (by omega)⟩

set_option maxRecDepth 100000 in
set_option maxHeartbeats 8000000 in
theorem Tryz.refMul17 (K : Nat) (hK : K ≤ 40) (a b : Int) (x y : Bool) {r : NumP} (h : mulP K (a, x) (b, y) = r) (w : World) (ha : I64 a) (hb : I64 b) :
  Calls Tryz.prog 39 #[.agg #[.int .i64 a, .bool x], .agg #[.int .i64 b, .bool y], .int .i64 (K : Int)] w fun e w' => e = .returned (.agg #[.int .i64 r.1, .bool r.2]) ∧ Ext w w' := by
 rw [← h]
 have HI := Lib.hid (And.intro ha hb)
 have HK := Lib.hid hK
 clear ha hb hK
 obtain ⟨V, hV⟩ : ∃ V, fitV (mulZ K a b) = V := ⟨_, rfl⟩
 obtain ⟨E, hE0⟩ : ∃ V, fitE (mulZ K a b) = V := ⟨_, rfl⟩
 have HR : Hid (mulP K (a, x) (b, y) = (V, x && y && decide (E = 0))) := Lib.hid (by unfold mulP fitP; rw [hV, hE0])
 have HV : Hid (fitV (nearR (((a * b : Int) : Rat) / ((2 ^ K : Nat) : Rat))) = V) := Lib.hid hV
 have HE : Hid (fitE (nearR (((a * b : Int) : Rat) / ((2 ^ K : Nat) : Rat))) = E) := Lib.hid hE0
 clear hV hE0
 obtain ⟨W0, hW0, E0, p3, p4, p6⟩ := boxed3 w 73 #[.int .i64 a, .bool x] 73 #[.int .i64 b, .bool y] 73 #[.int .i64 0, .bool false]
 replace p3 := p3.b2
 replace p4 := p4.b2
 replace p6 := p6.b2
 go_enter Tryz.func39, Tryz.ntmps39
 obtain ⟨k3a, k3b⟩ := p3.c2
 obtain ⟨k4a, k4b⟩ := p4.c2
 obtain ⟨k6a, k6b⟩ := p6.c2
 go_wp2_with fail
 rw [← hW0]
 clear hW0; clear k3a k3b k4a k4b k6a k6b
 refine (Tryz.ref08Mul a b K HK.out _ HI.out.1.1 HI.out.1.2 HI.out.2.1 HI.out.2.2).mono ?_
 rintro e Wc ⟨rfl, hE⟩
 rw [HV.out, HE.out]
 replace E0 := (Ext.trans E0 hE); replace p3 := (p3.ext hE); replace p4 := (p4.ext hE); replace p6 := (p6.ext hE); clear hE
 cases x
 ·have zp6_0 := p6.froz0
  have zp6_1 := p6.froz1
  obtain ⟨k3a, k3b⟩ := p3.c2
  obtain ⟨k4a, k4b⟩ := p4.c2
  obtain ⟨k6a, k6b⟩ := p6.c2
  go_wp2; clear k3a k3b k4a k4b k6a k6b
  obtain ⟨-, -, -, -, -, W2, hW2, hw, hq⟩ := p6.formN.put2 (.int .i64 V) (.bool false) (noU_num _ _)
  rw [← hW2]
  have kq0 := BxA.cell hq 0 (v := .int .i64 V) rfl
  have kq1 := BxA.cell hq 1 (v := .bool false) rfl
  exact bodyPost_ret (v := .agg #[.int .i64 V, .bool false]) (by simp [results, Tryz.results39, go_sem, kq0, kq1]) rfl ⟨by rw [HR.out]; rfl, Ext.wr E0 hw (by omega)⟩
 ·cases y
  ·have zp6_0 := p6.froz0
   have zp6_1 := p6.froz1
   obtain ⟨k3a, k3b⟩ := p3.c2
   obtain ⟨k4a, k4b⟩ := p4.c2
   obtain ⟨k6a, k6b⟩ := p6.c2
   go_wp2; clear k3a k3b k4a k4b k6a k6b
   obtain ⟨-, -, -, -, -, W2, hW2, hw, hq⟩ := p6.formN.put2 (.int .i64 V) (.bool false) (noU_num _ _)
   rw [← hW2]
   have kq0 := BxA.cell hq 0 (v := .int .i64 V) rfl
   have kq1 := BxA.cell hq 1 (v := .bool false) rfl
   exact bodyPost_ret (v := .agg #[.int .i64 V, .bool false]) (by simp [results, Tryz.results39, go_sem, kq0, kq1]) rfl ⟨by rw [HR.out]; rfl, Ext.wr E0 hw (by omega)⟩
  ·have zp6_0 := p6.froz0
   have zp6_1 := p6.froz1
   obtain ⟨k3a, k3b⟩ := p3.c2
   obtain ⟨k4a, k4b⟩ := p4.c2
   obtain ⟨k6a, k6b⟩ := p6.c2
   go_wp2; clear k3a k3b k4a k4b k6a k6b
   obtain ⟨-, -, -, -, -, W2, hW2, hw, hq⟩ := p6.formN.put2 (.int .i64 V) (.bool ((E == 0))) (noU_num _ _)
   rw [← hW2]
   have kq0 := BxA.cell hq 0 (v := .int .i64 V) rfl
   have kq1 := BxA.cell hq 1 (v := .bool ((E == 0))) rfl
   exact bodyPost_ret (v := .agg #[.int .i64 V, .bool ((E == 0))]) (by simp [results, Tryz.results39, go_sem, kq0, kq1]) rfl ⟨by rw [HR.out]; exact congrArg (fun q => Ending.returned (.agg #[.int .i64 V, .bool q])) (beq_dec E), Ext.wr E0 hw (by omega)⟩

set_option maxRecDepth 100000 in
set_option maxHeartbeats 8000000 in
theorem Tryz.refDiv17 (K : Nat) (hK : K ≤ 40) (a b : Int) (x y : Bool) {r : NumP} (h : divP K (a, x) (b, y) = r) (w : World) (ha : I64 a) (hb : I64 b) :
  Calls Tryz.prog 72 #[.agg #[.int .i64 a, .bool x], .agg #[.int .i64 b, .bool y], .int .i64 (K : Int)] w fun e w' => e = .returned (.agg #[.int .i64 r.1, .bool r.2]) ∧ Ext w w' := by
 rw [← h]
 have HI := Lib.hid (And.intro ha hb)
 have HK := Lib.hid hK
 clear ha hb hK
 by_cases hb0 : b = 0
 ·subst hb0
  have HR : Hid (divP K (a, x) (0, y) = (0, false)) := Lib.hid (if_pos rfl)
  obtain ⟨W0, hW0, E0, p3, p4, p6⟩ := boxed3 w 73 #[.int .i64 a, .bool x] 73 #[.int .i64 0, .bool y] 73 #[.int .i64 0, .bool false]
  replace p3 := p3.b2
  replace p4 := p4.b2
  replace p6 := p6.b2
  go_enter Tryz.func72, Tryz.ntmps72
  obtain ⟨k3a, k3b⟩ := p3.c2
  obtain ⟨k4a, k4b⟩ := p4.c2
  obtain ⟨k6a, k6b⟩ := p6.c2
  go_wp2_with fail
  rw [← hW0]
  clear hW0; clear k3a k3b k4a k4b k6a k6b
  refine (Tryz.ref08Div0 a (K : Int) (by have := HK.out; exact decide_eq_true (by omega)) _ HI.out.1.1 HI.out.1.2).mono ?_
  rintro e Wc ⟨rfl, hE⟩
  replace E0 := (Ext.trans E0 hE); replace p3 := (p3.ext hE); replace p4 := (p4.ext hE); replace p6 := (p6.ext hE); clear hE
  cases x
  ·have zp6_0 := p6.froz0
   have zp6_1 := p6.froz1
   obtain ⟨k3a, k3b⟩ := p3.c2
   obtain ⟨k4a, k4b⟩ := p4.c2
   obtain ⟨k6a, k6b⟩ := p6.c2
   go_wp2; clear k3a k3b k4a k4b k6a k6b
   obtain ⟨-, -, -, -, -, W2, hW2, hw, hq⟩ := p6.formN.put2 (.int .i64 0) (.bool false) (noU_num _ _)
   rw [← hW2]
   have kq0 := BxA.cell hq 0 (v := .int .i64 0) rfl
   have kq1 := BxA.cell hq 1 (v := .bool false) rfl
   exact bodyPost_ret (v := .agg #[.int .i64 0, .bool false]) (by simp [results, Tryz.results72, go_sem, kq0, kq1]) rfl ⟨by rw [HR.out], Ext.wr E0 hw (by omega)⟩
  ·cases y
   ·have zp6_0 := p6.froz0
    have zp6_1 := p6.froz1
    obtain ⟨k3a, k3b⟩ := p3.c2
    obtain ⟨k4a, k4b⟩ := p4.c2
    obtain ⟨k6a, k6b⟩ := p6.c2
    go_wp2; clear k3a k3b k4a k4b k6a k6b
    obtain ⟨-, -, -, -, -, W2, hW2, hw, hq⟩ := p6.formN.put2 (.int .i64 0) (.bool false) (noU_num _ _)
    rw [← hW2]
    have kq0 := BxA.cell hq 0 (v := .int .i64 0) rfl
    have kq1 := BxA.cell hq 1 (v := .bool false) rfl
    exact bodyPost_ret (v := .agg #[.int .i64 0, .bool false]) (by simp [results, Tryz.results72, go_sem, kq0, kq1]) rfl ⟨by rw [HR.out], Ext.wr E0 hw (by omega)⟩
   ·have zp6_0 := p6.froz0
    have zp6_1 := p6.froz1
    obtain ⟨k3a, k3b⟩ := p3.c2
    obtain ⟨k4a, k4b⟩ := p4.c2
    obtain ⟨k6a, k6b⟩ := p6.c2
    go_wp2; clear k3a k3b k4a k4b k6a k6b
    obtain ⟨-, -, -, -, -, W2, hW2, hw, hq⟩ := p6.formN.put2 (.int .i64 0) (.bool false) (noU_num _ _)
    rw [← hW2]
    have kq0 := BxA.cell hq 0 (v := .int .i64 0) rfl
    have kq1 := BxA.cell hq 1 (v := .bool false) rfl
    exact bodyPost_ret (v := .agg #[.int .i64 0, .bool false]) (by simp [results, Tryz.results72, go_sem, kq0, kq1]) rfl ⟨by rw [HR.out], Ext.wr E0 hw (by omega)⟩
 ·have HB0 := Lib.hid hb0
  obtain ⟨V, hV⟩ : ∃ V, fitV (divZ K a b) = V := ⟨_, rfl⟩
  obtain ⟨E, hE0⟩ : ∃ V, fitE (divZ K a b) = V := ⟨_, rfl⟩
  have HR : Hid (divP K (a, x) (b, y) = (V, x && y && decide (E = 0))) := Lib.hid (by unfold divP; rw [if_neg hb0]; unfold fitP; rw [hV, hE0])
  have HV : Hid (fitV (nearR (((a * ((2 ^ K : Nat) : Int) : Int) : Rat) / (b : Rat))) = V) := Lib.hid hV
  have HE : Hid (fitE (nearR (((a * ((2 ^ K : Nat) : Int) : Int) : Rat) / (b : Rat))) = E) := Lib.hid hE0
  clear hV hE0 hb0
  obtain ⟨W0, hW0, E0, p3, p4, p6⟩ := boxed3 w 73 #[.int .i64 a, .bool x] 73 #[.int .i64 b, .bool y] 73 #[.int .i64 0, .bool false]
  replace p3 := p3.b2
  replace p4 := p4.b2
  replace p6 := p6.b2
  go_enter Tryz.func72, Tryz.ntmps72
  obtain ⟨k3a, k3b⟩ := p3.c2
  obtain ⟨k4a, k4b⟩ := p4.c2
  obtain ⟨k6a, k6b⟩ := p6.c2
  go_wp2_with fail
  rw [← hW0]
  clear hW0; clear k3a k3b k4a k4b k6a k6b
  refine (Tryz.ref08Div a b K HK.out _ HI.out.1.1 HI.out.1.2 HI.out.2.1 HI.out.2.2 HB0.out).mono ?_
  rintro e Wc ⟨rfl, hE⟩
  rw [HV.out, HE.out]
  replace E0 := (Ext.trans E0 hE); replace p3 := (p3.ext hE); replace p4 := (p4.ext hE); replace p6 := (p6.ext hE); clear hE
  cases x
  ·have zp6_0 := p6.froz0
   have zp6_1 := p6.froz1
   obtain ⟨k3a, k3b⟩ := p3.c2
   obtain ⟨k4a, k4b⟩ := p4.c2
   obtain ⟨k6a, k6b⟩ := p6.c2
   go_wp2; clear k3a k3b k4a k4b k6a k6b
   obtain ⟨-, -, -, -, -, W2, hW2, hw, hq⟩ := p6.formN.put2 (.int .i64 V) (.bool false) (noU_num _ _)
   rw [← hW2]
   have kq0 := BxA.cell hq 0 (v := .int .i64 V) rfl
   have kq1 := BxA.cell hq 1 (v := .bool false) rfl
   exact bodyPost_ret (v := .agg #[.int .i64 V, .bool false]) (by simp [results, Tryz.results72, go_sem, kq0, kq1]) rfl ⟨by rw [HR.out]; rfl, Ext.wr E0 hw (by omega)⟩
  ·cases y
   ·have zp6_0 := p6.froz0
    have zp6_1 := p6.froz1
    obtain ⟨k3a, k3b⟩ := p3.c2
    obtain ⟨k4a, k4b⟩ := p4.c2
    obtain ⟨k6a, k6b⟩ := p6.c2
    go_wp2; clear k3a k3b k4a k4b k6a k6b
    obtain ⟨-, -, -, -, -, W2, hW2, hw, hq⟩ := p6.formN.put2 (.int .i64 V) (.bool false) (noU_num _ _)
    rw [← hW2]
    have kq0 := BxA.cell hq 0 (v := .int .i64 V) rfl
    have kq1 := BxA.cell hq 1 (v := .bool false) rfl
    exact bodyPost_ret (v := .agg #[.int .i64 V, .bool false]) (by simp [results, Tryz.results72, go_sem, kq0, kq1]) rfl ⟨by rw [HR.out]; rfl, Ext.wr E0 hw (by omega)⟩
   ·have zp6_0 := p6.froz0
    have zp6_1 := p6.froz1
    obtain ⟨k3a, k3b⟩ := p3.c2
    obtain ⟨k4a, k4b⟩ := p4.c2
    obtain ⟨k6a, k6b⟩ := p6.c2
    go_wp2; clear k3a k3b k4a k4b k6a k6b
    obtain ⟨-, -, -, -, -, W2, hW2, hw, hq⟩ := p6.formN.put2 (.int .i64 V) (.bool ((E == 0))) (noU_num _ _)
    rw [← hW2]
    have kq0 := BxA.cell hq 0 (v := .int .i64 V) rfl
    have kq1 := BxA.cell hq 1 (v := .bool ((E == 0))) rfl
    exact bodyPost_ret (v := .agg #[.int .i64 V, .bool ((E == 0))]) (by simp [results, Tryz.results72, go_sem, kq0, kq1]) rfl ⟨by rw [HR.out]; exact congrArg (fun q => Ending.returned (.agg #[.int .i64 V, .bool q])) (beq_dec E), Ext.wr E0 hw (by omega)⟩

set_option maxRecDepth 100000 in
set_option maxHeartbeats 8000000 in
theorem Tryz.refSqrt17 (K : Nat) (hK : K ≤ 40) (a : Int) (x : Bool) {r : NumP} (h : sqrtP K (a, x) = r) (w : World) (ha : I64 a) :
  Calls Tryz.prog 73 #[.agg #[.int .i64 a, .bool x], .int .i64 (K : Int)] w fun e w' => e = .returned (.agg #[.int .i64 r.1, .bool r.2]) ∧ Ext w w' := by
 rw [← h]
 have HI := Lib.hid ha
 have HK := Lib.hid hK
 clear ha hK
 by_cases h0 : a < 0
 ·have H0 := Lib.hid h0
  have HR : Hid (sqrtP K (a, x) = (0, false)) := Lib.hid (if_pos h0)
  clear h0
  obtain ⟨W0, hW0, E0, p2, p4⟩ := boxed2 w 73 #[.int .i64 a, .bool x] 73 #[.int .i64 0, .bool false]
  replace p2 := p2.b2
  replace p4 := p4.b2
  go_enter Tryz.func73, Tryz.ntmps73
  obtain ⟨k2a, k2b⟩ := p2.c2
  obtain ⟨k4a, k4b⟩ := p4.c2
  go_wp2_with fail
  rw [← hW0]
  clear hW0; clear k2a k2b k4a k4b
  refine (Tryz.ref08SqrtNeg a (K : Int) _ (by have := HK.out; exact decide_eq_true (by omega)) H0.out).mono ?_
  rintro e _ ⟨rfl, rfl⟩
  cases x
  ·have zp4_0 := p4.froz0
   have zp4_1 := p4.froz1
   obtain ⟨k2a, k2b⟩ := p2.c2
   obtain ⟨k4a, k4b⟩ := p4.c2
   go_wp2; clear k2a k2b k4a k4b
   obtain ⟨-, -, -, -, -, W2, hW2, hw, hq⟩ := p4.formN.put2 (.int .i64 0) (.bool false) (noU_num _ _)
   rw [← hW2]
   have kq0 := BxA.cell hq 0 (v := .int .i64 0) rfl
   have kq1 := BxA.cell hq 1 (v := .bool false) rfl
   exact bodyPost_ret (v := .agg #[.int .i64 0, .bool false]) (by simp [results, Tryz.results73, go_sem, kq0, kq1]) rfl ⟨by rw [HR.out], Ext.wr E0 hw (by omega)⟩
  ·have zp4_0 := p4.froz0
   have zp4_1 := p4.froz1
   obtain ⟨k2a, k2b⟩ := p2.c2
   obtain ⟨k4a, k4b⟩ := p4.c2
   go_wp2; clear k2a k2b k4a k4b
   obtain ⟨-, -, -, -, -, W2, hW2, hw, hq⟩ := p4.formN.put2 (.int .i64 0) (.bool false) (noU_num _ _)
   rw [← hW2]
   have kq0 := BxA.cell hq 0 (v := .int .i64 0) rfl
   have kq1 := BxA.cell hq 1 (v := .bool false) rfl
   exact bodyPost_ret (v := .agg #[.int .i64 0, .bool false]) (by simp [results, Tryz.results73, go_sem, kq0, kq1]) rfl ⟨by rw [HR.out], Ext.wr E0 hw (by omega)⟩
 ·obtain ⟨A, rfl⟩ := Int.eq_ofNat_of_zero_le (show 0 ≤ a by omega)
  obtain ⟨R, hR⟩ : ∃ R : Int, ((rt (A * 2 ^ K) 2 : Nat) : Int) = R := ⟨_, rfl⟩
  have HRR := Lib.hid hR
  have HR : Hid (sqrtP K ((A : Int), x) = (R, x)) := Lib.hid (by unfold sqrtP; rw [if_neg h0]; unfold rootW; rw [Int.toNat_natCast, hR])
  clear h0 hR
  obtain ⟨W0, hW0, E0, p2, p4⟩ := boxed2 w 73 #[.int .i64 (A : Int), .bool x] 73 #[.int .i64 0, .bool false]
  replace p2 := p2.b2
  replace p4 := p4.b2
  go_enter Tryz.func73, Tryz.ntmps73
  obtain ⟨k2a, k2b⟩ := p2.c2
  obtain ⟨k4a, k4b⟩ := p4.c2
  go_wp2_with fail
  rw [← hW0]
  clear hW0; clear k2a k2b k4a k4b
  refine (Tryz.ref08Sqrt A K _ (by have := HI.out.2; omega) HK.out).mono ?_
  rintro e Wc ⟨rfl, hE⟩
  rw [HRR.out]; replace E0 := (Ext.trans E0 hE); replace p2 := (p2.ext hE); replace p4 := (p4.ext hE); clear hE
  cases x
  ·have zp4_0 := p4.froz0
   have zp4_1 := p4.froz1
   obtain ⟨k2a, k2b⟩ := p2.c2
   obtain ⟨k4a, k4b⟩ := p4.c2
   go_wp2; clear k2a k2b k4a k4b
   obtain ⟨-, -, -, -, -, W2, hW2, hw, hq⟩ := p4.formN.put2 (.int .i64 R) (.bool false) (noU_num _ _)
   rw [← hW2]
   have kq0 := BxA.cell hq 0 (v := .int .i64 R) rfl
   have kq1 := BxA.cell hq 1 (v := .bool false) rfl
   exact bodyPost_ret (v := .agg #[.int .i64 R, .bool false]) (by simp [results, Tryz.results73, go_sem, kq0, kq1]) rfl ⟨by rw [HR.out], Ext.wr E0 hw (by omega)⟩
  ·have zp4_0 := p4.froz0
   have zp4_1 := p4.froz1
   obtain ⟨k2a, k2b⟩ := p2.c2
   obtain ⟨k4a, k4b⟩ := p4.c2
   go_wp2; clear k2a k2b k4a k4b
   obtain ⟨-, -, -, -, -, W2, hW2, hw, hq⟩ := p4.formN.put2 (.int .i64 R) (.bool true) (noU_num _ _)
   rw [← hW2]
   have kq0 := BxA.cell hq 0 (v := .int .i64 R) rfl
   have kq1 := BxA.cell hq 1 (v := .bool true) rfl
   exact bodyPost_ret (v := .agg #[.int .i64 R, .bool true]) (by simp [results, Tryz.results73, go_sem, kq0, kq1]) rfl ⟨by rw [HR.out], Ext.wr E0 hw (by omega)⟩


end Go.Rt

namespace Go.Rt
open Go Go.RowKit Go.Proofs

set_option maxRecDepth 100000 in
set_option maxHeartbeats 16000000 in
theorem Tryz.refMoments18 (lr b1 b2 eps wd m vt dn : Int) (ap dx : Bool) (K : Nat) (hK : K ≤ 40) {M V : NumP} (w : World) (hM : mixP K b1 (m, true) (dn, dx) = M) (hV : mixP K b2 (vt, true) (mulP K (dn, dx) (dn, dx)) = V) (h1 : 0 ≤ b1 ∧ b1 < oneZ K) (h2 : 0 ≤ b2 ∧ b2 < oneZ K) (hm : I64 m) (hv : I64 vt) (hd : I64 dn) :
  Calls Tryz.prog 71 #[.agg #[.int .i64 lr, .int .i64 b1, .int .i64 b2, .int .i64 eps, .int .i64 wd, .bool ap], .int .i64 (K : Int), .agg #[.int .i64 dn, .bool dx], .int .i64 m, .int .i64 vt] w fun e w' => e = .returned (.tuple #[.agg #[.int .i64 M.1, .bool M.2], .agg #[.int .i64 V.1, .bool V.2]]) ∧ Ext w w' := by
 have hPm := one_max hK
 have hPp := one_pos K
 obtain ⟨P, hP⟩ : ∃ P, oneZ K = P := ⟨_, rfl⟩
 unfold mixP at hM hV
 rw [hP] at hM hV h1 h2 hPm hPp
 have HP := Lib.hid hP
 have HK := Lib.hid hK
 obtain ⟨C1, hC1⟩ : ∃ C, P - b1 = C := ⟨_, rfl⟩
 obtain ⟨C2, hC2⟩ : ∃ C, P - b2 = C := ⟨_, rfl⟩
 rw [hC1] at hM
 rw [hC2] at hV
 have HW1 : Hid (IntKind.i64.wrap (P - b1) = C1) := Lib.hid (by rw [IntKind.wrap_i64]; omega)
 have HW2 : Hid (IntKind.i64.wrap (P - b2) = C2) := Lib.hid (by rw [IntKind.wrap_i64]; omega)
 have HI : Hid ((I64 b1 ∧ I64 b2) ∧ (I64 C1 ∧ I64 C2) ∧ (I64 m ∧ I64 vt ∧ I64 dn)) := Lib.hid ⟨by unfold I64; omega, by unfold I64; omega, hm, hv, hd⟩
 clear hPm hPp hC1 hC2 hm hv hd hP h1 h2 hK
 obtain ⟨A1, hA1⟩ : ∃ r : NumP, mulP K (b1, true) (m, true) = r := ⟨_, rfl⟩
 have HA1 := Lib.hid hA1
 have IA1 : Hid (I64 A1.1) := Lib.hid (by rw [← hA1]; exact mulP_i64 _ _ _)
 clear hA1
 obtain ⟨A2, hA2⟩ : ∃ r : NumP, mulP K (C1, true) (dn, dx) = r := ⟨_, rfl⟩
 have HA2 := Lib.hid hA2
 have IA2 : Hid (I64 A2.1) := Lib.hid (by rw [← hA2]; exact mulP_i64 _ _ _)
 clear hA2
 obtain ⟨B1, hB1⟩ : ∃ r : NumP, mulP K (b2, true) (vt, true) = r := ⟨_, rfl⟩
 have HB1 := Lib.hid hB1
 have IB1 : Hid (I64 B1.1) := Lib.hid (by rw [← hB1]; exact mulP_i64 _ _ _)
 clear hB1
 obtain ⟨Q, hQ⟩ : ∃ r : NumP, mulP K (dn, dx) (dn, dx) = r := ⟨_, rfl⟩
 have HQ := Lib.hid hQ
 have IQ : Hid (I64 Q.1) := Lib.hid (by rw [← hQ]; exact mulP_i64 _ _ _)
 clear hQ
 obtain ⟨B2, hB2⟩ : ∃ r : NumP, mulP K (C2, true) Q = r := ⟨_, rfl⟩
 have HB2 := Lib.hid hB2
 have IB2 : Hid (I64 B2.1) := Lib.hid (by rw [← hB2]; exact mulP_i64 _ _ _)
 clear hB2
 rw [HA1.out, HA2.out] at hM
 rw [HB1.out, HQ.out, HB2.out] at hV
 have HM := Lib.hid hM
 have HV := Lib.hid hV
 clear hM hV
 obtain ⟨W0, hW0, E0, p5, p7, p10, p11⟩ := boxed4 w 23 #[.int .i64 lr, .int .i64 b1, .int .i64 b2, .int .i64 eps, .int .i64 wd, .bool ap] 73 #[.int .i64 dn, .bool dx] 73 #[.int .i64 0, .bool false] 73 #[.int .i64 0, .bool false]
 replace p7 := p7.b2
 replace p10 := p10.b2
 replace p11 := p11.b2
 go_enter Tryz.func71, Tryz.ntmps71
 obtain ⟨k5a, k5b, k5c, k5d, k5e, k5f⟩ := p5.c6
 obtain ⟨k7a, k7b⟩ := p7.c2
 obtain ⟨k10a, k10b⟩ := p10.c2
 obtain ⟨k11a, k11b⟩ := p11.c2
 go_wp2_with fail
 rw [← hW0]
 clear hW0; clear k5a k5b k5c k5d k5e k5f k7a k7b k10a k10b k11a k11b
 refine (Tryz.refOne17 K HK.out _).mono ?_
 rintro e Wa ⟨rfl, hE⟩
 rw [HP.out]; replace E0 := (Ext.trans E0 hE); replace p5 := (p5.ext hE); replace p7 := (p7.ext hE); replace p10 := (p10.ext hE); replace p11 := (p11.ext hE); clear hE
 obtain ⟨k5a, k5b, k5c, k5d, k5e, k5f⟩ := p5.c6
 obtain ⟨k7a, k7b⟩ := p7.c2
 obtain ⟨k10a, k10b⟩ := p10.c2
 obtain ⟨k11a, k11b⟩ := p11.c2
 go_upto_region 2 with (fail)
 clear k5a k5b k5c k5d k5e k5f k7a k7b k10a k10b k11a k11b
 have HB2_p5 := Lib.hid p5.lt
 have HB2_p7 := Lib.hid p7.lt
 have HB2_p10 := Lib.hid p10.lt
 have HB2_p11 := Lib.hid p11.lt
 have sHB2_p5 := HB2_p5.out
 have sHB2_p7 := HB2_p7.out
 have sHB2_p10 := HB2_p10.out
 have sHB2_p11 := HB2_p11.out
 have ltp5 := p5.lt; have ltp7 := p7.lt; have ltp10 := p10.lt; have ltp11 := p11.lt; have szw1 := Ext.size E0
 refine region_gk2 [isV (.pointer (some ⟨w.heap.size, 1, none⟩)), isV (.int .i64 b1), isV (.agg #[.int .i64 b1, .bool true]), isV (.int .i64 m), isV (.agg #[.int .i64 m, .bool true]), isV (.int .i64 (K : Int)), isV (.agg #[.int .i64 A1.1, .bool A1.2]), isV (.int .i64 P), isV (.pointer (some ⟨w.heap.size, 1, none⟩)), isV (.int .i64 b1), isV (.int .i64 C1), isV (.agg #[.int .i64 C1, .bool true]), isV (.agg #[.int .i64 dn, .bool dx]), isV (.int .i64 (K : Int)), isV (.agg #[.int .i64 A2.1, .bool A2.2]), isV (.agg #[.int .i64 M.1, .bool M.2]),
   .one fun v W => ∃ g, v = .pointer (some ⟨g, 0, none⟩) ∧ Wa.heap.size ≤ g ∧ Form W g 73 2,
   .two 16 (fun p _ W => NewA Wa.heap.size 73 #[.int .i64 M.1, .bool M.2] p W)] Wa.heap.size [16] [Tag.any, Tag.any, Tag.any, Tag.any, Tag.any, Tag.any, Tag.any, Tag.any, Tag.any, Tag.any, Tag.any, Tag.any, Tag.any, Tag.any, Tag.any, Tag.any, Tag.any, Tag.new 16] ⟨Good.is _, Good.is _, Good.is _, Good.is _, Good.is _, Good.is _, Good.is _, Good.is _, Good.is _, Good.is _, Good.is _, Good.is _, Good.is _, Good.is _, Good.is _, Good.is _, Good.box _ _ _, tag_newA, trivial⟩ (fun g0 hg => by simp at hg) (E0.s.k (p5.s.k (p7.s.k (p10.s.k (p11.s))))) (fun m hm => by simp at hm; subst hm; rfl) (A := ?A1) ?hA1 ?howe1 ?hfin1
 case hA1 =>
  intro vs
  simp only [putAll, Act.put, sA, sZ, sS, Nat.zero_add, Nat.reduceAdd]
  exact rfl
 case howe1 =>
  clear E0 p5 p7 p10 p11
  intro hf
  refine ⟨oM0 0 [] hf rfl rfl, owesM 1 [0] hf rfl rfl (by kernel_rfl) ?_, owesM 2 [1] hf rfl rfl (by kernel_rfl) ?_, oM0 3 [] hf rfl rfl, owesM 4 [3] hf rfl rfl (by kernel_rfl) ?_, oM0 5 [] hf rfl rfl, owesM 6 [2, 4, 5] hf rfl rfl (by kernel_rfl) ?_, oM0 7 [] hf rfl rfl, oM0 8 [] hf rfl rfl, owesM 9 [8] hf rfl rfl (by kernel_rfl) ?_, owesM 10 [7, 9] hf rfl rfl (by kernel_rfl) ?_, owesM 11 [10] hf rfl rfl (by kernel_rfl) ?_, owesM 12 [] hf rfl rfl (by kernel_rfl) ?_, oM0 13 [] hf rfl rfl, owesM 14 [11, 12, 13] hf rfl rfl (by kernel_rfl) ?_, owesM 15 [6, 14] hf rfl rfl (by kernel_rfl) ?_, owesN 16 [] hf rfl (by kernel_rfl) ?_, owesP 17 16 [16, 15] hf rfl rfl (by kernel_rfl) rfl (by kernel_rfl) ?_, trivial⟩
  all_goals intro vs W hS hp hx KO hKO
  all_goals simp only [Act.put, sA, sZ, sS] at hKO
  ·have e0 := isOf hp.1; simp only [e0] at hKO; have fc1 := BxA.cell (hS.1.2.1) 1 (v := .int .i64 b1) rfl; go_simp; exact hKO _ W (.refl W) rfl
  ·have e1 := isOf hp.1; simp only [e1] at hKO; go_simp
   refine (Tryz.refOf17 b1 _).mono ?_
   rintro e W1 ⟨rfl, hE⟩
   exact hKO _ W1 hE rfl
  ·have e3 := isOf hp.1; simp only [e3] at hKO; go_simp
   refine (Tryz.refOf17 m _).mono ?_
   rintro e W1 ⟨rfl, hE⟩
   exact hKO _ W1 hE rfl
  ·have e2 := isOf hp.1; have e4 := isOf hp.2.1; have e5 := isOf hp.2.2.1; simp only [e2, e4, e5] at hKO; go_simp
   refine (Tryz.refMul17 K HK.out b1 m true true HA1.out _ HI.out.1.1 HI.out.2.2.1).mono ?_
   rintro e W1 ⟨rfl, hE⟩
   exact hKO _ W1 hE rfl
  ·have e8 := isOf hp.1; simp only [e8] at hKO; have fc1 := BxA.cell (hS.1.2.1) 1 (v := .int .i64 b1) rfl; go_simp; exact hKO _ W (.refl W) rfl
  ·have e7 := isOf hp.1; have e9 := isOf hp.2.1; simp only [e7, e9] at hKO; go_simp; exact hKO _ W (Ext.refl W) (by first | rfl | exact congrArg (Value.int .i64) HW1.out)
  ·have e10 := isOf hp.1; simp only [e10] at hKO; go_simp
   refine (Tryz.refOf17 C1 _).mono ?_
   rintro e W1 ⟨rfl, hE⟩
   exact hKO _ W1 hE rfl
  ·have fc0 := hS.1.2.2.1.cell0; have fc1 := hS.1.2.2.1.cell1; go_simp; exact hKO _ W (.refl W) rfl
  ·have e11 := isOf hp.1; have e12 := isOf hp.2.1; have e13 := isOf hp.2.2.1; simp only [e11, e12, e13] at hKO; go_simp
   refine (Tryz.refMul17 K HK.out C1 dn true dx HA2.out _ HI.out.2.1.1 HI.out.2.2.2.2).mono ?_
   rintro e W1 ⟨rfl, hE⟩
   exact hKO _ W1 hE rfl
  ·have e6 := isOf hp.1; have e14 := isOf hp.2.1; simp only [e6, e14] at hKO; go_simp
   refine (Tryz.refAdd17 A1.1 A2.1 A1.2 A2.2 HM.out _ IA1.out IA2.out).mono ?_
   rintro e W1 ⟨rfl, hE⟩
   exact hKO _ W1 hE rfl
  ·have hn := BxA.new W 73 #[.int .i64 0, .bool false]
   have hsz := hS.2
   go_simp
   exact hKO _ _ rfl ⟨_, rfl, hsz, ⟨_, hn, (noU_num _ _), rfl⟩⟩
  ·have q16 := hp.1; have e15 := isOf hp.2.1; simp only [e15] at hKO
   obtain ⟨g, ev, hg, hfo⟩ := q16
   replace ev : vs 16 = _ := ev
   obtain ⟨x0, x1, c0, c1, hfz, W2, hW2, hw, hq⟩ := hfo.put2 (.int .i64 M.1) (.bool M.2) (noU_num _ _)
   have z0 := hfz 0
   have z1 := hfz 1
   simp only [ev] at hKO; go_simp
   rw [← hW2]
   exact hKO _ g rfl hg hw ⟨⟨(Ext.wr hS.1.1 hw (by omega)), (hS.1.2.1.wr hw (by omega)), (hS.1.2.2.1.wr hw (by omega)), (hS.1.2.2.2.1.wr hw (by omega)), (hS.1.2.2.2.2.wr hw (by omega))⟩, (Nat.le_trans hS.2 hw.apart.size)⟩ ⟨g, ev, hg, hq⟩
 intro vs W1 hS hM hp
 clear szw1 E0 p5 p7 p10 p11
 obtain ⟨⟨E0, p5, p7, p10, p11⟩, sz1⟩ := hS
 obtain ⟨h1_0, h1_1, h1_2, h1_3, h1_4, h1_5, h1_6, h1_7, h1_8, h1_9, h1_10, h1_11, h1_12, h1_13, h1_14, h1_15, h1_16, h1_17, -⟩ := hp
 skip
 have hh := h1_17
 obtain ⟨g13, ev13, hg13, p13⟩ := hh
 replace ev13 : vs 16 = _ := ev13
 replace p13 : Bx2 W1 g13 73 (.int .i64 M.1) (.bool M.2) := p13
 clear hM
 simp only [ev13, isOf h1_0, isOf h1_1, isOf h1_2, isOf h1_3, isOf h1_4, isOf h1_5, isOf h1_6, isOf h1_7, isOf h1_8, isOf h1_9, isOf h1_10, isOf h1_11, isOf h1_12, isOf h1_13, isOf h1_14, isOf h1_15]
 clear ev13 h1_0 h1_1 h1_2 h1_3 h1_4 h1_5 h1_6 h1_7 h1_8 h1_9 h1_10 h1_11 h1_12 h1_13 h1_14 h1_15 h1_16 h1_17; clear sHB2_p5 sHB2_p7 sHB2_p10 sHB2_p11
 have HG13 := Lib.hid hg13
 clear hg13
 obtain ⟨k5a, k5b, k5c, k5d, k5e, k5f⟩ := p5.c6
 obtain ⟨k7a, k7b⟩ := p7.c2
 obtain ⟨k10a, k10b⟩ := p10.c2
 obtain ⟨k11a, k11b⟩ := p11.c2
 obtain ⟨k13a, k13b⟩ := p13.c2
 go_upto_region 3 with (fail)
 clear k5a k5b k5c k5d k5e k5f k7a k7b k10a k10b k11a k11b k13a k13b
 have HB3_p5 := Lib.hid p5.lt
 have HB3_p7 := Lib.hid p7.lt
 have HB3_p10 := Lib.hid p10.lt
 have HB3_p11 := Lib.hid p11.lt
 have HB3_p13 := Lib.hid p13.lt
 have sHB2_p5 := HB2_p5.out
 have sHB2_p7 := HB2_p7.out
 have sHB2_p10 := HB2_p10.out
 have sHB2_p11 := HB2_p11.out
 have sHG13 := HG13.out
 have sHB3_p5 := HB3_p5.out
 have sHB3_p7 := HB3_p7.out
 have sHB3_p10 := HB3_p10.out
 have sHB3_p11 := HB3_p11.out
 have sHB3_p13 := HB3_p13.out
 have ltp13 := p13.lt; have szw2 := Ext.size E0
 refine region_gk2 [isV (.pointer (some ⟨w.heap.size, 2, none⟩)), isV (.int .i64 b2), isV (.agg #[.int .i64 b2, .bool true]), isV (.int .i64 vt), isV (.agg #[.int .i64 vt, .bool true]), isV (.int .i64 (K : Int)), isV (.agg #[.int .i64 B1.1, .bool B1.2]), isV (.int .i64 P), isV (.pointer (some ⟨w.heap.size, 2, none⟩)), isV (.int .i64 b2), isV (.int .i64 C2), isV (.agg #[.int .i64 C2, .bool true]), isV (.agg #[.int .i64 dn, .bool dx]), isV (.agg #[.int .i64 dn, .bool dx]), isV (.int .i64 (K : Int)), isV (.agg #[.int .i64 Q.1, .bool Q.2]), isV (.int .i64 (K : Int)), isV (.agg #[.int .i64 B2.1, .bool B2.2]), isV (.agg #[.int .i64 V.1, .bool V.2]),
   .one fun v W => ∃ g, v = .pointer (some ⟨g, 0, none⟩) ∧ W1.heap.size ≤ g ∧ Form W g 73 2,
   .two 19 (fun p _ W => NewA W1.heap.size 73 #[.int .i64 V.1, .bool V.2] p W)] W1.heap.size [19] [Tag.any, Tag.any, Tag.any, Tag.any, Tag.any, Tag.any, Tag.any, Tag.any, Tag.any, Tag.any, Tag.any, Tag.any, Tag.any, Tag.any, Tag.any, Tag.any, Tag.any, Tag.any, Tag.any, Tag.any, Tag.new 19] ⟨Good.is _, Good.is _, Good.is _, Good.is _, Good.is _, Good.is _, Good.is _, Good.is _, Good.is _, Good.is _, Good.is _, Good.is _, Good.is _, Good.is _, Good.is _, Good.is _, Good.is _, Good.is _, Good.is _, Good.box _ _ _, tag_newA, trivial⟩ (fun g0 hg => by simp at hg) (E0.s.k (p5.s.k (p7.s.k (p10.s.k (p11.s.k (p13.s)))))) (fun m hm => by simp at hm; subst hm; rfl) (A := ?A2) ?hA2 ?howe2 ?hfin2
 case hA2 =>
  intro vs
  simp only [putAll, Act.put, sA, sZ, sS, Nat.zero_add, Nat.reduceAdd]
  exact rfl
 case howe2 =>
  clear E0 p5 p7 p10 p11 p13
  intro hf
  refine ⟨oM0 0 [] hf rfl rfl, owesM 1 [0] hf rfl rfl (by kernel_rfl) ?_, owesM 2 [1] hf rfl rfl (by kernel_rfl) ?_, oM0 3 [] hf rfl rfl, owesM 4 [3] hf rfl rfl (by kernel_rfl) ?_, oM0 5 [] hf rfl rfl, owesM 6 [2, 4, 5] hf rfl rfl (by kernel_rfl) ?_, oM0 7 [] hf rfl rfl, oM0 8 [] hf rfl rfl, owesM 9 [8] hf rfl rfl (by kernel_rfl) ?_, owesM 10 [7, 9] hf rfl rfl (by kernel_rfl) ?_, owesM 11 [10] hf rfl rfl (by kernel_rfl) ?_, owesM 12 [] hf rfl rfl (by kernel_rfl) ?_, owesM 13 [] hf rfl rfl (by kernel_rfl) ?_, oM0 14 [] hf rfl rfl, owesM 15 [12, 13, 14] hf rfl rfl (by kernel_rfl) ?_, oM0 16 [] hf rfl rfl, owesM 17 [11, 15, 16] hf rfl rfl (by kernel_rfl) ?_, owesM 18 [6, 17] hf rfl rfl (by kernel_rfl) ?_, owesN 19 [] hf rfl (by kernel_rfl) ?_, owesP 20 19 [19, 18] hf rfl rfl (by kernel_rfl) rfl (by kernel_rfl) ?_, trivial⟩
  all_goals intro vs W hS hp hx KO hKO
  all_goals simp only [Act.put, sA, sZ, sS] at hKO
  ·have e0 := isOf hp.1; simp only [e0] at hKO; have fc2 := BxA.cell (hS.1.2.1) 2 (v := .int .i64 b2) rfl; go_simp; exact hKO _ W (.refl W) rfl
  ·have e1 := isOf hp.1; simp only [e1] at hKO; go_simp
   refine (Tryz.refOf17 b2 _).mono ?_
   rintro e W1 ⟨rfl, hE⟩
   exact hKO _ W1 hE rfl
  ·have e3 := isOf hp.1; simp only [e3] at hKO; go_simp
   refine (Tryz.refOf17 vt _).mono ?_
   rintro e W1 ⟨rfl, hE⟩
   exact hKO _ W1 hE rfl
  ·have e2 := isOf hp.1; have e4 := isOf hp.2.1; have e5 := isOf hp.2.2.1; simp only [e2, e4, e5] at hKO; go_simp
   refine (Tryz.refMul17 K HK.out b2 vt true true HB1.out _ HI.out.1.2 HI.out.2.2.2.1).mono ?_
   rintro e W1 ⟨rfl, hE⟩
   exact hKO _ W1 hE rfl
  ·have e8 := isOf hp.1; simp only [e8] at hKO; have fc2 := BxA.cell (hS.1.2.1) 2 (v := .int .i64 b2) rfl; go_simp; exact hKO _ W (.refl W) rfl
  ·have e7 := isOf hp.1; have e9 := isOf hp.2.1; simp only [e7, e9] at hKO; go_simp; exact hKO _ W (Ext.refl W) (by first | rfl | exact congrArg (Value.int .i64) HW2.out)
  ·have e10 := isOf hp.1; simp only [e10] at hKO; go_simp
   refine (Tryz.refOf17 C2 _).mono ?_
   rintro e W1 ⟨rfl, hE⟩
   exact hKO _ W1 hE rfl
  ·have fc0 := hS.1.2.2.1.cell0; have fc1 := hS.1.2.2.1.cell1; go_simp; exact hKO _ W (.refl W) rfl
  ·have fc0 := hS.1.2.2.1.cell0; have fc1 := hS.1.2.2.1.cell1; go_simp; exact hKO _ W (.refl W) rfl
  ·have e12 := isOf hp.1; have e13 := isOf hp.2.1; have e14 := isOf hp.2.2.1; simp only [e12, e13, e14] at hKO; go_simp
   refine (Tryz.refMul17 K HK.out dn dn dx dx HQ.out _ HI.out.2.2.2.2 HI.out.2.2.2.2).mono ?_
   rintro e W1 ⟨rfl, hE⟩
   exact hKO _ W1 hE rfl
  ·have e11 := isOf hp.1; have e15 := isOf hp.2.1; have e16 := isOf hp.2.2.1; simp only [e11, e15, e16] at hKO; go_simp
   refine (Tryz.refMul17 K HK.out C2 Q.1 true Q.2 HB2.out _ HI.out.2.1.2 IQ.out).mono ?_
   rintro e W1 ⟨rfl, hE⟩
   exact hKO _ W1 hE rfl
  ·have e6 := isOf hp.1; have e17 := isOf hp.2.1; simp only [e6, e17] at hKO; go_simp
   refine (Tryz.refAdd17 B1.1 B2.1 B1.2 B2.2 HV.out _ IB1.out IB2.out).mono ?_
   rintro e W1 ⟨rfl, hE⟩
   exact hKO _ W1 hE rfl
  ·have hn := BxA.new W 73 #[.int .i64 0, .bool false]
   have hsz := hS.2
   go_simp
   exact hKO _ _ rfl ⟨_, rfl, hsz, ⟨_, hn, (noU_num _ _), rfl⟩⟩
  ·have q19 := hp.1; have e18 := isOf hp.2.1; simp only [e18] at hKO
   obtain ⟨g, ev, hg, hfo⟩ := q19
   replace ev : vs 19 = _ := ev
   obtain ⟨x0, x1, c0, c1, hfz, W2, hW2, hw, hq⟩ := hfo.put2 (.int .i64 V.1) (.bool V.2) (noU_num _ _)
   have z0 := hfz 0
   have z1 := hfz 1
   simp only [ev] at hKO; go_simp
   rw [← hW2]
   exact hKO _ g rfl hg hw ⟨⟨(Ext.wr hS.1.1 hw (by omega)), (hS.1.2.1.wr hw (by omega)), (hS.1.2.2.1.wr hw (by omega)), (hS.1.2.2.2.1.wr hw (by omega)), (hS.1.2.2.2.2.1.wr hw (by omega)), (hS.1.2.2.2.2.2.wr hw (by omega))⟩, (Nat.le_trans hS.2 hw.apart.size)⟩ ⟨g, ev, hg, hq⟩
 intro vs W2 hS hM hp
 clear szw2 E0 p5 p7 p10 p11 p13
 obtain ⟨⟨E0, p5, p7, p10, p11, p13⟩, sz2⟩ := hS
 obtain ⟨h2_0, h2_1, h2_2, h2_3, h2_4, h2_5, h2_6, h2_7, h2_8, h2_9, h2_10, h2_11, h2_12, h2_13, h2_14, h2_15, h2_16, h2_17, h2_18, h2_19, h2_20, -⟩ := hp
 skip
 have hh := h2_20
 obtain ⟨g14, ev14, hg14, p14⟩ := hh
 replace ev14 : vs 19 = _ := ev14
 replace p14 : Bx2 W2 g14 73 (.int .i64 V.1) (.bool V.2) := p14
 clear hM
 simp only [ev14, isOf h2_0, isOf h2_1, isOf h2_2, isOf h2_3, isOf h2_4, isOf h2_5, isOf h2_6, isOf h2_7, isOf h2_8, isOf h2_9, isOf h2_10, isOf h2_11, isOf h2_12, isOf h2_13, isOf h2_14, isOf h2_15, isOf h2_16, isOf h2_17, isOf h2_18]
 clear ev14 h2_0 h2_1 h2_2 h2_3 h2_4 h2_5 h2_6 h2_7 h2_8 h2_9 h2_10 h2_11 h2_12 h2_13 h2_14 h2_15 h2_16 h2_17 h2_18 h2_19 h2_20; clear sHB2_p5 sHB2_p7 sHB2_p10 sHB2_p11 sHG13 sHB3_p5 sHB3_p7 sHB3_p10 sHB3_p11 sHB3_p13
 have HG14 := Lib.hid hg14
 clear hg14
 obtain ⟨k5a, k5b, k5c, k5d, k5e, k5f⟩ := p5.c6
 obtain ⟨k7a, k7b⟩ := p7.c2
 obtain ⟨k10a, k10b⟩ := p10.c2
 obtain ⟨k11a, k11b⟩ := p11.c2
 obtain ⟨k13a, k13b⟩ := p13.c2
 obtain ⟨k14a, k14b⟩ := p14.c2
 go_upto_region 4 with (fail)
 clear k5a k5b k5c k5d k5e k5f k7a k7b k10a k10b k11a k11b k13a k13b k14a k14b
 have fop10 := p10.formN
 clear p10
 have HO4_p10 := Lib.hid fop10.lt
 have fop11 := p11.formN
 clear p11
 have HO4_p11 := Lib.hid fop11.lt
 have sHB2_p5 := HB2_p5.out
 have sHB2_p7 := HB2_p7.out
 have sHB2_p10 := HB2_p10.out
 have sHB2_p11 := HB2_p11.out
 have sHG13 := HG13.out
 have sHB3_p5 := HB3_p5.out
 have sHB3_p7 := HB3_p7.out
 have sHB3_p10 := HB3_p10.out
 have sHB3_p11 := HB3_p11.out
 have sHB3_p13 := HB3_p13.out
 have sHG14 := HG14.out
 have sHO4_p10 := HO4_p10.out
 have sHO4_p11 := HO4_p11.out
 have ltp14 := p14.lt; have szw3 := Ext.size E0
 refine region_go2 [isV (.agg #[.int .i64 M.1, .bool M.2]), isV (.agg #[.int .i64 V.1, .bool V.2]),
   .own fun W => Bx2 W (w.heap.size + 1 + 1) 73 (.int .i64 M.1) (.bool M.2),
   .own fun W => Bx2 W (w.heap.size + 1 + 1 + 1) 73 (.int .i64 V.1) (.bool V.2)]
  (fun W => Ext w W ∧ BxA W w.heap.size 23 #[.int .i64 lr, .int .i64 b1, .int .i64 b2, .int .i64 eps, .int .i64 wd, .bool ap] ∧ Bx2 W (w.heap.size + 1) 73 (.int .i64 dn) (.bool dx) ∧ Form W (w.heap.size + 1 + 1) 73 2 ∧ Form W (w.heap.size + 1 + 1 + 1) 73 2 ∧ Bx2 W g13 73 (.int .i64 M.1) (.bool M.2) ∧ Bx2 W g14 73 (.int .i64 V.1) (.bool V.2) ∧ W2.heap.size ≤ W.heap.size) W2.heap.size [] [Tag.any, Tag.any, Tag.old (w.heap.size + 1 + 1), Tag.old (w.heap.size + 1 + 1 + 1)] ⟨Good.is _, Good.is _, tag_bx2, tag_bx2, trivial⟩ (fun g0 hg => by simp at hg; omega)
  (fun W W1 hS hE => ⟨(Ext.trans hS.1 hE), (hS.2.1.ext hE), (hS.2.2.1.ext hE), (hS.2.2.2.1.ext hE), (hS.2.2.2.2.1.ext hE), (hS.2.2.2.2.2.1.ext hE), (hS.2.2.2.2.2.2.1.ext hE), (Nat.le_trans hS.2.2.2.2.2.2.2 (Ext.size hE))⟩) ⟨E0, p5, p7, fop10, fop11, p13, p14, Nat.le_refl _⟩ (fun m hm => by simp at hm) (by kernel_rfl) (by kernel_rfl) (by kernel_rfl) (by kernel_rfl) (A := ?A3) ?hA3 ?howe3 ?hfin3
 case hA3 =>
  intro vs
  simp only [putAll, Act.put, sA, sZ, sS, Nat.zero_add]
  exact rfl
 case howe3 =>
  clear E0 p5 p7 fop10 fop11 p13 p14
  intro hf
  refine ⟨owesM 0 [] hf rfl rfl (by kernel_rfl) ?_, owesM 1 [] hf rfl rfl (by kernel_rfl) ?_, owesO 2 (w.heap.size + 1 + 1) [0] hf rfl (by omega) ⟨.inr trivial, .inr trivial, .inl rfl, .inr (by omega), trivial⟩ rfl (by kernel_rfl) ?_, owesO 3 (w.heap.size + 1 + 1 + 1) [1] hf rfl (by omega) ⟨.inr trivial, .inr trivial, .inr (by omega), .inl rfl, trivial⟩ rfl (by kernel_rfl) ?_, trivial⟩
  all_goals intro vs W hS hp hx KO hKO
  all_goals simp only [Act.put, sA, sZ, sS] at hKO
  ·have fc0 := hS.2.2.2.2.2.1.cell0; have fc1 := hS.2.2.2.2.2.1.cell1; go_simp; exact hKO _ W (.refl W) rfl
  ·have fc0 := hS.2.2.2.2.2.2.1.cell0; have fc1 := hS.2.2.2.2.2.2.1.cell1; go_simp; exact hKO _ W (.refl W) rfl
  ·have e0 := isOf hp.1; simp only [e0] at hKO
   have hfo := hS.2.2.2.1
   obtain ⟨x0, x1, c0, c1, hfz, W2, hW2, hw, hq⟩ := hfo.put2 (.int .i64 M.1) (.bool M.2) (noU_num _ _)
   have z0 := hfz 0
   have z1 := hfz 1
   clear hfo; go_simp
   rw [← hW2]
   exact hKO _ hw ⟨(Ext.wr hS.1 hw (by omega)), (hS.2.1.wr hw (by omega)), (hS.2.2.1.wr hw (by omega)), (hS.2.2.2.1.wr hw), (hS.2.2.2.2.1.wr hw), (hS.2.2.2.2.2.1.wr hw (by omega)), (hS.2.2.2.2.2.2.1.wr hw (by omega)), (Nat.le_trans hS.2.2.2.2.2.2.2 hw.apart.size)⟩ hq
  ·have e1 := isOf hp.1; simp only [e1] at hKO
   have hfo := hS.2.2.2.2.1
   obtain ⟨x0, x1, c0, c1, hfz, W2, hW2, hw, hq⟩ := hfo.put2 (.int .i64 V.1) (.bool V.2) (noU_num _ _)
   have z0 := hfz 0
   have z1 := hfz 1
   clear hfo; go_simp
   rw [← hW2]
   exact hKO _ hw ⟨(Ext.wr hS.1 hw (by omega)), (hS.2.1.wr hw (by omega)), (hS.2.2.1.wr hw (by omega)), (hS.2.2.2.1.wr hw), (hS.2.2.2.2.1.wr hw), (hS.2.2.2.2.2.1.wr hw (by omega)), (hS.2.2.2.2.2.2.1.wr hw (by omega)), (Nat.le_trans hS.2.2.2.2.2.2.2 hw.apart.size)⟩ hq
 intro vs W3 hS hM hp
 clear szw3 E0 p5 p7 fop10 fop11 p13 p14
 obtain ⟨E0, p5, p7, fop10, fop11, p13, p14, sz3⟩ := hS
 obtain ⟨h3_0, h3_1, h3_2, h3_3, -⟩ := hp
 have hh := h3_2
 have p10 : Bx2 W3 (w.heap.size + 1 + 1) 73 (.int .i64 M.1) (.bool M.2) := hh
 clear fop10
 have hh := h3_3
 have p11 : Bx2 W3 (w.heap.size + 1 + 1 + 1) 73 (.int .i64 V.1) (.bool V.2) := hh
 clear fop11
 clear hM
 simp only [isOf h3_0, isOf h3_1]
 clear h3_0 h3_1 h3_2 h3_3; clear sHB2_p5 sHB2_p7 sHB2_p10 sHB2_p11 sHG13 sHB3_p5 sHB3_p7 sHB3_p10 sHB3_p11 sHB3_p13 sHG14 sHO4_p10 sHO4_p11
 obtain ⟨k5a, k5b, k5c, k5d, k5e, k5f⟩ := p5.c6
 obtain ⟨k7a, k7b⟩ := p7.c2
 obtain ⟨k13a, k13b⟩ := p13.c2
 obtain ⟨k14a, k14b⟩ := p14.c2
 obtain ⟨k10a, k10b⟩ := p10.c2
 obtain ⟨k11a, k11b⟩ := p11.c2
 go_wp2
 exact bodyPost_ret (v := .tuple #[.agg #[.int .i64 M.1, .bool M.2], .agg #[.int .i64 V.1, .bool V.2]]) (by simp [results, Tryz.results71, go_sem, k10a, k10b, k11a, k11b]) rfl ⟨rfl, E0⟩

set_option maxRecDepth 100000 in
set_option maxHeartbeats 8000000 in
theorem Tryz.refPowers18 (lr b1 b2 eps wd p0 p1 : Int) (ap : Bool) (K : Nat) (hK : K ≤ 40) {X Y : NumP} (w : World) (hX : mulP K (p0, true) (b1, true) = X) (hY : mulP K (p1, true) (b2, true) = Y) (q0 : I64 p0) (q1 : I64 p1) (h1 : I64 b1) (h2 : I64 b2) :
  Calls Tryz.prog 15 #[.agg #[.int .i64 lr, .int .i64 b1, .int .i64 b2, .int .i64 eps, .int .i64 wd, .bool ap], .int .i64 (K : Int), .agg #[.int .i64 p0, .int .i64 p1]] w fun e w' => e = .returned (.agg #[.int .i64 X.1, .int .i64 Y.1]) ∧ Ext w w' := by
 have HK := Lib.hid hK
 have HX := Lib.hid hX
 have HY := Lib.hid hY
 have HI := Lib.hid (And.intro (And.intro q0 q1) (And.intro h1 h2))
 clear hK hX hY q0 q1 h1 h2
 obtain ⟨W0, hW0, E0, p3, p5, p6⟩ := boxed3 w 23 #[.int .i64 lr, .int .i64 b1, .int .i64 b2, .int .i64 eps, .int .i64 wd, .bool ap] 24 #[.int .i64 p0, .int .i64 p1] 24 #[.int .i64 0, .int .i64 0]
 replace p5 := p5.b2
 replace p6 := p6.b2
 go_enter Tryz.func15, Tryz.ntmps15
 obtain ⟨k3a, k3b, k3c, k3d, k3e, k3f⟩ := p3.c6
 obtain ⟨k5a, k5b⟩ := p5.c2
 obtain ⟨k6a, k6b⟩ := p6.c2
 go_upto_region 1 with (fail)
 rw [← hW0]
 clear hW0; clear k3a k3b k3c k3d k3e k3f k5a k5b k6a k6b
 have HB1_p3 := Lib.hid p3.lt
 have HB1_p5 := Lib.hid p5.lt
 have HB1_p6 := Lib.hid p6.lt
 have sHB1_p3 := HB1_p3.out
 have sHB1_p5 := HB1_p5.out
 have sHB1_p6 := HB1_p6.out
 have ltp3 := p3.lt; have ltp5 := p5.lt; have ltp6 := p6.lt; have szw4 := Ext.size E0
 refine region_gk2 [isV (.pointer (some ⟨w.heap.size + 1, 0, none⟩)), isV (.int .i64 p0), isV (.agg #[.int .i64 p0, .bool true]), isV (.pointer (some ⟨w.heap.size, 1, none⟩)), isV (.int .i64 b1), isV (.agg #[.int .i64 b1, .bool true]), isV (.int .i64 (K : Int)), isV (.agg #[.int .i64 X.1, .bool X.2]),
   .one fun v W => ∃ g, v = .pointer (some ⟨g, 0, none⟩) ∧ W0.heap.size ≤ g ∧ Form W g 73 2,
   .two 8 (fun p _ W => NewA W0.heap.size 73 #[.int .i64 X.1, .bool X.2] p W)] W0.heap.size [8] [Tag.any, Tag.any, Tag.any, Tag.any, Tag.any, Tag.any, Tag.any, Tag.any, Tag.any, Tag.new 8] ⟨Good.is _, Good.is _, Good.is _, Good.is _, Good.is _, Good.is _, Good.is _, Good.is _, Good.box _ _ _, tag_newA, trivial⟩ (fun g0 hg => by simp at hg) (E0.s.k (p3.s.k (p5.s.k (p6.s)))) (fun m hm => by simp at hm; subst hm; rfl) (A := ?A4) ?hA4 ?howe4 ?hfin4
 case hA4 =>
  intro vs
  simp only [putAll, Act.put, sA, sZ, sS, Nat.zero_add, Nat.reduceAdd]
  exact rfl
 case howe4 =>
  clear E0 p3 p5 p6
  intro hf
  refine ⟨oM0 0 [] hf rfl rfl, owesM 1 [0] hf rfl rfl (by kernel_rfl) ?_, owesM 2 [1] hf rfl rfl (by kernel_rfl) ?_, oM0 3 [] hf rfl rfl, owesM 4 [3] hf rfl rfl (by kernel_rfl) ?_, owesM 5 [4] hf rfl rfl (by kernel_rfl) ?_, oM0 6 [] hf rfl rfl, owesM 7 [2, 5, 6] hf rfl rfl (by kernel_rfl) ?_, owesN 8 [] hf rfl (by kernel_rfl) ?_, owesP 9 8 [8, 7] hf rfl rfl (by kernel_rfl) rfl (by kernel_rfl) ?_, trivial⟩
  all_goals intro vs W hS hp hx KO hKO
  all_goals simp only [Act.put, sA, sZ, sS] at hKO
  ·have e0 := isOf hp.1; simp only [e0] at hKO; have fc0 := hS.1.2.2.1.cell0; go_simp; exact hKO _ W (.refl W) rfl
  ·have e1 := isOf hp.1; simp only [e1] at hKO; go_simp
   refine (Tryz.refOf17 p0 _).mono ?_
   rintro e W1 ⟨rfl, hE⟩
   exact hKO _ W1 hE rfl
  ·have e3 := isOf hp.1; simp only [e3] at hKO; have fc1 := BxA.cell (hS.1.2.1) 1 (v := .int .i64 b1) rfl; go_simp; exact hKO _ W (.refl W) rfl
  ·have e4 := isOf hp.1; simp only [e4] at hKO; go_simp
   refine (Tryz.refOf17 b1 _).mono ?_
   rintro e W1 ⟨rfl, hE⟩
   exact hKO _ W1 hE rfl
  ·have e2 := isOf hp.1; have e5 := isOf hp.2.1; have e6 := isOf hp.2.2.1; simp only [e2, e5, e6] at hKO; go_simp
   refine (Tryz.refMul17 K HK.out p0 b1 true true HX.out _ HI.out.1.1 HI.out.2.1).mono ?_
   rintro e W1 ⟨rfl, hE⟩
   exact hKO _ W1 hE rfl
  ·have hn := BxA.new W 73 #[.int .i64 0, .bool false]
   have hsz := hS.2
   go_simp
   exact hKO _ _ rfl ⟨_, rfl, hsz, ⟨_, hn, (noU_num _ _), rfl⟩⟩
  ·have q8 := hp.1; have e7 := isOf hp.2.1; simp only [e7] at hKO
   obtain ⟨g, ev, hg, hfo⟩ := q8
   replace ev : vs 8 = _ := ev
   obtain ⟨x0, x1, c0, c1, hfz, W2, hW2, hw, hq⟩ := hfo.put2 (.int .i64 X.1) (.bool X.2) (noU_num _ _)
   have z0 := hfz 0
   have z1 := hfz 1
   simp only [ev] at hKO; go_simp
   rw [← hW2]
   exact hKO _ g rfl hg hw ⟨⟨(Ext.wr hS.1.1 hw (by omega)), (hS.1.2.1.wr hw (by omega)), (hS.1.2.2.1.wr hw (by omega)), (hS.1.2.2.2.wr hw (by omega))⟩, (Nat.le_trans hS.2 hw.apart.size)⟩ ⟨g, ev, hg, hq⟩
 intro vs W4 hS hM hp
 clear szw4 E0 p3 p5 p6
 obtain ⟨⟨E0, p3, p5, p6⟩, sz4⟩ := hS
 obtain ⟨h4_0, h4_1, h4_2, h4_3, h4_4, h4_5, h4_6, h4_7, h4_8, h4_9, -⟩ := hp
 skip
 have hh := h4_9
 obtain ⟨g7, ev7, hg7, p7⟩ := hh
 replace ev7 : vs 8 = _ := ev7
 replace p7 : Bx2 W4 g7 73 (.int .i64 X.1) (.bool X.2) := p7
 clear hM
 simp only [ev7, isOf h4_0, isOf h4_1, isOf h4_2, isOf h4_3, isOf h4_4, isOf h4_5, isOf h4_6, isOf h4_7]
 clear ev7 h4_0 h4_1 h4_2 h4_3 h4_4 h4_5 h4_6 h4_7 h4_8 h4_9; clear sHB1_p3 sHB1_p5 sHB1_p6
 have HG7 := Lib.hid hg7
 clear hg7
 obtain ⟨k3a, k3b, k3c, k3d, k3e, k3f⟩ := p3.c6
 obtain ⟨k5a, k5b⟩ := p5.c2
 obtain ⟨k6a, k6b⟩ := p6.c2
 obtain ⟨k7a, k7b⟩ := p7.c2
 go_upto_region 2 with (fail)
 clear k3a k3b k3c k3d k3e k3f k5a k5b k6a k6b k7a k7b
 have HB2_p3 := Lib.hid p3.lt
 have HB2_p5 := Lib.hid p5.lt
 have HB2_p6 := Lib.hid p6.lt
 have HB2_p7 := Lib.hid p7.lt
 have sHB1_p3 := HB1_p3.out
 have sHB1_p5 := HB1_p5.out
 have sHB1_p6 := HB1_p6.out
 have sHG7 := HG7.out
 have sHB2_p3 := HB2_p3.out
 have sHB2_p5 := HB2_p5.out
 have sHB2_p6 := HB2_p6.out
 have sHB2_p7 := HB2_p7.out
 have ltp7 := p7.lt; have szw5 := Ext.size E0
 refine region_gk2 [isV (.pointer (some ⟨w.heap.size + 1, 1, none⟩)), isV (.int .i64 p1), isV (.agg #[.int .i64 p1, .bool true]), isV (.pointer (some ⟨w.heap.size, 2, none⟩)), isV (.int .i64 b2), isV (.agg #[.int .i64 b2, .bool true]), isV (.int .i64 (K : Int)), isV (.agg #[.int .i64 Y.1, .bool Y.2]),
   .one fun v W => ∃ g, v = .pointer (some ⟨g, 0, none⟩) ∧ W4.heap.size ≤ g ∧ Form W g 73 2,
   .two 8 (fun p _ W => NewA W4.heap.size 73 #[.int .i64 Y.1, .bool Y.2] p W)] W4.heap.size [8] [Tag.any, Tag.any, Tag.any, Tag.any, Tag.any, Tag.any, Tag.any, Tag.any, Tag.any, Tag.new 8] ⟨Good.is _, Good.is _, Good.is _, Good.is _, Good.is _, Good.is _, Good.is _, Good.is _, Good.box _ _ _, tag_newA, trivial⟩ (fun g0 hg => by simp at hg) (E0.s.k (p3.s.k (p5.s.k (p6.s.k (p7.s))))) (fun m hm => by simp at hm; subst hm; rfl) (A := ?A5) ?hA5 ?howe5 ?hfin5
 case hA5 =>
  intro vs
  simp only [putAll, Act.put, sA, sZ, sS, Nat.zero_add, Nat.reduceAdd]
  exact rfl
 case howe5 =>
  clear E0 p3 p5 p6 p7
  intro hf
  refine ⟨oM0 0 [] hf rfl rfl, owesM 1 [0] hf rfl rfl (by kernel_rfl) ?_, owesM 2 [1] hf rfl rfl (by kernel_rfl) ?_, oM0 3 [] hf rfl rfl, owesM 4 [3] hf rfl rfl (by kernel_rfl) ?_, owesM 5 [4] hf rfl rfl (by kernel_rfl) ?_, oM0 6 [] hf rfl rfl, owesM 7 [2, 5, 6] hf rfl rfl (by kernel_rfl) ?_, owesN 8 [] hf rfl (by kernel_rfl) ?_, owesP 9 8 [8, 7] hf rfl rfl (by kernel_rfl) rfl (by kernel_rfl) ?_, trivial⟩
  all_goals intro vs W hS hp hx KO hKO
  all_goals simp only [Act.put, sA, sZ, sS] at hKO
  ·have e0 := isOf hp.1; simp only [e0] at hKO; have fc1 := hS.1.2.2.1.cell1; go_simp; exact hKO _ W (.refl W) rfl
  ·have e1 := isOf hp.1; simp only [e1] at hKO; go_simp
   refine (Tryz.refOf17 p1 _).mono ?_
   rintro e W1 ⟨rfl, hE⟩
   exact hKO _ W1 hE rfl
  ·have e3 := isOf hp.1; simp only [e3] at hKO; have fc2 := BxA.cell (hS.1.2.1) 2 (v := .int .i64 b2) rfl; go_simp; exact hKO _ W (.refl W) rfl
  ·have e4 := isOf hp.1; simp only [e4] at hKO; go_simp
   refine (Tryz.refOf17 b2 _).mono ?_
   rintro e W1 ⟨rfl, hE⟩
   exact hKO _ W1 hE rfl
  ·have e2 := isOf hp.1; have e5 := isOf hp.2.1; have e6 := isOf hp.2.2.1; simp only [e2, e5, e6] at hKO; go_simp
   refine (Tryz.refMul17 K HK.out p1 b2 true true HY.out _ HI.out.1.2 HI.out.2.2).mono ?_
   rintro e W1 ⟨rfl, hE⟩
   exact hKO _ W1 hE rfl
  ·have hn := BxA.new W 73 #[.int .i64 0, .bool false]
   have hsz := hS.2
   go_simp
   exact hKO _ _ rfl ⟨_, rfl, hsz, ⟨_, hn, (noU_num _ _), rfl⟩⟩
  ·have q8 := hp.1; have e7 := isOf hp.2.1; simp only [e7] at hKO
   obtain ⟨g, ev, hg, hfo⟩ := q8
   replace ev : vs 8 = _ := ev
   obtain ⟨x0, x1, c0, c1, hfz, W2, hW2, hw, hq⟩ := hfo.put2 (.int .i64 Y.1) (.bool Y.2) (noU_num _ _)
   have z0 := hfz 0
   have z1 := hfz 1
   simp only [ev] at hKO; go_simp
   rw [← hW2]
   exact hKO _ g rfl hg hw ⟨⟨(Ext.wr hS.1.1 hw (by omega)), (hS.1.2.1.wr hw (by omega)), (hS.1.2.2.1.wr hw (by omega)), (hS.1.2.2.2.1.wr hw (by omega)), (hS.1.2.2.2.2.wr hw (by omega))⟩, (Nat.le_trans hS.2 hw.apart.size)⟩ ⟨g, ev, hg, hq⟩
 intro vs W5 hS hM hp
 clear szw5 E0 p3 p5 p6 p7
 obtain ⟨⟨E0, p3, p5, p6, p7⟩, sz5⟩ := hS
 obtain ⟨h5_0, h5_1, h5_2, h5_3, h5_4, h5_5, h5_6, h5_7, h5_8, h5_9, -⟩ := hp
 skip
 have hh := h5_9
 obtain ⟨g8, ev8, hg8, p8⟩ := hh
 replace ev8 : vs 8 = _ := ev8
 replace p8 : Bx2 W5 g8 73 (.int .i64 Y.1) (.bool Y.2) := p8
 clear hM
 simp only [ev8, isOf h5_0, isOf h5_1, isOf h5_2, isOf h5_3, isOf h5_4, isOf h5_5, isOf h5_6, isOf h5_7]
 clear ev8 h5_0 h5_1 h5_2 h5_3 h5_4 h5_5 h5_6 h5_7 h5_8 h5_9; clear sHB1_p3 sHB1_p5 sHB1_p6 sHG7 sHB2_p3 sHB2_p5 sHB2_p6 sHB2_p7
 have HG8 := Lib.hid hg8
 clear hg8
 have r6 : RowI W5 (w.heap.size + 1 + 1) 24 [0, 0] := p6
 have z60 := r6.froz 0
 have z61 := r6.froz 1
 obtain ⟨k3a, k3b, k3c, k3d, k3e, k3f⟩ := p3.c6
 obtain ⟨k5a, k5b⟩ := p5.c2
 obtain ⟨k6a, k6b⟩ := p6.c2
 obtain ⟨k7a, k7b⟩ := p7.c2
 obtain ⟨k8a, k8b⟩ := p8.c2
 go_wp2; clear k3a k3b k3c k3d k3e k3f k5a k5b k6a k6b k7a k7b k8a k8b
 have hw1 := Wr.row r6 0 X.1
 have r7 := r6.set 0 X.1
 have hw2 := Wr.row r7 1 Y.1
 have r8 := r7.set 1 Y.1
 have k80 := BxA.cell r8 0 (v := .int .i64 X.1) rfl
 have k81 := BxA.cell r8 1 (v := .int .i64 Y.1) rfl
 exact bodyPost_ret (v := .agg #[.int .i64 X.1, .int .i64 Y.1]) (by simp [results, Tryz.results15, go_sem, k80, k81]) rfl ⟨rfl, Ext.wr (Ext.wr E0 hw1 (by omega)) hw2 (by omega)⟩


end Go.Rt
