/-
  div.Shr: a range over the limbs from above, which writes them.
-/
import Derived.Test.YtbfojmhigfeahaaDivB
import Derived.Test.YtbfojmhigfeahaaMathC
import Derived.Test.YtbfojmhigfeahaaBack
import Derived.Test.YtbfojmhigfeahaaTail
namespace Go.Rt
open Go.RowKit Go.Shelf Go.Proofs
attribute [local go_sem] Oper.semAt_some

theorem w_shr_or {x y b : Nat} (hb : b ≤ 64) (hs : y * 2 ^ (64 - b) % B64 = (y % 2 ^ b) * 2 ^ (64 - b)) (hx : x / 2 ^ b < 2 ^ (64 - b)) :
    bits .or .u64 ((x / 2 ^ b : Nat) : Int) ((y * 2 ^ (64 - b) % B64 : Nat) : Int) = ((x / 2 ^ b + y * 2 ^ (64 - b) % B64 : Nat) : Int) := by
  have h1 : y * 2 ^ (64 - b) % B64 < B64 := Nat.mod_lt _ B64_pos
  have h2 : x / 2 ^ b < B64 := Nat.lt_of_lt_of_le hx (by rw [B64_two]; exact Nat.pow_le_pow_right (by omega) (by omega))
  rw [bits_or_u64_nat _ _ (by rw [B64_eq] at h2; exact h2) (by rw [B64_eq] at h1; exact h1), hs]
  have := Nat.shiftLeft_add_eq_or_of_lt hx (y % 2 ^ b)
  rw [Nat.shiftLeft_eq] at this
  rw [Nat.or_comm, ← this, Nat.add_comm]

theorem box_off {W : World} {B : Nat} {t : TypeId} {v : Value} (h : Boxed W B t v) {p : Addr} (hne : p.block ≠ B) (u : Value) : Boxed (W.setCell p u) B t v :=
  (Below.heap_setCell W p u B (Ne.symm hne)).trans h

theorem box_drew {W : World} {B : Nat} {t : TypeId} {v : Value} (h : Boxed W B t v) : Boxed W.drew B t v := h
theorem own_drew {w : World} {base e : Nat} {v : Value} {xs : List Nat} (h : Own w base e v xs) : Own w.drew base e v xs := h.ext (Ext.drew1 w)

theorem lim_of_getD {b : Nat} {xs : List Nat} (h : ∀ i, i < xs.length → xs.getD i 0 < b) : Lim b xs := fun x hx => by
  obtain ⟨i, hi, rfl⟩ := List.mem_iff_getElem.1 hx
  have := h i hi
  rwa [List.getD_eq_getElem?_getD, List.getElem?_eq_getElem hi] at this

theorem Nw.putObj {w : World} {v : Value} {N : Nat} (h : Nw w v N) {D : Nat} {o o' : Obj} (hD : w.heap[D]? = some o) (hc : o.isCells = false) : Nw (w.putObj D o') v N := by
  obtain ⟨xs, ⟨a, b, o, cap, rfl, hs, hl⟩, hn⟩ := h
  exact ⟨xs, ⟨a, b, o, cap, rfl, ⟨hs.1, hs.2.1, hs.2.2.1, fun i hi => putObj_cell hD hc (hs.2.2.2 i hi)⟩, hl⟩, hn⟩

theorem fold2 (t : Array Value) (p q : Nat) (x y : Value) : ((#[p, q] : Array Nat).zip #[x, y]).foldl (fun t (p, v) => t.setIfInBounds p v) t = (t.setIfInBounds p x).setIfInBounds q y := by
  have : ((#[p, q] : Array Nat).zip #[x, y]) = #[(p, x), (q, y)] := by simp
  rw [this]; simp

/-- the row while it is shifted: k rounds are over -/
def shrI (w : World) (B0 : Nat) (tN tI tU : TypeId) (vo : Value) (b : Nat) (ys : List Nat) (k : Nat) (W : World) : Prop :=
  Ext w W ∧ Boxed W B0 tN vo ∧ Boxed W (B0 + 1) tI (.int .i64 (b : Int)) ∧ Boxed W (B0 + 1 + 1 + 1) tN vo ∧
  ∃ l : List Nat, Boxed W (B0 + 1 + 1) tU (.int .u64 ((ys.getD (ys.length - k) 0 * 2 ^ (64 - b) % B64 : Nat) : Int)) ∧ Own W w.heap.size tU vo l ∧ Hid (l.length = ys.length) ∧
    Hid (∀ j, l.getD j 0 = if j < ys.length - k then ys.getD j 0 else shrL ys b j)
def shrX (_ : Code) (_ : Nat) (_ : World) : Prop := False

theorem shrI_own {w : World} {B0 : Nat} {tN tI tU : TypeId} {vo : Value} {b : Nat} {ys : List Nat} (B : Nat) (hBB : w.heap.size ≤ B) (k : Nat) : Turns B (shrI w B0 tN tI tU vo b ys k) :=
  (Turns.ext hBB).and ((Turns.box _ _ _ _).and ((Turns.box _ _ _ _).and ((Turns.box _ _ _ _).and (Turns.ex fun _ => (Turns.box _ _ _ _).and (Turns.own.and (Turns.pure _ _))))))

set_option maxRecDepth 100000 in
set_option maxHeartbeats 2000000 in
theorem Try.divShr {v : Value} {N L : Nat} {w : World} (h : Nw w v N) (s : Sm L N) (hL : L ≤ 1000000) (n : Int) :
    Calls Try.prog 100 #[v, .int .i64 n] w fun e w' => ∃ v', e = .returned (.tuple #[v', .int .i64 (shE n)]) ∧ Nw w' v' (shrV N n) ∧ Ext w w' ∧ Fr w v' := by
  by_cases hr : n < 0 ∨ 20000 < n
  · have H1 : Hid (shE n = 1) := Lib.hid (if_pos hr)
    have H2 : Hid (shrV N n = 0) := Lib.hid (if_pos hr)
    refine (callsIn_wide (n := 10)).1 ?_
    refine callsIn_of_wp_marks Try.func100 rfl trivial ?_ rfl
    simp only [Try.ntmps100, List.size_toArray, List.length_cons, List.length_nil, Nat.reduceAdd, Nat.reduceSub, Array.replicate_succ, Array.replicate_zero, List.push_toArray, List.append_toArray, List.nil_append, List.cons_append]
    rcases hr with hr | hr
    · gi_wp2
      exact ⟨_, results_tmp2 rfl _ _ _, _, by rw [H1.out]; rfl, by rw [H2.out]; exact Nw.nil _, Ext.refl _, Fr.nil _⟩
    · have hr0 : ¬ n < 0 := by omega
      gi_wp2
      exact ⟨_, results_tmp2 rfl _ _ _, _, by rw [H1.out]; rfl, by rw [H2.out]; exact Nw.nil _, Ext.refl _, Fr.nil _⟩
  · have H1 : Hid (shE n = 0) := Lib.hid (if_neg hr)
    have H2 : Hid (shrV N n = N / 2 ^ n.toNat) := Lib.hid (if_neg hr)
    have hr0 : ¬ n < 0 := by omega
    have hr1 : ¬ 20000 < n := by omega
    obtain ⟨q, rfl⟩ := Int.eq_ofNat_of_zero_le (show 0 ≤ n by omega)
    have hq : q ≤ 20000 := by omega
    have hq0 : 0 ≤ (q : Int) := by omega
    clear hr
    refine (callsIn_wide (n := 10)).1 ?_
    refine callsIn_of_wp_marks Try.func100 rfl trivial ?_ rfl
    simp only [Try.ntmps100, List.size_toArray, List.length_cons, List.length_nil, Nat.reduceAdd, Nat.reduceSub, Array.replicate_succ, Array.replicate_zero, List.push_toArray, List.append_toArray, List.nil_append, List.cons_append]
    obtain ⟨xs, ⟨a, b, o, cap, rfl, hs, hl⟩, hn, rfl, l1⟩ := h.lens s
    clear h s hn
    have hmx := hs.max
    have hle := hs.le
    by_cases hlen : xs.length ≤ q / 64
    · have hz : ev B64 xs / 2 ^ q = 0 := by
        apply Nat.div_eq_of_lt
        refine Nat.lt_of_lt_of_le (ev_lt hl) ?_
        rw [pow64]
        exact Nat.pow_le_pow_right (by omega) (by omega)
      have HZ : Hid (shrV (ev B64 xs) (q : Int) = 0) := Lib.hid (by rw [H2.out]; exact hz)
      clear hz hs
      gi_wp2
      exact ⟨_, results_tmp2 rfl _ _ _, _, by rw [H1.out]; rfl, by rw [HZ.out]; exact Nw.nil _, Ext.refl _, Fr.nil _⟩
    · obtain rfl : a = some ⟨b, o, none⟩ := hs.addr (by omega)
      have hnt : Nt w (.slice (some ⟨b, o + q / 64, none⟩) (xs.length - q / 64) (cap - q / 64)) (xs.drop (q / 64)) := by
        refine ⟨_, b, o + q / 64, _, by rw [List.length_drop], ⟨.inl rfl, by rw [List.length_drop]; omega, by simp [maxLen]; omega, fun i hi => ?_⟩, hl.drop _⟩
        rw [List.length_drop] at hi
        rw [Nat.add_assoc, hs.cell (by omega)]
        simp [lg, List.getElem?_drop]
      have hyl : (xs.drop (q / 64)).length = xs.length - q / 64 := List.length_drop
      clear hs
      obtain ⟨ys, hys⟩ : ∃ ys, ys = xs.drop (q / 64) := ⟨_, rfl⟩
      have hly : Lim B64 ys := by rw [hys]; exact hl.drop _
      have HE : Hid (ev B64 ys = ev B64 xs / B64 ^ (q / 64)) := Lib.hid (by rw [hys]; exact ev_drop hl _ (by omega))
      rw [← hys] at hnt hyl
      have hy0 : 0 < ys.length := by omega
      have hyL : ys.length ≤ L := by omega
      have hyl1 : ys.length + q / 64 ≤ xs.length := by omega
      have hyl2 : xs.length ≤ ys.length + q / 64 := by omega
      clear hys hyl
      gi_wp2_with fail
      refine ⟨trivial, ?_⟩
      refine (callsIn_wide.2 (Try.clone hnt (by omega))).mono ?_
      rintro e w1 ⟨v1, rfl, hown1, hE1⟩
      obtain ⟨g, c1, rfl, hg, hgc, hgm⟩ := hown1.some hy0
      have hgm' : c1 ≤ 9223372036854775807 := hgm
      have hE1s := hE1.size
      have hgl : g < w1.heap.size := hown1.head.2
      clear hnt
      gi_wp2_with (refine ⟨trivial, ?_⟩; gi_at_call 87; refine (callsIn_wide.2 (Try.backward_ok _ _ _ _)).mono ?_; rintro e w' ⟨rfl, rfl⟩)
      obtain ⟨vo, hvo⟩ : ∃ vo, vo = Value.slice (some ⟨g, 0, none⟩) ys.length c1 := ⟨_, rfl⟩
      rw [← hvo] at hown1
      have hby : ((q : Int) % 64) = ((q % 64 : Nat) : Int) := rfl
      rw [hby, ← hvo]
      have hx0 : Ext w ((((w1.alloc (.cells #[vo] 23)).alloc (.cells #[.int .i64 ((q % 64 : Nat) : Int)] 3)).alloc (.cells #[.int .u64 0] 43)).alloc (.cells #[vo] 23)) := hE1.trans ((((Ext.alloc1 _ _).alloc _).alloc _).alloc _)
      have q0 := (((Boxed.new w1 23 vo).alloc (.cells #[.int .i64 ((q % 64 : Nat) : Int)] 3)).alloc (.cells #[.int .u64 0] 43)).alloc (.cells #[vo] 23)
      have q1 := ((Boxed.new (w1.alloc (.cells #[vo] 23)) 3 (.int .i64 ((q % 64 : Nat) : Int))).alloc (.cells #[.int .u64 0] 43)).alloc (.cells #[vo] 23)
      have q2 := (Boxed.new ((w1.alloc (.cells #[vo] 23)).alloc (.cells #[.int .i64 ((q % 64 : Nat) : Int)] 3)) 43 (.int .u64 0)).alloc (.cells #[vo] 23)
      have q3 := Boxed.new (((w1.alloc (.cells #[vo] 23)).alloc (.cells #[.int .i64 ((q % 64 : Nat) : Int)] 3)).alloc (.cells #[.int .u64 0] 43)) 23 vo
      simp only [World.size_alloc] at q1 q2 q3
      have hz0 : ys.getD ys.length 0 = 0 := by rw [List.getD_eq_getElem?_getD, List.getElem?_eq_none (Nat.le_refl _)]; rfl
      have hI0 : shrI w w1.heap.size 23 3 43 vo (q % 64) ys 0 ((((w1.alloc (.cells #[vo] 23)).alloc (.cells #[.int .i64 ((q % 64 : Nat) : Int)] 3)).alloc (.cells #[.int .u64 0] 43)).alloc (.cells #[vo] 23)) := by
        refine ⟨hx0, q0, q1, q3, ys, ?_, (((hown1.alloc _).alloc _).alloc _).alloc _, Lib.hid rfl, Lib.hid fun j => ?_⟩
        · rw [Nat.sub_zero, hz0]; simpa using q2
        · rw [Nat.sub_zero]
          split
          · rfl
          · rename_i hj
            have e1 : ys.getD j 0 = 0 := by rw [List.getD_eq_getElem?_getD, List.getElem?_eq_none (by omega)]; rfl
            have e2 : ys.getD (j + 1) 0 = 0 := by rw [List.getD_eq_getElem?_getD, List.getElem?_eq_none (by omega)]; rfl
            unfold shrL; rw [e1, e2]; simp
      refine wpIn_range (gf := 104) (lb := #[.pointer (some ⟨w1.heap.size + 1 + 1 + 1, 0, none⟩)]) rfl (enters_of Try.func104 (by kernel_rfl) rfl)
        (Try.backward_iter (w1.heap.size + 1 + 1 + 1) (some ⟨g, 0, none⟩) g 0 ys.length c1 (fun i => .int .u64 ((lg ys i : Nat) : Int)) hgc hgm' (fun _ => rfl)) (fun _ => rfl)
        (shrI w w1.heap.size 23 3 43 vo (q % 64) ys) shrX (fun k => shrI_own _ (by simp; omega) k) (fun _ _ => Turns.pure _ _)
        (fun k W o h => ⟨h.1.alloc o, h.2.1.alloc o, h.2.2.1.alloc o, h.2.2.2.1.alloc o, let ⟨l, p1, p2, p3⟩ := h.2.2.2.2; ⟨l, p1.alloc o, p2.alloc o, p3⟩⟩) (fun _ _ h => ⟨h.1.drew, h.2⟩)
        hI0 ?can ?round ?done ?stop
      case can =>
        rintro k W hk ⟨_, _, _, p3, l, _, p5, p6, p7⟩
        refine ⟨by rw [← hvo]; exact p3.cell, fun hlt => ⟨rfl, ?_⟩⟩
        rw [hvo] at p5
        rw [Nat.zero_add, p5.cellAt (by rw [p6.out]; omega)]
        have := p7.out (ys.length - 1 - k)
        rw [if_pos (by omega)] at this
        unfold lg
        rw [this]
      case round =>
        intro l k W hk _
        simp only [backVals]
        obtain ⟨j, hj⟩ : ∃ j : Nat, j = ys.length - 1 - k := ⟨_, rfl⟩
        rw [← hj]
        have HJ := Lib.hid hj; clear hj
        simp only [fold2, List.setIfInBounds_toArray, List.set_cons_succ, List.set_cons_zero]
        gi_wp2
        refine roundThen.mk ?_
        rintro W2 ⟨hE, p0, p1, p3, lo, p2, p5, p6, p7⟩
        have hj := HJ.out
        have hjn : j < ys.length := by omega
        have HVO := Lib.hid hvo
        subst hvo
        have hc6 := p0.cell
        have hc7 := p1.cell
        have hc8 := p2.cell
        have hf8 := p2.frozen
        have hco := p5.cellAt (i := j) (by rw [p6.out]; exact hjn)
        have hfo := p5.frozenAt j
        have hj0 : (0 : Int) ≤ (j : Int) := by omega
        have hjI : (j : Int) < (ys.length : Int) := by omega
        clear hj q0 q1 q2 q3 hI0 hx0 hown1 hby
        gi_wp2
        have hv : bits .or .u64 (((lg ys j : Nat) : Int) / 2 ^ ((q : Int) % 64).toNat) (((ys[ys.length - k]?.getD 0 : Nat) : Int) * 2 ^ (64 - q % 64) % ((B64 : Nat) : Int)) = ((shrL ys (q % 64) j : Nat) : Int) := by
          have hjk : ys.length - k = j + 1 := by have := HJ.out; omega
          obtain ⟨h1, h2, h3⟩ := shrL_fig hly (b := q % 64) (by omega) j
          have e1 : ((q : Int) % 64).toNat = q % 64 := by omega
          have e2 : (((ys.getD (j + 1) 0 : Nat) : Int) * 2 ^ (64 - q % 64) % ((B64 : Nat) : Int)) = ((ys.getD (j + 1) 0 * 2 ^ (64 - q % 64) % B64 : Nat) : Int) := by
            rw [Int.natCast_emod, Int.natCast_mul, Int.natCast_pow]; rfl
          rw [hjk, ← List.getD_eq_getElem?_getD, e1, w_shr, e2, h1]
          exact w_shr_or (by omega) h2 h3
        refine Go.Rt.wpIn_region_tail 8 (by kernel_rfl) (by kernel_rfl) (by kernel_rfl) ?_
        simp only [List.take_succ_cons, List.take_zero, List.drop_succ_cons, List.drop_zero]
        repeat still_step
        refine wpStill_nil ?_
        refine wpListIn_plain rfl fun K hK => ?_
        go_simp
        refine hK _ _ ?_
        clear hK K
        refine wpListIn_nil ?_
        obtain ⟨W3, hW3⟩ : ∃ W3, W3 = (W2.setCell ⟨g, j, none⟩ (.int .u64 ((shrL ys (q % 64) j : Nat) : Int))).drew := ⟨_, rfl⟩
        have x0 := box_drew (box_off (p := ⟨g, j, none⟩) p0 (by show g ≠ _; omega) (.int .u64 ((shrL ys (q % 64) j : Nat) : Int)))
        have x1 := box_drew (box_off (p := ⟨g, j, none⟩) p1 (by show g ≠ _; omega) (.int .u64 ((shrL ys (q % 64) j : Nat) : Int)))
        have x2 := box_drew (box_off (p := ⟨g, j, none⟩) p2 (by show g ≠ _; omega) (.int .u64 ((shrL ys (q % 64) j : Nat) : Int)))
        have x3 := box_drew (box_off (p := ⟨g, j, none⟩) p3 (by show g ≠ _; omega) (.int .u64 ((shrL ys (q % 64) j : Nat) : Int)))
        have x5 := own_drew (p5.stored j (shrL ys (q % 64) j) rfl)
        have xE : Ext w W3 := by rw [hW3]; exact (hE.setCell (p := ⟨g, j, none⟩) hg (.int .u64 ((shrL ys (q % 64) j : Nat) : Int))).drew
        have xK : KeepsFrom (w1.heap.size + 1 + 1 + 1 + 1) W2 W3 := by rw [hW3]; exact (KeepsFrom.setCell1 (w1.heap.size + 1 + 1 + 1 + 1) W2 ⟨g, j, none⟩ (.int .u64 ((shrL ys (q % 64) j : Nat) : Int))).trans (KeepsFrom.of_ext (Ext.drew1 _) _)
        rw [← hW3] at x0 x1 x2 x3 x5 ⊢
        clear hc6 hc7 hc8 hf8 hco hfo hW3 hv
        have hd7 := x1.cell
        have hd8 := x2.cell
        have hg8 := x2.frozen
        have he64 : IntKind.i64.wrap (64 - (q : Int) % 64) = ((64 - q % 64 : Nat) : Int) := by
          rw [IntKind.wrap_i64]; omega
        gi_wp2
        have hj := HJ.out
        refine ⟨?_, xE.setCell (by simp; omega) _, x0.other (by omega) _, x1.other (by omega) _, x3.other (by omega) _, lo.set j (shrL ys (q % 64) j), ?_, ?_, Lib.hid ?_, Lib.hid fun i => ?_⟩
        · simp only [World.size_alloc]
          exact xK.trans (KeepsFrom.setCell1 _ _ _ _)
        · have := x2.set (.int .u64 ((ys.getD j 0 * 2 ^ (64 - q % 64) % B64 : Nat) : Int))
          rw [show ys.length - (k + 1) = j from by omega, w_shl]
          exact this
        · exact x5.kept (grownBy_setCell' _ _ _) (.inr (by simp [Value.ownBlock]; omega))
        · rw [List.length_set]; exact p6.out
        · have h7 := p7.out
          have h6 := p6.out
          by_cases hij : i = j
          · subst hij
            rw [getD_set_eq (by omega), if_neg (by omega)]
          · rw [getD_set_ne hij, h7 i]
            by_cases hi : i < ys.length - k
            · rw [if_pos hi, if_pos (by omega)]
            · rw [if_neg hi, if_neg (by omega)]
      case done =>
        rintro D W hD ⟨hE, p0, p1, p3, lo, p2, p5, p6, p7⟩ hK
        have hcn := p0.cell
        have h7 := p7.out
        have h6 := p6.out
        have hlo : Lim B64 lo := by
          refine lim_of_getD fun i hi => ?_
          rw [h7 i, if_neg (by omega)]
          exact Nat.mod_lt _ B64_pos
        have hev : ev B64 lo = ev B64 xs / 2 ^ q := by
          refine ev_limbs (fun i hi => ?_) ?_
          · rw [h7 i, if_neg (by omega), shrL_eq hly (by omega), HE.out]
            have : B64 ^ (q / 64) * 2 ^ (q % 64) = 2 ^ q := by rw [pow64, ← Nat.pow_add]; congr 1; omega
            rw [Nat.div_div_eq_div_mul (ev B64 xs), this]
          · refine Nat.lt_of_le_of_lt ?_ (by rw [h6]; exact ev_lt hly)
            rw [HE.out]
            have : B64 ^ (q / 64) * 2 ^ (q % 64) = 2 ^ q := by rw [pow64, ← Nat.pow_add]; congr 1; omega
            rw [← this, ← Nat.div_div_eq_div_mul]
            exact Nat.div_le_self _ _
        have hnt2 := p5.nt hlo
        have hfr2 : Fr w vo := p5.fr
        have HEV := Lib.hid hev
        clear hev h7 h6 hI0 q0 q1 q2 q3
        subst hvo
        gi_wp2_with (refine ⟨trivial, ?_⟩; gi_at_call 92; refine (callsIn_wide.2 (Try.divBare hnt2)).mono ?_; rintro e w' ⟨v', rfl, hn3, rfl, hob⟩)
        rename_i vx heq
        obtain rfl : v' = vx := by cases heq; rfl
        have hE2 := hE.putObj (l := D) (by simp at hD; omega) (.deferred none)
        refine post_mark hK (results_tmp2 rfl _ _ _) ⟨_, by rw [H1.out]; rfl, ?_, hE2, ?_⟩
        · rw [H2.out, Int.toNat_natCast, ← HEV.out]
          exact hn3.putObj hK rfl
        · intro k hk
          exact hfr2 k (hob.symm.trans hk)
      case stop =>
        rintro D c k W hD hk hX
        exact hX.elim

end Go.Rt
