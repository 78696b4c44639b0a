/-
  nat.Cmp tells which number is greater.
-/
import Derived.Test.YtbfojmhigfeahaaCmp
namespace Go.Rt
open Go.RowKit Go.Shelf Go.Proofs
attribute [local go_sem] Oper.semAt_some

theorem cmpI_nat_lt {a b : Nat} (h : a < b) : cmpI (a : Int) (b : Int) = -1 := cmpI_lt (by omega)
theorem cmpI_nat_gt {a b : Nat} (h : b < a) : cmpI (a : Int) (b : Int) = 1 := cmpI_gt (by omega)
theorem cmpI_nat_eq {a b : Nat} (h : a = b) : cmpI (a : Int) (b : Int) = 0 := cmpI_eq (by omega)
/-- of two rows of figures of one length that are the same above place k, what they hold at k tells -/
theorem cmpI_at {xs ys : List Nat} (hx : Lim B64 xs) (hy : Lim B64 ys) (hl : xs.length = ys.length) (k : Nat) (hk : k < xs.length) (hd : xs.drop (k + 1) = ys.drop (k + 1)) (hne : lg xs k ≠ lg ys k) :
    cmpI (lg xs k) (lg ys k) = cmpI (ev B64 xs) (ev B64 ys) := by
  rcases Nat.lt_or_gt_of_ne hne with h | h
  · rw [cmpI_nat_lt h, cmpI_nat_lt (ev_lt_of_at hx hl k hk hd h)]
  · rw [cmpI_nat_gt h, cmpI_nat_gt (ev_lt_of_at hy hl.symm k (by omega) hd.symm h)]
theorem cmpI_len {xs ys : List Nat} (hx : Lim B64 xs) (hy : Lim B64 ys) (nx : Norm xs) (ny : Norm ys) (hne : xs.length ≠ ys.length) :
    cmpI (xs.length : Int) (ys.length : Int) = cmpI (ev B64 xs) (ev B64 ys) := by
  rcases Nat.lt_or_gt_of_ne hne with h | h
  · rw [cmpI_nat_lt h, cmpI_nat_lt (ev_lt_of_len B64_pos hx ny h)]
  · rw [cmpI_nat_gt h, cmpI_nat_gt (ev_lt_of_len B64_pos hy nx h)]

def natCmpI (w : World) (tN tI : TypeId) (va vb : Value) (xs ys : List Nat) (k : Nat) (W : World) : Prop :=
  Ext w W ∧ Boxed W w.heap.size tN vb ∧ Boxed W (w.heap.size + 1) tI (.int .i64 0) ∧ Boxed W (w.heap.size + 1 + 1) tN va ∧ Hid (xs.drop (xs.length - k) = ys.drop (xs.length - k))
def natCmpX (w : World) (tI : TypeId) (r : Int) (c : Code) (_ : Nat) (W : World) : Prop := c = .ret ∧ Ext w W ∧ Boxed W (w.heap.size + 1) tI (.int .i64 r)

set_option maxHeartbeats 1000000 in
theorem Try.natCmp {v1 v2 : Value} {N M : Nat} {w : World} (h1 : Nw w v1 N) (h2 : Nw w v2 M) :
    Calls Try.prog 62 #[v1, v2] w fun e w' => e = .returned (.int .i64 (cmpI N M)) ∧ Ext w w' := by
  obtain ⟨xs, ⟨a1, b1, o1, c1, rfl, hs1, hl1⟩, hn1, rfl⟩ := h1
  obtain ⟨ys, ⟨a2, b2, o2, c2, rfl, hs2, hl2⟩, hn2, rfl⟩ := h2
  refine (callsIn_wide (n := 10)).1 ?_
  refine callsIn_of_wp_marks Try.func62 rfl trivial ?_ rfl
  simp only [Try.ntmps62, List.size_toArray, List.length_cons, List.length_nil, Nat.reduceAdd, Nat.reduceSub, Array.replicate_succ, Array.replicate_zero, List.push_toArray, List.append_toArray, List.nil_append, List.cons_append]
  by_cases hlen : xs.length = ys.length
  · have hz : (cmpI (xs.length : Int) (ys.length : Int) != 0) = false := by rw [cmpI_nat_eq hlen]; rfl
    have HL := Lib.hid hlen; clear hlen
    gi_wp2_with (first
      | (refine ⟨trivial, ?_⟩; gi_at_call 86; refine (callsIn_wide.2 (Try.compareI _ _ _)).mono ?_; rintro e w' ⟨rfl, rfl⟩)
      | (refine ⟨trivial, ?_⟩; gi_at_call 87; refine (callsIn_wide.2 (Try.backward_ok _ _ _ _)).mono ?_; rintro e w' ⟨rfl, rfl⟩))
    have hx0 : Ext w (((w.alloc (.cells #[.slice a2 ys.length c2] 23)).alloc (.cells #[.int .i64 0] 3)).alloc (.cells #[.slice a1 xs.length c1] 23)) := ((Ext.alloc1 _ _).alloc _).alloc _
    have q0 := Boxed.new w 23 (.slice a2 ys.length c2)
    have q1 := Boxed.new (w.alloc (.cells #[.slice a2 ys.length c2] 23)) 3 (.int .i64 0)
    have q2 := Boxed.new ((w.alloc (.cells #[.slice a2 ys.length c2] 23)).alloc (.cells #[.int .i64 0] 3)) 23 (.slice a1 xs.length c1)
    replace q0 := (q0.alloc (.cells #[.int .i64 0] 3)).alloc (.cells #[.slice a1 xs.length c1] 23)
    replace q1 := q1.alloc (.cells #[.slice a1 xs.length c1] 23)
    simp only [World.size_alloc] at q1 q2
    have hk1 : ∀ j, xs.length ≤ j → xs.drop j = ys.drop j := fun j hj => by rw [List.drop_eq_nil_of_le hj, List.drop_eq_nil_of_le (by rw [← HL.out]; exact hj)]
    have hlt1 : w.heap.size + 1 + 1 = w.heap.size + 2 := rfl
    refine wpIn_range (gf := 104) (lb := #[.pointer (some ⟨w.heap.size + 1 + 1, 0, none⟩)]) rfl (enters_of Try.func104 (by kernel_rfl) rfl)
      (Try.backward_iter (w.heap.size + 1 + 1) a1 b1 o1 xs.length c1 (fun i => .int .u64 ((lg xs i : Nat) : Int)) hs1.le hs1.max (fun _ => rfl)) (fun _ => rfl)
      (natCmpI w 23 3 (.slice a1 xs.length c1) (.slice a2 ys.length c2) xs ys) (natCmpX w 3 (cmpI (ev B64 xs) (ev B64 ys)))
      (fun k => (Turns.ext (by simp; omega)).and ((Turns.box _ _ _ _).and ((Turns.box _ _ _ _).and ((Turns.box _ _ _ _).and (Turns.pure _ _)))))
      (fun c k => (Turns.pure _ _).and ((Turns.ext (by simp; omega)).and (Turns.box _ _ _ _)))
      (fun k W o h => ⟨h.1.alloc o, h.2.1.alloc o, h.2.2.1.alloc o, h.2.2.2.1.alloc o, h.2.2.2.2⟩) (fun _ _ h => ⟨h.1.drew, h.2⟩)
      ⟨hx0, q0, q1, q2, Lib.hid (hk1 _ (Nat.le_refl _))⟩
      (fun k W hk h => ⟨h.2.2.2.1.cell, fun hlt => ⟨hs1.addr (by omega), (hs1.ext h.1).cell (by omega)⟩⟩)
      ?round ?done ?stop
    case round =>
      intro l k W hk _
      simp only [backVals]
      obtain ⟨j, hj⟩ : ∃ j : Nat, j = xs.length - 1 - k := ⟨_, rfl⟩
      rw [← hj]
      have HJ := Lib.hid hj; clear hj
      gi_wp2
      refine roundThen.mk ?_
      rintro W2 ⟨hE, p0, p1, p2, hd⟩
      have hj := HJ.out
      have hjn : j < xs.length := by omega
      have hc2 : W2.cell? ⟨b2, o2 + j, none⟩ = some (.int .u64 ((lg ys j : Nat) : Int)) := (hs2.ext hE).cell (by rw [← HL.out]; exact hjn)
      obtain rfl : a2 = some ⟨b2, o2, none⟩ := hs2.addr (by rw [← HL.out]; omega)
      have hjy : j < ys.length := by rw [← HL.out]; exact hjn
      have hcb := p0.cell
      have hcr := p1.cell
      have hfr := p1.frozen
      clear hj q0 q1 q2 hk1
      by_cases he : lg xs j = lg ys j
      · have hz2 : (cmpI (lg xs j) (lg ys j) != 0) = false := by rw [he, cmpI_eq rfl]; rfl
        have HE := Lib.hid he; clear he
        gi_wp2_with (refine ⟨trivial, ?_⟩; gi_at_call 88; refine (CallsIn.inRound l (callsIn_wide.2 (Try.compareU _ _ _))).mono ?_; rintro e w' ⟨rfl, rfl⟩)
        refine ⟨KeepsFrom.refl _ _, hE, p0, p1, p2, Lib.hid ?_⟩
        have hj := HJ.out
        have hl := HL.out
        rw [show xs.length - (k + 1) = j from by omega, drop_cons hjn, drop_cons hjy, show j + 1 = xs.length - k from by omega, hd.out]
        have he := HE.out
        unfold lg at he
        rw [he]
      · have hz2 : (cmpI (lg xs j) (lg ys j) != 0) = true := by rw [bne_iff_ne]; intro h; rw [cmpI_zero] at h; omega
        have HE := Lib.hid he; clear he
        gi_wp2_with (refine ⟨trivial, ?_⟩; gi_at_call 88; refine (CallsIn.inRound l (callsIn_wide.2 (Try.compareU _ _ _))).mono ?_; rintro e w' ⟨rfl, rfl⟩)
        refine ⟨KeepsFrom.setCell1 _ _ _ _, rfl, hE.setCell (by simp) _, ?_⟩
        have hj := HJ.out
        have hd' := hd.out
        rw [show xs.length - k = j + 1 from by omega] at hd'
        rw [← cmpI_at hl1 hl2 HL.out j hjn hd' HE.out]
        exact p1.set _
    case done =>
      rintro D W hD ⟨hE, p0, p1, p2, hd⟩ hK
      have hcr := p1.cell
      have hfr := p1.frozen
      gi_wp2
      have hxy : xs = ys := by
        have h := hd.out
        simpa using h
      refine post_mark (v := .int .i64 0) (keep_setCell hK rfl _ _) ?_ ⟨ret_i ?_, (hE.setCell (by simp) _).putObj (by simp at hD; omega) _⟩
      · have hc5 := (box_putObj (o' := .deferred none) (keep_setCell hK rfl ⟨w.heap.size + 1, 0, none⟩ (.int .i64 0)) rfl (p1.set (.int .i64 0))).cell
        simp [results, Try.results62, go_sem, hc5]
      · rw [hxy, cmpI_eq rfl]
    case stop =>
      rintro D c k W hD hk ⟨rfl, hE, p1⟩ hK
      gi_wp2
      refine post_mark (v := .int .i64 (cmpI (ev B64 xs) (ev B64 ys))) hK ?_ ⟨rfl, hE.putObj (by simp at hD; omega) _⟩
      have hc5 := (box_putObj (o' := .deferred none) hK rfl p1).cell
      simp [results, Try.results62, go_sem, hc5]
  · have hz : (cmpI (xs.length : Int) (ys.length : Int) != 0) = true := by rw [bne_iff_ne]; intro h; rw [cmpI_zero] at h; omega
    have HC := Lib.hid (cmpI_len hl1 hl2 hn1 hn2 hlen)
    clear hlen
    gi_wp2_with (refine ⟨trivial, ?_⟩; gi_at_call 86; refine (callsIn_wide.2 (Try.compareI _ _ _)).mono ?_; rintro e w' ⟨rfl, rfl⟩)
    refine ⟨.int .i64 (cmpI xs.length ys.length), ?_, ret_i HC.out, (Ext.alloc1 _ _).alloc _⟩
    simp [results, Try.results62, go_sem]

end Go.Rt
