/-
  A row of rationals that a call lets grow.
-/
import Derived.Test.YthmncdhibcoiaaaGreatIvG
import Derived.Deep.AppendLies
namespace Go.Rt
open Go Go.RowKit Go.Proofs

def InfoQ (P : Program) (e : TypeId) : Prop := (P.info? e).map (fun i => (i.zero, i.size, i.bytes)) = some (some (.agg #[.bool false, .slice none 0 0, .slice none 0 0]), 3, 56)

theorem Tryz.infoQ : InfoQ Go.Proofs.Tryz.prog 27 := by unfold InfoQ; kernel_rfl

theorem InfoQ.get {P : Program} {e : TypeId} (hi : InfoQ P e) : ∃ i, P.info? e = some i ∧ i.zero = some (.agg #[.bool false, .slice none 0 0, .slice none 0 0]) ∧ i.size = 3 ∧ i.bytes = 56 := by
  unfold InfoQ at hi
  cases hq : P.info? e with
  | none => rw [hq] at hi; cases hi
  | some i => rw [hq] at hi; simp at hi; exact ⟨i, rfl, hi.1, hi.2.1, hi.2.2⟩

theorem noU_iff {cs : Array Value} : NoU cs ↔ ∀ v ∈ cs.toList, ∀ n, v ≠ .int .u64 n := by
  constructor
  · intro h v hv
    obtain ⟨i, hi, rfl⟩ := List.mem_iff_getElem.1 hv
    exact h i _ (by rw [← Array.getElem?_toList]; exact List.getElem?_eq_getElem hi)
  · intro h i v hv
    rw [← Array.getElem?_toList] at hv
    exact h v (List.mem_of_getElem? hv)

theorem noU_zero (k : Nat) : NoU (Builtin.zeroCells (Value.agg #[.bool false, .slice none 0 0, .slice none 0 0]).cells k) := by
  rw [noU_iff]
  intro v hv n
  rw [show (Value.agg #[.bool false, .slice none 0 0, .slice none 0 0]).cells = #[.bool false, .slice none 0 0, .slice none 0 0] from by simp [Value.cells]] at hv
  unfold Builtin.zeroCells at hv
  simp only [Array.toList_map, List.mem_map] at hv
  obtain ⟨i, -, rfl⟩ := hv
  have h3 : i % 3 < 3 := Nat.mod_lt _ (by decide)
  show (#[Value.bool false, .slice none 0 0, .slice none 0 0])[i % 3]! ≠ _
  generalize i % 3 = j at h3
  match j, h3 with
  | 0, _ => intro e; cases e
  | 1, _ => intro e; cases e
  | 2, _ => intro e; cases e

theorem cellAt {w : World} {g : Nat} {cs : Array Value} {e : TypeId} {fr : Nat × Nat} (h : w.heap[g]? = some (.cells cs e fr)) {j : Nat} : w.cell? ⟨g, j, none⟩ = cs[j]? := by simp [World.cell?, h]

theorem RowR.snoc {W W' : World} {g g' : Nat} {l : List Rat} {x : Rat} {s : Bool} {a : Option Addr} {n c : Nat} {d : Option Addr} {m o : Nat} (h : RowR W g l)
    (hc : ∀ j u, j < l.length * 3 → W.cell? ⟨g, j, none⟩ = some u → W'.cell? ⟨g', j, none⟩ = some u) (hR : ∀ v y, Rw W v y → Rw W' v y)
    (k0 : W'.cell? ⟨g', l.length * 3, none⟩ = some (.bool s)) (k1 : W'.cell? ⟨g', l.length * 3 + 1, none⟩ = some (.slice a n c)) (k2 : W'.cell? ⟨g', l.length * 3 + 2, none⟩ = some (.slice d m o))
    (hx : Rw W' (.agg #[.bool s, .slice a n c, .slice d m o]) x) : RowR W' g' (l ++ [x]) := by
  intro i hi
  rw [List.length_append, List.length_singleton] at hi
  by_cases hlt : i < l.length
  · obtain ⟨s1, a1, n1, c1, d1, m1, o1, h0, h1, h2, h3⟩ := h i hlt
    have e : atQ (l ++ [x]) i = atQ l i := by unfold atQ; rw [List.getD_eq_getElem?_getD, List.getD_eq_getElem?_getD, List.getElem?_append_left hlt]
    rw [e]
    exact ⟨_, _, _, _, _, _, _, hc _ _ (by omega) h0, hc _ _ (by omega) h1, hc _ _ (by omega) h2, hR _ _ h3⟩
  · obtain rfl : i = l.length := by omega
    have e : atQ (l ++ [x]) l.length = x := by unfold atQ; rw [List.getD_eq_getElem?_getD, List.getElem?_append_right (Nat.le_refl _), Nat.sub_self]; rfl
    rw [e]
    exact ⟨_, _, _, _, _, _, _, k0, k1, k2, hx⟩

/-- a row of the call's own, its block from base on, below H -/
def OwnR (W : World) (base H : Nat) (e : TypeId) (v : Value) (l : List Rat) : Prop :=
  (v = .slice none 0 0 ∧ l = []) ∨ ∃ g cap cur, v = .slice (some ⟨g, 0, none⟩) l.length cap ∧ base ≤ g ∧ g < H ∧ W.heap[g]? = some (.cells cur e (0, 0)) ∧ l.length ≤ cap ∧ cap ≤ maxLen ∧ cur.size = cap * 3 ∧ NoU cur ∧ RowR W g l

theorem OwnR.nil (W : World) (base H : Nat) (e : TypeId) : OwnR W base H e (.slice none 0 0) [] := .inl ⟨rfl, rfl⟩

theorem OwnR.ext {W W' : World} {base H : Nat} {e : TypeId} {v : Value} {l : List Rat} (h : OwnR W base H e v l) (hE : Ext W W') : OwnR W' base H e v l := by
  rcases h with h | ⟨g, cap, cur, rfl, hb, hH, hg, h1, h2, h3, h4, h5⟩
  · exact .inl h
  · exact .inr ⟨g, cap, cur, rfl, hb, hH, (Below.block hE g (Array.getElem?_eq_some_iff.1 hg).1).trans hg, h1, h2, h3, h4, h5.ext hE⟩

theorem OwnR.wr {W W' : World} {base H k : Nat} {e : TypeId} {v : Value} {l : List Rat} (h : OwnR W base H e v l) (hw : Wr k W W') (hk : k < base ∨ H ≤ k) : OwnR W' base H e v l := by
  rcases h with h | ⟨g, cap, cur, rfl, hb, hH, hg, h1, h2, h3, h4, h5⟩
  · exact .inl h
  · exact .inr ⟨g, cap, cur, rfl, hb, hH, (hw.apart.block g (Array.getElem?_eq_some_iff.1 hg).1 (by simp; omega)).trans hg, h1, h2, h3, h4, h5.wr hw (by omega)⟩

theorem OwnR.below {W : World} {base H : Nat} {e : TypeId} {v : Value} {l : List Rat} (h : OwnR W base H e v l) : OwnR W base W.heap.size e v l := by
  rcases h with h | ⟨g, cap, cur, rfl, hb, hH, hg, h1⟩
  · exact .inl h
  · exact .inr ⟨g, cap, cur, rfl, hb, (Array.getElem?_eq_some_iff.1 hg).1, hg, h1⟩

theorem OwnR.block {W : World} {base H : Nat} {e : TypeId} {v : Value} {l : List Rat} (h : OwnR W base H e v l) : ∀ g, v.ownBlock = some g → base ≤ g ∧ g < H := by
  intro g hg
  rcases h with ⟨rfl, -⟩ | ⟨b, cap, cur, rfl, hb, hH, hk, -⟩
  · cases hg
  · cases hg
    exact ⟨hb, hH⟩

theorem OwnR.row {W : World} {base H : Nat} {e : TypeId} {v : Value} {l : List Rat} (h : OwnR W base H e v l) (hl : 0 < l.length) : ∃ g cap, v = .slice (some ⟨g, 0, none⟩) l.length cap ∧ g < W.heap.size ∧ RowR W g l ∧ base ≤ g := by
  rcases h with ⟨-, rfl⟩ | ⟨b, cap, cur, rfl, hb, hH, hk, -, -, -, -, hr⟩
  · cases hl
  · exact ⟨b, cap, rfl, (Array.getElem?_eq_some_iff.1 hk).1, hr, hb⟩

/-- a row has grown: in its own block, or in a new one -/
def Gro (r : Option Nat) (w w' : World) : Prop := ∃ wm, Ext w wm ∧ (Ext wm w' ∨ ∃ g, r = some g ∧ Wr g wm w')

theorem Gro.rat {r : Option Nat} {w w' : World} (h : Gro r w w') {v : Value} {x : Rat} (hx : Rw w v x) : Rw w' v x := let ⟨_, hm, h⟩ := h; h.elim (fun hE => (hx.ext hm).ext hE) (fun ⟨_, _, hw⟩ => (hx.ext hm).wr hw)

theorem Gro.box3 {r : Option Nat} {w w' : World} (h : Gro r w w') {b : Nat} {t : TypeId} {x y z : Value} (hx : Bx3 w b t x y z) (hn : r ≠ some b) : Bx3 w' b t x y z := let ⟨_, hm, h⟩ := h; h.elim (fun hE => (hx.ext hm).ext hE) (fun ⟨_, e, hw⟩ => (hx.ext hm).wr hw (fun q => hn (by rw [e, q])))

theorem Gro.box6 {r : Option Nat} {w w' : World} (h : Gro r w w') {b : Nat} {t : TypeId} {x y z x' y' z' : Value} (hx : Bx6 w b t x y z x' y' z') (hn : r ≠ some b) : Bx6 w' b t x y z x' y' z' := let ⟨_, hm, h⟩ := h; h.elim (fun hE => (hx.ext hm).ext hE) (fun ⟨_, e, hw⟩ => (hx.ext hm).wr hw (fun q => hn (by rw [e, q])))

theorem Gro.row {r : Option Nat} {w w' : World} (h : Gro r w w') {b : Nat} {l : List Rat} (hx : RowR w b l) (hn : r ≠ some b) : RowR w' b l := let ⟨_, hm, h⟩ := h; h.elim (fun hE => (hx.ext hm).ext hE) (fun ⟨_, e, hw⟩ => (hx.ext hm).wr hw (fun q => hn (by rw [e, q])))

theorem Gro.old {r : Option Nat} {w0 w w' : World} (h : Gro r w w') (hE : Ext w0 w) (hn : ∀ g, r = some g → w0.heap.size ≤ g) : Ext w0 w' := let ⟨_, hm, h⟩ := h; h.elim (fun h => (hE.trans hm).trans h) (fun ⟨g, e, hw⟩ => Ext.wr (hE.trans hm) hw (hn g e))

theorem Gro.size {r : Option Nat} {w w' : World} (h : Gro r w w') : w.heap.size ≤ w'.heap.size := let ⟨_, hm, h⟩ := h; h.elim (fun h => Nat.le_trans hm.size h.size) (fun ⟨_, _, hw⟩ => Nat.le_trans hm.size hw.apart.size)
section
variable {P : Program} {t e : TypeId} (ht : P.underlying t = .some (.slice e)) (hi : InfoQ P e)
include ht hi

theorem run_append_q (ty : TypeId) {w : World} {base H : Nat} {v : Value} {l : List Rat} (h : OwnR w base H e v l) {s : Bool} {a : Option Addr} {n c : Nat} {d : Option Addr} {m o : Nat} {x : Rat} (hx : Rw w (.agg #[.bool s, .slice a n c, .slice d m o]) x)
    (hl : l.length ≤ 1000) (hb : base ≤ w.heap.size) (A : Addr) (ca : Nat) (hA : ∀ j u, [Value.bool s, .slice a n c, .slice d m o][j]? = some u → w.cell? (A.add j) = some u) :
    ∃ g cap w', (Builtin.append_ #[t, t] ty #[v, .slice (some A) 1 ca]).run P w = .ok (.slice (some ⟨g, 0, none⟩) (l.length + 1) cap) w' ∧ OwnR w' base w'.heap.size e (.slice (some ⟨g, 0, none⟩) (l.length + 1) cap) (l ++ [x]) ∧ Gro v.ownBlock w w' ∧ (v.ownBlock = some g ∨ w.heap.size ≤ g) := by
  obtain ⟨i, h1, h2, h3, h4⟩ := hi.get
  have hnl : [Value.bool s, .slice a n c, .slice d m o].length = 1 * i.size := by rw [h3]; rfl
  have hone : ∀ u ∈ [Value.bool s, .slice a n c, .slice d m o], u.oneCell' = true := by
    intro u hu
    simp only [List.mem_cons, List.not_mem_nil, or_false] at hu
    rcases hu with rfl | rfl | rfl <;> rfl
  have hzs : (Value.agg #[.bool false, .slice none 0 0, .slice none 0 0]).cells.size = 3 := by simp [Value.cells]
  have hnu : ∀ v ∈ [Value.bool s, .slice a n c, .slice d m o], ∀ k, v ≠ .int .u64 k := by
    intro u hu
    simp only [List.mem_cons, List.not_mem_nil, or_false] at hu
    rcases hu with rfl | rfl | rfl <;> intro k e <;> cases e
  have hwd : ∀ cs : Array Value, Ext w (w.drew.alloc (.cells cs e)) := fun cs => (Ext.drew1 w).trans (Ext.alloc1 _ _)
  rcases h with ⟨rfl, rfl⟩ | ⟨g, cap, cur, rfl, hbg, -, hg, hlc, hcm, hsz, hno, hrow⟩
  · have hr := run_append_nil (P := P) w t ty e i _ ht h1 h2 A 1 ca _ hnl hA (by decide) (by decide) (by rw [h4]; decide)
    refine ⟨_, _, _, hr, .inr ⟨_, _, _, rfl, hb, (Array.getElem?_eq_some_iff.1 (heap_alloc_new w.drew _)).1, heap_alloc_new w.drew _, grownCap_ge w 1 0 e, grownCap_le_maxLen w 1 0 e (by decide), ?_, ?_, ?_⟩, ⟨_, Ext.refl _, .inl (hwd _)⟩, .inr (Nat.le_refl _)⟩
    · rw [Array.size_append, size_zeroCells, hzs]
      have := grownCap_ge w 1 0 e
      show 3 + _ = _
      omega
    · rw [noU_iff, Array.toList_append]
      intro u hu
      rcases List.mem_append.1 hu with hu | hu
      · exact hnu u hu
      · exact (noU_iff.1 (noU_zero _)) u hu
    · have hk : ∀ j u, [Value.bool s, .slice a n c, .slice d m o][j]? = some u → (w.drew.alloc (.cells ([Value.bool s, .slice a n c, .slice d m o].toArray ++ Builtin.zeroCells (Value.agg #[.bool false, .slice none 0 0, .slice none 0 0]).cells (grownCap w 1 0 e - 1)) e)).cell? ⟨w.heap.size, j, none⟩ = some u := by
        intro j u hu
        have hj : j < 3 := (List.getElem?_eq_some_iff.1 hu).1
        have hnew : ∀ cs, (w.drew.alloc (.cells cs e)).heap[w.heap.size]? = some (.cells cs e (0, 0)) := fun cs => heap_alloc_new w.drew _
        rw [cellAt (hnew _), Array.getElem?_append_left (by simpa using hj)]
        simpa using hu
      exact RowR.snoc (W := w) (g := 0) (l := []) (fun i hi => by cases hi) (fun j u hj => by cases hj) (fun v y hy => hy.ext (hwd _)) (hk 0 _ rfl) (hk 1 _ rfl) (hk 2 _ rfl) (hx.ext (hwd _))
  · by_cases hroom : l.length + 1 ≤ cap
    · have hr := run_append_room (P := P) w t ty e i ht h1 g l.length cap cur hg A 1 ca _ hnl hA hone hroom (by rw [hnl, h3, hsz]; omega)
      rw [h3] at hr
      obtain ⟨ct, hct⟩ : ∃ ct, ct = (cur.toList.take (l.length * 3) ++ [Value.bool s, .slice a n c, .slice d m o] ++ cur.toList.drop (l.length * 3 + [Value.bool s, .slice a n c, .slice d m o].length)).toArray := ⟨_, rfl⟩
      rw [← hct] at hr
      have hnew := setRow_heap w g cur ct e _ hg
      have hl3 : (cur.toList.take (l.length * 3)).length = l.length * 3 := by rw [List.length_take, Array.length_toList (xs := cur)]; omega
      have hcn : NoU ct := by
        rw [noU_iff, hct]
        intro u hu
        rcases List.mem_append.1 hu with hu | hu
        · rcases List.mem_append.1 hu with hu | hu
          · exact (noU_iff.1 hno) u (List.mem_of_mem_take hu)
          · exact hnu u hu
        · exact (noU_iff.1 hno) u (List.mem_of_mem_drop hu)
      have hcs : ct.size = cur.size := by
        rw [hct, List.size_toArray, List.length_append, List.length_append, hl3, List.length_drop, Array.length_toList (xs := cur)]
        show l.length * 3 + 3 + (cur.size - (l.length * 3 + 3)) = _
        omega
      have hw : Wr g w (w.setRow g ct) := ⟨⟨rfl, rfl, rfl, by simp, fun k _ hk => setRow_other w g k ct (by simpa using hk)⟩, ⟨cur, e, hg, hno⟩, fun cs t' hc => by
        rw [hg] at hc
        cases hc
        exact ⟨ct, hnew, hcn, hcs⟩⟩
      have hold : ∀ j u, j < l.length * 3 → w.cell? ⟨g, j, none⟩ = some u → (w.setRow g ct).cell? ⟨g, j, none⟩ = some u := by
        intro j u hj hu
        rw [cellAt hg] at hu
        rw [cellAt hnew, hct, List.getElem?_toArray, List.append_assoc, List.getElem?_append_left (by omega), List.getElem?_take, if_pos hj, Array.getElem?_toList]
        exact hu
      have hk : ∀ j u, [Value.bool s, .slice a n c, .slice d m o][j]? = some u → (w.setRow g ct).cell? ⟨g, l.length * 3 + j, none⟩ = some u := by
        intro j u hu
        have hj : j < [Value.bool s, .slice a n c, .slice d m o].length := (List.getElem?_eq_some_iff.1 hu).1
        rw [cellAt hnew, hct, List.getElem?_toArray, List.append_assoc, List.getElem?_append_right (by omega), hl3, Nat.add_sub_cancel_left, List.getElem?_append_left hj]
        exact hu
      refine ⟨g, cap, _, hr, .inr ⟨g, cap, ct, by rw [List.length_append]; rfl, hbg, (Array.getElem?_eq_some_iff.1 hnew).1, hnew, by rw [List.length_append]; exact hroom, hcm, by rw [hcs, hsz], hcn, ?_⟩, ⟨_, Ext.refl _, .inr ⟨g, rfl, hw⟩⟩, .inl rfl⟩
      exact RowR.snoc hrow hold (fun v y hy => hy.wr hw) (hk 0 _ rfl) (hk 1 _ rfl) (hk 2 _ rfl) (hx.wr hw)
    · have hl3 : (cur.toList.take (l.length * 3)).length = l.length * 3 := by rw [List.length_take, Array.length_toList (xs := cur)]; omega
      have holds : ∀ j u, (cur.toList.take (l.length * 3))[j]? = some u → w.cell? ((⟨g, 0, none⟩ : Addr).add j) = some u := by
        intro j u hu
        have hj : j < l.length * 3 := by have := (List.getElem?_eq_some_iff.1 hu).1; omega
        rw [List.getElem?_take, if_pos hj, Array.getElem?_toList] at hu
        rw [show (⟨g, 0, none⟩ : Addr).add j = ⟨g, j, none⟩ by simp [Addr.add]; omega, cellAt hg]
        exact hu
      have hr := run_append_grow (P := P) w t ty e i _ ht h1 h2 ⟨g, 0, none⟩ l.length cap _ (by rw [hl3, h3]) holds A 1 ca _ hnl hA (by omega) (by omega) (growslice_fits (by omega) (by rw [h4]; omega))
      have hge := grownCap_ge w (l.length + 1) cap e
      obtain ⟨ct, hct⟩ : ∃ ct, ct = ((cur.toList.take (l.length * 3)).toArray ++ [Value.bool s, .slice a n c, .slice d m o].toArray ++ Builtin.zeroCells (Value.agg #[.bool false, .slice none 0 0, .slice none 0 0]).cells (grownCap w (l.length + 1) cap e - (l.length + 1))) := ⟨_, rfl⟩
      rw [← hct] at hr
      have hnew : (w.drew.alloc (.cells ct e)).heap[w.heap.size]? = some (.cells ct e (0, 0)) := heap_alloc_new w.drew _
      have hcn : NoU ct := by
        rw [noU_iff, hct, Array.toList_append, Array.toList_append]
        intro u hu
        rcases List.mem_append.1 hu with hu | hu
        · rcases List.mem_append.1 hu with hu | hu
          · exact (noU_iff.1 hno) u (List.mem_of_mem_take hu)
          · exact hnu u hu
        · exact (noU_iff.1 (noU_zero _)) u hu
      have hcs : ct.size = grownCap w (l.length + 1) cap e * 3 := by
        rw [hct, Array.size_append, Array.size_append, size_zeroCells, hzs, List.size_toArray, hl3]
        show l.length * 3 + 3 + _ = _
        omega
      have hold : ∀ j u, j < l.length * 3 → w.cell? ⟨g, j, none⟩ = some u → (w.drew.alloc (.cells ct e)).cell? ⟨w.heap.size, j, none⟩ = some u := by
        intro j u hj hu
        rw [cellAt hg] at hu
        rw [cellAt hnew, hct, Array.append_assoc, Array.getElem?_append_left (by rw [List.size_toArray]; omega), List.getElem?_toArray, List.getElem?_take, if_pos hj, Array.getElem?_toList]
        exact hu
      have hk : ∀ j u, [Value.bool s, .slice a n c, .slice d m o][j]? = some u → (w.drew.alloc (.cells ct e)).cell? ⟨w.heap.size, l.length * 3 + j, none⟩ = some u := by
        intro j u hu
        have hj : j < [Value.bool s, .slice a n c, .slice d m o].length := (List.getElem?_eq_some_iff.1 hu).1
        rw [cellAt hnew, hct, Array.append_assoc, Array.getElem?_append_right (by rw [List.size_toArray]; omega), List.size_toArray, hl3, Nat.add_sub_cancel_left, Array.getElem?_append_left (by simpa using hj), List.getElem?_toArray]
        exact hu
      refine ⟨_, _, _, hr, .inr ⟨_, _, ct, by rw [List.length_append]; rfl, hb, (Array.getElem?_eq_some_iff.1 hnew).1, hnew, by rw [List.length_append]; exact hge, grownCap_le_maxLen w _ cap e (by simp [maxLen]; omega), hcs, hcn, ?_⟩, ⟨_, Ext.refl _, .inl (hwd _)⟩, .inr (Nat.le_refl _)⟩
      exact RowR.snoc hrow hold (fun v y hy => hy.ext (hwd _)) (hk 0 _ rfl) (hk 1 _ rfl) (hk 2 _ rfl) (hx.ext (hwd _))

/-- 'append(s, y)': s the call's own, y a rational -/
theorem append_q {w : World} {ops : Array Oper} {rest : List Oper} {o : Oper} {ac : Act} {Q : Exit → Act → World → Prop} (hgd : o.guard = none) (sl xo : Operand)
    (ho : o.op = .call { callee := .builtin .append, args := #[sl, xo], argTypes := #[t, t] }) (base H : Nat) (v : Value) (l : List Rat) (s : Bool) (a : Option Addr) (n c : Nat) (d : Option Addr) (m k : Nat) (x : Rat)
    (hs : ac.eval sl = v) (hx : ac.eval xo = .slice (.some ⟨w.heap.size, 0, none⟩) 1 1) (hown : OwnR w base H e v l) (hr : Rw w (.agg #[.bool s, .slice a n c, .slice d m k]) x) (hl : l.length ≤ 1000) (hb : base ≤ w.heap.size)
    (h : ∀ g cap w', OwnR w' base w'.heap.size e (.slice (.some ⟨g, 0, none⟩) (l.length + 1) cap) (l ++ [x]) → Gro v.ownBlock w w' → (v.ownBlock = .some g ∨ w.heap.size < g) → wpList P ops Q rest (ac.put o.dst (.slice (.some ⟨g, 0, none⟩) (l.length + 1) cap)) w') :
    wpList P ops Q (o :: rest) ac (w.alloc (.cells #[.bool s, .slice a n c, .slice d m k] e)) := by
  have hE := Ext.alloc1 w (.cells #[.bool s, .slice a n c, .slice d m k] e)
  have hbx := BxA.new w e #[.bool s, .slice a n c, .slice d m k]
  obtain ⟨g, cap, w', h1, h2, ⟨wm, h3, h4⟩, h5⟩ := run_append_q ht hi o.type (hown.ext hE) (hr.ext hE) hl (Nat.le_trans hb hE.size) ⟨w.heap.size, 0, none⟩ 1 (by
    intro j u hu
    have hj : j < 3 := (List.getElem?_eq_some_iff.1 hu).1
    rw [show (⟨w.heap.size, 0, none⟩ : Addr).add j = ⟨w.heap.size, j, none⟩ by simp [Addr.add]; omega]
    exact BxA.cell hbx j (by simpa using hu))
  refine wpList_plain hgd fun K hK => ?_
  unfold Oper.wp execOp
  simp only [ho, resolve, invoke, builtin, Sem.run_bind, Sem.run_pure, Result.andThen_ok, List.map_toArray, List.map_cons, List.map_nil, hs, hx, h1]
  refine hK _ _ (h g cap w' h2 ⟨wm, hE.trans h3, h4⟩ ?_)
  rcases h5 with h5 | h5
  · exact .inl h5
  · have := Ext.alloc1 w (.cells #[.bool s, .slice a n c, .slice d m k] e)
    exact .inr (by have h6 : w.heap.size + 1 ≤ g := by simpa using h5
                   omega)
end
end Go.Rt
