/-
  A row of integers that grows by whole rows: an append leaves the shorter row as it was.
-/
import Derived.Test.YtgnmaeolgfijpaaInv4
import Derived.Test.YtgnmaeolgfijpaaGO
namespace Go.Rt
open Go Go.RowKit Go.Proofs

theorem noJ_iff {cs : Array Value} : NoU cs ↔ ∀ v ∈ cs.toList, ∀ n, v ≠ .int .u64 n := by
  constructor
  · intro h v hv
    obtain ⟨i, hi, rfl⟩ := List.mem_iff_getElem.1 hv
    exact h i _ (by rw [← Array.getElem?_toList]; exact List.getElem?_eq_getElem hi)
  · intro h i v hv
    rw [← Array.getElem?_toList] at hv
    exact h v (List.mem_of_getElem? hv)

theorem noU_zeroI (k : Nat) : ∀ v ∈ (Builtin.zeroCells (Value.int .i64 0).cells k).toList, ∀ n, v ≠ .int .u64 n := by
  intro v hv n
  unfold Builtin.zeroCells at hv
  simp only [Array.toList_map, List.mem_map] at hv
  obtain ⟨i, -, rfl⟩ := hv
  simp only [Value.cells, List.size_toArray, List.length_singleton, Nat.mod_one]
  intro e
  cases e

/-- a row of the call's own, its block known whole, without limbs -/
def OwnJ (B : Nat) (e : TypeId) (l : List Int) (v : Value) (W : World) : Prop :=
  ∃ g cap cur, v = .slice (some ⟨g, 0, none⟩) l.length cap ∧ B ≤ g ∧ W.heap[g]? = some (.cells cur e (0, 0)) ∧ l.length ≤ cap ∧ cap ≤ maxLen ∧ cur.size = cap ∧ NoU cur ∧ cur.toList.take l.length = l.map (Value.int .i64)

theorem OwnJ.ext {B : Nat} {e : TypeId} {l : List Int} {v : Value} {W W' : World} (h : OwnJ B e l v W) (hE : Ext W W') : OwnJ B e l v W' :=
  let ⟨g, c, cur, h1, h2, h3, h4⟩ := h; ⟨g, c, cur, h1, h2, (Below.block hE g (Array.getElem?_eq_some_iff.1 h3).1).trans h3, h4⟩

theorem OwnJ.wr {B g : Nat} {e : TypeId} {l : List Int} {v : Value} {W W' : World} (h : OwnJ B e l v W) (hw : Wr g W W') (hg : ¬ blks v g) : OwnJ B e l v W' := by
  obtain ⟨b, c, cur, rfl, h2, h3, h4⟩ := h
  exact ⟨b, c, cur, rfl, h2, (hw.apart.block b (Array.getElem?_eq_some_iff.1 h3).1 (fun q => hg (by simpa [blks] using q))).trans h3, h4⟩

theorem OwnJ.lt {B g : Nat} {e : TypeId} {l : List Int} {v : Value} {W : World} (h : OwnJ B e l v W) (hg : blks v g) : g < W.heap.size := by
  obtain ⟨b, c, cur, rfl, h2, h3, h4⟩ := h
  have e : b = g := hg
  subst e
  exact (Array.getElem?_eq_some_iff.1 h3).1

theorem OwnJ.iw {B : Nat} {e : TypeId} {l : List Int} {v : Value} {W : World} (h : OwnJ B e l v W) (h64 : ∀ x ∈ l, I64 x) : ∃ a c, v = .slice a l.length c ∧ Iw B W.heap.size W a l.length c l := by
  obtain ⟨g, cap, cur, rfl, hb, hg, hc, hm, hs, hn, ht⟩ := h
  refine ⟨_, _, rfl, ⟨rfl, ⟨g, 0, ⟨.inl rfl, hc, hm, fun i hi => ?_⟩, fun _ => ⟨hb, (Array.getElem?_eq_some_iff.1 hg).1⟩⟩, h64⟩⟩
  have h2 : cur.toList[i]? = some (.int .i64 (atL l i)) := by
    have h3 : (cur.toList.take l.length)[i]? = some (.int .i64 (atL l i)) := by rw [ht, List.getElem?_map, List.getElem?_eq_getElem hi, atL_eq hi]; rfl
    rw [List.getElem?_take, if_pos hi] at h3
    exact h3
  rw [Nat.zero_add]
  simp [World.cell?, hg]
  rw [← Array.getElem?_toList]
  exact h2

/-- an empty one, written out -/
def NilJ (B : Nat) (e : TypeId) (v : Value) (W : World) : Prop := ∃ g, v = .slice (some ⟨g, 0, none⟩) 0 0 ∧ B ≤ g ∧ W.heap[g]? = some (.cells #[] e (0, 0))

theorem NilJ.own {B : Nat} {e : TypeId} {v : Value} {W : World} (h : NilJ B e v W) : OwnJ B e [] v W :=
  let ⟨g, h1, h2, h3⟩ := h; ⟨g, 0, #[], h1, h2, h3, Nat.le_refl _, Nat.zero_le _, rfl, (fun i v h => by simp at h), rfl⟩

theorem NilJ.ext {B : Nat} {e : TypeId} {v : Value} {W W' : World} (h : NilJ B e v W) (hE : Ext W W') : NilJ B e v W' :=
  let ⟨g, h1, h2, h3⟩ := h; ⟨g, h1, h2, (Below.block hE g (Array.getElem?_eq_some_iff.1 h3).1).trans h3⟩

theorem NilJ.wr {B k : Nat} {e : TypeId} {v : Value} {W W' : World} (h : NilJ B e v W) (hw : Wr k W W') : NilJ B e v W' := by
  obtain ⟨g, h1, h2, h3⟩ := h
  by_cases q : g = k
  · subst q
    obtain ⟨cs, h4, -, h5⟩ := hw.form _ _ h3
    have : cs = #[] := Array.eq_empty_of_size_eq_zero h5
    exact ⟨g, h1, h2, by rw [h4, this]⟩
  · exact ⟨g, h1, h2, (hw.apart.block g (Array.getElem?_eq_some_iff.1 h3).1 (by simpa using q)).trans h3⟩

theorem tag_nilJ {k B : Nat} {e : TypeId} : Tag4.ok .any k (.one fun v W => NilJ B e v W) := ⟨fun _ _ _ hE h => NilJ.ext h hE, fun _ _ _ _ hw _ h => NilJ.wr h hw⟩

theorem tag_ownJ {B k : Nat} {e : TypeId} {l : List Int} : Tag4.ok (.on k) k (.one fun v W => OwnJ B e l v W) := ⟨fun _ _ _ hE h => OwnJ.ext h hE, fun _ _ _ _ hw hg h => OwnJ.wr h hw hg⟩
section
variable {P : Program} {t e : TypeId} (ht : P.underlying t = .some (.slice e)) (hi : InfoI P e)
include ht hi

theorem run_append_j {w : World} (ty : TypeId) (B : Nat) {v : Value} {l l2 : List Int} {lo hi' m c : Nat} {a2 : Option Addr} (h : OwnJ B e l v w) (hz : Iw lo hi' w a2 m c l2) (hlen : l.length + m ≤ 1099511627776) (hb : B ≤ w.heap.size) :
    ∃ v' w', (Builtin.append_ #[t, t] ty #[v, .slice a2 m c]).run P w = .ok v' w' ∧ OwnJ B e (l ++ l2) v' w' ∧
      ((Ext w w' ∧ ∀ g, blks v' g → g < w'.heap.size ∧ (w.heap.size ≤ g ∨ blks v g)) ∨ ∃ g, blks v g ∧ B ≤ g ∧ Wr g w w' ∧ (∀ g', blks v' g' → g' = g) ∧ OwnJ B e l v w') := by
  obtain ⟨i0, h1, h2, h3, h4⟩ := hi.get
  obtain ⟨g, cap, cur, rfl, hbg, hg, hc, hm, hs, hn, htk⟩ := h
  have hlt := (Array.getElem?_eq_some_iff.1 hg).1
  cases a2 with
  | none =>
    have h0 : m = 0 := by
      rcases Nat.eq_zero_or_pos m with h0 | h0
      · exact h0
      · obtain ⟨b, o, e, -⟩ := hz.some h0
        cases e
    subst h0
    have hl2 : l2 = [] := List.length_eq_zero_iff.1 hz.len
    subst hl2
    rw [List.append_nil]
    refine ⟨_, w, ?_, ⟨g, cap, cur, rfl, hbg, hg, hc, hm, hs, hn, htk⟩, .inl ⟨Ext.refl w, fun g' hg' => ⟨?_, .inr hg'⟩⟩⟩
    · simp [Builtin.append_, run_underlying ht, sizeOf, typeInfo, h1, Builtin.lenOf, Builtin.firstCells, loadCells, storeCells, hc]
    · have : g = g' := hg'
      omega
  | some ad =>
    have hnews : ∀ j u, (l2.map (Value.int .i64))[j]? = some u → w.cell? (ad.add j) = some u := by
      intro j u hj
      rw [List.getElem?_map] at hj
      obtain ⟨x, hx, rfl⟩ := Option.map_eq_some_iff.1 hj
      obtain ⟨hjl, rfl⟩ := List.getElem?_eq_some_iff.1 hx
      have hjn : j < m := by rw [← hz.len]; exact hjl
      obtain ⟨b, o, e, -⟩ := hz.some (by omega)
      cases e
      rw [Go.WideShapes.add_plain, hz.cell hjn, atL_eq hjl]
    have hnl : (l2.map (Value.int .i64)).length = m * i0.size := by rw [List.length_map, hz.len, h3, Nat.mul_one]
    have hone : ∀ u ∈ l2.map (Value.int .i64), u.oneCell' = true := fun u hu => by obtain ⟨x, -, rfl⟩ := List.mem_map.1 hu; rfl
    have hnu : ∀ u ∈ l2.map (Value.int .i64), ∀ k, u ≠ .int .u64 k := fun u hu k q => by obtain ⟨x, -, rfl⟩ := List.mem_map.1 hu; cases q
    have hll : (l ++ l2).length = l.length + m := by rw [List.length_append, hz.len]
    by_cases hroom : l.length + m ≤ cap
    · have hr := run_append_room (P := P) w t ty e i0 ht h1 g l.length cap cur hg ad m c _ hnl hnews hone hroom (by rw [hnl, h3, hs]; omega)
      rw [h3, Nat.mul_one, htk] at hr
      obtain ⟨ct, hct⟩ : ∃ ct, ct = (l.map (Value.int .i64) ++ l2.map (Value.int .i64) ++ cur.toList.drop (l.length + (l2.map (Value.int .i64)).length)).toArray := ⟨_, rfl⟩
      rw [← hct] at hr
      have hnew := setRow_heap w g cur ct e _ hg
      have hcn : NoU ct := by
        rw [noJ_iff, hct]
        intro u hu
        rcases List.mem_append.1 hu with hu | hu
        · rcases List.mem_append.1 hu with hu | hu
          · intro k q; obtain ⟨x, -, rfl⟩ := List.mem_map.1 hu; cases q
          · exact hnu u hu
        · exact (noJ_iff.1 hn) u (List.mem_of_mem_drop hu)
      have hcs : ct.size = cur.size := by
        rw [hct]
        have hln := hz.len
        simp
        omega
      have hw : Wr g w (w.setRow g ct) := ⟨⟨rfl, rfl, rfl, by simp, fun k _ hk => setRow_other w g k ct (by simpa using hk)⟩, ⟨cur, e, hg, hn⟩, fun cs t' hc => by
        rw [hg] at hc
        cases hc
        exact ⟨ct, hnew, hcn, hcs⟩⟩
      refine ⟨_, _, hr, ⟨g, cap, ct, by rw [hll], hbg, hnew, by rw [hll]; exact hroom, hm, by rw [hcs, hs], hcn, ?_⟩, .inr ⟨g, rfl, hbg, hw, fun g' hg' => Eq.symm hg', ⟨g, cap, ct, rfl, hbg, hnew, hc, hm, by rw [hcs, hs], hcn, ?_⟩⟩⟩
      · rw [hct, List.map_append]
        exact List.take_left' (by rw [List.length_append, List.length_map, List.length_map, List.length_append])
      · rw [hct]
        show List.take l.length (_ ++ _ ++ _) = _
        rw [List.append_assoc]
        exact List.take_left' (by rw [List.length_map])
    · have holds : ∀ j u, (l.map (Value.int .i64))[j]? = some u → w.cell? ((⟨g, 0, none⟩ : Addr).add j) = some u := by
        intro j u hu
        rw [← htk] at hu
        have hj : j < l.length := by have := (List.getElem?_eq_some_iff.1 hu).1; rw [List.length_take] at this; omega
        rw [List.getElem?_take, if_pos hj, Array.getElem?_toList] at hu
        rw [Go.WideShapes.add_plain, Nat.zero_add]
        simp [World.cell?, hg, hu]
      have hr := run_append_grow (P := P) w t ty e i0 _ ht h1 h2 ⟨g, 0, none⟩ l.length cap _ (by rw [List.length_map, h3, Nat.mul_one]) holds ad m c _ hnl hnews (by omega) (by omega) (growslice_fits (by omega) (by rw [h4]; omega))
      have hge := grownCap_ge w (l.length + m) cap e
      have hgm := grownCap_le_maxLen w (l.length + m) cap e (by unfold maxLen; omega)
      obtain ⟨ct, hct⟩ : ∃ ct, ct = ((l.map (Value.int .i64)).toArray ++ (l2.map (Value.int .i64)).toArray ++ Builtin.zeroCells (Value.int .i64 0).cells (grownCap w (l.length + m) cap e - (l.length + m))) := ⟨_, rfl⟩
      rw [← hct] at hr
      have hnew : (w.drew.alloc (.cells ct e)).heap[w.heap.size]? = some (.cells ct e (0, 0)) := heap_alloc_new w.drew _
      have hcn : NoU ct := by
        rw [noJ_iff, hct, Array.toList_append, Array.toList_append]
        intro u hu
        rcases List.mem_append.1 hu with hu | hu
        · rcases List.mem_append.1 hu with hu | hu
          · intro k q; obtain ⟨x, -, rfl⟩ := List.mem_map.1 hu; cases q
          · exact hnu u hu
        · exact noU_zeroI _ u hu
      have hcs : ct.size = grownCap w (l.length + m) cap e := by
        rw [hct, Array.size_append, Array.size_append, size_zeroCells, List.size_toArray, List.size_toArray, List.length_map, List.length_map, hz.len]
        simp [Value.cells]
        omega
      refine ⟨_, _, hr, ⟨w.heap.size, _, ct, by rw [hll], hb, hnew, by rw [hll]; exact hge, hgm, hcs, hcn, ?_⟩, .inl ⟨(Ext.drew1 w).trans (Ext.alloc1 _ _), fun g' hg' => ?_⟩⟩
      · rw [hct, Array.toList_append, Array.toList_append, List.map_append]
        exact List.take_left' (by simp)
      · have hq : w.heap.size = g' := hg'
        have := (Array.getElem?_eq_some_iff.1 hnew).1
        exact ⟨by omega, .inl (by omega)⟩
end
end Go.Rt
