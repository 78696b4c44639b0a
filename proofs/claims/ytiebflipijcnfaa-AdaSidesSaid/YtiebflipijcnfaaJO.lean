/-
  The laws of chapter 19 (Adafactor): numbers the other way round; is the least number of 64 bits among some; a step's answer in a drawn region.
  The laws of chapter 19 (Adafactor): Sides: its walk.
-/
import Derived.Test.YtiebflipijcnfaaJP
import Derived.Test.YtiebflipijcnfaaJL
import Derived.Test.YtiebflipijcnfaaJG
import Derived.Deep.CutRange
namespace Go.Rt
open Go Go.RowKit Go.Proofs

/-- numbers the other way round, as the program reckons -/
def turnL (l : List Int) : List Int := l.map fun x => IntKind.i64.wrap (-x)

theorem wrap_in (x : Int) : I64 (IntKind.i64.wrap x) := by rw [IntKind.wrap_i64]; unfold I64; omega

theorem turnL_len (l : List Int) : (turnL l).length = l.length := List.length_map _

theorem turnL_out (l : List Int) : turnL l = outL l.length fun i => IntKind.i64.wrap (-(atL l i)) := by
  apply List.ext_getElem
  · rw [turnL_len, outL_len]
  · intro i h1 h2
    rw [turnL_len] at h1
    have h3 := outL_at (n := l.length) (f := fun i => IntKind.i64.wrap (-(atL l i))) h1
    rw [atL_eq h2] at h3
    rw [h3, atL_eq h1]
    simp [turnL]

theorem minB_at {l : List Int} (h : minB l = false) {x : Int} (hx : x ∈ l) : x ≠ -9223372036854775808 := fun e => by
  unfold minB at h
  have := List.any_eq_false.1 h x hx
  simp [e] at this

theorem turn_neg {l : List Int} (h : ∀ x ∈ l, I64 x) (hm : minB l = false) : turnL l = negL l := by
  unfold turnL negL
  refine List.map_congr_left fun x hx => ?_
  have h1 := h x hx
  have h2 := minB_at hm hx
  unfold I64 at h1
  rw [IntKind.wrap_i64]
  omega

theorem minB_true {l : List Int} {i : Nat} (hi : i < l.length) (h : atL l i = -9223372036854775808) : minB l = true := by
  unfold minB
  rw [List.any_eq_true]
  exact ⟨atL l i, atL_mem hi, decide_eq_true h⟩

theorem minB_false {l : List Int} (h : ∀ i, i < l.length → atL l i ≠ -9223372036854775808) : minB l = false := by
  unfold minB
  rw [List.any_eq_false]
  intro x hx
  obtain ⟨i, hi, rfl⟩ := List.getElem_of_mem hx
  have := h i hi
  rw [atL_eq hi] at this
  simpa using this

theorem Iw.farQ {lo hi g : Nat} {w w' : World} {a : Option Addr} {n c : Nat} {l : List Int} (h : Iw lo hi w a n c l) (hw : Wr g w w') (hg : 0 < n → ∀ o, a ≠ Option.some ⟨g, o, none⟩) : Iw lo hi w' a n c l := by
  refine ⟨h.len, ?_, h.in64⟩
  obtain ⟨b, o, h1, h2⟩ := h.lies
  refine ⟨b, o, ⟨h1.1, h1.2.1, h1.2.2.1, fun i hi' => ?_⟩, h2⟩
  have hb : b ≠ g := fun e => hg (by omega) o (by rw [h1.addr (by omega), e])
  exact hw.apart.cell (by simpa using hb) (h1.cell hi')

/-- a step's answer, as a value -/
def AdaAt (lo : Nat) (W : World) (v : Value) (E : Int) (xw xm xv : List Int) : Prop :=
  ∃ a1 n1 c1 a2 n2 c2 a3 n3 c3, v = .tuple #[.agg #[.slice a1 n1 c1, .slice a2 n2 c2, .slice a3 n3 c3, .slice none 0 0], .int .i64 E] ∧ Iw lo W.heap.size W a1 n1 c1 xw ∧ Iw lo W.heap.size W a2 n2 c2 xm ∧ Iw lo W.heap.size W a3 n3 c3 xv

theorem AdaAt.ext {lo : Nat} {W W' : World} {v : Value} {E : Int} {xw xm xv : List Int} (h : AdaAt lo W v E xw xm xv) (hE : Ext W W') : AdaAt lo W' v E xw xm xv :=
  let ⟨a1, n1, c1, a2, n2, c2, a3, n3, c3, e, h1, h2, h3⟩ := h
  ⟨a1, n1, c1, a2, n2, c2, a3, n3, c3, e, (h1.ext hE).mono (Nat.le_refl _) (Ext.size hE), (h2.ext hE).mono (Nat.le_refl _) (Ext.size hE), (h3.ext hE).mono (Nat.le_refl _) (Ext.size hE)⟩

theorem AdaAt.wr {lo g : Nat} {W W' : World} {v : Value} {E : Int} {xw xm xv : List Int} (h : AdaAt lo W v E xw xm xv) (hw : Wr g W W') (hg : ¬ blks v g) : AdaAt lo W' v E xw xm xv := by
  obtain ⟨a1, n1, c1, a2, n2, c2, a3, n3, c3, rfl, h1, h2, h3⟩ := h
  have hs := hw.apart.size
  exact ⟨a1, n1, c1, a2, n2, c2, a3, n3, c3, rfl, (h1.farQ hw fun hm o e => hg (.inl ⟨hm, o, e⟩)).mono (Nat.le_refl _) hs, (h2.farQ hw fun hm o e => hg (.inr (.inl ⟨hm, o, e⟩))).mono (Nat.le_refl _) hs, (h3.farQ hw fun hm o e => hg (.inr (.inr ⟨hm, o, e⟩))).mono (Nat.le_refl _) hs⟩

theorem tag_adaAt {B k : Nat} {E : Int} {xw xm xv : List Int} : Tag4.ok (.on k) k (.one fun v W => AdaAt B W v E xw xm xv) := ⟨fun _ _ _ hE h => AdaAt.ext h hE, fun _ _ _ _ hw hg h => AdaAt.wr h hw hg⟩

theorem Iw.at {lo hi n c g o : Nat} {W : World} {l : List Int} (h : Iw lo hi W (Option.some ⟨g, o, none⟩) n c l) (hn : 0 < n) : g < hi ∧ lo ≤ g := by
  obtain ⟨b, o', e', k1, k2⟩ := h.some hn
  cases e'
  exact ⟨k2, k1⟩

theorem AdaAt.fresh {lo g : Nat} {W : World} {v : Value} {E : Int} {xw xm xv : List Int} (h : AdaAt lo W v E xw xm xv) (hg : blks v g) : g < W.heap.size ∧ lo ≤ g := by
  obtain ⟨a1, n1, c1, a2, n2, c2, a3, n3, c3, rfl, h1, h2, h3⟩ := h
  rcases hg with ⟨hm, o, e⟩ | ⟨hm, o, e⟩ | ⟨hm, o, e⟩ <;> subst e
  · exact h1.at hm
  · exact h2.at hm
  · exact h3.at hm

theorem AdaAt.low {lo lo' : Nat} {W : World} {v : Value} {E : Int} {xw xm xv : List Int} (h : AdaAt lo W v E xw xm xv) (hl : lo' ≤ lo) : AdaAt lo' W v E xw xm xv :=
  let ⟨a1, n1, c1, a2, n2, c2, a3, n3, c3, e, h1, h2, h3⟩ := h
  ⟨a1, n1, c1, a2, n2, c2, a3, n3, c3, e, h1.mono hl (Nat.le_refl _), h2.mono hl (Nat.le_refl _), h3.mono hl (Nat.le_refl _)⟩

theorem AdaTo.at {w w' : World} {e : Ending} {E : Int} {xw xm xv : List Int} (h : AdaTo w w' e E xw xm xv) : Ext w w' ∧ ∃ v, e = .returned v ∧ AdaAt w.heap.size w' v E xw xm xv :=
  let ⟨hE, a1, n1, c1, a2, n2, c2, a3, n3, c3, e, h1, h2, h3⟩ := h
  ⟨hE, _, e, a1, n1, c1, a2, n2, c2, a3, n3, c3, rfl, h1, h2, h3⟩

theorem AdaAt.shape {lo : Nat} {W : World} {v : Value} {E : Int} {xw xm xv : List Int} (h : AdaAt lo W v E xw xm xv) : ∃ (a1 : Option Addr) (n1 c1 : Nat) (a2 : Option Addr) (n2 c2 : Nat) (a3 : Option Addr) (n3 c3 : Nat), v = .tuple #[.agg #[.slice a1 n1 c1, .slice a2 n2 c2, .slice a3 n3 c3, .slice none 0 0], .int .i64 E] :=
  let ⟨a1, n1, c1, a2, n2, c2, a3, n3, c3, e, _⟩ := h
  ⟨a1, n1, c1, a2, n2, c2, a3, n3, c3, e⟩

/-- a new box with what a step gave -/
def NewQ (B : Nat) (t : TypeId) (p v : Value) (W : World) : Prop := ∃ (g : Nat) (a1 : Option Addr) (n1 c1 : Nat) (a2 : Option Addr) (n2 c2 : Nat) (a3 : Option Addr) (n3 c3 : Nat), v = .agg #[.slice a1 n1 c1, .slice a2 n2 c2, .slice a3 n3 c3, .slice none 0 0] ∧ p = .pointer (some ⟨g, 0, none⟩) ∧ B ≤ g ∧ BxA W g t #[.slice a1 n1 c1, .slice a2 n2 c2, .slice a3 n3 c3, .slice none 0 0]

theorem tag_newQ {B i j k : Nat} {t : TypeId} : Tag4.ok .last k (.three i j fun p v _ W => NewQ B t p v W) :=
  tag4_last fun _ _ _ hE ⟨g, a1, n1, c1, a2, n2, c2, a3, n3, c3, h1, h2, h3, h4⟩ => ⟨g, a1, n1, c1, a2, n2, c2, a3, n3, c3, h1, h2, h3, BxA.ext h4 hE⟩

theorem agg4_inj {a1 b1 a2 b2 a3 b3 : Option Addr} {n1 c1 m1 d1 n2 c2 m2 d2 n3 c3 m3 d3 : Nat} (h : Value.agg #[.slice a1 n1 c1, .slice a2 n2 c2, .slice a3 n3 c3, .slice none 0 0] = .agg #[.slice b1 m1 d1, .slice b2 m2 d2, .slice b3 m3 d3, .slice none 0 0]) : (b1 = a1 ∧ m1 = n1 ∧ d1 = c1) ∧ (b2 = a2 ∧ m2 = n2 ∧ d2 = c2) ∧ b3 = a3 ∧ m3 = n3 ∧ d3 = c3 := by
  simp at h
  obtain ⟨⟨h1, h2, h3⟩, ⟨h4, h5, h6⟩, h7, h8, h9⟩ := h
  exact ⟨⟨h1.symm, h2.symm, h3.symm⟩, ⟨h4.symm, h5.symm, h6.symm⟩, h7.symm, h8.symm, h9.symm⟩

theorem tuple_fst {u u' v v' : Value} (h : Value.tuple #[u, v] = .tuple #[u', v']) : u = u' := by
  simp only [Value.tuple.injEq] at h
  have := congrArg (fun a : Array Value => a[0]?) h
  simpa using this

section
variable {P : Program} {Q : Exit → Act → World → Prop} {md : Region.Mode} {l : List Oper} {a0 : Act} {S R : World → Prop} {ps : List PS} {A : (Nat → Value) → Act} {L B ks : Nat} {I : Nat → Nat → Prop} {sd : Nat → Nat} {ts : List Tag4}
/-- the last store, into the block of m's value -/
theorem owes5P {o : Oper} (m : Nat) (pre : List Nat) (hf : Firm5 L B I ts S R ps) (hk : (sd ks == 0) = true) (hm : (sd m != 0) = true) (hmp : pre.contains m = true) (hoff : (off4 ks [] (sd m) sd ts 0 && selfB ts 0) = true) (ho : l[ks]? = some o) (hpre : waitsB md o pre = true)
    (h : ∀ (vs : Nat → Value) (w : World), S w → Pres ps pre vs w → Olds md l a0 ks vs → ∀ K : Act → World → Prop, (∀ w' g, blks (vs m) g → Wr g w w' → S w' → (psAt ps ks).holds ks (upd vs ks (.bool true)) w' → K ((A vs).put o.dst (.bool true)) w') →
      if Region.wanted o (yielded l.toArray (A vs).tmps) = true then Oper.wp P o (A vs) w K Q else K ((A vs).put o.dst undef) w) : OwesD P md l Q a0 A (And5 S R ks B I sd) ps ks :=
  owesD ks pre ho hpre fun D vs w _ hS hDp hp hx _ K hK => h vs w hS.1 hp hx K fun w' g hg hw hS' hpo => hK (.bool true) w' ⟨hS', (fun e => absurd (.inr rfl) e), hS.2.2.step hf.b hw.apart.size (.inl (by simpa using hk))⟩
    (fun j hj hD hj2 => by
      have hm' : sd m ≠ 0 := by simpa using hm
      have hDm : D m := hDp m (List.contains_iff_mem.1 hmp)
      rw [Bool.and_eq_true] at hoff
      exact keepW5 hf.t hoff.2 hoff.1 hw (fun q hq h1 h2 h3 => hS.2.2.2.2 m q hDm hq hm' h1 (Ne.symm h2) g hg h3) hj (by simp) hD hj2) hpo
end
theorem noU_three (a b c : Int) : NoU #[.int .i64 a, .int .i64 b, .int .i64 c] := noU_ints [a, b, c]

theorem stepW_len {A : AdaP} {f t c : Int} {lw lm lv lg : List Int} : (stepW A f t c lw lm lv lg).length ≤ lg.length := by
  unfold stepW
  split
  · unfold adaW wL
    rw [outL_len]
    unfold uL
    rw [outL_len]
    exact Nat.le_refl _
  · exact Nat.zero_le _

set_option maxRecDepth 100000 in
set_option maxHeartbeats 8000000 in
theorem Try.turned19 {lo hi : Nat} {a : Option Addr} {n c : Nat} {l : List Int} {w : World} (h : Iw lo hi w a n c l) (hn : n ≤ 40) (hh0 : hi ≤ w.heap.size) :
    Calls Try.prog 9 #[.slice a n c] w fun e w' => ∃ v, e = .returned v ∧ RowG w.heap.size w'.heap.size w' 2 v (turnL l) ∧ Ext w w' := by
  have HN := Lib.hid hn
  have HL := Lib.hid h.len
  have HH := Lib.hid hh0
  rw [turnL_out, h.len]
  obtain ⟨ft, hft⟩ : ∃ f : Nat → Int, f = fun i => IntKind.i64.wrap (-(atL l i)) := ⟨_, rfl⟩
  rw [← hft]
  have HFT := Lib.hid hft
  clear hft hn hh0
  obtain ⟨L, hL⟩ : ∃ n, n = w.heap.size := ⟨_, rfl⟩
  obtain ⟨W1, hW1⟩ : ∃ W1, W1 = w.alloc (.cells #[] 2) := ⟨_, rfl⟩
  have E0 : Ext w W1 := by rw [hW1]; exact Ext.alloc1 _ _
  have hq : RowG L W1.heap.size W1 2 (.slice (some ⟨w.heap.size, 0, none⟩) 0 0) [] := ⟨.inr ⟨NilJ.own ⟨_, rfl, Nat.le_of_eq hL, by rw [hW1]; exact World.alloc_heap_new w _⟩, fun g hg => by have e : w.heap.size = g := hg; rw [hW1]; simp; omega⟩, fun x hx => by cases hx⟩
  have HLW : Hid (L = w.heap.size ∧ hi ≤ L) := Lib.hid ⟨hL, by rw [hL]; exact HH.out⟩
  have hsL : L ≤ W1.heap.size := by rw [hL]; exact Ext.size E0
  replace h := h.ext E0
  rw [← hL]
  go_enter Try.func9, Try.ntmps9
  go_wp2_with fail
  rw [← hW1]
  clear hW1 hL
  go_loopw [3, 4] (fun v i wr => ∃ (k : Nat) (vr : Value), vr = v ∧ i = .int .i64 (k : Int) ∧ k ≤ n ∧ RowG L wr.heap.size wr 2 vr (outL k ft) ∧ Ext w wr ∧ Iw lo hi wr a n c (l) ∧ L ≤ wr.heap.size) (fun _ i _ => n - (intOf i).toNat)
  case atStart => exact ⟨0, _, rfl, rfl, Nat.zero_le _, hq, E0, h, hsL⟩
  case round =>
    clear hq E0 h hsL
    obtain ⟨k, vr, rfl, rfl, hk, hq, E0, h, hsL⟩ := hrel
    by_cases hlt : k < n
    · have hltI : (k : Int) < (n : Int) := by omega
      have hk0 : (0 : Int) ≤ (k : Int) := by omega
      have hk63 : (k : Int) < 9223372036854775807 := by have := HN.out; omega
      obtain ⟨bb, ob, ea, -, -⟩ := h.some (by omega)
      subst ea
      have HLT := Lib.hid hlt
      obtain ⟨y, hy⟩ : ∃ y, IntKind.i64.wrap (-(atL l k)) = y := ⟨_, rfl⟩
      have HY : Hid (I64 y) := Lib.hid (by rw [← hy]; exact wrap_in _)
      have HFY : Hid (ft k = y) := Lib.hid (by rw [HFT.out]; exact hy)
      obtain ⟨hh, hhe⟩ : ∃ n, n = wr.heap.size := ⟨_, rfl⟩
      have hhs : hh ≤ wr.heap.size := Nat.le_of_eq hhe
      rw [← hhe] at hq
      clear hhe hk
      go_upto_region 5 with (fail)
      have sHLW := HLW.out
      have sHN := HN.out
      have lthsL := hsL
      have lthhs := hhs
      have szw1 := Ext.size E0
      refine region_go5 [.one fun v W => v = vr ∧ RowG L hh W 2 v (outL k ft),
          .one fun v _ => v = .slice (some ⟨bb, ob, none⟩) n c,
          .one fun v _ => v = .int .i64 (k : Int),
          .one fun v _ => v = .pointer (some ⟨bb, ob + k, none⟩),
          .one fun v _ => v = .int .i64 (atL l k),
          .one fun v _ => v = .int .i64 y,
          .one fun v W => NewG W v y,
          .one fun v W => RowG L W.heap.size W 2 v (outL k ft ++ [y]),
          .two 7 fun p v _ => v = p]
        (fun W => Ext w W ∧ Iw lo hi W (some ⟨bb, ob, none⟩) n c (l) ∧ L ≤ W.heap.size ∧ RowG L hh W 2 vr (outL k ft) ∧ hh ≤ W.heap.size ∧ wr.heap.size ≤ W.heap.size) (fun _ => True) L (Ione vr) 9999 [(0, 1), (7, 1), (6, 3)] [Tag4.on 0, Tag4.any, Tag4.any, Tag4.any, Tag4.any, Tag4.any, Tag4.on 6, Tag4.on 7, Tag4.any] ⟨tagQ, tag4_good (Good.is _), tag4_good (Good.is _), tag4_good (Good.is _), tag4_good (Good.is _), tag4_good (Good.is _), tagN, tagH, tag4_two, trivial⟩
        (fun W W1 hS hE => ⟨(Ext.trans hS.1 hE), (hS.2.1.ext hE), (Nat.le_trans hS.2.2.1 (Ext.size hE)), (hS.2.2.2.1.ext hE), (Nat.le_trans hS.2.2.2.2.1 (Ext.size hE)), (Nat.le_trans hS.2.2.2.2.2 (Ext.size hE))⟩) (fun _ _ h _ => h) (begun_one hq (by omega) (by omega)) ⟨E0, h, hsL, hq, hhs, Nat.le_refl _⟩ trivial (by kernel_rfl) (by kernel_rfl) (by kernel_rfl) (by kernel_rfl) (A := ?A1) ?hA1 ?howe1 ?hfin1
      case hA1 =>
        intro vs
        simp only [putAll, Act.put, List.setIfInBounds_toArray, List.set_cons_zero, List.set_cons_succ, Nat.zero_add, Nat.reduceAdd]
        exact rfl
      case howe1 =>
        clear E0 h hsL hq hhs
        intro hf
        refine ⟨owes5O 0 [] hf rfl rfl (by kernel_rfl) ?_, owes5E 1 [] hf rfl rfl rfl (by kernel_rfl) ?_, owes5E 2 [] hf rfl rfl rfl (by kernel_rfl) ?_, owes5E 3 [1, 2] hf rfl rfl rfl (by kernel_rfl) ?_, owes5E 4 [3] hf rfl rfl rfl (by kernel_rfl) ?_, owes5E 5 [4] hf rfl rfl rfl (by kernel_rfl) ?_, owes5N 6 [5] hf rfl rfl (by kernel_rfl) ?_, owes5A 7 0 [] [0, 6] hf rfl rfl rfl rfl (by kernel_rfl) rfl (by kernel_rfl) ?_, owes5E 8 [7] hf rfl rfl rfl (by kernel_rfl) ?_, trivial⟩
        all_goals intro vs W hS hp hx KO hKO
        all_goals simp only [Act.put, List.setIfInBounds_toArray, List.set_cons_zero, List.set_cons_succ] at hKO
        · have eo : vs 8 = vr := hx.at 8 rfl (by kernel_rfl) rfl
          simp only [eo] at hKO
          go_simp
          exact hKO _ (fun g hg => ⟨rfl, hg⟩) ⟨rfl, hS.2.2.2.1⟩
        · go_simp
          exact hKO _ W (Ext.refl W) rfl
        · go_simp
          exact hKO _ W (Ext.refl W) rfl
        · have e1 := isOf hp.1
          have e2 := isOf hp.2.1
          simp only [e1, e2] at hKO
          go_simp
          exact hKO _ W (Ext.refl W) rfl
        · have e3 := isOf hp.1
          simp only [e3] at hKO
          have fc := Iw.cell (hS.2.1) (i := k) (by omega)
          go_simp
          exact hKO _ W (Ext.refl W) rfl
        · have e4 := isOf hp.1
          simp only [e4] at hKO
          go_simp
          exact hKO _ W (Ext.refl W) rfl
        · have e5 := isOf hp.1
          simp only [e5] at hKO
          have hE := Ext.alloc1 W (.cells #[.int .i64 y] 2)
          have hbx := BxA.new W 2 #[.int .i64 y]
          have hlt := hbx.lt
          go_simp
          exact hKO _ _ hE (fun g hg => by have hq : W.heap.size = g := hg; exact ⟨by omega, by omega⟩) ⟨_, rfl, hlt, hbx.cell 0 rfl, HY.out⟩
        · have q0 := hp.1
          have q6 := hp.2.1
          obtain ⟨ev, hr⟩ := q0
          replace ev : vs 0 = vr := ev
          have hsz := hS.2.2.2.2.2
          refine step_append_g Try.underlying25 Try.infoI rfl _ _ rfl L hh (v := vs 0) (u := vs 6) rfl rfl hr q6 (by have := sHN; have := HLT.out; rw [outL_len]; omega) (by omega) ?_
          intro v w1 hc hv hr2
          refine hKO v w1 (hc.imp_right ?_) hv hr2
          rintro ⟨g, hg, hw, hr3⟩
          have hb := hr.blk hg
          exact ⟨g, hg, hw, ⟨(Ext.wr hS.1 hw (by omega)), (hS.2.1.wr hw (by omega)), (Nat.le_trans hS.2.2.1 hw.apart.size), (ev ▸ hr3), (Nat.le_trans hS.2.2.2.2.1 hw.apart.size), (Nat.le_trans hS.2.2.2.2.2 hw.apart.size)⟩, fun h => h, ⟨ev, hr3⟩⟩
        · have q7 := hp.1
          go_simp
          exact hKO _ W (Ext.refl W) rfl
      intro vs W1 hS hG hp
      clear lthsL lthhs szw1 E0 h hsL hq hhs
      obtain ⟨E0, h, hsL, hq, hhs, sz1⟩ := hS
      obtain ⟨h1_0, h1_1, h1_2, h1_3, h1_4, h1_5, h1_6, h1_7, h1_8, -⟩ := hp
      skip
      skip
      have hgr1_0 : RowG L W1.heap.size W1 2 (vs 7) (outL k ft ++ [y]) := h1_7
      have ev1_0 : vs 8 = vs 7 := h1_8
      simp only [ev1_0]
      replace h1_1 : vs 1 = .slice (some ⟨bb, ob, none⟩) n c := h1_1
      replace h1_2 : vs 2 = .int .i64 (k : Int) := h1_2
      replace h1_3 : vs 3 = .pointer (some ⟨bb, ob + k, none⟩) := h1_3
      replace h1_4 : vs 4 = .int .i64 (atL l k) := h1_4
      replace h1_5 : vs 5 = .int .i64 y := h1_5
      simp only [h1_1, h1_2, h1_3, h1_4, h1_5]
      clear h1_1 h1_2 h1_3 h1_4 h1_5 h1_0 h1_6 h1_7 h1_8
      clear sHLW sHN
      go_wp2
      go_roundw
      case rel => exact ⟨k + 1, _, rfl, by go_num, HLT.out, by rw [outL_snoc', HFY.out]; exact hgr1_0, E0, h, hsL⟩
      case measure => simp [intOf]; have := HLT.out; omega
    · have ek : n = k := by omega
      subst ek
      have hge : ¬ (n : Int) < (n : Int) := by omega
      go_wp2
      go_ret
      exact ⟨_, rfl, hq, E0⟩

set_option maxRecDepth 100000 in
set_option maxHeartbeats 8000000 in
theorem Try.has19 {lo hi : Nat} {a : Option Addr} {n c : Nat} {l : List Int} {w : World} (h : Iw lo hi w a n c l) (hn : n ≤ 1000) :
    Calls Try.prog 11 #[.slice a n c] w fun e w' => e = .returned (.bool (minB l)) ∧ Ext w w' := by
  have HL := Lib.hid h.len
  have HN := Lib.hid hn
  clear hn
  go_enter Try.func11, Try.ntmps11
  go_wp2_with fail
  go_loopw [3] (fun i wr => ∃ k : Nat, i = .int .i64 (k : Int) ∧ k ≤ n ∧ Hid (∀ j, j < k → atL l j ≠ -9223372036854775808) ∧ Ext w wr) (fun i _ => n - (intOf i).toNat)
  case atStart => exact ⟨0, rfl, by omega, Lib.hid (fun j hj => absurd hj (by omega)), Ext.refl w⟩
  case round =>
    obtain ⟨k, rfl, hk, HA, hX⟩ := hrel
    by_cases hlt : k < n
    · have hltI : (k : Int) < (n : Int) := by omega
      have h2 := h.ext hX
      obtain ⟨b, o, rfl, -, -⟩ := h2.some (by omega)
      have hc := h2.cell hlt
      have hk63 : (k : Int) < 9223372036854775807 := by have := HN.out; omega
      obtain ⟨x, hx⟩ : ∃ x, x = atL l k := ⟨_, rfl⟩
      have HX := Lib.hid hx
      rw [← hx] at hc
      clear h h2 hx
      by_cases hm : x = -9223372036854775808
      · have HR : Hid (minB l = true) := Lib.hid (minB_true (by rw [HL.out]; exact hlt) (HX.out.symm.trans hm))
        subst hm
        go_wp2
        go_ret
        exact ⟨by rw [HR.out]; rfl, hX⟩
      · have hm2 : (x == -9223372036854775808) = false := beq_eq_false_iff_ne.2 hm
        have HM := Lib.hid hm
        go_wp2
        go_roundw
        case rel => exact ⟨k + 1, by go_num, by omega, Lib.hid (grow_all (p := fun j => atL l j ≠ -9223372036854775808) HA.out (by rw [← HX.out]; exact HM.out)), hX⟩
        case measure => simp [intOf]; omega
    · have hge : ¬ (k : Int) < (n : Int) := by omega
      have HR : Hid (minB l = false) := Lib.hid (minB_false (fun i hi => HA.out i (by have := HL.out; omega)))
      go_wp2
      go_ret
      exact ⟨by rw [HR.out]; rfl, hX⟩

end Go.Rt

namespace Go.Rt
open Go Go.RowKit Go.Proofs

set_option maxRecDepth 100000 in
set_option maxHeartbeats 16000000 in
theorem Try.lawAdaSides (lr ep d f tt c : Int) {n0 n1 n2 n3 : Nat} {a0 a1 a2 a3 : Option Addr} {c0 c1 c2 c3 : Nat} {lw lm lv lg : List Int} (w : World) (hs : n0 + n1 + n2 + n3 ≤ 9223372036854775807) (q1 : I64 lr) (q2 : I64 ep) (q3 : I64 d) (q4 : I64 c) (hi0 : Iw 0 w.heap.size w a0 n0 c0 lw) (hi1 : Iw 0 w.heap.size w a1 n1 c1 lm) (hi2 : Iw 0 w.heap.size w a2 n2 c2 lv) (hi3 : Iw 0 w.heap.size w a3 n3 c3 lg) :
    Calls Try.prog 4 #[.agg #[.int .i64 lr, .int .i64 ep, .int .i64 d, .int .i64 f, .int .i64 tt, .int .i64 c, .slice a0 n0 c0, .slice a1 n1 c1, .slice a2 n2 c2, .slice a3 n3 c3]] w fun e w' => e = .returned (.bool true) ∧ Ext w w' := by
  have HQ := Lib.hid (And.intro q1 (And.intro q2 (And.intro q3 q4)))
  have HZ : Hid (I64 0) := Lib.hid (by unfold I64; omega)
  have HSM := Lib.hid hs
  have HL := Lib.hid (And.intro hi0.len (And.intro hi3.len (And.intro hi0.in64 hi3.in64)))
  clear q1 q2 q3 q4 hs
  obtain ⟨E1, hE1⟩ : ∃ E, adaE ⟨0, ep, d⟩ f tt c lw lm lv lg = E := ⟨_, rfl⟩
  obtain ⟨xw1, hxw1⟩ : ∃ x, stepW ⟨0, ep, d⟩ f tt c lw lm lv lg = x := ⟨_, rfl⟩
  obtain ⟨xm1, hxm1⟩ : ∃ x, stepM ⟨0, ep, d⟩ f tt c lw lm lv lg = x := ⟨_, rfl⟩
  obtain ⟨xv1, hxv1⟩ : ∃ x, stepV ⟨0, ep, d⟩ f tt c lw lm lv lg = x := ⟨_, rfl⟩
  have HST1 := Lib.hid (And.intro hE1 (And.intro hxw1 (And.intro hxm1 hxv1)))
  obtain ⟨E2, hE2⟩ : ∃ E, adaE ⟨lr, ep, d⟩ f tt c lw lm lv lg = E := ⟨_, rfl⟩
  obtain ⟨xw2, hxw2⟩ : ∃ x, stepW ⟨lr, ep, d⟩ f tt c lw lm lv lg = x := ⟨_, rfl⟩
  obtain ⟨xm2, hxm2⟩ : ∃ x, stepM ⟨lr, ep, d⟩ f tt c lw lm lv lg = x := ⟨_, rfl⟩
  obtain ⟨xv2, hxv2⟩ : ∃ x, stepV ⟨lr, ep, d⟩ f tt c lw lm lv lg = x := ⟨_, rfl⟩
  have HST2 := Lib.hid (And.intro hE2 (And.intro hxw2 (And.intro hxm2 hxv2)))
  obtain ⟨E3, hE3⟩ : ∃ E, adaE ⟨lr, ep, d⟩ f tt c (turnL lw) lm lv (turnL lg) = E := ⟨_, rfl⟩
  obtain ⟨xw3, hxw3⟩ : ∃ x, stepW ⟨lr, ep, d⟩ f tt c (turnL lw) lm lv (turnL lg) = x := ⟨_, rfl⟩
  obtain ⟨xm3, hxm3⟩ : ∃ x, stepM ⟨lr, ep, d⟩ f tt c (turnL lw) lm lv (turnL lg) = x := ⟨_, rfl⟩
  obtain ⟨xv3, hxv3⟩ : ∃ x, stepV ⟨lr, ep, d⟩ f tt c (turnL lw) lm lv (turnL lg) = x := ⟨_, rfl⟩
  have HST3 := Lib.hid (And.intro hE3 (And.intro hxw3 (And.intro hxm3 hxv3)))
  have HD1 : Hid (E1 = 0 → xw1 = lw) := Lib.hid (fun k => by rw [← hxw1]; exact slow_same HL.out.2.2.1 (hE1.trans k))
  have HLN : Hid (xw2.length ≤ n3) := Lib.hid (by rw [← hxw2, ← HL.out.2.1]; exact stepW_len)
  have HL3 : Hid (xw3.length ≤ n3) := Lib.hid (by rw [← hxw3, ← HL.out.2.1, ← turnL_len lg]; exact stepW_len)
  have HD2 : Hid (E2 = 0 → E3 = 0 → minB lw = false → minB lg = false → minB xw2 = false → (∀ x ∈ xw2, I64 x) → turnL xw2 = xw3 ∧ xm2 = xm3 ∧ xv2 = xv3) := Lib.hid (fun k2 k3 b1 b2 b3 b4 => by
    rw [turn_neg HL.out.2.2.1 b1, turn_neg HL.out.2.2.2 b2] at hE3 hxw3 hxm3 hxv3
    have k := sides_same (hE2.trans k2) (hE3.trans k3)
    rw [turn_neg b4 b3, ← hxw3, ← hxm3, ← hxv3, ← hxw2, ← hxm2, ← hxv2]
    exact ⟨k.1.symm, k.2.1.symm, k.2.2.symm⟩)
  clear hE1 hxw1 hxm1 hxv1 hE2 hxw2 hxm2 hxv2 hE3 hxw3 hxm3 hxv3
  obtain ⟨W0, hW0⟩ : ∃ W0, W0 = (w.alloc (.cells #[.int .i64 lr, .int .i64 ep, .int .i64 d, .int .i64 f, .int .i64 tt, .int .i64 c, .slice a0 n0 c0, .slice a1 n1 c1, .slice a2 n2 c2, .slice a3 n3 c3] 29)) := ⟨_, rfl⟩
  have E0 : Ext w W0 := by rw [hW0]; exact (Ext.alloc1 w (.cells #[.int .i64 lr, .int .i64 ep, .int .i64 d, .int .i64 f, .int .i64 tt, .int .i64 c, .slice a0 n0 c0, .slice a1 n1 c1, .slice a2 n2 c2, .slice a3 n3 c3] 29))
  replace hi0 : Iw 0 w.heap.size W0 a0 n0 c0 (lw) := hi0.ext E0
  replace hi1 : Iw 0 w.heap.size W0 a1 n1 c1 (lm) := hi1.ext E0
  replace hi2 : Iw 0 w.heap.size W0 a2 n2 c2 (lv) := hi2.ext E0
  replace hi3 : Iw 0 w.heap.size W0 a3 n3 c3 (lg) := hi3.ext E0
  have p1 : BxA W0 w.heap.size 29 #[.int .i64 lr, .int .i64 ep, .int .i64 d, .int .i64 f, .int .i64 tt, .int .i64 c, .slice a0 n0 c0, .slice a1 n1 c1, .slice a2 n2 c2, .slice a3 n3 c3] := by rw [hW0]; exact (BxA.new w 29 #[.int .i64 lr, .int .i64 ep, .int .i64 d, .int .i64 f, .int .i64 tt, .int .i64 c, .slice a0 n0 c0, .slice a1 n1 c1, .slice a2 n2 c2, .slice a3 n3 c3])
  go_enter Try.func4, Try.ntmps4
  have kp1_0 := p1.cell 0 (v := .int .i64 lr) rfl
  have kp1_1 := p1.cell 1 (v := .int .i64 ep) rfl
  have kp1_2 := p1.cell 2 (v := .int .i64 d) rfl
  have kp1_3 := p1.cell 3 (v := .int .i64 f) rfl
  have kp1_4 := p1.cell 4 (v := .int .i64 tt) rfl
  have kp1_5 := p1.cell 5 (v := .int .i64 c) rfl
  have kp1_6 := p1.cell 6 (v := .slice a0 n0 c0) rfl
  have kp1_7 := p1.cell 7 (v := .slice a1 n1 c1) rfl
  have kp1_8 := p1.cell 8 (v := .slice a2 n2 c2) rfl
  have kp1_9 := p1.cell 9 (v := .slice a3 n3 c3) rfl
  go_upto_region 1 with (fail)
  rw [← hW0]
  clear hW0
  clear kp1_0 kp1_1 kp1_2 kp1_3 kp1_4 kp1_5 kp1_6 kp1_7 kp1_8 kp1_9
  have kp1_0 := p1.cell 0 (v := .int .i64 lr) rfl
  have kp1_1 := p1.cell 1 (v := .int .i64 ep) rfl
  have kp1_2 := p1.cell 2 (v := .int .i64 d) rfl
  have kp1_3 := p1.cell 3 (v := .int .i64 f) rfl
  have kp1_4 := p1.cell 4 (v := .int .i64 tt) rfl
  have kp1_5 := p1.cell 5 (v := .int .i64 c) rfl
  have kp1_6 := p1.cell 6 (v := .slice a0 n0 c0) rfl
  have kp1_7 := p1.cell 7 (v := .slice a1 n1 c1) rfl
  have kp1_8 := p1.cell 8 (v := .slice a2 n2 c2) rfl
  have kp1_9 := p1.cell 9 (v := .slice a3 n3 c3) rfl
  go_upto_region 2 with (fail)
  clear kp1_0 kp1_1 kp1_2 kp1_3 kp1_4 kp1_5 kp1_6 kp1_7 kp1_8 kp1_9
  have p3 := BxA.new W0 27 #[.slice a0 n0 c0, .slice a1 n1 c1, .slice a2 n2 c2, .slice a3 n3 c3]
  have hE := Ext.alloc1 W0 (.cells #[.slice a0 n0 c0, .slice a1 n1 c1, .slice a2 n2 c2, .slice a3 n3 c3] 27)
  have lt0 := Ext.size E0
  have ltp1 := p1.lt
  obtain ⟨U3, hU3⟩ : ∃ U3, U3 = W0.alloc (.cells #[.slice a0 n0 c0, .slice a1 n1 c1, .slice a2 n2 c2, .slice a3 n3 c3] 27) := ⟨_, rfl⟩
  rw [← hU3] at p3 hE ⊢
  clear hU3
  replace E0 := (Ext.trans E0 hE)
  replace hi0 := (hi0.ext hE)
  replace hi1 := (hi1.ext hE)
  replace hi2 := (hi2.ext hE)
  replace hi3 := (hi3.ext hE)
  replace p1 := (p1.ext hE)
  clear hE
  obtain ⟨g3, hg3⟩ : ∃ g, g = W0.heap.size := ⟨_, rfl⟩
  rw [← hg3] at p3 lt0 ltp1 ⊢
  clear hg3
  have HS3 := Lib.hid (And.intro lt0 ltp1)
  clear lt0 ltp1
  have kp1_0 := p1.cell 0 (v := .int .i64 lr) rfl
  have kp1_1 := p1.cell 1 (v := .int .i64 ep) rfl
  have kp1_2 := p1.cell 2 (v := .int .i64 d) rfl
  have kp1_3 := p1.cell 3 (v := .int .i64 f) rfl
  have kp1_4 := p1.cell 4 (v := .int .i64 tt) rfl
  have kp1_5 := p1.cell 5 (v := .int .i64 c) rfl
  have kp1_6 := p1.cell 6 (v := .slice a0 n0 c0) rfl
  have kp1_7 := p1.cell 7 (v := .slice a1 n1 c1) rfl
  have kp1_8 := p1.cell 8 (v := .slice a2 n2 c2) rfl
  have kp1_9 := p1.cell 9 (v := .slice a3 n3 c3) rfl
  obtain ⟨kp3_0, kp3_1, kp3_2, kp3_3⟩ := p3.c4
  go_wp2_with fail
  clear kp1_0 kp1_1 kp1_2 kp1_3 kp1_4 kp1_5 kp1_6 kp1_7 kp1_8 kp1_9 kp3_0 kp3_1 kp3_2 kp3_3
  refine (Try.refFew17 a0 n0 c0 a1 n1 c1 a2 n2 c2 a3 n3 c3 36 _ HSM.out).mono ?_
  rintro e Wc ⟨rfl, hE⟩
  replace E0 := (Ext.trans E0 hE)
  replace hi0 := (hi0.ext hE)
  replace hi1 := (hi1.ext hE)
  replace hi2 := (hi2.ext hE)
  replace hi3 := (hi3.ext hE)
  replace p1 := (p1.ext hE)
  replace p3 := (p3.ext hE)
  clear hE
  by_cases hf : n0 + n1 + n2 + n3 ≤ 36
  · rw [decide_eq_true hf]
    have HN : Hid (n0 ≤ 40) := Lib.hid (by omega)
    have HN4 : Hid (n3 ≤ 40) := Lib.hid (by omega)
    clear hf
    have kp1_0 := p1.cell 0 (v := .int .i64 lr) rfl
    have kp1_1 := p1.cell 1 (v := .int .i64 ep) rfl
    have kp1_2 := p1.cell 2 (v := .int .i64 d) rfl
    have kp1_3 := p1.cell 3 (v := .int .i64 f) rfl
    have kp1_4 := p1.cell 4 (v := .int .i64 tt) rfl
    have kp1_5 := p1.cell 5 (v := .int .i64 c) rfl
    have kp1_6 := p1.cell 6 (v := .slice a0 n0 c0) rfl
    have kp1_7 := p1.cell 7 (v := .slice a1 n1 c1) rfl
    have kp1_8 := p1.cell 8 (v := .slice a2 n2 c2) rfl
    have kp1_9 := p1.cell 9 (v := .slice a3 n3 c3) rfl
    obtain ⟨kp3_0, kp3_1, kp3_2, kp3_3⟩ := p3.c4
    go_upto_region 5 with (fail)
    clear kp1_0 kp1_1 kp1_2 kp1_3 kp1_4 kp1_5 kp1_6 kp1_7 kp1_8 kp1_9 kp3_0 kp3_1 kp3_2 kp3_3
    have p4 := BxA.new Wc 23 #[.int .i64 lr, .int .i64 ep, .int .i64 d]
    have hE := Ext.alloc1 Wc (.cells #[.int .i64 lr, .int .i64 ep, .int .i64 d] 23)
    have lt0 := Ext.size E0
    have ltp1 := p1.lt
    have ltp3 := p3.lt
    obtain ⟨U4, hU4⟩ : ∃ U4, U4 = Wc.alloc (.cells #[.int .i64 lr, .int .i64 ep, .int .i64 d] 23) := ⟨_, rfl⟩
    rw [← hU4] at p4 hE ⊢
    clear hU4
    replace E0 := (Ext.trans E0 hE)
    replace hi0 := (hi0.ext hE)
    replace hi1 := (hi1.ext hE)
    replace hi2 := (hi2.ext hE)
    replace hi3 := (hi3.ext hE)
    replace p1 := (p1.ext hE)
    replace p3 := (p3.ext hE)
    clear hE
    obtain ⟨g4, hg4⟩ : ∃ g, g = Wc.heap.size := ⟨_, rfl⟩
    rw [← hg4] at p4 lt0 ltp1 ltp3 ⊢
    clear hg4
    have HS4 := Lib.hid (And.intro lt0 (And.intro ltp1 ltp3))
    clear lt0 ltp1 ltp3
    replace p4 : Bx3 U4 g4 23 (.int .i64 lr) (.int .i64 ep) (.int .i64 d) := p4
    have zf := p4.froz0
    have kp1_0 := p1.cell 0 (v := .int .i64 lr) rfl
    have kp1_1 := p1.cell 1 (v := .int .i64 ep) rfl
    have kp1_2 := p1.cell 2 (v := .int .i64 d) rfl
    have kp1_3 := p1.cell 3 (v := .int .i64 f) rfl
    have kp1_4 := p1.cell 4 (v := .int .i64 tt) rfl
    have kp1_5 := p1.cell 5 (v := .int .i64 c) rfl
    have kp1_6 := p1.cell 6 (v := .slice a0 n0 c0) rfl
    have kp1_7 := p1.cell 7 (v := .slice a1 n1 c1) rfl
    have kp1_8 := p1.cell 8 (v := .slice a2 n2 c2) rfl
    have kp1_9 := p1.cell 9 (v := .slice a3 n3 c3) rfl
    obtain ⟨kp3_0, kp3_1, kp3_2, kp3_3⟩ := p3.c4
    have kp4_0 := p4.cell0
    have kp4_1 := p4.cell1
    have kp4_2 := p4.cell2
    go_upto_region 6 with (fail)
    clear kp1_0 kp1_1 kp1_2 kp1_3 kp1_4 kp1_5 kp1_6 kp1_7 kp1_8 kp1_9 kp3_0 kp3_1 kp3_2 kp3_3 kp4_0 kp4_1 kp4_2
    clear zf
    obtain ⟨V1, hV1⟩ : ∃ V, V = U4.setCell ⟨g4, 0, none⟩ (.int .i64 0) := ⟨_, rfl⟩
    rw [← hV1]
    have p4a : BxA U4 g4 23 #[.int .i64 lr, .int .i64 ep, .int .i64 d] := p4
    have hw : Wr g4 U4 V1 := by rw [hV1]; exact Wr.putN p4a (noU_three _ _ _) 0 _ (noU_three _ _ _)
    have hp : Bx3 V1 g4 23 (.int .i64 0) (.int .i64 ep) (.int .i64 d) := by rw [hV1]; exact BxA.putN p4a 0 _
    have sHS3 := HS3.out
    have sHS4 := HS4.out
    replace E0 := (Ext.wr E0 hw (by omega))
    replace hi0 := (hi0.wr hw (by omega))
    replace hi1 := (hi1.wr hw (by omega))
    replace hi2 := (hi2.wr hw (by omega))
    replace hi3 := (hi3.wr hw (by omega))
    replace p1 := (p1.wr hw (by omega))
    replace p3 := (p3.wr hw (by omega))
    replace p4 := hp
    clear sHS3 sHS4
    clear hw hV1 p4a
    have kp1_0 := p1.cell 0 (v := .int .i64 lr) rfl
    have kp1_1 := p1.cell 1 (v := .int .i64 ep) rfl
    have kp1_2 := p1.cell 2 (v := .int .i64 d) rfl
    have kp1_3 := p1.cell 3 (v := .int .i64 f) rfl
    have kp1_4 := p1.cell 4 (v := .int .i64 tt) rfl
    have kp1_5 := p1.cell 5 (v := .int .i64 c) rfl
    have kp1_6 := p1.cell 6 (v := .slice a0 n0 c0) rfl
    have kp1_7 := p1.cell 7 (v := .slice a1 n1 c1) rfl
    have kp1_8 := p1.cell 8 (v := .slice a2 n2 c2) rfl
    have kp1_9 := p1.cell 9 (v := .slice a3 n3 c3) rfl
    obtain ⟨kp3_0, kp3_1, kp3_2, kp3_3⟩ := p3.c4
    have kp4_0 := p4.cell0
    have kp4_1 := p4.cell1
    have kp4_2 := p4.cell2
    go_wp2_with fail
    clear kp1_0 kp1_1 kp1_2 kp1_3 kp1_4 kp1_5 kp1_6 kp1_7 kp1_8 kp1_9 kp3_0 kp3_1 kp3_2 kp3_3 kp4_0 kp4_1 kp4_2
    have szc := Ext.size E0
    refine (Try.adaStepTo 0 ep d f tt c _ HZ.out HQ.out.2.1 HQ.out.2.2.1 HQ.out.2.2.2 HN.out HST1.out (hi0.mono (Nat.zero_le _) szc) (hi1.mono (Nat.zero_le _) szc) (hi2.mono (Nat.zero_le _) szc) (hi3.mono (Nat.zero_le _) szc)).mono ?_
    rintro e S1 ⟨hE, x11, m11, y11, x12, m12, y12, x13, m13, y13, rfl, i11, i12, i13⟩
    clear szc
    replace E0 := (Ext.trans E0 hE)
    replace hi0 := (hi0.ext hE)
    replace hi1 := (hi1.ext hE)
    replace hi2 := (hi2.ext hE)
    replace hi3 := (hi3.ext hE)
    replace p1 := (p1.ext hE)
    replace p3 := (p3.ext hE)
    replace p4 := (p4.ext hE)
    clear hE
    obtain ⟨hx1, hhx⟩ : ∃ n, n = S1.heap.size := ⟨_, rfl⟩
    rw [← hhx] at i11 i12 i13
    have szs1 := Nat.le_of_eq hhx
    clear hhx
    have kp1_0 := p1.cell 0 (v := .int .i64 lr) rfl
    have kp1_1 := p1.cell 1 (v := .int .i64 ep) rfl
    have kp1_2 := p1.cell 2 (v := .int .i64 d) rfl
    have kp1_3 := p1.cell 3 (v := .int .i64 f) rfl
    have kp1_4 := p1.cell 4 (v := .int .i64 tt) rfl
    have kp1_5 := p1.cell 5 (v := .int .i64 c) rfl
    have kp1_6 := p1.cell 6 (v := .slice a0 n0 c0) rfl
    have kp1_7 := p1.cell 7 (v := .slice a1 n1 c1) rfl
    have kp1_8 := p1.cell 8 (v := .slice a2 n2 c2) rfl
    have kp1_9 := p1.cell 9 (v := .slice a3 n3 c3) rfl
    obtain ⟨kp3_0, kp3_1, kp3_2, kp3_3⟩ := p3.c4
    have kp4_0 := p4.cell0
    have kp4_1 := p4.cell1
    have kp4_2 := p4.cell2
    go_upto_region 7 with (fail)
    clear kp1_0 kp1_1 kp1_2 kp1_3 kp1_4 kp1_5 kp1_6 kp1_7 kp1_8 kp1_9 kp3_0 kp3_1 kp3_2 kp3_3 kp4_0 kp4_1 kp4_2
    have p5 := BxA.new S1 27 #[.slice x11 m11 y11, .slice x12 m12 y12, .slice x13 m13 y13, .slice none 0 0]
    have hE := Ext.alloc1 S1 (.cells #[.slice x11 m11 y11, .slice x12 m12 y12, .slice x13 m13 y13, .slice none 0 0] 27)
    have lt0 := Ext.size E0
    have ltp1 := p1.lt
    have ltp3 := p3.lt
    have ltp4 := p4.lt
    have ltszs1 := szs1
    obtain ⟨U5, hU5⟩ : ∃ U5, U5 = S1.alloc (.cells #[.slice x11 m11 y11, .slice x12 m12 y12, .slice x13 m13 y13, .slice none 0 0] 27) := ⟨_, rfl⟩
    rw [← hU5] at p5 hE ⊢
    clear hU5
    replace E0 := (Ext.trans E0 hE)
    replace hi0 := (hi0.ext hE)
    replace hi1 := (hi1.ext hE)
    replace hi2 := (hi2.ext hE)
    replace hi3 := (hi3.ext hE)
    replace p1 := (p1.ext hE)
    replace p3 := (p3.ext hE)
    replace p4 := (p4.ext hE)
    replace i11 := (i11.ext hE)
    replace i12 := (i12.ext hE)
    replace i13 := (i13.ext hE)
    replace szs1 := (Nat.le_trans szs1 (Ext.size hE))
    clear hE
    obtain ⟨g5, hg5⟩ : ∃ g, g = S1.heap.size := ⟨_, rfl⟩
    rw [← hg5] at p5 lt0 ltp1 ltp3 ltp4 ltszs1 ⊢
    clear hg5
    have HS5 := Lib.hid (And.intro lt0 (And.intro ltp1 (And.intro ltp3 (And.intro ltp4 ltszs1))))
    clear lt0 ltp1 ltp3 ltp4 ltszs1
    have kp1_0 := p1.cell 0 (v := .int .i64 lr) rfl
    have kp1_1 := p1.cell 1 (v := .int .i64 ep) rfl
    have kp1_2 := p1.cell 2 (v := .int .i64 d) rfl
    have kp1_3 := p1.cell 3 (v := .int .i64 f) rfl
    have kp1_4 := p1.cell 4 (v := .int .i64 tt) rfl
    have kp1_5 := p1.cell 5 (v := .int .i64 c) rfl
    have kp1_6 := p1.cell 6 (v := .slice a0 n0 c0) rfl
    have kp1_7 := p1.cell 7 (v := .slice a1 n1 c1) rfl
    have kp1_8 := p1.cell 8 (v := .slice a2 n2 c2) rfl
    have kp1_9 := p1.cell 9 (v := .slice a3 n3 c3) rfl
    obtain ⟨kp3_0, kp3_1, kp3_2, kp3_3⟩ := p3.c4
    have kp4_0 := p4.cell0
    have kp4_1 := p4.cell1
    have kp4_2 := p4.cell2
    obtain ⟨kp5_0, kp5_1, kp5_2, kp5_3⟩ := p5.c4
    go_wp2_with fail
    clear kp1_0 kp1_1 kp1_2 kp1_3 kp1_4 kp1_5 kp1_6 kp1_7 kp1_8 kp1_9 kp3_0 kp3_1 kp3_2 kp3_3 kp4_0 kp4_1 kp4_2 kp5_0 kp5_1 kp5_2 kp5_3
    have szc := Ext.size E0
    refine (Try.adaStepTo lr ep d f tt c _ HQ.out.1 HQ.out.2.1 HQ.out.2.2.1 HQ.out.2.2.2 HN.out HST2.out (hi0.mono (Nat.zero_le _) szc) (hi1.mono (Nat.zero_le _) szc) (hi2.mono (Nat.zero_le _) szc) (hi3.mono (Nat.zero_le _) szc)).mono ?_
    rintro e S2 ⟨hE, x21, m21, y21, x22, m22, y22, x23, m23, y23, rfl, i21, i22, i23⟩
    clear szc
    replace E0 := (Ext.trans E0 hE)
    replace hi0 := (hi0.ext hE)
    replace hi1 := (hi1.ext hE)
    replace hi2 := (hi2.ext hE)
    replace hi3 := (hi3.ext hE)
    replace p1 := (p1.ext hE)
    replace p3 := (p3.ext hE)
    replace p4 := (p4.ext hE)
    replace i11 := (i11.ext hE)
    replace i12 := (i12.ext hE)
    replace i13 := (i13.ext hE)
    replace szs1 := (Nat.le_trans szs1 (Ext.size hE))
    replace p5 := (p5.ext hE)
    clear hE
    obtain ⟨hx2, hhx⟩ : ∃ n, n = S2.heap.size := ⟨_, rfl⟩
    rw [← hhx] at i21 i22 i23
    have szs2 := Nat.le_of_eq hhx
    clear hhx
    have kp1_0 := p1.cell 0 (v := .int .i64 lr) rfl
    have kp1_1 := p1.cell 1 (v := .int .i64 ep) rfl
    have kp1_2 := p1.cell 2 (v := .int .i64 d) rfl
    have kp1_3 := p1.cell 3 (v := .int .i64 f) rfl
    have kp1_4 := p1.cell 4 (v := .int .i64 tt) rfl
    have kp1_5 := p1.cell 5 (v := .int .i64 c) rfl
    have kp1_6 := p1.cell 6 (v := .slice a0 n0 c0) rfl
    have kp1_7 := p1.cell 7 (v := .slice a1 n1 c1) rfl
    have kp1_8 := p1.cell 8 (v := .slice a2 n2 c2) rfl
    have kp1_9 := p1.cell 9 (v := .slice a3 n3 c3) rfl
    obtain ⟨kp3_0, kp3_1, kp3_2, kp3_3⟩ := p3.c4
    have kp4_0 := p4.cell0
    have kp4_1 := p4.cell1
    have kp4_2 := p4.cell2
    obtain ⟨kp5_0, kp5_1, kp5_2, kp5_3⟩ := p5.c4
    go_upto_region 8 with (fail)
    clear kp1_0 kp1_1 kp1_2 kp1_3 kp1_4 kp1_5 kp1_6 kp1_7 kp1_8 kp1_9 kp3_0 kp3_1 kp3_2 kp3_3 kp4_0 kp4_1 kp4_2 kp5_0 kp5_1 kp5_2 kp5_3
    have p7 := BxA.new S2 27 #[.slice x21 m21 y21, .slice x22 m22 y22, .slice x23 m23 y23, .slice none 0 0]
    have hE := Ext.alloc1 S2 (.cells #[.slice x21 m21 y21, .slice x22 m22 y22, .slice x23 m23 y23, .slice none 0 0] 27)
    have lt0 := Ext.size E0
    have ltp1 := p1.lt
    have ltp3 := p3.lt
    have ltp4 := p4.lt
    have ltszs1 := szs1
    have ltp5 := p5.lt
    have ltszs2 := szs2
    obtain ⟨U7, hU7⟩ : ∃ U7, U7 = S2.alloc (.cells #[.slice x21 m21 y21, .slice x22 m22 y22, .slice x23 m23 y23, .slice none 0 0] 27) := ⟨_, rfl⟩
    rw [← hU7] at p7 hE ⊢
    clear hU7
    replace E0 := (Ext.trans E0 hE)
    replace hi0 := (hi0.ext hE)
    replace hi1 := (hi1.ext hE)
    replace hi2 := (hi2.ext hE)
    replace hi3 := (hi3.ext hE)
    replace p1 := (p1.ext hE)
    replace p3 := (p3.ext hE)
    replace p4 := (p4.ext hE)
    replace i11 := (i11.ext hE)
    replace i12 := (i12.ext hE)
    replace i13 := (i13.ext hE)
    replace szs1 := (Nat.le_trans szs1 (Ext.size hE))
    replace p5 := (p5.ext hE)
    replace i21 := (i21.ext hE)
    replace i22 := (i22.ext hE)
    replace i23 := (i23.ext hE)
    replace szs2 := (Nat.le_trans szs2 (Ext.size hE))
    clear hE
    obtain ⟨g7, hg7⟩ : ∃ g, g = S2.heap.size := ⟨_, rfl⟩
    rw [← hg7] at p7 lt0 ltp1 ltp3 ltp4 ltszs1 ltp5 ltszs2 ⊢
    clear hg7
    have HS7 := Lib.hid (And.intro lt0 (And.intro ltp1 (And.intro ltp3 (And.intro ltp4 (And.intro ltszs1 (And.intro ltp5 ltszs2))))))
    clear lt0 ltp1 ltp3 ltp4 ltszs1 ltp5 ltszs2
    have sHS3 := HS3.out
    have sHS4 := HS4.out
    have sHS5 := HS5.out
    have sHS7 := HS7.out
    have ltp1 := p1.lt
    have ltp3 := p3.lt
    have ltp4 := p4.lt
    have ltp5 := p5.lt
    have ltp7 := p7.lt
    have ltszs1 := szs1
    have ltszs2 := szs2
    have szw2 := Ext.size E0
    refine region_go5 [.one fun v _ => v = .pointer (some ⟨w.heap.size, 0, none⟩),
        .one fun v _ => v = .agg #[.int .i64 lr, .int .i64 ep, .int .i64 d],
        .one fun v _ => v = .pointer (some ⟨w.heap.size, 3, none⟩),
        .one fun v _ => v = .int .i64 f,
        .one fun v _ => v = .pointer (some ⟨w.heap.size, 4, none⟩),
        .one fun v _ => v = .agg #[.int .i64 tt, .int .i64 c],
        .one fun v _ => v = .pointer (some ⟨g3, 0, none⟩),
        .one fun v _ => v = .slice a0 n0 c0,
        .one fun v W => RowG U7.heap.size W.heap.size W 2 v (turnL lw),
        .one fun v _ => v = .pointer (some ⟨g3, 1, none⟩),
        .one fun v _ => v = .slice a1 n1 c1,
        .one fun v _ => v = .pointer (some ⟨g3, 2, none⟩),
        .one fun v _ => v = .slice a2 n2 c2,
        .one fun v _ => v = .pointer (some ⟨g3, 3, none⟩),
        .one fun v _ => v = .slice a3 n3 c3,
        .one fun v W => RowG U7.heap.size W.heap.size W 2 v (turnL lg),
        .three 8 15 fun p q v _ => ∃ (q1 : Option Addr) (q2 q3 : Nat) (q4 : Option Addr) (q5 q6 : Nat), p = .slice q1 q2 q3 ∧ q = .slice q4 q5 q6 ∧ v = .agg #[.slice q1 q2 q3, .slice a1 n1 c1, .slice a2 n2 c2, .slice q4 q5 q6],
        .one fun v W => AdaAt U7.heap.size W v E3 xw3 xm3 xv3,
        .two 17 fun p v _ => v = p ∧ ∃ (q1 : Option Addr) (q2 : Nat) (q3 : Nat) (q4 : Option Addr) (q5 : Nat) (q6 : Nat) (q7 : Option Addr) (q8 : Nat) (q9 : Nat), p = .tuple #[.agg #[.slice q1 q2 q3, .slice q4 q5 q6, .slice q7 q8 q9, .slice none 0 0], .int .i64 E3],
        .two 18 fun p v _ => ∃ (q1 : Option Addr) (q2 : Nat) (q3 : Nat) (q4 : Option Addr) (q5 : Nat) (q6 : Nat) (q7 : Option Addr) (q8 : Nat) (q9 : Nat), p = .tuple #[.agg #[.slice q1 q2 q3, .slice q4 q5 q6, .slice q7 q8 q9, .slice none 0 0], .int .i64 E3] ∧ v = .agg #[.slice q1 q2 q3, .slice q4 q5 q6, .slice q7 q8 q9, .slice none 0 0],
        .one fun v _ => v = .int .i64 E3,
        .one fun v W => ∃ g, v = .pointer (some ⟨g, 0, none⟩) ∧ U7.heap.size ≤ g ∧ Form W g 27 4,
        .three 21 19 fun p v _ W => NewQ U7.heap.size 27 p v W,
        .one fun v _ => v = .int .i64 E3]
      (fun W => Ext w W ∧ Iw 0 w.heap.size W a0 n0 c0 (lw) ∧ Iw 0 w.heap.size W a1 n1 c1 (lm) ∧ Iw 0 w.heap.size W a2 n2 c2 (lv) ∧ Iw 0 w.heap.size W a3 n3 c3 (lg) ∧ BxA W w.heap.size 29 #[.int .i64 lr, .int .i64 ep, .int .i64 d, .int .i64 f, .int .i64 tt, .int .i64 c, .slice a0 n0 c0, .slice a1 n1 c1, .slice a2 n2 c2, .slice a3 n3 c3] ∧ BxA W g3 27 #[.slice a0 n0 c0, .slice a1 n1 c1, .slice a2 n2 c2, .slice a3 n3 c3] ∧ Bx3 W g4 23 (.int .i64 0) (.int .i64 ep) (.int .i64 d) ∧ Iw V1.heap.size hx1 W x11 m11 y11 (xw1) ∧ Iw V1.heap.size hx1 W x12 m12 y12 (xm1) ∧ Iw V1.heap.size hx1 W x13 m13 y13 (xv1) ∧ hx1 ≤ W.heap.size ∧ BxA W g5 27 #[.slice x11 m11 y11, .slice x12 m12 y12, .slice x13 m13 y13, .slice none 0 0] ∧ Iw U5.heap.size hx2 W x21 m21 y21 (xw2) ∧ Iw U5.heap.size hx2 W x22 m22 y22 (xm2) ∧ Iw U5.heap.size hx2 W x23 m23 y23 (xv2) ∧ hx2 ≤ W.heap.size ∧ BxA W g7 27 #[.slice x21 m21 y21, .slice x22 m22 y22, .slice x23 m23 y23, .slice none 0 0] ∧ U7.heap.size ≤ W.heap.size) (fun _ => True) U7.heap.size (fun _ _ => False) 22 [(8, 3), (15, 4), (17, 1), (21, 2)] [Tag4.any, Tag4.any, Tag4.any, Tag4.any, Tag4.any, Tag4.any, Tag4.any, Tag4.any, Tag4.on 8, Tag4.any, Tag4.any, Tag4.any, Tag4.any, Tag4.any, Tag4.any, Tag4.on 15, Tag4.any, Tag4.on 17, Tag4.any, Tag4.any, Tag4.any, Tag4.any, Tag4.last, Tag4.any] ⟨tag4_good (Good.is _), tag4_good (Good.is _), tag4_good (Good.is _), tag4_good (Good.is _), tag4_good (Good.is _), tag4_good (Good.is _), tag4_good (Good.is _), tag4_good (Good.is _), tagH, tag4_good (Good.is _), tag4_good (Good.is _), tag4_good (Good.is _), tag4_good (Good.is _), tag4_good (Good.is _), tag4_good (Good.is _), tagH, ⟨fun _ _ _ _ h => h, fun _ _ _ _ _ _ h => h⟩, tag_adaAt, tag4_two, tag4_two, tag4_good (Good.is _), tag4_good (Good.box _ _ _), tag_newQ, tag4_good (Good.is _), trivial⟩
      (fun W W1 hS hE => ⟨(Ext.trans hS.1 hE), (hS.2.1.ext hE), (hS.2.2.1.ext hE), (hS.2.2.2.1.ext hE), (hS.2.2.2.2.1.ext hE), (hS.2.2.2.2.2.1.ext hE), (hS.2.2.2.2.2.2.1.ext hE), (hS.2.2.2.2.2.2.2.1.ext hE), (hS.2.2.2.2.2.2.2.2.1.ext hE), (hS.2.2.2.2.2.2.2.2.2.1.ext hE), (hS.2.2.2.2.2.2.2.2.2.2.1.ext hE), (Nat.le_trans hS.2.2.2.2.2.2.2.2.2.2.2.1 (Ext.size hE)), (hS.2.2.2.2.2.2.2.2.2.2.2.2.1.ext hE), (hS.2.2.2.2.2.2.2.2.2.2.2.2.2.1.ext hE), (hS.2.2.2.2.2.2.2.2.2.2.2.2.2.2.1.ext hE), (hS.2.2.2.2.2.2.2.2.2.2.2.2.2.2.2.1.ext hE), (Nat.le_trans hS.2.2.2.2.2.2.2.2.2.2.2.2.2.2.2.2.1 (Ext.size hE)), (hS.2.2.2.2.2.2.2.2.2.2.2.2.2.2.2.2.2.1.ext hE), (Nat.le_trans hS.2.2.2.2.2.2.2.2.2.2.2.2.2.2.2.2.2.2 (Ext.size hE))⟩) (fun _ _ h _ => h) (⟨fun _ _ h => h.elim, fun _ _ h => h.elim, fun _ _ _ h => h.elim, Nat.le_refl _⟩) ⟨E0, hi0, hi1, hi2, hi3, p1, p3, p4, i11, i12, i13, szs1, p5, i21, i22, i23, szs2, p7, Nat.le_refl _⟩ trivial (by kernel_rfl) (by kernel_rfl) (by kernel_rfl) (by kernel_rfl) (A := ?A2) ?hA2 ?howe2 ?hfin2
    case hA2 =>
      intro vs
      simp only [putAll, Act.put, List.setIfInBounds_toArray, List.set_cons_zero, List.set_cons_succ, Nat.zero_add, Nat.reduceAdd]
      exact rfl
    case howe2 =>
      clear E0 hi0 hi1 hi2 hi3 p1 p3 p4 i11 i12 i13 szs1 p5 i21 i22 i23 szs2 p7
      intro hf
      refine ⟨owes5E 0 [] hf rfl rfl rfl (by kernel_rfl) ?_, owes5E 1 [0] hf rfl rfl rfl (by kernel_rfl) ?_, owes5E 2 [] hf rfl rfl rfl (by kernel_rfl) ?_, owes5E 3 [2] hf rfl rfl rfl (by kernel_rfl) ?_, owes5E 4 [] hf rfl rfl rfl (by kernel_rfl) ?_, owes5E 5 [4] hf rfl rfl rfl (by kernel_rfl) ?_, owes5E 6 [] hf rfl rfl rfl (by kernel_rfl) ?_, owes5E 7 [6] hf rfl rfl rfl (by kernel_rfl) ?_, owes5N 8 [7] hf rfl rfl (by kernel_rfl) ?_, owes5E 9 [] hf rfl rfl rfl (by kernel_rfl) ?_, owes5E 10 [9] hf rfl rfl rfl (by kernel_rfl) ?_, owes5E 11 [] hf rfl rfl rfl (by kernel_rfl) ?_, owes5E 12 [11] hf rfl rfl rfl (by kernel_rfl) ?_, owes5E 13 [] hf rfl rfl rfl (by kernel_rfl) ?_, owes5E 14 [13] hf rfl rfl rfl (by kernel_rfl) ?_, owes5N 15 [14] hf rfl rfl (by kernel_rfl) ?_, owes5E 16 [8, 10, 12, 15] hf rfl rfl rfl (by kernel_rfl) ?_, owes5M 17 [1, 3, 5, 16, 15] [8] hf rfl rfl (by kernel_rfl) (by kernel_rfl) ?_, owes5E 18 [17] hf rfl rfl rfl (by kernel_rfl) ?_, owes5E 19 [18] hf rfl rfl rfl (by kernel_rfl) ?_, owes5E 20 [18] hf rfl rfl rfl (by kernel_rfl) ?_, owes5N 21 [] hf rfl rfl (by kernel_rfl) ?_, owes5P 21 [21, 19] hf rfl rfl rfl (by kernel_rfl) rfl (by kernel_rfl) ?_, owes5E 23 [20] hf rfl rfl rfl (by kernel_rfl) ?_, trivial⟩
      all_goals intro vs W hS hp hx KO hKO
      all_goals simp only [Act.put, List.setIfInBounds_toArray, List.set_cons_zero, List.set_cons_succ] at hKO
      · go_simp
        exact hKO _ W (Ext.refl W) rfl
      · have e0 := isOf hp.1
        simp only [e0] at hKO
        have fc0 := BxA.cell (hS.2.2.2.2.2.1) 0 (v := .int .i64 lr) rfl
        have fc1 := BxA.cell (hS.2.2.2.2.2.1) 1 (v := .int .i64 ep) rfl
        have fc2 := BxA.cell (hS.2.2.2.2.2.1) 2 (v := .int .i64 d) rfl
        go_simp
        exact hKO _ W (Ext.refl W) rfl
      · go_simp
        exact hKO _ W (Ext.refl W) rfl
      · have e2 := isOf hp.1
        simp only [e2] at hKO
        have fc3 := BxA.cell (hS.2.2.2.2.2.1) 3 (v := .int .i64 f) rfl
        go_simp
        exact hKO _ W (Ext.refl W) rfl
      · go_simp
        exact hKO _ W (Ext.refl W) rfl
      · have e4 := isOf hp.1
        simp only [e4] at hKO
        have fc4 := BxA.cell (hS.2.2.2.2.2.1) 4 (v := .int .i64 tt) rfl
        have fc5 := BxA.cell (hS.2.2.2.2.2.1) 5 (v := .int .i64 c) rfl
        go_simp
        exact hKO _ W (Ext.refl W) rfl
      · go_simp
        exact hKO _ W (Ext.refl W) rfl
      · have e6 := isOf hp.1
        simp only [e6] at hKO
        have fc0 := BxA.cell (hS.2.2.2.2.2.2.1) 0 (v := .slice a0 n0 c0) rfl
        go_simp
        exact hKO _ W (Ext.refl W) rfl
      · have e7 := isOf hp.1
        simp only [e7] at hKO
        have hsz := hS.2.2.2.2.2.2.2.2.2.2.2.2.2.2.2.2.2.2
        have hE0 := Ext.size hS.1
        go_simp
        refine (Try.turned19 hS.2.1 HN.out (by omega)).mono ?_
        rintro e W1 ⟨v, rfl, hr, hE⟩
        exact hKO v W1 hE (fun g hg => ⟨(hr.blk hg).2, (hr.blk hg).1⟩) (hr.mono hsz (Nat.le_refl _))
      · go_simp
        exact hKO _ W (Ext.refl W) rfl
      · have e9 := isOf hp.1
        simp only [e9] at hKO
        have fc1 := BxA.cell (hS.2.2.2.2.2.2.1) 1 (v := .slice a1 n1 c1) rfl
        go_simp
        exact hKO _ W (Ext.refl W) rfl
      · go_simp
        exact hKO _ W (Ext.refl W) rfl
      · have e11 := isOf hp.1
        simp only [e11] at hKO
        have fc2 := BxA.cell (hS.2.2.2.2.2.2.1) 2 (v := .slice a2 n2 c2) rfl
        go_simp
        exact hKO _ W (Ext.refl W) rfl
      · go_simp
        exact hKO _ W (Ext.refl W) rfl
      · have e13 := isOf hp.1
        simp only [e13] at hKO
        have fc3 := BxA.cell (hS.2.2.2.2.2.2.1) 3 (v := .slice a3 n3 c3) rfl
        go_simp
        exact hKO _ W (Ext.refl W) rfl
      · have e14 := isOf hp.1
        simp only [e14] at hKO
        have hsz := hS.2.2.2.2.2.2.2.2.2.2.2.2.2.2.2.2.2.2
        have hE0 := Ext.size hS.1
        go_simp
        refine (Try.turned19 hS.2.2.2.2.1 HN4.out (by omega)).mono ?_
        rintro e W1 ⟨v, rfl, hr, hE⟩
        exact hKO v W1 hE (fun g hg => ⟨(hr.blk hg).2, (hr.blk hg).1⟩) (hr.mono hsz (Nat.le_refl _))
      · have q8 := hp.1
        have e10 := isOf hp.2.1
        have e12 := isOf hp.2.2.1
        have q15 := hp.2.2.2.1
        simp only [e10, e12] at hKO
        obtain ⟨q1, q2, q3, ew⟩ := RowG.noU q8
        obtain ⟨q4, q5, q6, eg⟩ := RowG.noU q15
        replace ew : vs 8 = _ := ew
        replace eg : vs 15 = _ := eg
        simp only [ew, eg] at hKO
        go_simp
        exact hKO _ W (Ext.refl W) ⟨q1, q2, q3, q4, q5, q6, ew, eg, rfl⟩
      · have e1 := isOf hp.1
        have e3 := isOf hp.2.1
        have e5 := isOf hp.2.2.1
        have q16 := hp.2.2.2.1
        have q15 := hp.2.2.2.2.1
        have q8 := hp.2.2.2.2.2.1
        simp only [e1, e3, e5] at hKO
        obtain ⟨q1, q2, q3, q4, q5, q6, ew, eg, ev⟩ := q16
        replace ev : vs 16 = _ := ev
        replace ew : vs 8 = _ := ew
        replace eg : vs 15 = _ := eg
        obtain ⟨aw, cw, ew2, hiw⟩ := RowG.iw q8
        obtain ⟨ah, ch, eg2, hig⟩ := RowG.iw q15
        have ew3 := Eq.trans (Eq.symm ew) ew2
        have eg3 := Eq.trans (Eq.symm eg) eg2
        cases ew3
        cases eg3
        clear ew2 eg2
        have hl1 : (turnL lw).length ≤ 40 := by rw [turnL_len, HL.out.1]; exact HN.out
        obtain ⟨nw, hnw⟩ : ∃ n, n = (turnL lw).length := ⟨_, rfl⟩
        obtain ⟨nh, hnh⟩ : ∃ n, n = (turnL lg).length := ⟨_, rfl⟩
        rw [← hnw] at hiw hl1 ev ew
        rw [← hnh] at hig ev eg
        clear hnw hnh
        have hsz := hS.2.2.2.2.2.2.2.2.2.2.2.2.2.2.2.2.2.2
        have hE0 := Ext.size hS.1
        simp only [ev, ew, eg] at hKO
        go_simp
        refine (Try.adaStepTo lr ep d f tt c _ HQ.out.1 HQ.out.2.1 HQ.out.2.2.1 HQ.out.2.2.2 hl1 HST3.out (hiw.mono (Nat.zero_le _) (Nat.le_refl _)) (hS.2.2.1.mono (Nat.le_refl _) hE0) (hS.2.2.2.1.mono (Nat.le_refl _) hE0) (hig.mono (Nat.zero_le _) (Nat.le_refl _))).mono ?_
        rintro e W1 hto
        obtain ⟨hE, v, rfl, hat⟩ := hto.at
        exact hKO v W1 hE (fun g hg => hat.fresh hg) (hat.low hsz)
      · have q17 := hp.1
        go_simp
        exact hKO _ W (Ext.refl W) ⟨rfl, AdaAt.shape q17⟩
      · have q18 := hp.1
        obtain ⟨em, q1, q2, q3, q4, q5, q6, q7, q8, q9, ep⟩ := q18
        have e18 : vs 18 = .tuple #[.agg #[.slice q1 q2 q3, .slice q4 q5 q6, .slice q7 q8 q9, .slice none 0 0], .int .i64 E3] := Eq.trans em ep
        clear em ep
        simp only [e18] at hKO
        go_simp
        exact hKO _ W (Ext.refl W) ⟨q1, q2, q3, q4, q5, q6, q7, q8, q9, e18, rfl⟩
      · have q18 := hp.1
        obtain ⟨em, q1, q2, q3, q4, q5, q6, q7, q8, q9, ep⟩ := q18
        have e18 : vs 18 = .tuple #[.agg #[.slice q1 q2 q3, .slice q4 q5 q6, .slice q7 q8 q9, .slice none 0 0], .int .i64 E3] := Eq.trans em ep
        clear em ep
        simp only [e18] at hKO
        go_simp
        exact hKO _ W (Ext.refl W) rfl
      · have hn := BxA.new W 27 #[.slice none 0 0, .slice none 0 0, .slice none 0 0, .slice none 0 0]
        have hsz := hS.2.2.2.2.2.2.2.2.2.2.2.2.2.2.2.2.2.2
        have hlt := hn.lt
        go_simp
        exact hKO _ _ (Ext.alloc1 W _) (fun g hg => by have hq : W.heap.size = g := hg; exact ⟨by omega, by omega⟩) ⟨_, rfl, hsz, ⟨_, hn, (noU4 none 0 0 none 0 0 none 0 0 none 0 0), rfl⟩⟩
      · have q21 := hp.1
        have q19 := hp.2.1
        obtain ⟨g, ev, hg, hfo⟩ := q21
        replace ev : vs 21 = _ := ev
        obtain ⟨q1, q2, q3, q4, q5, q6, q7, q8, q9, -, eu⟩ := q19
        replace eu : vs 19 = _ := eu
        obtain ⟨y0, y1, y2, y3, c0_, c1_, c2_, c3_, hfz, W2, hW2, hw, hq⟩ := hfo.put4 (.slice q1 q2 q3) (.slice q4 q5 q6) (.slice q7 q8 q9) (.slice none 0 0) (noU4 _ _ _ _ _ _ _ _ _ _ _ _)
        have z0 := hfz 0
        have z1 := hfz 1
        have z2 := hfz 2
        have z3 := hfz 3
        have hbl : blks (vs 21) g := by rw [ev]; rfl
        simp only [ev, eu] at hKO
        go_simp
        rw [← hW2]
        exact hKO _ g (by first | exact hbl | rfl) hw ⟨(Ext.wr hS.1 hw (by omega)), (hS.2.1.wr hw (by omega)), (hS.2.2.1.wr hw (by omega)), (hS.2.2.2.1.wr hw (by omega)), (hS.2.2.2.2.1.wr hw (by omega)), (hS.2.2.2.2.2.1.wr hw (by omega)), (hS.2.2.2.2.2.2.1.wr hw (by omega)), (hS.2.2.2.2.2.2.2.1.wr hw (by omega)), (hS.2.2.2.2.2.2.2.2.1.wr hw (by omega)), (hS.2.2.2.2.2.2.2.2.2.1.wr hw (by omega)), (hS.2.2.2.2.2.2.2.2.2.2.1.wr hw (by omega)), (Nat.le_trans hS.2.2.2.2.2.2.2.2.2.2.2.1 hw.apart.size), (hS.2.2.2.2.2.2.2.2.2.2.2.2.1.wr hw (by omega)), (hS.2.2.2.2.2.2.2.2.2.2.2.2.2.1.wr hw (by omega)), (hS.2.2.2.2.2.2.2.2.2.2.2.2.2.2.1.wr hw (by omega)), (hS.2.2.2.2.2.2.2.2.2.2.2.2.2.2.2.1.wr hw (by omega)), (Nat.le_trans hS.2.2.2.2.2.2.2.2.2.2.2.2.2.2.2.2.1 hw.apart.size), (hS.2.2.2.2.2.2.2.2.2.2.2.2.2.2.2.2.2.1.wr hw (by omega)), (Nat.le_trans hS.2.2.2.2.2.2.2.2.2.2.2.2.2.2.2.2.2.2 hw.apart.size)⟩ ⟨g, q1, q2, q3, q4, q5, q6, q7, q8, q9, eu, ev, hg, hq⟩
      · have e20 := isOf hp.1
        simp only [e20] at hKO
        go_simp
        exact hKO _ W (Ext.refl W) rfl
    intro vs W2 hS hG hp
    clear ltszs1 ltszs2 szw2 E0 hi0 hi1 hi2 hi3 p1 p3 p4 i11 i12 i13 szs1 p5 i21 i22 i23 szs2 p7
    obtain ⟨E0, hi0, hi1, hi2, hi3, p1, p3, p4, i11, i12, i13, szs1, p5, i21, i22, i23, szs2, p7, sz2⟩ := hS
    obtain ⟨h2_0, h2_1, h2_2, h2_3, h2_4, h2_5, h2_6, h2_7, h2_8, h2_9, h2_10, h2_11, h2_12, h2_13, h2_14, h2_15, h2_16, h2_17, h2_18, h2_19, h2_20, h2_21, h2_22, h2_23, -⟩ := hp
    skip
    skip
    skip
    have st3 := h2_17
    have mv3 := h2_18
    have ex3 := h2_19
    skip
    obtain ⟨x31, m31, y31, x32, m32, y32, x33, m33, y33, es3, i31, i32, i33⟩ := st3
    obtain ⟨em3, -⟩ := mv3
    obtain ⟨z1, z2, z3, z4, z5, z6, z7, z8, z9, ez1, ez2⟩ := ex3
    have nb3 := h2_22
    obtain ⟨g9, uz1, uz2, uz3, uz4, uz5, uz6, uz7, uz8, uz9, ey1, ev9, hg9, p9⟩ := nb3
    obtain ⟨⟨rfl, rfl, rfl⟩, ⟨rfl, rfl, rfl⟩, rfl, rfl, rfl⟩ := agg4_inj (tuple_fst (Eq.trans (Eq.symm ez1) (Eq.trans em3 es3)))
    obtain ⟨⟨rfl, rfl, rfl⟩, ⟨rfl, rfl, rfl⟩, rfl, rfl, rfl⟩ := agg4_inj (Eq.trans (Eq.symm ey1) ez2)
    replace ev9 : vs 21 = _ := ev9
    clear es3 em3 ez1 ez2 ey1
    obtain ⟨hx3, hhx⟩ : ∃ n, n = W2.heap.size := ⟨_, rfl⟩
    rw [← hhx] at i31 i32 i33
    have szs3 := Nat.le_of_eq hhx
    clear hhx
    replace h2_0 : vs 0 = .pointer (some ⟨w.heap.size, 0, none⟩) := h2_0
    replace h2_1 : vs 1 = .agg #[.int .i64 lr, .int .i64 ep, .int .i64 d] := h2_1
    replace h2_2 : vs 2 = .pointer (some ⟨w.heap.size, 3, none⟩) := h2_2
    replace h2_3 : vs 3 = .int .i64 f := h2_3
    replace h2_4 : vs 4 = .pointer (some ⟨w.heap.size, 4, none⟩) := h2_4
    replace h2_5 : vs 5 = .agg #[.int .i64 tt, .int .i64 c] := h2_5
    replace h2_6 : vs 6 = .pointer (some ⟨g3, 0, none⟩) := h2_6
    replace h2_7 : vs 7 = .slice a0 n0 c0 := h2_7
    replace h2_9 : vs 9 = .pointer (some ⟨g3, 1, none⟩) := h2_9
    replace h2_10 : vs 10 = .slice a1 n1 c1 := h2_10
    replace h2_11 : vs 11 = .pointer (some ⟨g3, 2, none⟩) := h2_11
    replace h2_12 : vs 12 = .slice a2 n2 c2 := h2_12
    replace h2_13 : vs 13 = .pointer (some ⟨g3, 3, none⟩) := h2_13
    replace h2_14 : vs 14 = .slice a3 n3 c3 := h2_14
    replace h2_20 : vs 20 = .int .i64 E3 := h2_20
    replace h2_23 : vs 23 = .int .i64 E3 := h2_23
    simp only [ev9, h2_0, h2_1, h2_2, h2_3, h2_4, h2_5, h2_6, h2_7, h2_9, h2_10, h2_11, h2_12, h2_13, h2_14, h2_20, h2_23]
    clear ev9 h2_0 h2_1 h2_2 h2_3 h2_4 h2_5 h2_6 h2_7 h2_9 h2_10 h2_11 h2_12 h2_13 h2_14 h2_20 h2_23 h2_8 h2_15 h2_16 h2_17 h2_18 h2_19 h2_21 h2_22
    clear sHS3 sHS4 sHS5 sHS7
    have HG9 := Lib.hid hg9
    clear hg9
    have kp1_0 := p1.cell 0 (v := .int .i64 lr) rfl
    have kp1_1 := p1.cell 1 (v := .int .i64 ep) rfl
    have kp1_2 := p1.cell 2 (v := .int .i64 d) rfl
    have kp1_3 := p1.cell 3 (v := .int .i64 f) rfl
    have kp1_4 := p1.cell 4 (v := .int .i64 tt) rfl
    have kp1_5 := p1.cell 5 (v := .int .i64 c) rfl
    have kp1_6 := p1.cell 6 (v := .slice a0 n0 c0) rfl
    have kp1_7 := p1.cell 7 (v := .slice a1 n1 c1) rfl
    have kp1_8 := p1.cell 8 (v := .slice a2 n2 c2) rfl
    have kp1_9 := p1.cell 9 (v := .slice a3 n3 c3) rfl
    obtain ⟨kp3_0, kp3_1, kp3_2, kp3_3⟩ := p3.c4
    have kp4_0 := p4.cell0
    have kp4_1 := p4.cell1
    have kp4_2 := p4.cell2
    obtain ⟨kp5_0, kp5_1, kp5_2, kp5_3⟩ := p5.c4
    obtain ⟨kp7_0, kp7_1, kp7_2, kp7_3⟩ := p7.c4
    obtain ⟨kp9_0, kp9_1, kp9_2, kp9_3⟩ := p9.c4
    go_upto_region 9 with (fail)
    clear kp1_0 kp1_1 kp1_2 kp1_3 kp1_4 kp1_5 kp1_6 kp1_7 kp1_8 kp1_9 kp3_0 kp3_1 kp3_2 kp3_3 kp4_0 kp4_1 kp4_2 kp5_0 kp5_1 kp5_2 kp5_3 kp7_0 kp7_1 kp7_2 kp7_3 kp9_0 kp9_1 kp9_2 kp9_3
    go_cut [6, 71] from 11 to 71 (fun _ s wx => s = .bool false ∧ Ext w wx ∧ Iw 0 w.heap.size wx a0 n0 c0 (lw) ∧ Iw 0 w.heap.size wx a3 n3 c3 (lg) ∧ BxA wx g3 27 #[.slice a0 n0 c0, .slice a1 n1 c1, .slice a2 n2 c2, .slice a3 n3 c3] ∧ Iw U5.heap.size hx2 wx x21 m21 y21 (xw2) ∧ Iw U5.heap.size hx2 wx x22 m22 y22 (xm2) ∧ Iw U5.heap.size hx2 wx x23 m23 y23 (xv2) ∧ hx2 ≤ wx.heap.size ∧ BxA wx g7 27 #[.slice x21 m21 y21, .slice x22 m22 y22, .slice x23 m23 y23, .slice none 0 0] ∧ BxA wx g9 27 #[.slice x31 m31 y31, .slice x32 m32 y32, .slice x33 m33 y33, .slice none 0 0] ∧ Iw U7.heap.size hx3 wx x31 m31 y31 (xw3) ∧ Iw U7.heap.size hx3 wx x32 m32 y32 (xm3) ∧ Iw U7.heap.size hx3 wx x33 m33 y33 (xv3) ∧ hx3 ≤ wx.heap.size)
    case first =>
      by_cases k1 : E1 = 0
      · have HX1 := Lib.hid (HD1.out k1)
        have k1b : (E1 == 0) = true := beq_iff_eq.2 k1
        clear k1
        have kp1_0 := p1.cell 0 (v := .int .i64 lr) rfl
        have kp1_1 := p1.cell 1 (v := .int .i64 ep) rfl
        have kp1_2 := p1.cell 2 (v := .int .i64 d) rfl
        have kp1_3 := p1.cell 3 (v := .int .i64 f) rfl
        have kp1_4 := p1.cell 4 (v := .int .i64 tt) rfl
        have kp1_5 := p1.cell 5 (v := .int .i64 c) rfl
        have kp1_6 := p1.cell 6 (v := .slice a0 n0 c0) rfl
        have kp1_7 := p1.cell 7 (v := .slice a1 n1 c1) rfl
        have kp1_8 := p1.cell 8 (v := .slice a2 n2 c2) rfl
        have kp1_9 := p1.cell 9 (v := .slice a3 n3 c3) rfl
        obtain ⟨kp3_0, kp3_1, kp3_2, kp3_3⟩ := p3.c4
        have kp4_0 := p4.cell0
        have kp4_1 := p4.cell1
        have kp4_2 := p4.cell2
        obtain ⟨kp5_0, kp5_1, kp5_2, kp5_3⟩ := p5.c4
        obtain ⟨kp7_0, kp7_1, kp7_2, kp7_3⟩ := p7.c4
        obtain ⟨kp9_0, kp9_1, kp9_2, kp9_3⟩ := p9.c4
        go_wp2_with fail
        clear kp1_0 kp1_1 kp1_2 kp1_3 kp1_4 kp1_5 kp1_6 kp1_7 kp1_8 kp1_9 kp3_0 kp3_1 kp3_2 kp3_3 kp4_0 kp4_1 kp4_2 kp5_0 kp5_1 kp5_2 kp5_3 kp7_0 kp7_1 kp7_2 kp7_3 kp9_0 kp9_1 kp9_2 kp9_3
        refine (Try.refSame09 i11 hi0).mono ?_
        rintro e Wq ⟨rfl, hE⟩
        rw [decide_eq_true HX1.out]
        replace E0 := (Ext.trans E0 hE)
        replace hi0 := (hi0.ext hE)
        replace hi1 := (hi1.ext hE)
        replace hi2 := (hi2.ext hE)
        replace hi3 := (hi3.ext hE)
        replace p1 := (p1.ext hE)
        replace p3 := (p3.ext hE)
        replace p4 := (p4.ext hE)
        replace i11 := (i11.ext hE)
        replace i12 := (i12.ext hE)
        replace i13 := (i13.ext hE)
        replace szs1 := (Nat.le_trans szs1 (Ext.size hE))
        replace p5 := (p5.ext hE)
        replace i21 := (i21.ext hE)
        replace i22 := (i22.ext hE)
        replace i23 := (i23.ext hE)
        replace szs2 := (Nat.le_trans szs2 (Ext.size hE))
        replace p7 := (p7.ext hE)
        replace p9 := (p9.ext hE)
        replace i31 := (i31.ext hE)
        replace i32 := (i32.ext hE)
        replace i33 := (i33.ext hE)
        replace szs3 := (Nat.le_trans szs3 (Ext.size hE))
        clear hE
        have kp1_0 := p1.cell 0 (v := .int .i64 lr) rfl
        have kp1_1 := p1.cell 1 (v := .int .i64 ep) rfl
        have kp1_2 := p1.cell 2 (v := .int .i64 d) rfl
        have kp1_3 := p1.cell 3 (v := .int .i64 f) rfl
        have kp1_4 := p1.cell 4 (v := .int .i64 tt) rfl
        have kp1_5 := p1.cell 5 (v := .int .i64 c) rfl
        have kp1_6 := p1.cell 6 (v := .slice a0 n0 c0) rfl
        have kp1_7 := p1.cell 7 (v := .slice a1 n1 c1) rfl
        have kp1_8 := p1.cell 8 (v := .slice a2 n2 c2) rfl
        have kp1_9 := p1.cell 9 (v := .slice a3 n3 c3) rfl
        obtain ⟨kp3_0, kp3_1, kp3_2, kp3_3⟩ := p3.c4
        have kp4_0 := p4.cell0
        have kp4_1 := p4.cell1
        have kp4_2 := p4.cell2
        obtain ⟨kp5_0, kp5_1, kp5_2, kp5_3⟩ := p5.c4
        obtain ⟨kp7_0, kp7_1, kp7_2, kp7_3⟩ := p7.c4
        obtain ⟨kp9_0, kp9_1, kp9_2, kp9_3⟩ := p9.c4
        go_wp2
        go_meet
        exact ⟨rfl, E0, hi0, hi3, p3, i21, i22, i23, szs2, p7, p9, i31, i32, i33, szs3⟩
      · have k1b : (E1 == 0) = false := beq_eq_false_iff_ne.2 k1
        clear k1
        have kp1_0 := p1.cell 0 (v := .int .i64 lr) rfl
        have kp1_1 := p1.cell 1 (v := .int .i64 ep) rfl
        have kp1_2 := p1.cell 2 (v := .int .i64 d) rfl
        have kp1_3 := p1.cell 3 (v := .int .i64 f) rfl
        have kp1_4 := p1.cell 4 (v := .int .i64 tt) rfl
        have kp1_5 := p1.cell 5 (v := .int .i64 c) rfl
        have kp1_6 := p1.cell 6 (v := .slice a0 n0 c0) rfl
        have kp1_7 := p1.cell 7 (v := .slice a1 n1 c1) rfl
        have kp1_8 := p1.cell 8 (v := .slice a2 n2 c2) rfl
        have kp1_9 := p1.cell 9 (v := .slice a3 n3 c3) rfl
        obtain ⟨kp3_0, kp3_1, kp3_2, kp3_3⟩ := p3.c4
        have kp4_0 := p4.cell0
        have kp4_1 := p4.cell1
        have kp4_2 := p4.cell2
        obtain ⟨kp5_0, kp5_1, kp5_2, kp5_3⟩ := p5.c4
        obtain ⟨kp7_0, kp7_1, kp7_2, kp7_3⟩ := p7.c4
        obtain ⟨kp9_0, kp9_1, kp9_2, kp9_3⟩ := p9.c4
        go_wp2
        go_meet
        exact ⟨rfl, E0, hi0, hi3, p3, i21, i22, i23, szs2, p7, p9, i31, i32, i33, szs3⟩
    case rest =>
      clear E0 hi0 hi1 hi2 hi3 p1 p3 p4 i11 i12 i13 szs1 p5 i21 i22 i23 szs2 p7 p9 i31 i32 i33 szs3
      obtain ⟨rfl, E0, hi0, hi3, p3, i21, i22, i23, szs2, p7, p9, i31, i32, i33, szs3⟩ := hcut
      obtain ⟨kp3_0, kp3_1, kp3_2, kp3_3⟩ := p3.c4
      obtain ⟨kp7_0, kp7_1, kp7_2, kp7_3⟩ := p7.c4
      obtain ⟨kp9_0, kp9_1, kp9_2, kp9_3⟩ := p9.c4
      go_upto_region 11 with (fail)
      clear kp3_0 kp3_1 kp3_2 kp3_3 kp7_0 kp7_1 kp7_2 kp7_3 kp9_0 kp9_1 kp9_2 kp9_3
      go_cut [8, 10, 97] from 11 to 97 (fun _ _ s wx => ∃ b : Bool, s = .bool b ∧ Hid (b = false → E2 = 0 ∧ E3 = 0 ∧ minB lw = false ∧ minB lg = false ∧ minB xw2 = false) ∧ Ext w wx ∧ Iw U5.heap.size hx2 wx x21 m21 y21 (xw2) ∧ Iw U5.heap.size hx2 wx x22 m22 y22 (xm2) ∧ Iw U5.heap.size hx2 wx x23 m23 y23 (xv2) ∧ hx2 ≤ wx.heap.size ∧ BxA wx g7 27 #[.slice x21 m21 y21, .slice x22 m22 y22, .slice x23 m23 y23, .slice none 0 0] ∧ BxA wx g9 27 #[.slice x31 m31 y31, .slice x32 m32 y32, .slice x33 m33 y33, .slice none 0 0] ∧ Iw U7.heap.size hx3 wx x31 m31 y31 (xw3) ∧ Iw U7.heap.size hx3 wx x32 m32 y32 (xm3) ∧ Iw U7.heap.size hx3 wx x33 m33 y33 (xv3) ∧ hx3 ≤ wx.heap.size)
      case first =>
        by_cases k2 : E2 = 0
        · have k2b : (E2 != 0) = false := by rw [bne_eq_false_iff_eq]; exact k2
          have K2 := Lib.hid k2
          clear k2
          by_cases k3 : E3 = 0
          · have k3b : (E3 != 0) = false := by rw [bne_eq_false_iff_eq]; exact k3
            have K3 := Lib.hid k3
            clear k3
            obtain ⟨kp3_0, kp3_1, kp3_2, kp3_3⟩ := p3.c4
            obtain ⟨kp7_0, kp7_1, kp7_2, kp7_3⟩ := p7.c4
            obtain ⟨kp9_0, kp9_1, kp9_2, kp9_3⟩ := p9.c4
            go_wp2_with fail
            clear kp3_0 kp3_1 kp3_2 kp3_3 kp7_0 kp7_1 kp7_2 kp7_3 kp9_0 kp9_1 kp9_2 kp9_3
            refine (Try.has19 hi0 (by have := HN.out; omega)).mono ?_
            rintro e Wm0 ⟨rfl, hE⟩
            replace E0 := (Ext.trans E0 hE)
            replace hi0 := (hi0.ext hE)
            replace hi3 := (hi3.ext hE)
            replace p3 := (p3.ext hE)
            replace i21 := (i21.ext hE)
            replace i22 := (i22.ext hE)
            replace i23 := (i23.ext hE)
            replace szs2 := (Nat.le_trans szs2 (Ext.size hE))
            replace p7 := (p7.ext hE)
            replace p9 := (p9.ext hE)
            replace i31 := (i31.ext hE)
            replace i32 := (i32.ext hE)
            replace i33 := (i33.ext hE)
            replace szs3 := (Nat.le_trans szs3 (Ext.size hE))
            clear hE
            cases hb0 : minB lw
            · obtain ⟨kp3_0, kp3_1, kp3_2, kp3_3⟩ := p3.c4
              obtain ⟨kp7_0, kp7_1, kp7_2, kp7_3⟩ := p7.c4
              obtain ⟨kp9_0, kp9_1, kp9_2, kp9_3⟩ := p9.c4
              go_wp2_with fail
              clear kp3_0 kp3_1 kp3_2 kp3_3 kp7_0 kp7_1 kp7_2 kp7_3 kp9_0 kp9_1 kp9_2 kp9_3
              refine (Try.has19 hi3 (by have := HN4.out; omega)).mono ?_
              rintro e Wm1 ⟨rfl, hE⟩
              replace E0 := (Ext.trans E0 hE)
              replace hi0 := (hi0.ext hE)
              replace hi3 := (hi3.ext hE)
              replace p3 := (p3.ext hE)
              replace i21 := (i21.ext hE)
              replace i22 := (i22.ext hE)
              replace i23 := (i23.ext hE)
              replace szs2 := (Nat.le_trans szs2 (Ext.size hE))
              replace p7 := (p7.ext hE)
              replace p9 := (p9.ext hE)
              replace i31 := (i31.ext hE)
              replace i32 := (i32.ext hE)
              replace i33 := (i33.ext hE)
              replace szs3 := (Nat.le_trans szs3 (Ext.size hE))
              clear hE
              cases hb1 : minB lg
              · obtain ⟨kp3_0, kp3_1, kp3_2, kp3_3⟩ := p3.c4
                obtain ⟨kp7_0, kp7_1, kp7_2, kp7_3⟩ := p7.c4
                obtain ⟨kp9_0, kp9_1, kp9_2, kp9_3⟩ := p9.c4
                go_wp2_with fail
                clear kp3_0 kp3_1 kp3_2 kp3_3 kp7_0 kp7_1 kp7_2 kp7_3 kp9_0 kp9_1 kp9_2 kp9_3
                refine (Try.has19 i21 (by have h1 := i21.len; have := HLN.out; have := HN4.out; omega)).mono ?_
                rintro e Wm2 ⟨rfl, hE⟩
                replace E0 := (Ext.trans E0 hE)
                replace hi0 := (hi0.ext hE)
                replace hi3 := (hi3.ext hE)
                replace p3 := (p3.ext hE)
                replace i21 := (i21.ext hE)
                replace i22 := (i22.ext hE)
                replace i23 := (i23.ext hE)
                replace szs2 := (Nat.le_trans szs2 (Ext.size hE))
                replace p7 := (p7.ext hE)
                replace p9 := (p9.ext hE)
                replace i31 := (i31.ext hE)
                replace i32 := (i32.ext hE)
                replace i33 := (i33.ext hE)
                replace szs3 := (Nat.le_trans szs3 (Ext.size hE))
                clear hE
                cases hb2 : minB xw2
                · obtain ⟨kp3_0, kp3_1, kp3_2, kp3_3⟩ := p3.c4
                  obtain ⟨kp7_0, kp7_1, kp7_2, kp7_3⟩ := p7.c4
                  obtain ⟨kp9_0, kp9_1, kp9_2, kp9_3⟩ := p9.c4
                  go_wp2_with fail
                  clear kp3_0 kp3_1 kp3_2 kp3_3 kp7_0 kp7_1 kp7_2 kp7_3 kp9_0 kp9_1 kp9_2 kp9_3
                  refine (Try.has19 i31 (by have h1 := i31.len; have := HL3.out; have := HN4.out; omega)).mono ?_
                  rintro e Wm3 ⟨rfl, hE⟩
                  replace E0 := (Ext.trans E0 hE)
                  replace hi0 := (hi0.ext hE)
                  replace hi3 := (hi3.ext hE)
                  replace p3 := (p3.ext hE)
                  replace i21 := (i21.ext hE)
                  replace i22 := (i22.ext hE)
                  replace i23 := (i23.ext hE)
                  replace szs2 := (Nat.le_trans szs2 (Ext.size hE))
                  replace p7 := (p7.ext hE)
                  replace p9 := (p9.ext hE)
                  replace i31 := (i31.ext hE)
                  replace i32 := (i32.ext hE)
                  replace i33 := (i33.ext hE)
                  replace szs3 := (Nat.le_trans szs3 (Ext.size hE))
                  clear hE
                  cases hb3 : minB xw3
                  · obtain ⟨kp3_0, kp3_1, kp3_2, kp3_3⟩ := p3.c4
                    obtain ⟨kp7_0, kp7_1, kp7_2, kp7_3⟩ := p7.c4
                    obtain ⟨kp9_0, kp9_1, kp9_2, kp9_3⟩ := p9.c4
                    go_wp2
                    go_meet
                    exact ⟨false, rfl, Lib.hid (fun _ => ⟨K2.out, K3.out, hb0, hb1, hb2⟩), E0, i21, i22, i23, szs2, p7, p9, i31, i32, i33, szs3⟩
                  · obtain ⟨kp3_0, kp3_1, kp3_2, kp3_3⟩ := p3.c4
                    obtain ⟨kp7_0, kp7_1, kp7_2, kp7_3⟩ := p7.c4
                    obtain ⟨kp9_0, kp9_1, kp9_2, kp9_3⟩ := p9.c4
                    go_wp2
                    go_meet
                    exact ⟨true, rfl, Lib.hid (fun h => by cases h), E0, i21, i22, i23, szs2, p7, p9, i31, i32, i33, szs3⟩
                · obtain ⟨kp3_0, kp3_1, kp3_2, kp3_3⟩ := p3.c4
                  obtain ⟨kp7_0, kp7_1, kp7_2, kp7_3⟩ := p7.c4
                  obtain ⟨kp9_0, kp9_1, kp9_2, kp9_3⟩ := p9.c4
                  go_wp2
                  go_meet
                  exact ⟨true, rfl, Lib.hid (fun h => by cases h), E0, i21, i22, i23, szs2, p7, p9, i31, i32, i33, szs3⟩
              · obtain ⟨kp3_0, kp3_1, kp3_2, kp3_3⟩ := p3.c4
                obtain ⟨kp7_0, kp7_1, kp7_2, kp7_3⟩ := p7.c4
                obtain ⟨kp9_0, kp9_1, kp9_2, kp9_3⟩ := p9.c4
                go_wp2
                go_meet
                exact ⟨true, rfl, Lib.hid (fun h => by cases h), E0, i21, i22, i23, szs2, p7, p9, i31, i32, i33, szs3⟩
            · obtain ⟨kp3_0, kp3_1, kp3_2, kp3_3⟩ := p3.c4
              obtain ⟨kp7_0, kp7_1, kp7_2, kp7_3⟩ := p7.c4
              obtain ⟨kp9_0, kp9_1, kp9_2, kp9_3⟩ := p9.c4
              go_wp2
              go_meet
              exact ⟨true, rfl, Lib.hid (fun h => by cases h), E0, i21, i22, i23, szs2, p7, p9, i31, i32, i33, szs3⟩
          · have k3b : (E3 != 0) = true := bne_iff_ne.2 k3
            clear k3
            obtain ⟨kp3_0, kp3_1, kp3_2, kp3_3⟩ := p3.c4
            obtain ⟨kp7_0, kp7_1, kp7_2, kp7_3⟩ := p7.c4
            obtain ⟨kp9_0, kp9_1, kp9_2, kp9_3⟩ := p9.c4
            go_wp2
            go_meet
            exact ⟨true, rfl, Lib.hid (fun h => by cases h), E0, i21, i22, i23, szs2, p7, p9, i31, i32, i33, szs3⟩
        · have k2b : (E2 != 0) = true := bne_iff_ne.2 k2
          clear k2
          obtain ⟨kp3_0, kp3_1, kp3_2, kp3_3⟩ := p3.c4
          obtain ⟨kp7_0, kp7_1, kp7_2, kp7_3⟩ := p7.c4
          obtain ⟨kp9_0, kp9_1, kp9_2, kp9_3⟩ := p9.c4
          go_wp2
          go_meet
          exact ⟨true, rfl, Lib.hid (fun h => by cases h), E0, i21, i22, i23, szs2, p7, p9, i31, i32, i33, szs3⟩
      case rest =>
        clear E0 hi0 hi3 p3 i21 i22 i23 szs2 p7 p9 i31 i32 i33 szs3
        obtain ⟨b, rfl, HB, E0, i21, i22, i23, szs2, p7, p9, i31, i32, i33, szs3⟩ := hcut
        cases b
        · obtain ⟨k2, k3, hb0, hb1, hb2⟩ := HB.out rfl
          obtain ⟨d1, d2, d3⟩ := HD2.out k2 k3 hb0 hb1 hb2 i21.in64
          have HT1 := Lib.hid d1
          have HT2 := Lib.hid d2
          have HT3 := Lib.hid d3
          have hlx : m21 ≤ 40 := by have h1 := i21.len; have := HLN.out; have := HN4.out; omega
          have HLX := Lib.hid hlx
          clear d1 d2 d3 hlx hb0 hb1 hb2 k2 k3
          obtain ⟨kp7_0, kp7_1, kp7_2, kp7_3⟩ := p7.c4
          obtain ⟨kp9_0, kp9_1, kp9_2, kp9_3⟩ := p9.c4
          go_upto_region 13 with (fail)
          clear kp7_0 kp7_1 kp7_2 kp7_3 kp9_0 kp9_1 kp9_2 kp9_3
          have sHS3 := HS3.out
          have sHS4 := HS4.out
          have sHS5 := HS5.out
          have sHS7 := HS7.out
          have sHG9 := HG9.out
          have ltp7 := p7.lt
          have ltp9 := p9.lt
          have ltszs2 := szs2
          have ltszs3 := szs3
          have szw3 := Ext.size E0
          refine region_go5 [.one fun v _ => v = .bool true,
              .one fun v _ => v = .bool true,
              .one fun v _ => v = .pointer (some ⟨g7, 0, none⟩),
              .one fun v _ => v = .slice x21 m21 y21,
              .one fun v W => RowG wc.heap.size W.heap.size W 2 v (turnL xw2),
              .one fun v _ => v = .pointer (some ⟨g9, 0, none⟩),
              .one fun v _ => v = .slice x31 m31 y31,
              .one fun v _ => v = .bool true,
              .one fun v _ => v = .bool true,
              .one fun v _ => v = .bool true,
              .one fun v _ => v = .pointer (some ⟨g7, 1, none⟩),
              .one fun v _ => v = .slice x22 m22 y22,
              .one fun v _ => v = .pointer (some ⟨g9, 1, none⟩),
              .one fun v _ => v = .slice x32 m32 y32,
              .one fun v _ => v = .bool true,
              .one fun v _ => v = .bool true,
              .one fun v _ => v = .bool true,
              .one fun v _ => v = .pointer (some ⟨g7, 2, none⟩),
              .one fun v _ => v = .slice x23 m23 y23,
              .one fun v _ => v = .pointer (some ⟨g9, 2, none⟩),
              .one fun v _ => v = .slice x33 m33 y33,
              .one fun v _ => v = .bool true,
              .one fun v _ => v = .bool true,
              .one fun v _ => v = .bool true]
            (fun W => Ext w W ∧ Iw U5.heap.size hx2 W x21 m21 y21 (xw2) ∧ Iw U5.heap.size hx2 W x22 m22 y22 (xm2) ∧ Iw U5.heap.size hx2 W x23 m23 y23 (xv2) ∧ hx2 ≤ W.heap.size ∧ BxA W g7 27 #[.slice x21 m21 y21, .slice x22 m22 y22, .slice x23 m23 y23, .slice none 0 0] ∧ BxA W g9 27 #[.slice x31 m31 y31, .slice x32 m32 y32, .slice x33 m33 y33, .slice none 0 0] ∧ Iw U7.heap.size hx3 W x31 m31 y31 (xw3) ∧ Iw U7.heap.size hx3 W x32 m32 y32 (xm3) ∧ Iw U7.heap.size hx3 W x33 m33 y33 (xv3) ∧ hx3 ≤ W.heap.size ∧ wc.heap.size ≤ W.heap.size) (fun _ => True) wc.heap.size (fun _ _ => False) 9999 [(4, 1)] [Tag4.any, Tag4.any, Tag4.any, Tag4.any, Tag4.on 4, Tag4.any, Tag4.any, Tag4.any, Tag4.any, Tag4.any, Tag4.any, Tag4.any, Tag4.any, Tag4.any, Tag4.any, Tag4.any, Tag4.any, Tag4.any, Tag4.any, Tag4.any, Tag4.any, Tag4.any, Tag4.any, Tag4.any] ⟨tag4_good (Good.is _), tag4_good (Good.is _), tag4_good (Good.is _), tag4_good (Good.is _), tagH, tag4_good (Good.is _), tag4_good (Good.is _), tag4_good (Good.is _), tag4_good (Good.is _), tag4_good (Good.is _), tag4_good (Good.is _), tag4_good (Good.is _), tag4_good (Good.is _), tag4_good (Good.is _), tag4_good (Good.is _), tag4_good (Good.is _), tag4_good (Good.is _), tag4_good (Good.is _), tag4_good (Good.is _), tag4_good (Good.is _), tag4_good (Good.is _), tag4_good (Good.is _), tag4_good (Good.is _), tag4_good (Good.is _), trivial⟩
            (fun W W1 hS hE => ⟨(Ext.trans hS.1 hE), (hS.2.1.ext hE), (hS.2.2.1.ext hE), (hS.2.2.2.1.ext hE), (Nat.le_trans hS.2.2.2.2.1 (Ext.size hE)), (hS.2.2.2.2.2.1.ext hE), (hS.2.2.2.2.2.2.1.ext hE), (hS.2.2.2.2.2.2.2.1.ext hE), (hS.2.2.2.2.2.2.2.2.1.ext hE), (hS.2.2.2.2.2.2.2.2.2.1.ext hE), (Nat.le_trans hS.2.2.2.2.2.2.2.2.2.2.1 (Ext.size hE)), (Nat.le_trans hS.2.2.2.2.2.2.2.2.2.2.2 (Ext.size hE))⟩) (fun _ _ h _ => h) (⟨fun _ _ h => h.elim, fun _ _ h => h.elim, fun _ _ _ h => h.elim, Nat.le_refl _⟩) ⟨E0, i21, i22, i23, szs2, p7, p9, i31, i32, i33, szs3, Nat.le_refl _⟩ trivial (by kernel_rfl) (by kernel_rfl) (by kernel_rfl) (by kernel_rfl) (A := ?A3) ?hA3 ?howe3 ?hfin3
          case hA3 =>
            intro vs
            simp only [putAll, Act.put, List.setIfInBounds_toArray, List.set_cons_zero, List.set_cons_succ, Nat.zero_add, Nat.reduceAdd]
            exact rfl
          case howe3 =>
            clear E0 i21 i22 i23 szs2 p7 p9 i31 i32 i33 szs3
            intro hf
            refine ⟨owes5E 0 [] hf rfl rfl rfl (by kernel_rfl) ?_, owes5E 1 [0] hf rfl rfl rfl (by kernel_rfl) ?_, owes5E 2 [1] hf rfl rfl rfl (by kernel_rfl) ?_, owes5E 3 [1, 2] hf rfl rfl rfl (by kernel_rfl) ?_, owes5N 4 [3, 1] hf rfl rfl (by kernel_rfl) ?_, owes5E 5 [1] hf rfl rfl rfl (by kernel_rfl) ?_, owes5E 6 [1, 5] hf rfl rfl rfl (by kernel_rfl) ?_, owes5E 7 [4, 6, 1] hf rfl rfl rfl (by kernel_rfl) ?_, owes5E 8 [1, 7] hf rfl rfl rfl (by kernel_rfl) ?_, owes5E 9 [8] hf rfl rfl rfl (by kernel_rfl) ?_, owes5E 10 [9] hf rfl rfl rfl (by kernel_rfl) ?_, owes5E 11 [9, 10] hf rfl rfl rfl (by kernel_rfl) ?_, owes5E 12 [9] hf rfl rfl rfl (by kernel_rfl) ?_, owes5E 13 [9, 12] hf rfl rfl rfl (by kernel_rfl) ?_, owes5E 14 [9, 11, 13] hf rfl rfl rfl (by kernel_rfl) ?_, owes5E 15 [9, 14] hf rfl rfl rfl (by kernel_rfl) ?_, owes5E 16 [15] hf rfl rfl rfl (by kernel_rfl) ?_, owes5E 17 [16] hf rfl rfl rfl (by kernel_rfl) ?_, owes5E 18 [16, 17] hf rfl rfl rfl (by kernel_rfl) ?_, owes5E 19 [16] hf rfl rfl rfl (by kernel_rfl) ?_, owes5E 20 [16, 19] hf rfl rfl rfl (by kernel_rfl) ?_, owes5E 21 [16, 18, 20] hf rfl rfl rfl (by kernel_rfl) ?_, owes5E 22 [16, 21] hf rfl rfl rfl (by kernel_rfl) ?_, owes5E 23 [22] hf rfl rfl rfl (by kernel_rfl) ?_, trivial⟩
            all_goals intro vs W hS hp hx KO hKO
            all_goals simp only [Act.put, List.setIfInBounds_toArray, List.set_cons_zero, List.set_cons_succ] at hKO
            · go_simp
              refine (Try.aliveL _).mono ?_
              rintro e W1 ⟨rfl, hE⟩
              exact hKO _ W1 hE rfl
            · have e0 := isOf hp.1
              simp only [e0] at hKO
              go_simp
              exact hKO _ W (Ext.refl W) rfl
            · have e1 := isOf hp.1
              simp only [e1] at hKO
              go_simp
              exact hKO _ W (Ext.refl W) rfl
            · have e1 := isOf hp.1
              have e2 := isOf hp.2.1
              simp only [e1, e2] at hKO
              have fc0 := BxA.cell (hS.2.2.2.2.2.1) 0 (v := .slice x21 m21 y21) rfl
              go_simp
              exact hKO _ W (Ext.refl W) rfl
            · have e3 := isOf hp.1
              have e1 := isOf hp.2.1
              simp only [e3, e1] at hKO
              have hsz := hS.2.2.2.2.2.2.2.2.2.2.2
              have hE0 := Ext.size hS.1
              go_simp
              refine (Try.turned19 hS.2.1 HLX.out (by omega)).mono ?_
              rintro e W1 ⟨v, rfl, hr, hE⟩
              exact hKO v W1 hE (fun g hg => ⟨(hr.blk hg).2, (hr.blk hg).1⟩) (hr.mono hsz (Nat.le_refl _))
            · have e1 := isOf hp.1
              simp only [e1] at hKO
              go_simp
              exact hKO _ W (Ext.refl W) rfl
            · have e1 := isOf hp.1
              have e5 := isOf hp.2.1
              simp only [e1, e5] at hKO
              have fc0 := BxA.cell (hS.2.2.2.2.2.2.1) 0 (v := .slice x31 m31 y31) rfl
              go_simp
              exact hKO _ W (Ext.refl W) rfl
            · have q4 := hp.1
              have e6 := isOf hp.2.1
              have e1 := isOf hp.2.2.1
              simp only [e6, e1] at hKO
              obtain ⟨a, cc, ev, hiw⟩ := RowG.iw q4
              obtain ⟨nn, hnn⟩ : ∃ n, n = (turnL xw2).length := ⟨_, rfl⟩
              rw [← hnn] at ev hiw
              clear hnn
              replace ev : vs 4 = _ := ev
              simp only [ev] at hKO
              go_simp
              refine (Try.refSame09 hiw hS.2.2.2.2.2.2.2.1).mono ?_
              rintro e W1 ⟨rfl, hE⟩
              rw [decide_eq_true HT1.out]
              exact hKO _ W1 hE rfl
            · have e1 := isOf hp.1
              have e7 := isOf hp.2.1
              simp only [e1, e7] at hKO
              go_simp
              exact hKO _ W (Ext.refl W) rfl
            · have e8 := isOf hp.1
              simp only [e8] at hKO
              go_simp
              exact hKO _ W (Ext.refl W) rfl
            · have e9 := isOf hp.1
              simp only [e9] at hKO
              go_simp
              exact hKO _ W (Ext.refl W) rfl
            · have e9 := isOf hp.1
              have e10 := isOf hp.2.1
              simp only [e9, e10] at hKO
              have fc1 := BxA.cell (hS.2.2.2.2.2.1) 1 (v := .slice x22 m22 y22) rfl
              go_simp
              exact hKO _ W (Ext.refl W) rfl
            · have e9 := isOf hp.1
              simp only [e9] at hKO
              go_simp
              exact hKO _ W (Ext.refl W) rfl
            · have e9 := isOf hp.1
              have e12 := isOf hp.2.1
              simp only [e9, e12] at hKO
              have fc1 := BxA.cell (hS.2.2.2.2.2.2.1) 1 (v := .slice x32 m32 y32) rfl
              go_simp
              exact hKO _ W (Ext.refl W) rfl
            · have e9 := isOf hp.1
              have e11 := isOf hp.2.1
              have e13 := isOf hp.2.2.1
              simp only [e9, e11, e13] at hKO
              go_simp
              refine (Try.refSame09 hS.2.2.1 hS.2.2.2.2.2.2.2.2.1).mono ?_
              rintro e W1 ⟨rfl, hE⟩
              rw [decide_eq_true HT2.out]
              exact hKO _ W1 hE rfl
            · have e9 := isOf hp.1
              have e14 := isOf hp.2.1
              simp only [e9, e14] at hKO
              go_simp
              exact hKO _ W (Ext.refl W) rfl
            · have e15 := isOf hp.1
              simp only [e15] at hKO
              go_simp
              exact hKO _ W (Ext.refl W) rfl
            · have e16 := isOf hp.1
              simp only [e16] at hKO
              go_simp
              exact hKO _ W (Ext.refl W) rfl
            · have e16 := isOf hp.1
              have e17 := isOf hp.2.1
              simp only [e16, e17] at hKO
              have fc2 := BxA.cell (hS.2.2.2.2.2.1) 2 (v := .slice x23 m23 y23) rfl
              go_simp
              exact hKO _ W (Ext.refl W) rfl
            · have e16 := isOf hp.1
              simp only [e16] at hKO
              go_simp
              exact hKO _ W (Ext.refl W) rfl
            · have e16 := isOf hp.1
              have e19 := isOf hp.2.1
              simp only [e16, e19] at hKO
              have fc2 := BxA.cell (hS.2.2.2.2.2.2.1) 2 (v := .slice x33 m33 y33) rfl
              go_simp
              exact hKO _ W (Ext.refl W) rfl
            · have e16 := isOf hp.1
              have e18 := isOf hp.2.1
              have e20 := isOf hp.2.2.1
              simp only [e16, e18, e20] at hKO
              go_simp
              refine (Try.refSame09 hS.2.2.2.1 hS.2.2.2.2.2.2.2.2.2.1).mono ?_
              rintro e W1 ⟨rfl, hE⟩
              rw [decide_eq_true HT3.out]
              exact hKO _ W1 hE rfl
            · have e16 := isOf hp.1
              have e21 := isOf hp.2.1
              simp only [e16, e21] at hKO
              go_simp
              exact hKO _ W (Ext.refl W) rfl
            · have e22 := isOf hp.1
              simp only [e22] at hKO
              go_simp
              exact hKO _ W (Ext.refl W) rfl
          intro vs W3 hS hG hp
          clear ltszs2 ltszs3 szw3 E0 i21 i22 i23 szs2 p7 p9 i31 i32 i33 szs3
          obtain ⟨E0, i21, i22, i23, szs2, p7, p9, i31, i32, i33, szs3, sz3⟩ := hS
          obtain ⟨h3_0, h3_1, h3_2, h3_3, h3_4, h3_5, h3_6, h3_7, h3_8, h3_9, h3_10, h3_11, h3_12, h3_13, h3_14, h3_15, h3_16, h3_17, h3_18, h3_19, h3_20, h3_21, h3_22, h3_23, -⟩ := hp
          skip
          replace h3_0 : vs 0 = .bool true := h3_0
          replace h3_1 : vs 1 = .bool true := h3_1
          replace h3_2 : vs 2 = .pointer (some ⟨g7, 0, none⟩) := h3_2
          replace h3_3 : vs 3 = .slice x21 m21 y21 := h3_3
          replace h3_5 : vs 5 = .pointer (some ⟨g9, 0, none⟩) := h3_5
          replace h3_6 : vs 6 = .slice x31 m31 y31 := h3_6
          replace h3_7 : vs 7 = .bool true := h3_7
          replace h3_8 : vs 8 = .bool true := h3_8
          replace h3_9 : vs 9 = .bool true := h3_9
          replace h3_10 : vs 10 = .pointer (some ⟨g7, 1, none⟩) := h3_10
          replace h3_11 : vs 11 = .slice x22 m22 y22 := h3_11
          replace h3_12 : vs 12 = .pointer (some ⟨g9, 1, none⟩) := h3_12
          replace h3_13 : vs 13 = .slice x32 m32 y32 := h3_13
          replace h3_14 : vs 14 = .bool true := h3_14
          replace h3_15 : vs 15 = .bool true := h3_15
          replace h3_16 : vs 16 = .bool true := h3_16
          replace h3_17 : vs 17 = .pointer (some ⟨g7, 2, none⟩) := h3_17
          replace h3_18 : vs 18 = .slice x23 m23 y23 := h3_18
          replace h3_19 : vs 19 = .pointer (some ⟨g9, 2, none⟩) := h3_19
          replace h3_20 : vs 20 = .slice x33 m33 y33 := h3_20
          replace h3_21 : vs 21 = .bool true := h3_21
          replace h3_22 : vs 22 = .bool true := h3_22
          replace h3_23 : vs 23 = .bool true := h3_23
          simp only [h3_0, h3_1, h3_2, h3_3, h3_5, h3_6, h3_7, h3_8, h3_9, h3_10, h3_11, h3_12, h3_13, h3_14, h3_15, h3_16, h3_17, h3_18, h3_19, h3_20, h3_21, h3_22, h3_23]
          clear h3_0 h3_1 h3_2 h3_3 h3_5 h3_6 h3_7 h3_8 h3_9 h3_10 h3_11 h3_12 h3_13 h3_14 h3_15 h3_16 h3_17 h3_18 h3_19 h3_20 h3_21 h3_22 h3_23 h3_4
          clear sHS3 sHS4 sHS5 sHS7 sHG9
          obtain ⟨kp7_0, kp7_1, kp7_2, kp7_3⟩ := p7.c4
          obtain ⟨kp9_0, kp9_1, kp9_2, kp9_3⟩ := p9.c4
          go_wp2
          go_ret
          exact ⟨rfl, E0⟩
        · obtain ⟨kp7_0, kp7_1, kp7_2, kp7_3⟩ := p7.c4
          obtain ⟨kp9_0, kp9_1, kp9_2, kp9_3⟩ := p9.c4
          go_wp2_with fail
          clear kp7_0 kp7_1 kp7_2 kp7_3 kp9_0 kp9_1 kp9_2 kp9_3
          refine (Try.aliveL _).mono ?_
          rintro e We ⟨rfl, hE⟩
          replace E0 := (Ext.trans E0 hE)
          replace i21 := (i21.ext hE)
          replace i22 := (i22.ext hE)
          replace i23 := (i23.ext hE)
          replace szs2 := (Nat.le_trans szs2 (Ext.size hE))
          replace p7 := (p7.ext hE)
          replace p9 := (p9.ext hE)
          replace i31 := (i31.ext hE)
          replace i32 := (i32.ext hE)
          replace i33 := (i33.ext hE)
          replace szs3 := (Nat.le_trans szs3 (Ext.size hE))
          clear hE
          obtain ⟨kp7_0, kp7_1, kp7_2, kp7_3⟩ := p7.c4
          obtain ⟨kp9_0, kp9_1, kp9_2, kp9_3⟩ := p9.c4
          go_wp2
          go_ret
          exact ⟨rfl, E0⟩
  · rw [decide_eq_false hf]
    clear hf
    have kp1_0 := p1.cell 0 (v := .int .i64 lr) rfl
    have kp1_1 := p1.cell 1 (v := .int .i64 ep) rfl
    have kp1_2 := p1.cell 2 (v := .int .i64 d) rfl
    have kp1_3 := p1.cell 3 (v := .int .i64 f) rfl
    have kp1_4 := p1.cell 4 (v := .int .i64 tt) rfl
    have kp1_5 := p1.cell 5 (v := .int .i64 c) rfl
    have kp1_6 := p1.cell 6 (v := .slice a0 n0 c0) rfl
    have kp1_7 := p1.cell 7 (v := .slice a1 n1 c1) rfl
    have kp1_8 := p1.cell 8 (v := .slice a2 n2 c2) rfl
    have kp1_9 := p1.cell 9 (v := .slice a3 n3 c3) rfl
    obtain ⟨kp3_0, kp3_1, kp3_2, kp3_3⟩ := p3.c4
    go_wp2_with fail
    clear kp1_0 kp1_1 kp1_2 kp1_3 kp1_4 kp1_5 kp1_6 kp1_7 kp1_8 kp1_9 kp3_0 kp3_1 kp3_2 kp3_3
    refine (Try.aliveL _).mono ?_
    rintro e We ⟨rfl, hE⟩
    replace E0 := (Ext.trans E0 hE)
    replace hi0 := (hi0.ext hE)
    replace hi1 := (hi1.ext hE)
    replace hi2 := (hi2.ext hE)
    replace hi3 := (hi3.ext hE)
    replace p1 := (p1.ext hE)
    replace p3 := (p3.ext hE)
    clear hE
    have kp1_0 := p1.cell 0 (v := .int .i64 lr) rfl
    have kp1_1 := p1.cell 1 (v := .int .i64 ep) rfl
    have kp1_2 := p1.cell 2 (v := .int .i64 d) rfl
    have kp1_3 := p1.cell 3 (v := .int .i64 f) rfl
    have kp1_4 := p1.cell 4 (v := .int .i64 tt) rfl
    have kp1_5 := p1.cell 5 (v := .int .i64 c) rfl
    have kp1_6 := p1.cell 6 (v := .slice a0 n0 c0) rfl
    have kp1_7 := p1.cell 7 (v := .slice a1 n1 c1) rfl
    have kp1_8 := p1.cell 8 (v := .slice a2 n2 c2) rfl
    have kp1_9 := p1.cell 9 (v := .slice a3 n3 c3) rfl
    obtain ⟨kp3_0, kp3_1, kp3_2, kp3_3⟩ := p3.c4
    go_wp2
    go_ret
    exact ⟨rfl, E0⟩

end Go.Rt
