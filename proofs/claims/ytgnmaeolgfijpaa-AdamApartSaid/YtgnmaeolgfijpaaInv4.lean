/-
  A drawn region whose calls give rows, whose appends let rows grow: chains of operations, the blocks of one chain apart from those of the others.
-/
import Derived.Test.YtgnmaeolgfijpaaInv2

namespace Go.Rt

open Go Go.RowKit Go.Proofs

/-- the blocks that a value stands for: a pointer's, a slice's, those of the three rows that a step gives -/
def blks : Value → Nat → Prop
  | .pointer (some p), g => p.block = g
  | .slice (some p) _ _, g => p.block = g
  | .tuple #[.agg #[.slice a n _, .slice b _ _, .slice c _ _, _], _], g => 0 < n ∧ ((∃ o, a = some ⟨g, o, none⟩) ∨ (∃ o, b = some ⟨g, o, none⟩) ∨ ∃ o, c = some ⟨g, o, none⟩)
  | _, _ => False

/-- blocks of one chain are not those of another one; all are there -/
def Chains (sd : Nat → Nat) (vs : Nat → Value) (w : World) : Prop :=
  (∀ m, sd m ≠ 0 → ∀ g, blks (vs m) g → g < w.heap.size) ∧ ∀ m m', sd m ≠ 0 → sd m' ≠ 0 → sd m ≠ sd m' → ∀ g, blks (vs m) g → ¬ blks (vs m') g

theorem Chains.init {sd : Nat → Nat} {vs : Nat → Value} {w : World} (h : ∀ m, sd m ≠ 0 → vs m = undef) : Chains sd vs w :=
  ⟨fun m hm g hg => (by rw [h m hm] at hg; exact absurd hg id), fun m m' hm _ _ g hg => (by rw [h m hm] at hg; exact absurd hg id)⟩

theorem Chains.step {sd : Nat → Nat} {k : Nat} {vs : Nat → Value} {w w' : World} {v : Value} (h : Chains sd vs w) (hs : w.heap.size ≤ w'.heap.size)
    (hv : sd k = 0 ∨ ∀ g, blks v g → g < w'.heap.size ∧ (w.heap.size ≤ g ∨ ∃ m, sd m = sd k ∧ blks (vs m) g)) : Chains sd (upd vs k v) w' := by
  have old : ∀ {m}, m ≠ k → upd vs k v m = vs m := fun hm => upd_other hm v
  refine ⟨fun m hm g hg => ?_, fun m m' hm hm' hne g hg hg' => ?_⟩
  · by_cases e : m = k
    · subst e
      rw [upd_same] at hg
      exact (hv.resolve_left hm g hg).1
    · rw [old e] at hg
      exact Nat.lt_of_lt_of_le (h.1 m hm g hg) hs
  · have far : ∀ {q}, q ≠ k → sd q ≠ 0 → sd k ≠ sd q → sd k ≠ 0 → blks v g → blks (vs q) g → False := fun {q} e hq hsq hk hv1 hq1 => by
      rcases (hv.resolve_left hk g hv1).2 with h1 | ⟨x, h1, h2⟩
      · have := h.1 q hq g hq1; omega
      · exact h.2 x q (by rw [h1]; exact hk) hq (by rw [h1]; exact hsq) g h2 hq1
    by_cases e : m = k
    · have e' : m' ≠ k := fun q => hne (by rw [e, q])
      rw [e, upd_same] at hg
      rw [old e'] at hg'
      exact far e' hm' (by rw [← e]; exact hne) (by rw [← e]; exact hm) hg hg'
    · rw [old e] at hg
      by_cases e' : m' = k
      · rw [e', upd_same] at hg'
        exact far e hm (by rw [← e']; exact Ne.symm hne) (by rw [← e']; exact hm') hg' hg
      · rw [old e'] at hg'
        exact h.2 m m' hm hm' hne g hg hg'

/-- what a post hangs on: no block; the blocks of operation m's value -/
inductive Tag4
  | any
  | on (m : Nat)

def Tag4.ok (t : Tag4) (k : Nat) (p : PS) : Prop :=
  (∀ vs w w', Ext w w' → p.holds k vs w → p.holds k vs w') ∧ ∀ vs w w' g, Wr g w w' → (match t with | .any => True | .on m => ¬ blks (vs m) g) → p.holds k vs w → p.holds k vs w'

def Tags4 : List Tag4 → List PS → Nat → Prop
  | [], [], _ => True
  | t :: ts, p :: ps, k => t.ok k p ∧ Tags4 ts ps (k + 1)
  | _, _, _ => False

theorem tag4_good {k : Nat} {q : Value → World → Prop} (h : Good q) : Tag4.ok .any k (.one q) := ⟨fun vs w w' hE hp => h.ext (vs k) w w' hE hp, fun vs w w' g hw _ hp => h.wr (vs k) w w' g hw hp⟩

theorem tag4_two {k j : Nat} {q : Value → Value → Prop} : Tag4.ok .any k (.two j fun p v _ => q p v) := ⟨fun _ _ _ _ hp => hp, fun _ _ _ _ _ _ hp => hp⟩

/-- beside a store into a block of chain c: k is the store itself, ex are told anew -/
def off4 (k : Nat) (ex : List Nat) (c : Nat) (sd : Nat → Nat) : List Tag4 → Nat → Bool
  | [], _ => true
  | t :: ts, i => (i == k || ex.contains i || (match t with | .any => true | .on m => sd m != 0 && sd m != c)) && off4 k ex c sd ts (i + 1)

theorem Tags4.keepE {vs : Nat → Value} {w w' : World} (hE : Ext w w') : ∀ (ts : List Tag4) (ps : List PS) (i : Nat), Tags4 ts ps i → ∀ j, (psAt ps j).holds (i + j) vs w → (psAt ps j).holds (i + j) vs w'
  | [], [], _, _, _, _ => by unfold psAt; simp [PS.holds]
  | _ :: _, _ :: _, i, h, 0, hp => h.1.1 vs w w' hE hp
  | _ :: ts, _ :: ps, i, h, j + 1, hp => by
    have := Tags4.keepE (vs := vs) hE ts ps (i + 1) h.2 j
    rw [show i + 1 + j = i + (j + 1) by omega] at this
    exact this hp
  | [], _ :: _, _, h, _, _ => absurd h id
  | _ :: _, [], _, h, _, _ => absurd h id

theorem Tags4.keepW {k c g : Nat} {ex : List Nat} {sd : Nat → Nat} {vs : Nat → Value} {w w' : World} (hw : Wr g w w') (hg : ∀ m, sd m ≠ 0 → sd m ≠ c → ¬ blks (vs m) g) :
    ∀ (ts : List Tag4) (ps : List PS) (i : Nat), Tags4 ts ps i → off4 k ex c sd ts i = true → ∀ j, i + j ≠ k → i + j ∉ ex → (psAt ps j).holds (i + j) vs w → (psAt ps j).holds (i + j) vs w'
  | [], [], _, _, _, _, _, _, _ => by unfold psAt; simp [PS.holds]
  | t :: ts, p :: ps, i, h, hb, 0, hn, hx, hp => by
    unfold off4 at hb
    rw [Bool.and_eq_true, Bool.or_eq_true, Bool.or_eq_true] at hb
    rcases hb.1 with (hb | hb) | hb
    · exact absurd (by simpa using hb) hn
    · exact absurd (by simpa using hb) hx
    · refine h.1.2 vs w w' g hw ?_ hp
      cases t with
      | any => trivial
      | on m =>
        rw [Bool.and_eq_true, bne_iff_ne, bne_iff_ne] at hb
        exact hg m hb.1 hb.2
  | t :: ts, p :: ps, i, h, hb, j + 1, hn, hx, hp => by
    unfold off4 at hb
    rw [Bool.and_eq_true] at hb
    have := Tags4.keepW hw hg ts ps (i + 1) h.2 hb.2 j (by omega) (by rw [show i + 1 + j = i + (j + 1) by omega]; exact hx)
    rw [show i + 1 + j = i + (j + 1) by omega] at this
    exact this hp
  | [], _ :: _, _, h, _, _, _, _, _ => absurd h id
  | _ :: _, [], _, h, _, _, _, _, _ => absurd h id

section

variable {P : Program} {Q : Exit → Act → World → Prop} {md : Region.Mode} {l : List Oper} {a0 : Act} {S : World → Prop} {ps : List PS} {A : (Nat → Value) → Act} {B : Nat} {sd : Nat → Nat} {ts : List Tag4}

structure Firm4 (B : Nat) (ts : List Tag4) (S : World → Prop) (ps : List PS) : Prop where
  s : ∀ W W', S W → Ext W W' → S W'
  sw : ∀ W W' g, S W → Wr g W W' → B ≤ g → S W'
  t : Tags4 ts ps 0

abbrev And4 (S : World → Prop) (sd : Nat → Nat) : (Nat → Value) → World → Prop := fun vs W => S W ∧ Chains sd vs W

theorem owes4E {o : Oper} (k : Nat) (pre : List Nat) (hf : Firm4 B ts S ps) (hk : (sd k == 0) = true) (ho : l[k]? = some o) (hpre : waitsB md o pre = true)
    (h : ∀ (vs : Nat → Value) (w : World), S w → Pres ps pre vs w → Olds md l a0 k vs → ∀ K : Act → World → Prop, (∀ v w', Ext w w' → (psAt ps k).holds k (upd vs k v) w' → K ((A vs).put o.dst v) w') →
      if Region.wanted o (yielded l.toArray (A vs).tmps) = true then Oper.wp P o (A vs) w K Q else K ((A vs).put o.dst undef) w) : OwesAt2 P md l Q a0 A (And4 S sd) ps k :=
  owes2 k pre ho hpre fun vs w hS hp hx K hK => h vs w hS.1 hp hx K fun v w' hE hpo => hK v w' ⟨hf.s w w' hS.1 hE, hS.2.step (Ext.size hE) (.inl (by simpa using hk))⟩
    (fun j _ hj2 => by have := Tags4.keepE (vs := vs) hE ts ps 0 hf.t j; rw [Nat.zero_add] at this; exact this hj2) hpo

theorem owes4N {o : Oper} (k : Nat) (pre : List Nat) (hf : Firm4 B ts S ps) (ho : l[k]? = some o) (hpre : waitsB md o pre = true)
    (h : ∀ (vs : Nat → Value) (w : World), S w → Pres ps pre vs w → Olds md l a0 k vs → ∀ K : Act → World → Prop, (∀ v w', Ext w w' → (∀ g, blks v g → g < w'.heap.size ∧ w.heap.size ≤ g) → (psAt ps k).holds k (upd vs k v) w' → K ((A vs).put o.dst v) w') →
      if Region.wanted o (yielded l.toArray (A vs).tmps) = true then Oper.wp P o (A vs) w K Q else K ((A vs).put o.dst undef) w) : OwesAt2 P md l Q a0 A (And4 S sd) ps k :=
  owes2 k pre ho hpre fun vs w hS hp hx K hK => h vs w hS.1 hp hx K fun v w' hE hv hpo => hK v w' ⟨hf.s w w' hS.1 hE, hS.2.step (Ext.size hE) (.inr fun g hg => ⟨(hv g hg).1, .inl (hv g hg).2⟩)⟩
    (fun j _ hj2 => by have := Tags4.keepE (vs := vs) hE ts ps 0 hf.t j; rw [Nat.zero_add] at this; exact this hj2) hpo

/-- a store into the block of m's value -/
theorem owes4P {o : Oper} (k m : Nat) (pre : List Nat) (hf : Firm4 B ts S ps) (hk : (sd k == 0) = true) (hm : (sd m != 0) = true) (hoff : off4 k [] (sd m) sd ts 0 = true) (ho : l[k]? = some o) (hpre : waitsB md o pre = true)
    (h : ∀ (vs : Nat → Value) (w : World), S w → Pres ps pre vs w → Olds md l a0 k vs → ∀ K : Act → World → Prop, (∀ w' g, blks (vs m) g → B ≤ g → Wr g w w' → (psAt ps k).holds k (upd vs k undef) w' → K ((A vs).put o.dst undef) w') →
      if Region.wanted o (yielded l.toArray (A vs).tmps) = true then Oper.wp P o (A vs) w K Q else K ((A vs).put o.dst undef) w) : OwesAt2 P md l Q a0 A (And4 S sd) ps k :=
  owes2 k pre ho hpre fun vs w hS hp hx K hK => h vs w hS.1 hp hx K fun w' g hv hB hw hpo => hK undef w' ⟨hf.sw w w' g hS.1 hw hB, hS.2.step hw.apart.size (.inl (by simpa using hk))⟩
    (fun j hj hj2 => by
      have hm' : sd m ≠ 0 := by simpa using hm
      have := Tags4.keepW (k := k) (ex := []) (c := sd m) (vs := vs) hw (fun q h1 h2 h3 => hS.2.2 m q hm' h1 (Ne.symm h2) g hv h3) ts ps 0 hf.t hoff j (by omega) (by simp)
      rw [Nat.zero_add] at this
      exact this hj2) hpo

/-- the chain that an operation stands in: 0 is none -/
def sdOf : List (Nat × Nat) → Nat → Nat
  | [], _ => 0
  | x :: r, k => if k = x.1 then x.2 else sdOf r k

theorem sdOf_mem {m : Nat} : ∀ {ms : List (Nat × Nat)}, sdOf ms m ≠ 0 → ∃ x ∈ ms, x.1 = m
  | [], h => absurd rfl h
  | x :: r, h => by
    unfold sdOf at h
    split at h
    · rename_i e; exact ⟨x, List.mem_cons_self .., e.symm⟩
    · obtain ⟨y, h1, h2⟩ := sdOf_mem h; exact ⟨y, List.mem_cons_of_mem _ h1, h2⟩

theorem region_go4 {id : Nat} {w : World} {b : Bool} (ps : List PS) (S : World → Prop) (B : Nat) (ms : List (Nat × Nat)) (ts : List Tag4) (hc : Tags4 ts ps 0) (hSE : ∀ W W', S W → Ext W W' → S W') (hSW : ∀ W W' g, S W → Wr g W W' → B ≤ g → S W') (hS : S w) (hms : ∀ m ∈ ms, initAt a0 l m.1 = undef)
    (hm : P.follows .mixedOrders = true) (honce : onceB l = true) (hdown : downB .any l 0 = true) (hdeps : depsB .any l ps = true)
    (hA : ∀ vs, putAll l 0 vs a0 = A vs) (howe : Firm4 B ts S ps → OwesAllAt2 P .any l Q a0 A (And4 S (sdOf ms)) ps l 0)
    (hfin : ∀ (vs : Nat → Value) (w' : World), S w' → AllPosts ps 0 vs w' → Q .normal (A vs) w') :
    (Code.region id l.toArray b).wp P Q a0 w :=
  region_two ps (And4 S (sdOf ms)) hm honce hdown hdeps hA (fun W hE => ⟨hSE w W hS hE, Chains.init fun m hm => by obtain ⟨x, h1, h2⟩ := sdOf_mem hm; rw [← h2]; exact hms x h1⟩) (howe ⟨hSE, hSW, hc⟩) (fun vs w' h1 h2 => hfin vs w' h1.1 h2)

end

end Go.Rt
