/-
  Adafactor in numbers: a step of rows, or why there is none; what it hangs on.
-/
import Derived.Test.YtiebflipijcnfaaJI
import Derived.Test.YtiebflipijcnfaaJB
import Derived.Test.YtiebflipijcnfaaGU
namespace Go.Rt

structure AdaP where
  lr : Int
  ep : Int
  d : Int

def scaleO (a n d : Int) : Option Int := okZ (ratioV (a * n) d.toNat)

/-- a gradient's square, and Eps -/
def squareO (K : Nat) (ep g : Int) : Option Int := (mulO K g g).bind fun x => addO x ep

/-- a new moment -/
def blendO (K : Nat) (sh old q : Int) : Option Int := (mulO K (oneZ K - sh) old).bind fun x => (mulO K sh q).bind fun y => addO x y

/-- the mean of numbers -/
def meanZ (l : List Int) : Int := meanV (l.map fun x => [x]) 0

def facB (n cl : Nat) : Bool := decide (2 ≤ cl) && decide (2 ≤ n / cl)

def allB (n : Nat) (f : Nat → Option Int) : Bool := (List.range n).all fun i => (f i).isSome

def valF (f : Nat → Option Int) (i : Nat) : Int := (f i).getD 0

theorem allB_iff {n : Nat} {f : Nat → Option Int} : allB n f = true ↔ ∀ i, i < n → f i ≠ none := by
  unfold allB
  rw [List.all_eq_true]
  constructor
  · intro h i hi e
    have := h i (List.mem_range.2 hi)
    rw [e] at this
    cases this
  · intro h i hi
    exact Option.isSome_iff_ne_none.2 (h i (List.mem_range.1 hi))

theorem allB_no {n i : Nat} {f : Nat → Option Int} (hi : i < n) (h : f i = none) : allB n f = false :=
  Bool.eq_false_iff.2 fun e => allB_iff.1 e i hi h

theorem valF_some {f : Nat → Option Int} {i : Nat} {x : Int} (h : f i = some x) : valF f i = x := by unfold valF; rw [h]; rfl

theorem some_valF {f : Nat → Option Int} {i : Nat} (h : f i ≠ none) : f i = some (valF f i) := by
  unfold valF
  cases hf : f i with
  | none => exact absurd hf h
  | some x => rfl

section
variable (K : Nat) (A : AdaP) (sh : Int) (cl : Nat) (lw lm lv lg : List Int)
def sqF (i : Nat) : Option Int := squareO K A.ep (atL lg i)

def qL : List Int := outL lg.length (valF (sqF K A lg))

def rowL (q : List Int) (r : Nat) : List Int := outL cl fun j => atL q (r * cl + j)

def colL (q : List Int) (k : Nat) : List Int := outL (q.length / cl) fun j => atL q (k + j * cl)

/-- new moments of places, of rows, of columns -/
def pF (q : List Int) (i : Nat) : Option Int := blendO K sh (atL lv i) (atL q i)

def mF (q : List Int) (r : Nat) : Option Int := blendO K sh (atL lm r) (meanZ (rowL cl q r))

def vF (q : List Int) (k : Nat) : Option Int := blendO K sh (atL lv k) (meanZ (colL cl q k))

def mL (q : List Int) : List Int := if facB q.length cl = true then outL (q.length / cl) (valF (mF K sh cl lm q)) else []

def vL (q : List Int) : List Int := if facB q.length cl = true then outL cl (valF (vF K sh cl lv q)) else outL q.length (valF (pF K sh lv q))

def sF (m v : List Int) (i : Nat) : Option Int := scaleO (atL m (i / cl)) (atL v (i % cl)) (max (meanZ m) 1)

/-- each place's second moment -/
def sL (q : List Int) : List Int := if facB q.length cl = true then outL q.length (valF (sF cl (mL K sh cl lm q) (vL K sh cl lv q))) else outL q.length (valF (pF K sh lv q))

def momB (q : List Int) : Bool := if facB q.length cl = true then allB (q.length / cl) (mF K sh cl lm q) && allB cl (vF K sh cl lv q) && allB q.length (sF cl (mL K sh cl lm q) (vL K sh cl lv q)) else allB q.length (pF K sh lv q)

/-- updates -/
noncomputable def xF (s : List Int) (i : Nat) : Option Int := divO K (atL lg i) (max (rootW K (atL s i)) 1)

def yF (x : List Int) (i : Nat) : Option Int := mulO K (atL x i) (atL x i)

noncomputable def xL (s : List Int) : List Int := outL lg.length (valF (xF K lg s))

def yL (x : List Int) : List Int := outL x.length (valF (yF K x))

noncomputable def topH (x : List Int) : Int := rootW K (meanZ (yL K x))

noncomputable def uF (x : List Int) (i : Nat) : Option Int := if A.d < topH K x then scaleO (atL x i) A.d (topH K x) else some (atL x i)

noncomputable def uL (s : List Int) : List Int := outL lg.length (valF (uF K A (xL K lg s)))

noncomputable def upB (s : List Int) : Bool := allB lg.length (xF K lg s) && allB lg.length (yF K (xL K lg s)) && allB lg.length (uF K A (xL K lg s))

/-- new weights -/
def wF (u : List Int) (i : Nat) : Option Int := (mulO K A.lr (atL u i)).bind fun t => subO (atL lw i) t

def wL (u : List Int) : List Int := outL u.length (valF (wF K A lw u))

/-- is all there? -/
noncomputable def adaB : Bool := allB lg.length (sqF K A lg) && momB K sh cl lm lv (qL K A lg) && upB K A lg (sL K sh cl lm lv (qL K A lg)) && allB lg.length (wF K A lw (uL K A lg (sL K sh cl lm lv (qL K A lg))))

noncomputable def adaW : List Int := wL K A lw (uL K A lg (sL K sh cl lm lv (qL K A lg)))

def adaMo : List Int := mL K sh cl lm (qL K A lg)

def adaVo : List Int := vL K sh cl lv (qL K A lg)
end
theorem qL_len (K : Nat) (A : AdaP) (lg : List Int) : (qL K A lg).length = lg.length := outL_len _ _

/-- which Adas are right -/
def rightAda (A : AdaP) (f : Int) : Bool := decide (0 ≤ f ∧ f ≤ 40 ∧ 0 ≤ A.lr ∧ 0 < A.ep ∧ oneZ f.toNat ≤ A.d)

theorem rightAda_iff {A : AdaP} {f : Int} : rightAda A f = true ↔ (0 ≤ f ∧ f ≤ 40 ∧ 0 ≤ A.lr ∧ 0 < A.ep ∧ oneZ f.toNat ≤ A.d) := by unfold rightAda; exact decide_eq_true_iff

def shareB (t f : Int) : Bool := decide (1 ≤ t ∧ t ≤ 1000000 ∧ 0 ≤ f ∧ f ≤ 40)

def shapeB (n cl m v g : Nat) : Bool := g == n && n % cl == 0 && (if facB n cl = true then m == n / cl && v == cl else m == 0 && v == n)

noncomputable def shareZ (t f : Int) : Int := ((shareN t.toNat f.toNat : Nat) : Int)

/-- a step's error -/
noncomputable def adaE (A : AdaP) (f t c : Int) (lw lm lv lg : List Int) : Int :=
  if (rightAda A f && shareB t f && decide (1 ≤ c) && !negB lm && !negB lv) = false then 1
  else if shapeB lw.length c.toNat lm.length lv.length lg.length = false then 5
  else if adaB f.toNat A (shareZ t f) c.toNat lw lm lv lg = false then 2 else 0

noncomputable def stepW (A : AdaP) (f t c : Int) (lw lm lv lg : List Int) : List Int := if adaE A f t c lw lm lv lg = 0 then adaW f.toNat A (shareZ t f) c.toNat lw lm lv lg else []

noncomputable def stepM (A : AdaP) (f t c : Int) (lw lm lv lg : List Int) : List Int := if adaE A f t c lw lm lv lg = 0 then adaMo f.toNat A (shareZ t f) c.toNat lm lg else []

noncomputable def stepV (A : AdaP) (f t c : Int) (lw lm lv lg : List Int) : List Int := if adaE A f t c lw lm lv lg = 0 then adaVo f.toNat A (shareZ t f) c.toNat lv lg else []

/-- what a step wants -/
structure AdaOk (A : AdaP) (f t c : Int) (lw lm lv lg : List Int) : Prop where
  right : rightAda A f = true
  share : shareB t f = true
  col : 1 ≤ c
  nm : negB lm = false
  nv : negB lv = false
  shape : shapeB lw.length c.toNat lm.length lv.length lg.length = true
  all : adaB f.toNat A (shareZ t f) c.toNat lw lm lv lg = true

theorem adaE_zero {A : AdaP} {f t c : Int} {lw lm lv lg : List Int} : adaE A f t c lw lm lv lg = 0 ↔ AdaOk A f t c lw lm lv lg := by
  unfold adaE
  constructor
  · intro h
    split at h
    · cases h
    · rename_i h1
      split at h
      · cases h
      · rename_i h2
        split at h
        · cases h
        · rename_i h3
          simp only [Bool.not_eq_false, Bool.and_eq_true, Bool.not_eq_true', decide_eq_true_eq] at h1 h2 h3
          exact ⟨h1.1.1.1.1, h1.1.1.1.2, h1.1.1.2, h1.1.2, h1.2, h2, h3⟩
  · intro h
    rw [if_neg (by simp [h.right, h.share, h.nm, h.nv, h.col]), if_neg (by simp [h.shape]), if_neg (by simp [h.all])]

theorem adaE_one {A : AdaP} {f t c : Int} {lw lm lv lg : List Int} : adaE A f t c lw lm lv lg = 1 ↔ (rightAda A f && shareB t f && decide (1 ≤ c) && !negB lm && !negB lv) = false := by
  unfold adaE
  split
  · simp [*]
  · split
    · simp [*]
    · split <;> simp [*]

/-- the first step hangs on no old moments -/
theorem mul_zeroO (K : Nat) (b : Int) : mulO K 0 b = some 0 := by
  unfold mulO
  rw [mulZ_zero']
  exact okZ_in (by omega) (by omega)

theorem mul_oneO (K : Nat) {b : Int} (h : I64 b) : mulO K (oneZ K) b = some b := by
  unfold mulO
  rw [mulZ_one]
  exact okZ_in h.1 h.2

theorem blend_first {K : Nat} {old q : Int} (hq : I64 q) : blendO K (oneZ K) old q = some q := by
  unfold blendO
  rw [Int.sub_self, mul_zeroO, Option.bind_some, mul_oneO K hq, Option.bind_some]
  unfold addO
  rw [Int.zero_add]
  exact okZ_in hq.1 hq.2

theorem meanZ_i64 (l : List Int) : I64 (meanZ l) := fitV_in64 _

theorem valF_i64 {f : Nat → Option Int} (h : ∀ i x, f i = some x → I64 x) (i : Nat) : I64 (valF f i) := by
  unfold valF
  cases hf : f i with
  | none => exact ⟨by decide, by decide⟩
  | some x => exact h i x hf

theorem squareO_i64 {K : Nat} {ep g x : Int} (h : squareO K ep g = some x) : I64 x := by
  unfold squareO at h
  simp only [Option.bind_eq_some_iff] at h
  obtain ⟨_, _, h⟩ := h
  exact okZ_fits h

theorem atL_i64' {l : List Int} (h : ∀ x ∈ l, I64 x) (i : Nat) : I64 (atL l i) := atL_i64 h i

theorem qL_i64 (K : Nat) (A : AdaP) (lg : List Int) : ∀ x ∈ qL K A lg, I64 x := outL_i64 (valF_i64 fun _ _ h => squareO_i64 h)
section
variable {K : Nat} {cl : Nat} {q lm lv lm' lv' : List Int} (hq : ∀ x ∈ q, I64 x)
include hq

theorem pF_first : pF K (oneZ K) lv q = fun i => some (atL q i) := funext fun i => blend_first (atL_i64' hq i)

theorem momB_first : momB K (oneZ K) cl lm lv q = momB K (oneZ K) cl lm' lv' q ∧ mL K (oneZ K) cl lm q = mL K (oneZ K) cl lm' q ∧ vL K (oneZ K) cl lv q = vL K (oneZ K) cl lv' q ∧ sL K (oneZ K) cl lm lv q = sL K (oneZ K) cl lm' lv' q := by
  have e1 : ∀ l, mF K (oneZ K) cl l q = fun r => some (meanZ (rowL cl q r)) := fun l => funext fun i => blend_first (meanZ_i64 _)
  have e2 : ∀ l, vF K (oneZ K) cl l q = fun k => some (meanZ (colL cl q k)) := fun l => funext fun i => blend_first (meanZ_i64 _)
  have e3 : ∀ l, pF K (oneZ K) l q = fun i => some (atL q i) := fun l => pF_first hq
  have m1 : ∀ l, mL K (oneZ K) cl l q = mL K (oneZ K) cl [] q := fun l => by unfold mL; rw [e1, e1]
  have v1 : ∀ l, vL K (oneZ K) cl l q = vL K (oneZ K) cl [] q := fun l => by unfold vL; rw [e2, e2, e3, e3]
  have s1 : ∀ l k, sL K (oneZ K) cl l k q = sL K (oneZ K) cl [] [] q := fun l k => by unfold sL; rw [m1, v1, e3, e3]
  have b1 : ∀ l k, momB K (oneZ K) cl l k q = momB K (oneZ K) cl [] [] q := fun l k => by unfold momB; rw [m1, v1, e1, e1, e2, e2, e3, e3]
  exact ⟨by rw [b1, b1 lm'], by rw [m1, m1 lm'], by rw [v1, v1 lv'], by rw [s1, s1 lm']⟩
end
theorem share_first {f : Int} (_ : shareB 1 f = true) : shareZ 1 f = oneZ f.toNat := by
  unfold shareZ oneZ
  rw [show (1 : Int).toNat = 1 from rfl, share_one]

theorem first_same {A : AdaP} {f c : Int} {lw lm lv lg m v : List Int} (hm : m.length = lm.length) (hv : v.length = lv.length) (h1 : adaE A f 1 c lw lm lv lg ≠ 1) (h2 : adaE A f 1 c lw m v lg ≠ 1) :
    adaE A f 1 c lw lm lv lg = adaE A f 1 c lw m v lg ∧ stepW A f 1 c lw lm lv lg = stepW A f 1 c lw m v lg ∧ stepM A f 1 c lw lm lv lg = stepM A f 1 c lw m v lg ∧ stepV A f 1 c lw lm lv lg = stepV A f 1 c lw m v lg := by
  have k1 := Bool.not_eq_false _ |>.mp fun e => h1 (adaE_one.2 e)
  have k2 := Bool.not_eq_false _ |>.mp fun e => h2 (adaE_one.2 e)
  have hs : shareB 1 f = true := by
    simp only [Bool.and_eq_true] at k1
    exact k1.1.1.1.2
  have hz := share_first hs
  obtain ⟨b1, b2, b3, b4⟩ := momB_first (K := f.toNat) (cl := c.toNat) (lm := lm) (lv := lv) (lm' := m) (lv' := v) (qL_i64 f.toNat A lg)
  have hb : adaB f.toNat A (oneZ f.toNat) c.toNat lw lm lv lg = adaB f.toNat A (oneZ f.toNat) c.toNat lw m v lg := by
    unfold adaB
    rw [b1, b4]
  have hE : adaE A f 1 c lw lm lv lg = adaE A f 1 c lw m v lg := by
    unfold adaE
    rw [k1, k2, hm, hv, hz, hb]
  refine ⟨hE, ?_, ?_, ?_⟩
  · unfold stepW adaW
    rw [hE, hz, b4]
  · unfold stepM adaMo
    rw [hE, hz, b2]
  · unfold stepV adaVo
    rw [hE, hz, b3]
end Go.Rt
