/-
  Plain mathematics of limbs: lists of figures below a base, their number, and what follows. No program in sight.
-/
namespace Go.Rt

def B64 : Nat := 18446744073709551616
def B32 : Nat := 4294967296
theorem B64_eq : B64 = 18446744073709551616 := rfl
theorem B32_eq : B32 = 4294967296 := rfl
theorem B64_pos : 0 < B64 := by rw [B64_eq]; omega
theorem B32_pos : 0 < B32 := by rw [B32_eq]; omega
theorem B64_two : B64 = 2 ^ 64 := by decide +kernel
theorem B32_two : B32 = 2 ^ 32 := by decide +kernel
theorem B64_sq : B64 = B32 * B32 := by decide +kernel

/-- The number of figures, the lowest first, to a base. -/
def ev (b : Nat) : List Nat → Nat
  | [] => 0
  | x :: xs => x + b * ev b xs

def Lim (b : Nat) (xs : List Nat) : Prop := ∀ x ∈ xs, x < b
def Norm (xs : List Nat) : Prop := xs.length = 0 ∨ xs.getD (xs.length - 1) 0 ≠ 0

@[simp] theorem ev_nil (b : Nat) : ev b [] = 0 := rfl
theorem ev_cons (b x : Nat) (xs : List Nat) : ev b (x :: xs) = x + b * ev b xs := rfl

theorem ev_append (b : Nat) (xs ys : List Nat) : ev b (xs ++ ys) = ev b xs + b ^ xs.length * ev b ys := by
  induction xs with
  | nil => simp
  | cons x xs ih =>
    rw [List.cons_append, ev_cons, ev_cons, ih, List.length_cons, Nat.pow_succ, Nat.mul_add, Nat.add_assoc, Nat.mul_comm (b ^ xs.length) b, Nat.mul_assoc]

theorem ev_single (b x : Nat) : ev b [x] = x := by simp [ev]
theorem ev_snoc (b x : Nat) (xs : List Nat) : ev b (xs ++ [x]) = ev b xs + b ^ xs.length * x := by rw [ev_append, ev_single]

theorem Lim.nil (b : Nat) : Lim b [] := fun _ h => by cases h
theorem Lim.cons {b x : Nat} {xs : List Nat} (hx : x < b) (h : Lim b xs) : Lim b (x :: xs) := fun y hy => by
  rcases List.mem_cons.1 hy with rfl | hy
  · exact hx
  · exact h y hy
theorem Lim.append {b : Nat} {xs ys : List Nat} (h : Lim b xs) (k : Lim b ys) : Lim b (xs ++ ys) := fun x hx => by
  rcases List.mem_append.1 hx with hx | hx
  · exact h x hx
  · exact k x hx
theorem Lim.snoc {b x : Nat} {xs : List Nat} (h : Lim b xs) (hx : x < b) : Lim b (xs ++ [x]) := h.append (Lim.cons hx (Lim.nil b))
theorem Lim.left {b : Nat} {xs ys : List Nat} (h : Lim b (xs ++ ys)) : Lim b xs := fun x hx => h x (List.mem_append.2 (.inl hx))
theorem Lim.right {b : Nat} {xs ys : List Nat} (h : Lim b (xs ++ ys)) : Lim b ys := fun x hx => h x (List.mem_append.2 (.inr hx))
theorem Lim.take {b : Nat} {xs : List Nat} (h : Lim b xs) (k : Nat) : Lim b (xs.take k) := fun x hx => h x (List.mem_of_mem_take hx)
theorem Lim.drop {b : Nat} {xs : List Nat} (h : Lim b xs) (k : Nat) : Lim b (xs.drop k) := fun x hx => h x (List.mem_of_mem_drop hx)
theorem Lim.getD {b : Nat} {xs : List Nat} (h : Lim b xs) (hb : 0 < b) (i : Nat) : xs.getD i 0 < b := by
  rcases Nat.lt_or_ge i xs.length with hi | hi
  · rw [List.getD_eq_getElem?_getD, List.getElem?_eq_getElem hi]; exact h _ (List.getElem_mem hi)
  · rw [List.getD_eq_getElem?_getD, List.getElem?_eq_none hi]; exact hb

theorem ev_lt {b : Nat} : ∀ {xs : List Nat}, Lim b xs → ev b xs < b ^ xs.length
  | [], _ => by simp
  | x :: xs, h => by
    have h1 : x < b := h x (by simp)
    have h2 := ev_lt (xs := xs) (fun y hy => h y (by simp [hy]))
    rw [ev_cons, List.length_cons, Nat.pow_succ]
    have h3 : b * (ev b xs + 1) ≤ b * b ^ xs.length := Nat.mul_le_mul_left b h2
    rw [Nat.mul_add, Nat.mul_one] at h3
    rw [Nat.mul_comm (b ^ xs.length) b]
    omega

theorem ev_zeros (b n : Nat) : ev b (List.replicate n 0) = 0 := by
  induction n with
  | zero => rfl
  | succ n ih => rw [List.replicate_succ, ev_cons, ih]; simp

theorem take_add_one {xs : List Nat} {k : Nat} (h : k < xs.length) : xs.take (k + 1) = xs.take k ++ [xs.getD k 0] := by
  rw [List.take_succ_eq_append_getElem h, List.getD_eq_getElem?_getD, List.getElem?_eq_getElem h]; rfl

theorem ev_take_succ {b : Nat} {xs : List Nat} {k : Nat} (h : k < xs.length) : ev b (xs.take (k + 1)) = ev b (xs.take k) + b ^ k * xs.getD k 0 := by
  rw [take_add_one h, ev_snoc, List.length_take, Nat.min_eq_left (Nat.le_of_lt h)]

theorem ev_split {b : Nat} (xs : List Nat) (k : Nat) (h : k ≤ xs.length) : ev b xs = ev b (xs.take k) + b ^ k * ev b (xs.drop k) := by
  conv => lhs; rw [← List.take_append_drop k xs]
  rw [ev_append, List.length_take, Nat.min_eq_left h]

theorem drop_cons {xs : List Nat} {k : Nat} (h : k < xs.length) : xs.drop k = xs.getD k 0 :: xs.drop (k + 1) := by
  rw [List.drop_eq_getElem_cons h, List.getD_eq_getElem?_getD, List.getElem?_eq_getElem h]; rfl

/-! what a number's figures are -/
theorem Norm.ge {b : Nat} {xs : List Nat} (h : Norm xs) (hp : 0 < xs.length) : b ^ (xs.length - 1) ≤ ev b xs := by
  rcases h with h | h
  · omega
  · have hk : xs.length - 1 < xs.length := by omega
    have e := ev_take_succ (b := b) hk
    rw [show xs.length - 1 + 1 = xs.length from by omega, List.take_length] at e
    rw [e]
    have : b ^ (xs.length - 1) * 1 ≤ b ^ (xs.length - 1) * xs.getD (xs.length - 1) 0 := Nat.mul_le_mul_left _ (by omega)
    omega

theorem Norm.zero_iff {b : Nat} (hb : 0 < b) {xs : List Nat} (h : Norm xs) : ev b xs = 0 ↔ xs.length = 0 := by
  constructor
  · intro e
    rcases Nat.eq_zero_or_pos xs.length with h0 | h0
    · exact h0
    · have := h.ge (b := b) h0
      have hp := Nat.pow_pos (n := xs.length - 1) hb
      omega
  · intro e
    have := List.eq_nil_of_length_eq_zero e
    subst this; rfl

/-- with figures below the base: the length is told by the number -/
theorem len_le_iff {b : Nat} (hb : 1 < b) {xs : List Nat} (hl : Lim b xs) (h : Norm xs) (L : Nat) : xs.length ≤ L ↔ ev b xs < b ^ L := by
  constructor
  · intro e
    exact Nat.lt_of_lt_of_le (ev_lt hl) (Nat.pow_le_pow_right (by omega) e)
  · intro e
    rcases Nat.lt_or_ge L xs.length with h1 | h1
    · have h2 := h.ge (b := b) (by omega)
      have h3 : b ^ L ≤ b ^ (xs.length - 1) := Nat.pow_le_pow_right (by omega) (by omega)
      omega
    · exact h1

/-- the longer one is the greater one -/
theorem ev_lt_of_len {b : Nat} (hb : 0 < b) {xs ys : List Nat} (hl : Lim b xs) (hn : Norm ys) (h : xs.length < ys.length) : ev b xs < ev b ys := by
  have h1 := ev_lt hl
  have h2 := hn.ge (b := b) (by omega)
  have h3 : b ^ xs.length ≤ b ^ (ys.length - 1) := Nat.pow_le_pow_right hb (by omega)
  omega

/-- the first place from above at which two of one length part -/
theorem ev_lt_of_at {b : Nat} {xs ys : List Nat} (hl : Lim b xs) (hlen : xs.length = ys.length) (k : Nat) (hk : k < xs.length)
    (hd : xs.drop (k + 1) = ys.drop (k + 1)) (hlt : xs.getD k 0 < ys.getD k 0) : ev b xs < ev b ys := by
  rw [ev_split xs k (by omega), ev_split ys k (by omega), drop_cons hk, drop_cons (show k < ys.length by omega), hd, ev_cons, ev_cons]
  have h1 := ev_lt (hl.take k)
  rw [List.length_take, Nat.min_eq_left (by omega)] at h1
  have h2 : b ^ k * (xs.getD k 0 + 1) ≤ b ^ k * ys.getD k 0 := Nat.mul_le_mul_left _ hlt
  rw [Nat.mul_add, Nat.mul_one] at h2
  rw [Nat.mul_add, Nat.mul_add]
  omega

theorem ev_inj {b : Nat} (hb : 0 < b) : ∀ {xs ys : List Nat}, Lim b xs → Lim b ys → xs.length = ys.length → ev b xs = ev b ys → xs = ys
  | [], [], _, _, _, _ => rfl
  | x :: xs, y :: ys, h1, h2, hl, he => by
    have hx : x < b := h1 x (by simp)
    have hy : y < b := h2 y (by simp)
    rw [ev_cons, ev_cons] at he
    have e1 : x = y := by
      have := congrArg (· % b) he
      simpa [Nat.add_mul_mod_self_left, Nat.mod_eq_of_lt hx, Nat.mod_eq_of_lt hy] using this
    subst e1
    have e2 : ev b xs = ev b ys := Nat.eq_of_mul_eq_mul_left hb (Nat.add_left_cancel he)
    rw [ev_inj hb (fun z hz => h1 z (by simp [hz])) (fun z hz => h2 z (by simp [hz])) (by simpa using hl) e2]

theorem Norm.unique {b : Nat} (hb : 1 < b) {xs ys : List Nat} (h1 : Lim b xs) (h2 : Lim b ys) (n1 : Norm xs) (n2 : Norm ys) (he : ev b xs = ev b ys) : xs = ys := by
  refine ev_inj (by omega) h1 h2 ?_ he
  have a1 := (len_le_iff hb h1 n1 ys.length).2 (he ▸ (len_le_iff hb h2 n2 _).1 (Nat.le_refl _))
  have a2 := (len_le_iff hb h2 n2 xs.length).2 (he ▸ (len_le_iff hb h1 n1 _).1 (Nat.le_refl _))
  omega

/-- what 'bare' keeps: a part ahead, behind which are noughts alone -/
theorem bare_take {b : Nat} {xs : List Nat} {k : Nat} (hk : k ≤ xs.length) (hz : ∀ i, k ≤ i → i < xs.length → xs.getD i 0 = 0) : ev b (xs.take k) = ev b xs := by
  rw [ev_split xs k hk]
  have : xs.drop k = List.replicate (xs.length - k) 0 := by
    apply List.ext_getElem
    · simp
    · intro i h1 h2
      rw [List.getElem_drop, List.getElem_replicate]
      have := hz (k + i) (by omega) (by rw [List.length_drop] at h1; omega)
      rw [List.getD_eq_getElem?_getD, List.getElem?_eq_getElem (by rw [List.length_drop] at h1; omega)] at this
      exact this
  rw [this, ev_zeros]; simp

theorem norm_take {xs : List Nat} {k : Nat} (hk : k ≤ xs.length) (h : k = 0 ∨ xs.getD (k - 1) 0 ≠ 0) : Norm (xs.take k) := by
  unfold Norm
  rw [List.length_take, Nat.min_eq_left hk]
  rcases h with h | h
  · exact .inl h
  · rcases Nat.eq_zero_or_pos k with h0 | h0
    · exact .inl h0
    · right
      rw [List.getD_eq_getElem?_getD, List.getElem?_take, if_pos (by omega)]
      rwa [List.getD_eq_getElem?_getD] at h

/-! halves of limbs -/
theorem B32_pow (k : Nat) : B32 ^ (2 * k) = B64 ^ k := by rw [Nat.pow_mul, B64_sq, show B32 ^ 2 = B32 * B32 from Nat.pow_two B32]
theorem half_lt {x : Nat} (h : x < B64) : x % B32 < B32 ∧ x / B32 < B32 :=
  ⟨Nat.mod_lt _ B32_pos, Nat.div_lt_of_lt_mul (by rw [← B64_sq]; exact h)⟩
theorem half_step {l xs : List Nat} {k : Nat} (hl : l.length = 2 * k) (he : ev B32 l = ev B64 (xs.take k)) (hk : k < xs.length) :
    ev B32 (l ++ [xs.getD k 0 % B32, xs.getD k 0 / B32]) = ev B64 (xs.take (k + 1)) := by
  rw [ev_append, he, ev_take_succ hk, hl, B32_pow, ev_cons, ev_single]
  rw [show xs.getD k 0 % B32 + B32 * (xs.getD k 0 / B32) = xs.getD k 0 from Nat.mod_add_div _ _]
theorem whole_step2 {l xs : List Nat} {k : Nat} (hx : xs.length = k) (he : ev B64 xs = ev B32 (l.take (2 * k))) (hk : 2 * k + 1 < l.length) :
    ev B64 (xs ++ [l.getD (2 * k) 0 + l.getD (2 * k + 1) 0 * B32]) = ev B32 (l.take (2 * (k + 1))) := by
  rw [ev_snoc, he, show 2 * (k + 1) = (2 * k + 1) + 1 from by omega, ev_take_succ hk, ev_take_succ (show 2 * k < l.length by omega), hx, ← B32_pow, Nat.pow_succ, Nat.mul_add]
  rw [Nat.mul_comm (l.getD (2 * k + 1) 0) B32, ← Nat.mul_assoc, Nat.add_assoc]
theorem whole_step1 {l xs : List Nat} {k : Nat} (hx : xs.length = k) (he : ev B64 xs = ev B32 (l.take (2 * k))) (hk : 2 * k + 1 = l.length) :
    ev B64 (xs ++ [l.getD (2 * k) 0]) = ev B32 l := by
  have h := ev_take_succ (b := B32) (xs := l) (k := 2 * k) (by omega)
  rw [show 2 * k + 1 = l.length from hk, List.take_length] at h
  rw [ev_snoc, he, h, hx, B32_pow]
theorem whole_lt {x y : Nat} (hx : x < B32) (hy : y < B32) : x + y * B32 < B64 := by
  have h : (y + 1) * B32 ≤ B32 * B32 := Nat.mul_le_mul_right _ hy
  rw [← B64_sq, Nat.add_mul, Nat.one_mul] at h
  omega
theorem B32_lt : B32 < B64 := by rw [B32_eq, B64_eq]; omega
theorem Lim.mono {b c : Nat} {xs : List Nat} (h : Lim b xs) (hbc : b ≤ c) : Lim c xs := fun x hx => Nat.lt_of_lt_of_le (h x hx) hbc

/-! sizes: fewer than so many limbs -/
def Sm (L N : Nat) : Prop := N < B64 ^ L
theorem Sm.mono {L L' N : Nat} (h : Sm L N) (hl : L ≤ L') : Sm L' N := Nat.lt_of_lt_of_le h (Nat.pow_le_pow_right B64_pos hl)
theorem Sm.le {L N M : Nat} (h : Sm L N) (hm : M ≤ N) : Sm L M := Nat.lt_of_le_of_lt hm h
theorem Sm.mul {L L' N M : Nat} (h : Sm L N) (k : Sm L' M) : Sm (L + L') (N * M) := by
  unfold Sm at *
  rw [Nat.pow_add]
  rcases Nat.eq_zero_or_pos M with rfl | hp
  · rw [Nat.mul_zero]; exact Nat.mul_pos (Nat.pow_pos B64_pos) (Nat.pow_pos B64_pos)
  · exact Nat.lt_of_lt_of_le (Nat.mul_lt_mul_of_pos_right h hp) (Nat.mul_le_mul_left _ (Nat.le_of_lt k))
theorem B64_two_le : 2 ≤ B64 := by rw [B64_eq]; omega
theorem Sm.add {L N M : Nat} (h : Sm L N) (k : Sm L M) : Sm (L + 1) (N + M) := by
  unfold Sm at *
  rw [Nat.pow_succ]
  have := Nat.mul_le_mul_left (B64 ^ L) B64_two_le
  omega
theorem Sm.one {N : Nat} (h : N < B64) : Sm 1 N := by unfold Sm; rwa [Nat.pow_one]
theorem Sm.small {N : Nat} (h : N < 18446744073709551616) : Sm 1 N := Sm.one (by rw [B64_eq]; exact h)
theorem Sm.pow2 (k : Nat) : Sm (k / 64 + 1) (2 ^ k) := by
  unfold Sm
  rw [B64_two, ← Nat.pow_mul]
  exact Nat.pow_lt_pow_right (by omega) (by omega)

/-! sums, figure by figure -/
theorem ev_take_succ' (b : Nat) (xs : List Nat) (k : Nat) : ev b (xs.take (k + 1)) = ev b (xs.take k) + b ^ k * xs.getD k 0 := by
  rcases Nat.lt_or_ge k xs.length with h | h
  · exact ev_take_succ h
  · rw [List.take_of_length_le (by omega), List.take_of_length_le h, List.getD_eq_getElem?_getD, List.getElem?_eq_none h]; simp

theorem add_step {b : Nat} {l x y : List Nat} {k c : Nat} (hl : l.length = k) (he : ev b l + b ^ k * c = ev b (x.take k) + ev b (y.take k)) :
    ev b (l ++ [(x.getD k 0 + y.getD k 0 + c) % b]) + b ^ (k + 1) * ((x.getD k 0 + y.getD k 0 + c) / b) = ev b (x.take (k + 1)) + ev b (y.take (k + 1)) := by
  rw [ev_snoc, hl, ev_take_succ', ev_take_succ']
  generalize x.getD k 0 = p
  generalize y.getD k 0 = q
  have h := Nat.mod_add_div (p + q + c) b
  have h2 : b ^ k * ((p + q + c) % b) + b ^ (k + 1) * ((p + q + c) / b) = b ^ k * (p + q + c) := by
    rw [Nat.pow_succ, Nat.mul_assoc, ← Nat.mul_add, h]
  rw [Nat.mul_add, Nat.mul_add] at h2
  omega

/-- behind the last figure nothing is carried -/
theorem add_end {b : Nat} (hb : 2 ≤ b) {l x y : List Nat} {m c : Nat} (hx : Lim b x) (hy : Lim b y) (hxm : x.length ≤ m) (hym : y.length ≤ m)
    (he : ev b l + b ^ (m + 1) * c = ev b (x.take (m + 1)) + ev b (y.take (m + 1))) : ev b l = ev b x + ev b y := by
  rw [List.take_of_length_le (by omega), List.take_of_length_le (by omega)] at he
  have h1 := Nat.lt_of_lt_of_le (ev_lt hx) (Nat.pow_le_pow_right (by omega) hxm)
  have h2 := Nat.lt_of_lt_of_le (ev_lt hy) (Nat.pow_le_pow_right (by omega) hym)
  have h3 : b ^ m * 2 ≤ b ^ (m + 1) := by rw [Nat.pow_succ]; exact Nat.mul_le_mul_left _ hb
  rcases Nat.eq_zero_or_pos c with rfl | hc
  · simpa using he
  · have : b ^ (m + 1) * 1 ≤ b ^ (m + 1) * c := Nat.mul_le_mul_left _ hc
    omega

theorem sub_step {b : Nat} (hb : 0 < b) {l x y : List Nat} {k c : Nat} (hl : l.length = k) (hc : c ≤ 1) (hx : x.getD k 0 < b) (hy : y.getD k 0 < b)
    (he : ev b l + ev b (y.take k) = ev b (x.take k) + b ^ k * c) {n : Nat} (hn : n = b + x.getD k 0 - y.getD k 0 - c) :
    ev b (l ++ [n % b]) + ev b (y.take (k + 1)) = ev b (x.take (k + 1)) + b ^ (k + 1) * (1 - n / b) ∧ 1 - n / b ≤ 1 ∧ n / b ≤ 1 := by
  rw [ev_snoc, hl, ev_take_succ', ev_take_succ']
  generalize x.getD k 0 = p at *
  generalize y.getD k 0 = q at *
  have h := Nat.mod_add_div n b
  have hn2 : n < 2 * b := by omega
  have hdiv : n / b < 2 := Nat.div_lt_of_lt_mul (by omega)
  generalize n / b = d at *
  generalize n % b = r at *
  have key : r + q + c = p + b * (1 - d) := by
    rcases (show d = 0 ∨ d = 1 by omega) with e | e
    · subst e; simp at h ⊢; omega
    · subst e; simp at h ⊢; omega
  refine ⟨?_, by omega, by omega⟩
  have h2 : b ^ k * (r + q + c) = b ^ k * (p + b * (1 - d)) := by rw [key]
  rw [Nat.mul_add, Nat.mul_add, Nat.mul_add, ← Nat.mul_assoc, show b ^ k * b = b ^ (k + 1) from rfl] at h2
  omega

theorem sub_end {b : Nat} {l x y : List Nat} {c : Nat} (hl : Lim b l) (hll : l.length = x.length) (hyx : y.length ≤ x.length) (hle : ev b y ≤ ev b x)
    (he : ev b l + ev b (y.take x.length) = ev b (x.take x.length) + b ^ x.length * c) : ev b l = ev b x - ev b y := by
  rw [List.take_of_length_le hyx, List.take_length] at he
  have h1 := ev_lt hl
  rw [hll] at h1
  rcases Nat.eq_zero_or_pos c with rfl | hc
  · rw [Nat.mul_zero] at he; omega
  · have : b ^ x.length * 1 ≤ b ^ x.length * c := Nat.mul_le_mul_left _ hc
    omega

/-! products, figure by figure -/
theorem ev_set (b : Nat) : ∀ (xs : List Nat) (j v : Nat), j < xs.length → ev b (xs.set j v) + b ^ j * xs.getD j 0 = ev b xs + b ^ j * v
  | x :: xs, 0, v, _ => by simp [ev]; omega
  | x :: xs, j + 1, v, h => by
    have ih := ev_set b xs j v (by simpa using h)
    simp only [List.set_cons_succ, ev_cons, List.getD_cons_succ]
    have h2 : b * (ev b (xs.set j v) + b ^ j * xs.getD j 0) = b * (ev b xs + b ^ j * v) := by rw [ih]
    rw [Nat.mul_add, Nat.mul_add] at h2
    rw [Nat.pow_succ, Nat.mul_comm (b ^ j) b, Nat.mul_assoc, Nat.mul_assoc]
    omega
theorem getD_set_ne {xs : List Nat} {i j v : Nat} (h : i ≠ j) : (xs.set j v).getD i 0 = xs.getD i 0 := by
  rw [List.getD_eq_getElem?_getD, List.getD_eq_getElem?_getD, List.getElem?_set_ne (fun e => h e.symm)]
theorem getD_set_eq {xs : List Nat} {j v : Nat} (h : j < xs.length) : (xs.set j v).getD j 0 = v := by
  rw [List.getD_eq_getElem?_getD, List.getElem?_set_self h]; rfl
theorem Lim.set {b v : Nat} {xs : List Nat} (h : Lim b xs) (hv : v < b) (j : Nat) : Lim b (xs.set j v) := fun x hx => by
  rcases List.mem_or_eq_of_mem_set hx with hx | rfl
  · exact h x hx
  · exact hv
theorem Lim.zeros {b : Nat} (hb : 0 < b) (n : Nat) : Lim b (List.replicate n 0) := fun x hx => by rw [List.eq_of_mem_replicate hx]; exact hb

/-- the inner round: what stands at i + k, a product of figures, and what is carried -/
theorem mul_step {b : Nat} {out x y : List Nat} {i k c T n : Nat} (hk : i + k < out.length)
    (he : ev b out + b ^ (i + k) * c = T + b ^ i * (x.getD i 0 * ev b (y.take k))) (hn : n = out.getD (i + k) 0 + x.getD i 0 * y.getD k 0 + c) :
    ev b (out.set (i + k) (n % b)) + b ^ (i + (k + 1)) * (n / b) = T + b ^ i * (x.getD i 0 * ev b (y.take (k + 1))) := by
  have h1 := ev_set b out (i + k) (n % b) hk
  rw [ev_take_succ']
  have h := Nat.mod_add_div n b
  generalize out.getD (i + k) 0 = o at *
  generalize x.getD i 0 = p at *
  generalize y.getD k 0 = q at *
  have h2 : b ^ (i + k) * (n % b) + b ^ (i + (k + 1)) * (n / b) = b ^ (i + k) * (o + p * q + c) := by
    rw [show i + (k + 1) = (i + k) + 1 from by omega, Nat.pow_succ, Nat.mul_assoc, ← Nat.mul_add, h, hn]
  have h3 : b ^ i * (p * (ev b (y.take k) + b ^ k * q)) = b ^ i * (p * ev b (y.take k)) + b ^ (i + k) * (p * q) := by
    rw [Nat.mul_add, Nat.mul_add, Nat.pow_add]
    congr 1
    rw [Nat.mul_left_comm p, ← Nat.mul_assoc]
  rw [h3]
  rw [Nat.mul_add, Nat.mul_add] at h2
  omega
theorem mul_lt {b o p q c n : Nat} (ho : o < b) (hp : p < b) (hq : q < b) (hc : c < b) (hn : n = o + p * q + c) : n < b * b ∧ n / b < b := by
  have h1 : n < b * b := by
    have : (p + 1) * (q + 1) ≤ b * b := Nat.mul_le_mul hp hq
    have e : (p + 1) * (q + 1) = p * q + p + q + 1 := by rw [Nat.add_mul, Nat.mul_add, Nat.one_mul, Nat.mul_one]; omega
    have h2 : p * q ≤ (b - 1) * (b - 1) := Nat.mul_le_mul (by omega) (by omega)
    obtain ⟨d, rfl⟩ : ∃ d, b = d + 1 := ⟨b - 1, by omega⟩
    simp only [Nat.add_sub_cancel] at h2
    have e2 : (d + 1) * (d + 1) = d * d + d + d + 1 := by rw [Nat.add_mul, Nat.mul_add, Nat.one_mul, Nat.mul_one]; omega
    omega
  exact ⟨h1, Nat.div_lt_of_lt_mul h1⟩
/-- the outer round's end: what is carried is laid where nothing stood -/
theorem mul_row {b : Nat} {out x y : List Nat} {i c : Nat} (hi : i + y.length < out.length) (hz : out.getD (i + y.length) 0 = 0)
    (he : ev b out + b ^ (i + y.length) * c = ev b (x.take i) * ev b y + b ^ i * (x.getD i 0 * ev b (y.take y.length))) :
    ev b (out.set (i + y.length) c) = ev b (x.take (i + 1)) * ev b y := by
  have h1 := ev_set b out (i + y.length) c hi
  rw [hz, Nat.mul_zero] at h1
  rw [ev_take_succ', Nat.add_mul, ← Nat.mul_assoc] at *
  rw [List.take_length] at he
  omega

end Go.Rt
