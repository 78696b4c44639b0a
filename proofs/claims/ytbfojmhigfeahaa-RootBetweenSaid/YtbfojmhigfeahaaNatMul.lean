/-
  nat.Mul: a product, limb by limb. nat.Bits.
-/
import Derived.Test.YtbfojmhigfeahaaNatAdd
import Derived.Test.YtbfojmhigfeahaaBits
namespace Go.Rt
open Go.RowKit Go.Proofs

/-- a product of two limbs, what stood there, and what is carried, in two limbs -/
theorem limb_prod {o x y cc h l l1 c1 l2 c2 n : Nat} (hn : n = o + x * y + cc) (hh : h = x * y / B64) (hl : l = x * y % B64) (h1 : l1 = (l + o + 0) % B64) (d1 : c1 = (l + o + 0) / B64) (h2 : l2 = (l1 + cc + 0) % B64) (d2 : c2 = (l1 + cc + 0) / B64) (hb : n < B64 * B64) :
    l2 = n % B64 ∧ h + c1 + c2 = n / B64 ∧ h + c1 < B64 ∧ h + c1 + c2 < B64 := by
  have e0 : x * y = h * B64 + l := by rw [hh, hl]; exact (Nat.div_add_mod' _ _).symm
  have e1 : l + o + 0 = c1 * B64 + l1 := by rw [d1, h1]; exact (Nat.div_add_mod' _ _).symm
  have e2 : l1 + cc + 0 = c2 * B64 + l2 := by rw [d2, h2]; exact (Nat.div_add_mod' _ _).symm
  have lt2 : l2 < B64 := by rw [h2]; exact Nat.mod_lt _ B64_pos
  have en : n = l2 + B64 * (h + c1 + c2) := by
    rw [hn, e0, Nat.mul_add, Nat.mul_add, Nat.mul_comm B64 h, Nat.mul_comm B64 c1, Nat.mul_comm B64 c2]; omega
  have hlt : h + c1 + c2 < B64 := by
    have : B64 * (h + c1 + c2) < B64 * B64 := by omega
    exact Nat.lt_of_mul_lt_mul_left this
  refine ⟨?_, ?_, by omega, hlt⟩
  · rw [en, Nat.add_mul_mod_self_left, Nat.mod_eq_of_lt lt2]
  · rw [en, Nat.add_mul_div_left _ _ B64_pos, Nat.div_eq_of_lt lt2, Nat.zero_add]

set_option maxRecDepth 100000 in
set_option maxHeartbeats 2000000 in
theorem Try.natMul {v1 v2 : Value} {N M L1 L2 : Nat} {w : World} (h1 : Nw w v1 N) (h2 : Nw w v2 M) (s1 : Sm L1 N) (s2 : Sm L2 M) (hL : L1 + L2 ≤ 10000000) :
    Calls Try.prog 77 #[v1, v2] w fun e w' => ∃ v', e = .returned v' ∧ Nw w' v' (N * M) ∧ Ext w w' ∧ Fr w v' := by
  obtain ⟨x, t1, n1, rfl, l1⟩ := h1.lens s1
  obtain ⟨y, t2, n2, rfl, l2⟩ := h2.lens s2
  obtain ⟨a1, b1, o1, c1, rfl, hs1, hl1⟩ := t1
  obtain ⟨a2, b2, o2, c2, rfl, hs2, hl2⟩ := t2
  have hm1 := hs1.max
  have hle1 := hs1.le
  have hm2 := hs2.max
  have hle2 := hs2.le
  clear h1 h2 n1 n2 s1 s2
  go_enter Try.func77, Try.ntmps77
  go_wp2_with (at_make; go_loud (refine make_full Try.underlying23 Try.infoU rfl _ _ rfl w.heap.size (x.length + y.length) _ _ (by rfl) (by rfl) (by omega) (by omega) (by omega) (by omega) ?_); intro w3 hown0 hgrow0)
  have hE3 : Ext w w3 := (Ext.refl w).grown hgrow0 (fun k e => by cases e)
  have hg3 := hown0.head.2
  clear hgrow0
  go_loopw [6, 7, 8, 9, 10, 11, 12, 13, 22] (fun _ _ _ _ _ _ _ _ i wr => ∃ (k : Nat) (out : List Nat), i = .int .i64 (k : Int) ∧ k ≤ x.length ∧ Own wr w.heap.size 43 (.slice (some ⟨w.heap.size, 0, none⟩) (x.length + y.length) (x.length + y.length)) out ∧ Lim B64 out ∧ Hid (out.length = x.length + y.length) ∧ Hid (∀ j, k + y.length ≤ j → out.getD j 0 = 0) ∧ Hid (ev B64 out = ev B64 (x.take k) * ev B64 y) ∧ Ext w wr) (fun _ _ _ _ _ _ _ _ i _ => x.length - (intOf i).toNat)
  case atStart => exact ⟨0, _, rfl, by omega, hown0, Lim.zeros B64_pos _, Lib.hid (by simp), Lib.hid (fun j _ => by simp [List.getElem?_replicate]; split <;> simp), Lib.hid (by rw [ev_zeros]; simp), hE3⟩
  case round =>
    obtain ⟨i, out, rfl, hi, hown, hlim, hlen, hz, hev, hEr⟩ := hrel
    by_cases hlt : i < x.length
    · obtain rfl : a1 = some ⟨b1, o1, none⟩ := hs1.addr (by omega)
      have bx : lg x i < B64 := hl1.getD B64_pos _
      have hcx := (hs1.ext hEr).cell hlt
      have hi0 : (0 : Int) ≤ (i : Int) := by omega
      have hiI : (i : Int) < (x.length : Int) := by omega
      obtain ⟨xi, hxi⟩ : ∃ t, t = lg x i := ⟨_, rfl⟩
      rw [← hxi] at hcx bx
      have HXI := Lib.hid hxi
      clear hxi
      go_wp2_with fail
      go_loopw [8, 9, 10, 11, 12, 13, 29] (fun c _ _ _ _ _ q wq => ∃ (k cc : Nat) (ou : List Nat), q = .int .i64 (k : Int) ∧ c = .int .u64 (cc : Int) ∧ k ≤ y.length ∧ cc < B64 ∧ Own wq w.heap.size 43 (.slice (some ⟨w.heap.size, 0, none⟩) (x.length + y.length) (x.length + y.length)) ou ∧ Lim B64 ou ∧ Hid (ou.length = x.length + y.length) ∧ Hid (∀ j, i + y.length ≤ j → ou.getD j 0 = 0) ∧ Hid (ev B64 ou + B64 ^ (i + k) * cc = ev B64 (x.take i) * ev B64 y + B64 ^ i * (x.getD i 0 * ev B64 (y.take k))) ∧ Ext w wq) (fun _ _ _ _ _ _ q _ => y.length - (intOf q).toNat)
      case atStart => exact ⟨0, 0, out, rfl, rfl, by omega, B64_pos, hown, hlim, hlen, hz, Lib.hid (by rw [hev.out]; simp), hEr⟩
      case round =>
        obtain ⟨k, cc, ou, rfl, rfl, hk, hcc, hown2, hlim2, hlen2, hz2, hev2, hEq⟩ := hrel
        by_cases hlk : k < y.length
        · obtain rfl : a2 = some ⟨b2, o2, none⟩ := hs2.addr (by omega)
          have hcy := (hs2.ext hEq).cell hlk
          have hco := hown2.cellAt (i := i + k) (by rw [hlen2.out]; omega)
          have hfo := hown2.frozenAt (i + k)
          have bo : lg ou (i + k) < B64 := hlim2.getD B64_pos _
          have by' : lg y k < B64 := hl2.getD B64_pos _
          obtain ⟨yk, hyk⟩ : ∃ t, t = lg y k := ⟨_, rfl⟩
          obtain ⟨o, ho⟩ : ∃ t, t = lg ou (i + k) := ⟨_, rfl⟩
          rw [← hyk] at hcy by'
          rw [← ho] at hco bo
          obtain ⟨n, hn⟩ : ∃ n : Nat, n = o + xi * yk + cc := ⟨_, rfl⟩
          have hnB := mul_lt bo bx by' hcc hn
          obtain ⟨h, hh⟩ : ∃ h, h = xi * yk / B64 := ⟨_, rfl⟩
          obtain ⟨l, hl⟩ : ∃ l, l = xi * yk % B64 := ⟨_, rfl⟩
          have hmul : ∀ W, Calls Try.prog 101 #[.int .u64 (xi : Int), .int .u64 (yk : Int)] W fun e w' => W = w' ∧ e = .returned (.tuple #[.int .u64 (h : Int), .int .u64 (l : Int)]) := fun W => Try.mul64 bx by' hh hl W
          obtain ⟨la, hla⟩ : ∃ s, s = (l + o + 0) % B64 := ⟨_, rfl⟩
          obtain ⟨ca, hca⟩ : ∃ d, d = (l + o + 0) / B64 := ⟨_, rfl⟩
          obtain ⟨lb, hlb⟩ : ∃ s, s = (la + cc + 0) % B64 := ⟨_, rfl⟩
          obtain ⟨cb, hcb⟩ : ∃ d, d = (la + cc + 0) / B64 := ⟨_, rfl⟩
          have hadd1 : ∀ W, (callFunc 90 #[.int .u64 (l : Int), .int .u64 (o : Int), .int .u64 0]).run Try.prog W = .ok (.value (.tuple #[.int .u64 (la : Int), .int .u64 (ca : Int)])) W := fun W => Try.add64 (c := 0) (by omega) hla hca W
          have hadd2 : ∀ W, (callFunc 90 #[.int .u64 (la : Int), .int .u64 (cc : Int), .int .u64 0]).run Try.prog W = .ok (.value (.tuple #[.int .u64 (lb : Int), .int .u64 (cb : Int)])) W := fun W => Try.add64 (c := 0) (by omega) hlb hcb W
          obtain ⟨p1, p2, p3, p4⟩ := limb_prod hn hh hl hla hca hlb hcb hnB.1
          have hw1 : IntKind.u64.wrap ((h : Int) + (ca : Int)) = ((h + ca : Nat) : Int) := wadd _ _ p3
          have hw2 : IntKind.u64.wrap (((h + ca : Nat) : Int) + (cb : Int)) = ((h + ca + cb : Nat) : Int) := wadd _ _ p4
          obtain ⟨s1, hs1'⟩ : ∃ s, s = h + ca := ⟨_, rfl⟩
          obtain ⟨s2, hs2'⟩ : ∃ s, s = h + ca + cb := ⟨_, rfl⟩
          rw [← hs2'] at hw2 p2 p4
          rw [← hs1'] at hw1 hw2
          have HN : Hid (n = ou.getD (i + k) 0 + x.getD i 0 * y.getD k 0 + cc) := Lib.hid (by rw [hn, ho, HXI.out, hyk]; rfl)
          have HP1 := Lib.hid p1
          have HP2 := Lib.hid p2
          have lb64 : lb < B64 := by rw [hlb]; exact Nat.mod_lt _ B64_pos
          have hk0 : (0 : Int) ≤ (k : Int) := by omega
          have hkI : (k : Int) < (y.length : Int) := by omega
          clear hn hh hl hla hca hlb hcb p1 p2 p3 hs1' hs2' hyk ho hnB hs1 hs2 hcx
          go_wp2_with (first | (go_at_call 101; refine (hmul _).mono ?_; rintro e w' ⟨rfl, rfl⟩))
          go_roundw
          case rel =>
            refine ⟨k + 1, s2, ou.set (i + k) lb, by go_num, rfl, by omega, p4, ?_, hlim2.set lb64 _, Lib.hid (by rw [List.length_set]; exact hlen2.out), Lib.hid (fun j hj => ?_), Lib.hid ?_, ?_⟩
            · exact Own.stored (xs := ou) hown2 (i + k) lb rfl
            · rw [getD_set_ne (by omega)]; exact hz2.out j hj
            · have h := mul_step (by rw [hlen2.out]; omega) hev2.out HN.out
              rw [← HP1.out, ← HP2.out] at h
              exact h
            · exact hEq.setCell (Nat.le_refl _) _
          case measure => simp [intOf]; omega
        · obtain rfl : k = y.length := by omega
          have hco := hown2.cellAt (i := i + y.length) (by rw [hlen2.out]; omega)
          have hfo := hown2.frozenAt (i + y.length)
          clear hs1 hs2 hcx
          go_wp2
          go_roundw
          case rel =>
            have hl := hlen2.out
            refine ⟨i + 1, ou.set (i + y.length) cc, by go_num, by omega, ?_, hlim2.set hcc _, Lib.hid (by rw [List.length_set]; exact hl), Lib.hid (fun j hj => ?_), Lib.hid ?_, ?_⟩
            · exact Own.stored (xs := ou) hown2 (i + y.length) cc rfl
            · rw [getD_set_ne (by omega)]; exact hz2.out j (by omega)
            · exact mul_row (by omega) (hz2.out _ (Nat.le_refl _)) hev2.out
            · exact hEq.setCell (Nat.le_refl _) _
          case measure => simp [intOf]; omega
    · obtain rfl : i = x.length := by omega
      have hfin : ev B64 out = ev B64 x * ev B64 y := by
        have h := hev.out
        rwa [List.take_length] at h
      have HF := Lib.hid hfin
      have hn0 := hown.nt hlim
      have hfr := hown.fr
      clear hfin hs1 hs2
      go_wp2_with (go_at_call 91; refine (Try.natBare hn0).mono ?_; rintro e w' ⟨v', rfl, hn, rfl, hob⟩)
      go_ret
      rw [HF.out] at hn
      exact ⟨_, rfl, hn, hEr, fun j hj => hfr j (hob ▸ hj)⟩

end Go.Rt
