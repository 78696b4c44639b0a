/-
  Adafactor in numbers: a step's share.
  Adafactor: a step's share, by the program and by definition.
-/
import Derived.Test.YtiebflipijcnfaaGreatGT
import Derived.Test.YtiebflipijcnfaaGreatGX
namespace Go.Rt
noncomputable def shareN (t K:Nat):Nat:=rt (2^(5*K) / t^4) 5
theorem share_mono {t u:Nat} (ht:0 < t) (h:t≤u) (K:Nat):shareN u K≤shareN t K:=
  rt_mono (by decide) (Nat.div_le_div_left (Nat.pow_le_pow_left h 4) (Nat.pow_pos ht))
theorem share_one (K:Nat):shareN 1 K=2^K:=by
  unfold shareN
  rw[Nat.one_pow,Nat.div_one,Nat.mul_comm,Nat.pow_mul]
  exact rt_eq (by decide) ⟨Nat.le_refl _,Nat.pow_lt_pow_left (Nat.lt_succ_self _) (by decide)⟩
theorem share_le {t:Nat} (ht:0 < t) (K:Nat):shareN t K≤2^K:=by
  rw[← share_one K]
  exact share_mono (by decide) ht K
end Go.Rt
namespace Go.Rt
open Go Go.RowKit Go.Proofs
theorem share_sm {T K:Nat} (hK:K≤40):Sm 4 (2^(5*K))∧Sm 4 (2^(5*K) / T^4):=by
  have h:Sm 4 (2^(5*K)):=(Sm.pow2 (5*K)).mono (by omega)
  exact⟨h,h.le (Nat.div_le_self _ _)⟩
theorem share_T {T:Nat} (h1:1≤T) (h2:T≤1000000):T < B64∧Sm 1 T∧T^4≠0∧Sm 4 (T^4):=by
  have hb:T < B64:=by rw[B64_eq];omega
  have h4:T^4≤1000000^4:=Nat.pow_le_pow_left h2 4
  refine⟨hb,Sm.one hb,fun e=>by have:=Nat.pow_pos (n:=4) h1;omega,?_⟩
  unfold Sm
  rw[B64_eq]
  exact Nat.lt_of_le_of_lt h4 (by decide)
theorem share_64 {T K:Nat} (h1:1≤T) (hK:K≤40):shareN T K≤1099511627776:=
  Nat.le_trans (share_le h1 K) (Nat.le_trans (Nat.pow_le_pow_right (by omega) hK) (by decide))
set_option maxRecDepth 100000 in
set_option maxHeartbeats 4000000 in
theorem Tryz.adaShareNo (t f:Int) (w:World) (h:t < 1∨1000000 < t∨f < 0∨40 < f):
    Calls Tryz.prog 13 #[.int .i64 t,.int .i64 f] w fun e w'=>e=.returned (.tuple #[.int .i64 0,.int .i64 1])∧w=w':=by
  by_cases a:t < 1
  · go_enter Tryz.func13,Tryz.ntmps13
    go_wp2;go_ret2
    exact⟨rfl,rfl⟩
  · by_cases b:t > 1000000
    · clear h
      go_enter Tryz.func13,Tryz.ntmps13
      go_wp2;go_ret2
      exact⟨rfl,rfl⟩
    · by_cases c:f < 0
      · clear h
        go_enter Tryz.func13,Tryz.ntmps13
        go_wp2;go_ret2
        exact⟨rfl,rfl⟩
      · have d:f > 40:=by omega
        clear h
        go_enter Tryz.func13,Tryz.ntmps13
        go_wp2;go_ret2
        exact⟨rfl,rfl⟩
set_option maxRecDepth 100000 in
set_option maxHeartbeats 8000000 in
theorem Tryz.adaShare (T K:Nat) (w:World) (h1:1≤T) (h2:T≤1000000) (hK:K≤40):
    Calls Tryz.prog 13 #[.int .i64 (T:Int),.int .i64 (K:Int)] w fun e w'=>e=.returned (.tuple #[.int .i64 ((shareN T K:Nat):Int),.int .i64 0])∧Ext w w':=by
  have t1:¬ (T:Int) < 1:=by omega
  have t2:¬ (T:Int) > 1000000:=by omega
  have t3:¬ (K:Int) < 0:=by omega
  have t4:¬ (K:Int) > 40:=by omega
  have HS:=Lib.hid (share_sm (T:=T) hK)
  have HT:=Lib.hid (share_T h1 h2)
  have HB:=Lib.hid (share_64 h1 hK)
  obtain⟨M,hM⟩:∃ M,M=5*K:=⟨_,rfl⟩
  have hw5:IntKind.i64.wrap (5*(K:Int))=(M:Int):=by rw[IntKind.wrap_i64];omega
  have HM:Hid (M≤20000∧1*2^M=2^(5*K)):=Lib.hid ⟨by omega,by rw[Nat.one_mul,hM]⟩
  have hwT:IntKind.u64.wrap (T:Int)=(T:Int):=by rw[IntKind.wrap_u64];omega
  have HR:Hid (smallN (rootV (2^(5*K) / T^4) 5)=shareN T K):=Lib.hid (by
    have h:=share_64 h1 hK
    unfold rootV
    rw[if_pos (by omega)]
    show smallN (shareN T K)=_
    unfold smallN
    rw[if_pos (by rw[B64_eq];omega)])
  have hwS:IntKind.i64.wrap ((shareN T K:Nat):Int)=((shareN T K:Nat):Int):=by have:=share_64 h1 hK;rw[IntKind.wrap_i64];omega
  have HPW:Hid (powV T 4=T^4):=Lib.hid (if_pos (by omega))
  clear h1 h2 hK hM
  go_enter Tryz.func13,Tryz.ntmps13
  go_wp2_with fail
  clear t1 t2 t3 t4
  refine(Tryz.natOf 1 _ (by rw[B64_eq];omega)).mono ?_
  rintro e W1 ⟨v1,rfl,n1,E0,-⟩
  go_wp2_with fail
  refine(Tryz.divShlK n1 (Sm.one (by rw[B64_eq];omega)) (by omega) M HM.out.1).mono ?_
  rintro e W2 ⟨v2,rfl,n2,hE⟩
  rw[HM.out.2]at n2
  replace E0:=E0.trans hE
  clear n1 hE hw5
  go_wp2_with fail
  refine(Tryz.natOf T _ HT.out.1).mono ?_
  rintro e W3 ⟨v3,rfl,n3,hE,-⟩
  replace E0:=E0.trans hE
  replace n2:=n2.ext hE
  clear hE hwT
  go_wp2_with fail
  refine(Tryz.rootPow n3 HT.out.2.1 (by omega) 4).mono ?_
  rintro e W4 ⟨v4,rfl,n4,hE⟩
  rw[HPW.out]at n4
  replace E0:=E0.trans hE
  replace n2:=n2.ext hE
  clear hE n3
  go_wp2_with fail
  refine(Tryz.divDivModK n2 n4 HS.out.1 (by omega) HT.out.2.2.1).mono ?_
  rintro e W5 ⟨v5,v6,rfl,n5,n6,hE⟩
  replace E0:=E0.trans hE
  clear hE n2 n4 n6
  go_wp2_with fail
  refine(Tryz.rootRoot n5 HS.out.2 (by omega) 5).mono ?_
  rintro e W6 ⟨v7,rfl,n7,hE⟩
  replace E0:=E0.trans hE
  clear hE n5
  go_wp2_with fail
  refine(Tryz.natSmall n7).mono ?_
  rintro e W7 ⟨rfl,rfl⟩
  clear n7
  rw[HR.out]
  go_wp2
  go_ret2
  exact⟨rfl,E0⟩
set_option maxRecDepth 100000 in
set_option maxHeartbeats 8000000 in
theorem Tryz.refShare (T K:Nat) (w:World) (h1:1≤T) (h2:T≤1000000) (hK:K≤40):
    Calls Tryz.prog 8 #[.int .i64 (T:Int),.int .i64 (K:Int)] w fun e w'=>e=.returned (.tuple #[.int .i64 ((shareN T K:Nat):Int),.int .i64 0])∧Ext w w':=by
  have t1:¬ (T:Int) < 1:=by omega
  have t2:¬ (T:Int) > 1000000:=by omega
  have t3:¬ (K:Int) < 0:=by omega
  have t4:¬ (K:Int) > 40:=by omega
  have HS:=Lib.hid (share_sm (T:=T) hK)
  have HT:=Lib.hid (share_T h1 h2)
  obtain⟨M,hM⟩:∃ M,M=5*K:=⟨_,rfl⟩
  have hw5:IntKind.i64.wrap (5*(K:Int))=(M:Int):=by rw[IntKind.wrap_i64];omega
  have HM:Hid (M≤20000∧1*2^M=2^(5*K)):=Lib.hid ⟨by omega,by rw[Nat.one_mul,hM]⟩
  have hwT:IntKind.u64.wrap (T:Int)=(T:Int):=by rw[IntKind.wrap_u64];omega
  have HV:Hid (rootV (2^(5*K) / T^4) 5=shareN T K):=Lib.hid (by unfold rootV;rw[if_pos (by omega)];rfl)
  have HR:Hid (fitV ((shareN T K:Nat):Int)=((shareN T K:Nat):Int)):=Lib.hid (fitV_in (fits_iff.2 (by have:=share_64 h1 hK;omega)))
  have HPW:Hid (powV T 4=T^4):=Lib.hid (if_pos (by omega))
  clear h1 h2 hK hM
  go_enter Tryz.func8,Tryz.ntmps8
  go_wp2_with fail
  clear t1 t2 t3 t4
  refine(Tryz.refOf 1 _ (by rw[B64_eq];omega)).mono ?_
  rintro e W1 ⟨v1,rfl,n1,E0,-⟩
  go_wp2_with fail
  refine(Tryz.refShlK n1 (Sm.one (by rw[B64_eq];omega)) (by omega) M HM.out.1).mono ?_
  rintro e W2 ⟨v2,rfl,n2,hE⟩
  rw[HM.out.2]at n2
  replace E0:=E0.trans hE
  clear n1 hE hw5
  go_wp2_with fail
  refine(Tryz.refOf T _ HT.out.1).mono ?_
  rintro e W3 ⟨v3,rfl,n3,hE,-⟩
  replace E0:=E0.trans hE
  replace n2:=n2.ext hE
  clear hE hwT
  go_wp2_with fail
  refine(Tryz.refPow n3 HT.out.2.1 (by omega) 4).mono ?_
  rintro e W4 ⟨v4,rfl,n4,hE⟩
  rw[HPW.out]at n4
  replace E0:=E0.trans hE
  replace n2:=n2.ext hE
  clear hE n3
  go_wp2_with fail
  refine(Tryz.refDivModK n2 n4 HS.out.1 HT.out.2.2.2 (by omega) HT.out.2.2.1).mono ?_
  rintro e W5 ⟨v5,v6,rfl,n5,n6,hE⟩
  replace E0:=E0.trans hE
  clear hE n2 n4 n6
  go_wp2_with fail
  refine(Tryz.refRoot n5 HS.out.2 (by omega) 5).mono ?_
  rintro e W6 ⟨v7,rfl,n7,hE⟩
  replace E0:=E0.trans hE
  clear hE n5
  rw[HV.out]at n7
  obtain⟨a7,l7,c7,rfl⟩:=n7.slice
  have z7:=Zw.ofN n7
  clear n7
  go_wp2_with fail
  refine(Tryz.refZInt z7).mono ?_
  rintro e W7 ⟨rfl,hE⟩
  replace E0:=E0.trans hE
  clear z7 hE
  rw[HR.out]
  go_wp2
  go_ret2
  exact⟨rfl,E0⟩
end Go.Rt
