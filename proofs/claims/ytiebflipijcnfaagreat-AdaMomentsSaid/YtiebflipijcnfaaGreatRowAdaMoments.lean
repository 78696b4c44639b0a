/-
  AdaMoments: the given statement, proved: for every input the law returns true, and its arguments read afterwards as they read before. No condition.
-/
import Derived.Test.YtiebflipijcnfaaGreatJP
import Derived.Test.YtiebflipijcnfaaGreatJR
namespace Go.Proofs.YtiebflipijcnfaaGreat.adaMoments
open Go.Rt Go.ChangeShapes Go.WideShapes Go.ChangeAt Go.RowKit
theorem own:ownKnob Tryz.prog.godebug=none:=by kernel_rfl
theorem laidOut:laidOutB Tryz.prog=true:=by kernel_rfl
set_option maxRecDepth 100000 in
theorem lifted (os:Os) (started:os.Started) (H:Type) (enc:TypeId × Value→H):
    ReturnsInHanded {} Tryz.checked os 3 .any (Rows.adaMomentsSpec.pre6 enc Tryz.prog Tryz.f3 Rows.adaMomentsRow.domain false) (Rows.adaMomentsSpec.post enc Tryz.prog Tryz.f3 false true false false):=by
  refine returnsInHanded_of_change_sized (C:=Tryz.checked) own started (by kernel_rfl) Tryz.func3
    (ChangeSpec.witness6 (enc:=enc) (C:=Tryz.checked) false ⟨#[],#[.agg #[.int .i64 0,.int .i64 0,.int .i64 0,.int .i64 0,.int .i64 0,.int .i64 0,.slice none 0 0,.slice none 0 0,.slice none 0 0,.slice none 0 0]],[]⟩ 8 (by kernel_rfl) (by kernel_rfl) (by kernel_rfl) (by kernel_rfl)) ?_
  intro W base args ds gs before hval hW _ hsz _
  have hW':=hW
  obtain⟨p,q,hA0,hV,rfl,-,-⟩:=hW
  have hA:DataW.TrodAll enc Tryz.prog W 0 (fun _=>true) true Tryz.f3.params.toList args.toList ds p:=hA0
  have hA':=hA
  obtain⟨rfl,rfl⟩:=trodVars_none hV
  rw[List.append_nil]at hW'
  rw[Tryz.params3]at hA hval hsz
  obtain⟨v0,vs0,d0,ds0,p0,q0,hargs,rfl,-,h0,r0⟩:=trodAll_cons hA
  obtain⟨rfl,rfl,-⟩:=trodAll_nil r0
  obtain rfl:args=#[v0]:=by cases args;simp_all
  obtain⟨s0_0,s0_1,s0_2,s0_3,s0_4,s0_5,_,_,_,_,_,_,_,_,_,_,_,_,_,_,_,_,rfl,hq0,hi0,hw0⟩:=Tryz.openIn19 (hval 0 29 v0 rfl rfl) h0
  have hM0:∀ x ∈ d0.weights Tryz.prog 29,x≤reachBytes:=fun x hx=>by have:=List.all_eq_true.1 hsz x (DataW.weights_mem_each (j:=0) rfl rfl x hx);simpa using this
  refine(Tryz.lawAdaMoments s0_0 s0_1 s0_2 s0_3 s0_4 s0_5 W (few_rows (hw0 _ hM0)) hq0.1 hq0.2.1 hq0.2.2.1 hq0.2.2.2.2.2 hi0.1 hi0.2.1 hi0.2.2.1 hi0.2.2.2).mono fun e W' ⟨he,hb⟩=>?_
  subst he
  exact⟨_,rfl,law_post laidOut rfl rfl Tryz.underlying4 (by kernel_rfl) rfl hW' hA' hb⟩
theorem over:Rows.adaMomentsRow.holds Tryz.pinned (OpenSpec.ofChange Rows.adaMomentsSpec):=
  OpenClaim.holds_of_wide 3 Tryz.f3 rfl rfl rfl rfl rfl rfl rfl ⟨rfl,rfl,rfl,rfl,rfl⟩ rfl rfl rfl rfl rfl (by kernel_rfl) Tryz.func3 (by kernel_rfl)
    (of_decide_eq_true (by kernel_rfl)) (by unfold Func.isWrapper;first | (rw[if_pos (by decide +kernel)];kernel_rfl) | (rw[if_neg (by decide +kernel)];exact⟨rfl,rfl⟩))
    (fun os started H enc _=>lifted os started H enc)
theorem proved:Rows.AdaMomentsSaid:=over
end Go.Proofs.YtiebflipijcnfaaGreat.adaMoments
