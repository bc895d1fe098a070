/- The law GammHalf: it returns true whatever its arguments, and nothing that was there has turned. -/
import Derived.Test.YtjfcghliglfapabGreatRows
import Derived.Test.YtjfcghliglfapabGreatGammHalfGenP5
import Derived.Test.YtjfcghliglfapabGreatGammHalfPl3
import Derived.Test.YtjfcghliglfapabGreatGammHalfAbsT
import Derived.WalkKit
import Derived.ProofKit
import Derived.OpenShut
import Derived.ShutString
import Derived.ChangeOld
import Derived.Below
import Derived.Carry
import Derived.SizedLaws
set_option linter.unusedVariables false
set_option linter.unusedSimpArgs false
namespace Go.Proofs.YtjfcghliglfapabGreat.gammHalf
open Go Go.Abs Go.ChangeShapes Go.WideShapes Go.ChangeAt Go.RowKit Go.Proofs.YtjfcghliglfapabGreat.Gen
theorem own:ownKnob Tryz.prog.godebug=none:=by kernel_rfl
theorem laidOut:laidOutB Tryz.prog=true:=by kernel_rfl
set_option maxRecDepth 100000 in
theorem lifted (os:Os) (started:os.Started) (H:Type) (enc:TypeId × Value→H) :
  ReturnsInHanded {} Tryz.checked os 14 .any (Rows.gammHalfSpec.pre6 enc Tryz.prog Tryz.f14 Rows.gammHalfRow.domain false) (Rows.gammHalfSpec.post enc Tryz.prog Tryz.f14 false true false false):=by
 refine returnsInHanded_of_change_sized (C:=Tryz.checked) own started (by kernel_rfl) Tryz.func14
  (ChangeSpec.witness6 (enc:=enc) (C:=Tryz.checked) false ⟨#[],#[.int .i64 0],[]⟩ 8 (by kernel_rfl) (by kernel_rfl) (by kernel_rfl) (by kernel_rfl)) ?_
 intro W base args ds gs before hval0 hW hcnd hsz0 _
 have hval:∀ (j:Nat) t v,Tryz.f14.params[j]? = some t→args[j]? = some v→Value.okWide Tryz.prog W .any base t v:=hval0
 have hW':=hW
 obtain ⟨p,q,hA0,hV,rfl,hfz,hnd⟩:=hW
 have hA:DataW.TrodAll enc Tryz.prog W 0 (fun _=>true) true Tryz.f14.params.toList args.toList ds p:=hA0
 rw [Tryz.params14] at hA hval
 obtain ⟨v0,vs0,d0,ds0,p0,q0,hargs,rfl,rfl,h0,r0⟩:=trodAll_cons hA
 obtain ⟨rfl,rfl,rfl⟩:=trodAll_nil r0
 obtain rfl:args = #[v0]:=by cases args; simp_all
 obtain ⟨rfl,rfl⟩:=trodVars_none hV
 have lt0:∀ x ∈ p0,x.block<W.heap.size:=by obtain ⟨m,hm⟩:=h0; exact DataW.trod_lt m _ _ _ hm
 obtain ⟨a0,g0,w0⟩:=Opn.int Tryz.underlying3 (hval 0 3 v0 rfl rfl) h0
 refine (((l12_GammHalf_i a0).p true (GammHalf_true a0 g0)).c.row W [v0] ⟨w0,trivial⟩).mono fun e W' ⟨he,bel⟩=>?_
 subst he
 exact ⟨_,rfl,_,_,_,[],_,[],hW',trodAll_mk1 (shut_bool Tryz.underlying4 _),(trodAll_cons_mk (Below.trod laidOut (by kernel_rfl) (of_decide_eq_true (by kernel_rfl)) h0 bel lt0) trodAll_mk0),rfl,bel.frame _,fun h=>by cases h⟩
theorem facts:joinedFacts Tryz.pinned.checked.prog 14 Tryz.f14 Rows.gammHalfSpec Rows.gammHalfRow=true:=by kernel_rfl
theorem over:Rows.gammHalfRow.holds Tryz.pinned (OpenSpec.ofChange Rows.gammHalfSpec):=
 OpenClaim.holds_of_wide 14 Tryz.f14 rfl rfl rfl rfl rfl rfl rfl ⟨rfl,rfl,rfl,rfl,rfl⟩ rfl rfl rfl rfl rfl (by kernel_rfl) Tryz.func14 facts
  (of_decide_eq_true (by kernel_rfl)) (by unfold Func.isWrapper; first | (rw [if_pos (by decide +kernel)]; kernel_rfl) | (rw [if_neg (by decide +kernel)]; exact ⟨rfl,rfl⟩))
  (fun os started H enc _=>lifted os started H enc)
theorem proved:Rows.GammHalfSaid:=over
end Go.Proofs.YtjfcghliglfapabGreat.gammHalf
namespace Go.Proofs.YtjfcghliglfapabGreat
theorem gammHalf_holds:Rows.GammHalfSaid:=gammHalf.proved
end Go.Proofs.YtjfcghliglfapabGreat
