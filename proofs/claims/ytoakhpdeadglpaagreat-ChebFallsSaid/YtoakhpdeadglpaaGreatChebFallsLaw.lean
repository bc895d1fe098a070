/- The law ChebFalls: it returns true whatever its arguments, and nothing that was there has turned. -/
import Derived.Test.YtoakhpdeadglpaaGreatRows
import Derived.Test.YtoakhpdeadglpaaGreatChebFallsGenP5
import Derived.Test.YtoakhpdeadglpaaGreatChebFallsPl3
import Derived.Test.YtoakhpdeadglpaaGreatChebFallsAbsT
import Derived.WalkKit
import Derived.ProofKit
import Derived.OpenShut
import Derived.ShutString
import Derived.ChangeOld
import Derived.Below
import Derived.Carry
import Derived.SizedLaws
set_option linter.unusedVariables false
set_option linter.unusedSimpArgs false
namespace Go.Proofs.YtoakhpdeadglpaaGreat.chebFalls
open Go Go.Abs Go.ChangeShapes Go.WideShapes Go.ChangeAt Go.RowKit Go.Proofs.YtoakhpdeadglpaaGreat.Gen
theorem own:ownKnob Tryz.prog.godebug=none:=by kernel_rfl
theorem laidOut:laidOutB Tryz.prog=true:=by kernel_rfl
set_option maxRecDepth 100000 in
theorem lifted (os:Os) (started:os.Started) (H:Type) (enc:TypeId × Value→H) :
  ReturnsInHanded {} Tryz.checked os 11 .any (Rows.chebFallsSpec.pre6 enc Tryz.prog Tryz.f11 Rows.chebFallsRow.domain false) (Rows.chebFallsSpec.post enc Tryz.prog Tryz.f11 false true false false):=by
 refine returnsInHanded_of_change_sized (C:=Tryz.checked) own started (by kernel_rfl) Tryz.func11
  (ChangeSpec.witness6 (enc:=enc) (C:=Tryz.checked) false ⟨#[],#[.int .i64 0,.int .i64 0],[]⟩ 8 (by kernel_rfl) (by kernel_rfl) (by kernel_rfl) (by kernel_rfl)) ?_
 intro W base args ds gs before hval0 hW hcnd hsz0 _
 have hval:∀ (j:Nat) t v,Tryz.f11.params[j]? = some t→args[j]? = some v→Value.okWide Tryz.prog W .any base t v:=hval0
 have hW':=hW
 obtain ⟨p,q,hA0,hV,rfl,hfz,hnd⟩:=hW
 have hA:DataW.TrodAll enc Tryz.prog W 0 (fun _=>true) true Tryz.f11.params.toList args.toList ds p:=hA0
 rw [Tryz.params11] at hA hval
 obtain ⟨v0,vs0,d0,ds0,p0,q0,hargs,rfl,rfl,h0,r0⟩:=trodAll_cons hA
 obtain ⟨v1,vs1,d1,ds1,p1,q1,rfl,rfl,rfl,h1,r1⟩:=trodAll_cons r0
 obtain ⟨rfl,rfl,rfl⟩:=trodAll_nil r1
 obtain rfl:args = #[v0,v1]:=by cases args; simp_all
 obtain ⟨rfl,rfl⟩:=trodVars_none hV
 have lt0:∀ x ∈ p0,x.block<W.heap.size:=by obtain ⟨m,hm⟩:=h0; exact DataW.trod_lt m _ _ _ hm
 obtain ⟨a0,g0,w0⟩:=Opn.int Tryz.underlying3 (hval 0 3 v0 rfl rfl) h0
 have lt1:∀ x ∈ p1,x.block<W.heap.size:=by obtain ⟨m,hm⟩:=h1; exact DataW.trod_lt m _ _ _ hm
 obtain ⟨a1,g1,w1⟩:=Opn.int Tryz.underlying3 (hval 1 3 v1 rfl rfl) h1
 refine (((l15_ChebFalls_i a0 a1).p true (ChebFalls_true a0 g0 a1 g1)).c.row W [v0,v1] ⟨w0,w1,trivial⟩).mono fun e W' ⟨he,bel⟩=>?_
 subst he
 exact ⟨_,rfl,_,_,_,[],_,[],hW',trodAll_mk1 (shut_bool Tryz.underlying4 _),(trodAll_cons_mk (Below.trod laidOut (by kernel_rfl) (of_decide_eq_true (by kernel_rfl)) h0 bel lt0) (trodAll_cons_mk (Below.trod laidOut (by kernel_rfl) (of_decide_eq_true (by kernel_rfl)) h1 bel lt1) trodAll_mk0)),rfl,bel.frame _,fun h=>by cases h⟩
theorem facts2 {a b:Bool} (h:a=true) (k:b=true):(a && b)=true:=by rw [h,k]; rfl
set_option maxRecDepth 100000 in
set_option maxHeartbeats 0 in
theorem facts:joinedFacts Tryz.pinned.checked.prog 11 Tryz.f11 Rows.chebFallsSpec Rows.chebFallsRow=true:=by
 unfold joinedFacts
 repeat' (with_reducible refine facts2 ?_ ?_)
 all_goals as_aux_lemma=>kernel_rfl
theorem over:Rows.chebFallsRow.holds Tryz.pinned (OpenSpec.ofChange Rows.chebFallsSpec):=
 OpenClaim.holds_of_wide 11 Tryz.f11 rfl rfl rfl rfl rfl rfl rfl ⟨rfl,rfl,rfl,rfl,rfl⟩ rfl rfl rfl rfl rfl (by kernel_rfl) Tryz.func11 facts
  (of_decide_eq_true (by kernel_rfl)) (by unfold Func.isWrapper; first | (rw [if_pos (by decide +kernel)]; kernel_rfl) | (rw [if_neg (by decide +kernel)]; exact ⟨rfl,rfl⟩))
  (fun os started H enc _=>lifted os started H enc)
theorem proved:Rows.ChebFallsSaid:=over
end Go.Proofs.YtoakhpdeadglpaaGreat.chebFalls
namespace Go.Proofs.YtoakhpdeadglpaaGreat
theorem chebFalls_holds:Rows.ChebFallsSaid:=chebFalls.proved
end Go.Proofs.YtoakhpdeadglpaaGreat
