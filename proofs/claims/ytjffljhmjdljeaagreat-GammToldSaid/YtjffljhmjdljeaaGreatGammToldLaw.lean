/- The law GammTold: it returns true whatever its arguments, and nothing that was there has turned. -/
import Derived.Test.YtjffljhmjdljeaaGreatRows
import Derived.Test.YtjffljhmjdljeaaGreatGammToldGenP4
import Derived.Test.YtjffljhmjdljeaaGreatGammToldPl4
import Derived.Test.YtjffljhmjdljeaaGreatGammToldAbsT
import Derived.WalkKit
import Derived.ProofKit
import Derived.OpenShut
import Derived.ShutString
import Derived.ChangeOld
import Derived.Below
import Derived.Carry
import Derived.SizedLaws
set_option linter.unusedVariables false
set_option linter.unusedSimpArgs false
namespace Go.Proofs.YtjffljhmjdljeaaGreat.gammTold
open Go Go.Abs Go.ChangeShapes Go.WideShapes Go.ChangeAt Go.RowKit Go.Proofs.YtjffljhmjdljeaaGreat.Gen
theorem own:ownKnob Tryz.prog.godebug=none:=by kernel_rfl
theorem zlc:laidOutB Tryz.prog=true:=by kernel_rfl
set_option maxRecDepth 100000 in
theorem zxS (os:Os) (started:os.Started) (H:Type) (enc:TypeId × Value→H) :
  ReturnsInHanded {} Tryz.checked os 7 .any (Rows.gammToldSpec.pre6 enc Tryz.prog Tryz.f7 Rows.gammToldRow.domain false) (Rows.gammToldSpec.post enc Tryz.prog Tryz.f7 false true false false):=by
 refine returnsInHanded_of_change_sized (C:=Tryz.checked) own started (by kernel_rfl) Tryz.func7
  (ChangeSpec.witness6 (enc:=enc) (C:=Tryz.checked) false ⟨#[],#[.agg #[.bool false,.slice none 0 0,.int .i64 0],.int .i64 0,.int .i64 0,.bool false],[]⟩ 8 (by kernel_rfl) (by kernel_rfl) (by kernel_rfl) (by kernel_rfl)) ?_
 intro W base args ds gs before hval0 hW hcnd hsz0 _
 have hval:∀ (j:Nat) t v,Tryz.f7.params[j]? = some t→args[j]? = some v→Value.okWide Tryz.prog W .any base t v:=hval0
 have hW':=hW
 obtain ⟨p,q,hA0,hV,rfl,hfz,hnd⟩:=hW
 have hA:DataW.TrodAll enc Tryz.prog W 0 (fun _=>true) true Tryz.f7.params.toList args.toList ds p:=hA0
 rw [Tryz.params7] at hA hval
 obtain ⟨v0,vs0,d0,ds0,p0,q0,hargs,rfl,rfl,h0,r0⟩:=trodAll_cons hA
 obtain ⟨v1,vs1,d1,ds1,p1,q1,rfl,rfl,rfl,h1,r1⟩:=trodAll_cons r0
 obtain ⟨v2,vs2,d2,ds2,p2,q2,rfl,rfl,rfl,h2,r2⟩:=trodAll_cons r1
 obtain ⟨v3,vs3,d3,ds3,p3,q3,rfl,rfl,rfl,h3,r3⟩:=trodAll_cons r2
 obtain ⟨rfl,rfl,rfl⟩:=trodAll_nil r3
 obtain rfl:args = #[v0,v1,v2,v3]:=by cases args; simp_all
 obtain ⟨rfl,rfl⟩:=trodVars_none hV
 have lt0:∀ x ∈ p0,x.block<W.heap.size:=by obtain ⟨m,hm⟩:=h0; exact DataW.trod_lt m _ _ _ hm
 obtain ⟨a0,g0,w0⟩:=Opn.agg o26 Tryz.underlying26 (hval 0 26 v0 rfl rfl) h0
 have lt1:∀ x ∈ p1,x.block<W.heap.size:=by obtain ⟨m,hm⟩:=h1; exact DataW.trod_lt m _ _ _ hm
 obtain ⟨a1,g1,w1⟩:=Opn.int Tryz.underlying3 (hval 1 3 v1 rfl rfl) h1
 have lt2:∀ x ∈ p2,x.block<W.heap.size:=by obtain ⟨m,hm⟩:=h2; exact DataW.trod_lt m _ _ _ hm
 obtain ⟨a2,g2,w2⟩:=Opn.int Tryz.underlying3 (hval 2 3 v2 rfl rfl) h2
 have lt3:∀ x ∈ p3,x.block<W.heap.size:=by obtain ⟨m,hm⟩:=h3; exact DataW.trod_lt m _ _ _ hm
 obtain ⟨a3,g3,w3⟩:=Opn.bool Tryz.underlying4 (hval 3 4 v3 rfl rfl) h3
 refine (((zxR a0 a1 a2 a3).p true (zEo a0 g0 a1 g1 a2 g2 a3 g3)).c.row W [v0,v1,v2,v3] ⟨w0,w1,w2,w3,trivial⟩).mono fun e W' ⟨he,bel⟩=>?_
 subst he
 exact ⟨_,rfl,_,_,_,[],_,[],hW',trodAll_mk1 (shut_bool Tryz.underlying4 _),(trodAll_cons_mk (Below.trod zlc (by kernel_rfl) (of_decide_eq_true (by kernel_rfl)) h0 bel lt0) (trodAll_cons_mk (Below.trod zlc (by kernel_rfl) (of_decide_eq_true (by kernel_rfl)) h1 bel lt1) (trodAll_cons_mk (Below.trod zlc (by kernel_rfl) (of_decide_eq_true (by kernel_rfl)) h2 bel lt2) (trodAll_cons_mk (Below.trod zlc (by kernel_rfl) (of_decide_eq_true (by kernel_rfl)) h3 bel lt3) trodAll_mk0)))),rfl,bel.frame _,fun h=>by cases h⟩
theorem zrT:joinedFacts Tryz.pinned.checked.prog 7 Tryz.f7 Rows.gammToldSpec Rows.gammToldRow=true:=by kernel_rfl
theorem zxT:Rows.gammToldRow.holds Tryz.pinned (OpenSpec.ofChange Rows.gammToldSpec):=
 OpenClaim.holds_of_wide 7 Tryz.f7 rfl rfl rfl rfl rfl rfl rfl ⟨rfl,rfl,rfl,rfl,rfl⟩ rfl rfl rfl rfl rfl (by kernel_rfl) Tryz.func7 zrT
  (of_decide_eq_true (by kernel_rfl)) (by unfold Func.isWrapper; first | (rw [if_pos (by decide +kernel)]; kernel_rfl) | (rw [if_neg (by decide +kernel)]; exact ⟨rfl,rfl⟩))
  (fun os started H enc _=>zxS os started H enc)
theorem proved:Rows.GammToldSaid:=zxT
end Go.Proofs.YtjffljhmjdljeaaGreat.gammTold
namespace Go.Proofs.YtjffljhmjdljeaaGreat
theorem gammTold_holds:Rows.GammToldSaid:=gammTold.proved
end Go.Proofs.YtjffljhmjdljeaaGreat
