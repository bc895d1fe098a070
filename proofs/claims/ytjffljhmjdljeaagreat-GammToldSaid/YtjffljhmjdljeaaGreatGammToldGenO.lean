/- Printed by genrow.py: what is read at a type. -/
import Derived.Test.YtjffljhmjdljeaaGreatGammToldGenK
import Derived.Test.YtjffljhmjdljeaaGreatGammToldAbsT
set_option linter.unusedVariables false
set_option linter.unusedSimpArgs false
namespace Go.Proofs.YtjffljhmjdljeaaGreat.Gen
open Go Go.Abs Go.Proofs
def gAN (x:za):Prop:=(True)∧(x.Mag.length≤maxLen∧∀ a ∈ x.Mag,(Lit.int .u32 a).wf=true)
theorem o24:Opn Tryz.prog 24 kN gAN:=OpnS.k (zrp Tryz.underlying24 (by kernel_rfl) (.cons rfl (Opn.s (zxp Tryz.underlying4)) (by kernel_rfl) (.cons rfl (Opn.s (zxq Tryz.underlying22 (zro Tryz.underlying134) (by kernel_rfl) (by decide))) (by kernel_rfl) (.nil _)))) (by
 rintro l ⟨p0,q0,⟨a0,h0,rfl⟩,⟨p1,q1,⟨a1,h1,rfl⟩,rfl,rfl⟩,rfl⟩
 exact ⟨⟨a0,a1⟩,⟨h0,h1⟩,rfl⟩)
def gAD (x:AD):Prop:=(gAN x.M)∧((Lit.int .i64 x.E).wf=true)
theorem o26:Opn Tryz.prog 26 kD gAD:=OpnS.k (zrp Tryz.underlying26 (by kernel_rfl) (.cons rfl (Opn.s o24) (by kernel_rfl) (.cons rfl (Opn.s (zro Tryz.underlying3)) (by kernel_rfl) (.nil _)))) (by
 rintro l ⟨p0,q0,⟨a0,h0,rfl⟩,⟨p1,q1,⟨a1,h1,rfl⟩,rfl,rfl⟩,rfl⟩
 exact ⟨⟨a0,a1⟩,⟨h0,h1⟩,rfl⟩)
end Go.Proofs.YtjffljhmjdljeaaGreat.Gen
