/- Printed by geng.py: kinds, and facts on types. -/
import Derived.Test.YtpcdcpjjekkemaaGreatBessSumGenD
import Derived.Test.YtpcdcpjjekkemaaGreatBessSumAbsW
import Derived.Test.YtpcdcpjjekkemaaGreatProg
import Derived.KernelRfl
set_option linter.unusedVariables false
set_option linter.unusedSimpArgs false
namespace Go.Proofs.YtpcdcpjjekkemaaGreat.Gen
open Go Go.Abs Go.Proofs Go.Proofs.Tryz
def kN:Kd ApiInt:=⟨fun x=>[(.bool x.Neg),(slK (kInt .u32) x.Mag)],2,zAN,fun _=>rfl,fun _=>rfl,fun x=>(Abs.Data.cons (.bool _) (Abs.Data.cons (fun _=>ren_sl _) Abs.Data.nil))⟩
def kApiDy:Kd AD:=⟨fun x=>[(.bool x.M.Neg),(slK (kInt .u32) x.M.Mag),(.int .i64 x.E)],3,zAD,fun _=>rfl,fun _=>rfl,fun x=>(Abs.Data.cons (.bool _) (Abs.Data.cons (fun _=>ren_sl _) (Abs.Data.cons (.int _ _) Abs.Data.nil)))⟩
def kZintSize:Kd ZintSize:=⟨fun x=>[(slK (kInt .u32) x.mag)],1,zZintSize,fun _=>rfl,fun _=>rfl,fun x=>(Abs.Data.cons (fun _=>ren_sl _) Abs.Data.nil)⟩
def kZintSigned:Kd ZintSigned:=⟨fun x=>[(slK (kInt .u32) x.size.mag),(.bool x.neg)],2,zZintSigned,fun _=>rfl,fun _=>rfl,fun x=>(Abs.Data.cons (fun _=>ren_sl _) (Abs.Data.cons (.bool _) Abs.Data.nil))⟩
def kI:Kd AI:=⟨fun x=>[(.bool x.Lo.M.Neg),(slK (kInt .u32) x.Lo.M.Mag),(.int .i64 x.Lo.E),(.bool x.Hi.M.Neg),(slK (kInt .u32) x.Hi.M.Mag),(.int .i64 x.Hi.E)],6,zAI,fun _=>rfl,fun _=>rfl,fun x=>(Abs.Data.cons (.bool _) (Abs.Data.cons (fun _=>ren_sl _) (Abs.Data.cons (.int _ _) (Abs.Data.cons (.bool _) (Abs.Data.cons (fun _=>ren_sl _) (Abs.Data.cons (.int _ _) Abs.Data.nil))))))⟩
def tbl:List (Nat × TE):=[(3,⟨none,[],[],[],some (.int .i64)⟩),(4,⟨none,[],[],[],some .bool⟩),(5,⟨none,[],[],[],some (.int .u8)⟩),(9,⟨none,[],[],[],some .string⟩),(22,⟨none,[],[],[],some (.slice 58)⟩),(24,⟨some 2,[(.bool false),(slK (kInt .u32) [])],[(0,1),(1,1)],[0,1],none⟩),(26,⟨some 3,[(.bool false),(slK (kInt .u32) []),(.int .i64 0)],[(0,2),(2,1)],[0,2],none⟩),(29,⟨none,[.nilptr],[],[],some (.pointer 45)⟩),(30,⟨none,[],[],[],some (.int .i64)⟩),(35,⟨some 6,[(.bool false),(slK (kInt .u32) []),(.int .i64 0),(.bool false),(slK (kInt .u32) []),(.int .i64 0)],[(0,3),(3,3)],[0,3],none⟩),(43,⟨some 1,[],[],[0],none⟩),(45,⟨some 2,[(.int .i64 0),(.int .i64 0)],[(0,1),(1,1)],[0,1],none⟩),(58,⟨none,[(.int .u32 0)],[],[],some (.int .u32)⟩),(68,⟨none,[],[],[],some (.slice 26)⟩),(76,⟨some 1,[],[],[0],none⟩),(78,⟨some 4,[(.int .i64 0),(.bool false),(slK (kInt .u32) []),(.int .i64 0)],[(0,1),(1,3)],[0,1],none⟩),(100,⟨none,[],[],[],some (.slice 35)⟩),(105,⟨none,[],[],[],some (.int .u64)⟩),(112,⟨some 1,[(slK (kInt .u32) [])],[(0,1)],[0],none⟩),(114,⟨some 2,[(slK (kInt .u32) []),(.bool false)],[(0,1),(1,1)],[0,1],none⟩)]
instance:TB Tryz.prog tbl:=⟨tbCons (by kernel_rfl) (.inl rfl) (.inr underlying3)<|tbCons (by kernel_rfl) (.inl rfl) (.inr underlying4)<|tbCons (by kernel_rfl) (.inl rfl) (.inr underlying5)<|tbCons (by kernel_rfl) (.inl rfl) (.inr underlying9)<|tbCons (by kernel_rfl) (.inl rfl) (.inr underlying22)<|tbCons (by kernel_rfl) (.inr ⟨_,underlying24,fun w=>by kernel_rfl⟩) (.inl rfl)<|tbCons (by kernel_rfl) (.inr ⟨_,underlying26,fun w=>by kernel_rfl⟩) (.inl rfl)<|tbCons (by kernel_rfl) (.inl rfl) (.inr underlying29)<|tbCons (by kernel_rfl) (.inl rfl) (.inr underlying30)<|tbCons (by kernel_rfl) (.inr ⟨_,underlying35,fun w=>by kernel_rfl⟩) (.inl rfl)<|tbCons (by kernel_rfl) (.inl rfl) (.inl rfl)<|tbCons (by kernel_rfl) (.inr ⟨_,underlying45,fun w=>by kernel_rfl⟩) (.inl rfl)<|tbCons (by kernel_rfl) (.inl rfl) (.inr underlying58)<|tbCons (by kernel_rfl) (.inl rfl) (.inr underlying68)<|tbCons (by kernel_rfl) (.inl rfl) (.inl rfl)<|tbCons (by kernel_rfl) (.inr ⟨_,underlying78,fun w=>by kernel_rfl⟩) (.inl rfl)<|tbCons (by kernel_rfl) (.inl rfl) (.inr underlying100)<|tbCons (by kernel_rfl) (.inl rfl) (.inr underlying105)<|tbCons (by kernel_rfl) (.inr ⟨_,underlying112,fun w=>by kernel_rfl⟩) (.inl rfl)<|tbCons (by kernel_rfl) (.inr ⟨_,underlying114,fun w=>by kernel_rfl⟩) (.inl rfl)<|tbNil,by kernel_rfl⟩
theorem ze26:Zero Tryz.prog 26 [(.bool false),(slK (kInt .u32) []),(.int .i64 0)]:=zero_of (by kernel_rfl)
theorem ag24:Agg Tryz.prog 24 2:=⟨_,underlying24,rfl,by kernel_rfl⟩
theorem si58:(Tryz.prog.info? 58).map (·.size)=some 1:=by kernel_rfl
theorem sc58:Sca Tryz.prog 58:=⟨_,underlying58,rfl,by kernel_rfl⟩
theorem ze58:Zero Tryz.prog 58 [(.int .u32 0)]:=zero_of (by kernel_rfl)
theorem sb58:(Tryz.prog.info? 58).map (fun i=>(i.size,i.bytes))=some (1,4):=by kernel_rfl
theorem si26:(Tryz.prog.info? 26).map (·.size)=some 3:=by kernel_rfl
theorem sb26:(Tryz.prog.info? 26).map (fun i=>(i.size,i.bytes))=some (3,40):=by kernel_rfl
end Go.Proofs.YtpcdcpjjekkemaaGreat.Gen
