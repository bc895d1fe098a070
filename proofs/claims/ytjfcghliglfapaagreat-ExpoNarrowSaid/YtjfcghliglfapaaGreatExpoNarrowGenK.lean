/- Printed by geng.py: kinds, and facts on types. -/
import Derived.Test.YtjfcghliglfapaaGreatExpoNarrowGenD
import Derived.Test.YtjfcghliglfapaaGreatExpoNarrowAbsW
import Derived.Test.YtjfcghliglfapaaGreatProg
import Derived.KernelRfl
set_option linter.unusedVariables false
set_option linter.unusedSimpArgs false
namespace Go.Proofs.YtjfcghliglfapaaGreat.Gen
open Go Go.Abs Go.Proofs Go.Proofs.Tryz
def kN:Kd ApiInt:=⟨fun x=>[(.bool x.Neg),(slK (kInt .u32) x.Mag)],2,zAN,fun _=>rfl,fun _=>rfl,fun x=>(Abs.Data.cons (.bool _) (Abs.Data.cons (fun _=>ren_sl _) Abs.Data.nil))⟩
def kD:Kd AD:=⟨fun x=>[(.bool x.M.Neg),(slK (kInt .u32) x.M.Mag),(.int .i64 x.E)],3,zAD,fun _=>rfl,fun _=>rfl,fun x=>(Abs.Data.cons (.bool _) (Abs.Data.cons (fun _=>ren_sl _) (Abs.Data.cons (.int _ _) Abs.Data.nil)))⟩
def kI:Kd AI:=⟨fun x=>[(.bool x.Lo.M.Neg),(slK (kInt .u32) x.Lo.M.Mag),(.int .i64 x.Lo.E),(.bool x.Hi.M.Neg),(slK (kInt .u32) x.Hi.M.Mag),(.int .i64 x.Hi.E)],6,zAI,fun _=>rfl,fun _=>rfl,fun x=>(Abs.Data.cons (.bool _) (Abs.Data.cons (fun _=>ren_sl _) (Abs.Data.cons (.int _ _) (Abs.Data.cons (.bool _) (Abs.Data.cons (fun _=>ren_sl _) (Abs.Data.cons (.int _ _) Abs.Data.nil))))))⟩
def kZintSize:Kd ZintSize:=⟨fun x=>[(slK (kInt .u32) x.mag)],1,zZintSize,fun _=>rfl,fun _=>rfl,fun x=>(Abs.Data.cons (fun _=>ren_sl _) Abs.Data.nil)⟩
def kZintSigned:Kd ZintSigned:=⟨fun x=>[(slK (kInt .u32) x.size.mag),(.bool x.neg)],2,zZintSigned,fun _=>rfl,fun _=>rfl,fun x=>(Abs.Data.cons (fun _=>ren_sl _) (Abs.Data.cons (.bool _) Abs.Data.nil))⟩
def tbl:List (Nat × TE):=[(3,⟨none,[],[],[],some (.int .i64)⟩),(4,⟨none,[],[],[],some .bool⟩),(5,⟨none,[],[],[],some (.int .u8)⟩),(9,⟨none,[],[],[],some .string⟩),(22,⟨none,[],[],[],some (.slice 79)⟩),(24,⟨some 2,[(.bool false),(slK (kInt .u32) [])],[(0,1),(1,1)],[0,1],none⟩),(26,⟨some 3,[(.bool false),(slK (kInt .u32) []),(.int .i64 0)],[(0,2),(2,1)],[0,2],none⟩),(30,⟨some 6,[(.bool false),(slK (kInt .u32) []),(.int .i64 0),(.bool false),(slK (kInt .u32) []),(.int .i64 0)],[(0,3),(3,3)],[0,3],none⟩),(31,⟨none,[],[],[],some (.int .i64)⟩),(39,⟨none,[],[],[],some (.pointer 52)⟩),(50,⟨some 1,[],[],[0],none⟩),(52,⟨some 2,[(.int .i64 0),(.int .i64 0)],[(0,1),(1,1)],[0,1],none⟩),(72,⟨none,[],[],[],none⟩),(79,⟨none,[(.int .u32 0)],[],[],some (.int .u32)⟩),(90,⟨some 1,[],[],[0],none⟩),(92,⟨some 4,[(.int .i64 0),(.bool false),(slK (kInt .u32) []),(.int .i64 0)],[(0,1),(1,3)],[0,1],none⟩),(101,⟨none,[],[],[],some (.slice 26)⟩),(122,⟨none,[],[],[],some (.slice 30)⟩),(125,⟨some 3,[.nilfn,(.int .i64 0),(.int .i64 0)],[(0,1),(1,1),(2,1)],[0,1,2],none⟩),(126,⟨none,[],[],[],none⟩),(131,⟨none,[],[],[],none⟩),(151,⟨none,[],[],[],some (.int .u64)⟩),(155,⟨some 1,[(slK (kInt .u32) [])],[(0,1)],[0],none⟩),(157,⟨some 2,[(slK (kInt .u32) []),(.bool false)],[(0,1),(1,1)],[0,1],none⟩),(169,⟨none,[],[],[],some (.slice 125)⟩)]
instance:TB Tryz.prog tbl:=⟨tbCons (by kernel_rfl) (.inl rfl) (.inr underlying3)<|tbCons (by kernel_rfl) (.inl rfl) (.inr underlying4)<|tbCons (by kernel_rfl) (.inl rfl) (.inr underlying5)<|tbCons (by kernel_rfl) (.inl rfl) (.inr underlying9)<|tbCons (by kernel_rfl) (.inl rfl) (.inr underlying22)<|tbCons (by kernel_rfl) (.inr ⟨_,underlying24,fun w=>by kernel_rfl⟩) (.inl rfl)<|tbCons (by kernel_rfl) (.inr ⟨_,underlying26,fun w=>by kernel_rfl⟩) (.inl rfl)<|tbCons (by kernel_rfl) (.inr ⟨_,underlying30,fun w=>by kernel_rfl⟩) (.inl rfl)<|tbCons (by kernel_rfl) (.inl rfl) (.inr underlying31)<|tbCons (by kernel_rfl) (.inl rfl) (.inr underlying39)<|tbCons (by kernel_rfl) (.inl rfl) (.inl rfl)<|tbCons (by kernel_rfl) (.inr ⟨_,underlying52,fun w=>by kernel_rfl⟩) (.inl rfl)<|tbCons (by kernel_rfl) (.inl rfl) (.inl rfl)<|tbCons (by kernel_rfl) (.inl rfl) (.inr underlying79)<|tbCons (by kernel_rfl) (.inl rfl) (.inl rfl)<|tbCons (by kernel_rfl) (.inr ⟨_,underlying92,fun w=>by kernel_rfl⟩) (.inl rfl)<|tbCons (by kernel_rfl) (.inl rfl) (.inr underlying101)<|tbCons (by kernel_rfl) (.inl rfl) (.inr underlying122)<|tbCons (by kernel_rfl) (.inr ⟨_,underlying125,fun w=>by kernel_rfl⟩) (.inl rfl)<|tbCons (by kernel_rfl) (.inl rfl) (.inl rfl)<|tbCons (by kernel_rfl) (.inl rfl) (.inl rfl)<|tbCons (by kernel_rfl) (.inl rfl) (.inr underlying151)<|tbCons (by kernel_rfl) (.inr ⟨_,underlying155,fun w=>by kernel_rfl⟩) (.inl rfl)<|tbCons (by kernel_rfl) (.inr ⟨_,underlying157,fun w=>by kernel_rfl⟩) (.inl rfl)<|tbCons (by kernel_rfl) (.inl rfl) (.inr underlying169)<|tbNil,by kernel_rfl⟩
theorem ze26:Zero Tryz.prog 26 [(.bool false),(slK (kInt .u32) []),(.int .i64 0)]:=zero_of (by kernel_rfl)
theorem ze30:Zero Tryz.prog 30 [(.bool false),(slK (kInt .u32) []),(.int .i64 0),(.bool false),(slK (kInt .u32) []),(.int .i64 0)]:=zero_of (by kernel_rfl)
theorem si26:(Tryz.prog.info? 26).map (·.size)=some 3:=by kernel_rfl
theorem ag24:Agg Tryz.prog 24 2:=⟨_,underlying24,rfl,by kernel_rfl⟩
theorem si79:(Tryz.prog.info? 79).map (·.size)=some 1:=by kernel_rfl
theorem sc79:Sca Tryz.prog 79:=⟨_,underlying79,rfl,by kernel_rfl⟩
theorem ag30:Agg Tryz.prog 30 6:=⟨_,underlying30,rfl,by kernel_rfl⟩
theorem si30:(Tryz.prog.info? 30).map (·.size)=some 6:=by kernel_rfl
theorem ze79:Zero Tryz.prog 79 [(.int .u32 0)]:=zero_of (by kernel_rfl)
theorem sb79:(Tryz.prog.info? 79).map (fun i=>(i.size,i.bytes))=some (1,4):=by kernel_rfl
theorem sb26:(Tryz.prog.info? 26).map (fun i=>(i.size,i.bytes))=some (3,40):=by kernel_rfl
theorem ze125:Zero Tryz.prog 125 [.nilfn,(.int .i64 0),(.int .i64 0)]:=zero_of (by kernel_rfl)
theorem si125:(Tryz.prog.info? 125).map (·.size)=some 3:=by kernel_rfl
theorem sb30:(Tryz.prog.info? 30).map (fun i=>(i.size,i.bytes))=some (6,80):=by kernel_rfl
end Go.Proofs.YtjfcghliglfapaaGreat.Gen
