/- Printed by geng.py: kinds, and facts on types. -/
import Derived.Test.YtjffljhmjdljeaaGreatErffRisesGenD
import Derived.Test.YtjffljhmjdljeaaGreatErffRisesAbsX
import Derived.Test.YtjffljhmjdljeaaGreatProg
import Derived.KernelRfl
set_option linter.unusedVariables false
set_option linter.unusedSimpArgs false
namespace Go.Proofs.YtjffljhmjdljeaaGreat.Gen
open Go Go.Abs Go.Proofs Go.Proofs.Tryz
def kN:Kd ApiInt:=⟨fun x=>[(.bool x.Neg),(slK (kInt .u32) x.Mag)],2,zAN,fun _=>rfl,fun _=>rfl,fun x=>(Abs.Data.cons (.bool _) (Abs.Data.cons (fun _=>ren_sl _) Abs.Data.nil))⟩
def kD:Kd AD:=⟨fun x=>[(.bool x.M.Neg),(slK (kInt .u32) x.M.Mag),(.int .i64 x.E)],3,zAD,fun _=>rfl,fun _=>rfl,fun x=>(Abs.Data.cons (.bool _) (Abs.Data.cons (fun _=>ren_sl _) (Abs.Data.cons (.int _ _) Abs.Data.nil)))⟩
def kZintSize:Kd ZintSize:=⟨fun x=>[(slK (kInt .u32) x.mag)],1,zZintSize,fun _=>rfl,fun _=>rfl,fun x=>(Abs.Data.cons (fun _=>ren_sl _) Abs.Data.nil)⟩
def kZintSigned:Kd ZintSigned:=⟨fun x=>[(slK (kInt .u32) x.size.mag),(.bool x.neg)],2,zZintSigned,fun _=>rfl,fun _=>rfl,fun x=>(Abs.Data.cons (fun _=>ren_sl _) (Abs.Data.cons (.bool _) Abs.Data.nil))⟩
def kI:Kd AI:=⟨fun x=>[(.bool x.Lo.M.Neg),(slK (kInt .u32) x.Lo.M.Mag),(.int .i64 x.Lo.E),(.bool x.Hi.M.Neg),(slK (kInt .u32) x.Hi.M.Mag),(.int .i64 x.Hi.E)],6,zAI,fun _=>rfl,fun _=>rfl,fun x=>(Abs.Data.cons (.bool _) (Abs.Data.cons (fun _=>ren_sl _) (Abs.Data.cons (.int _ _) (Abs.Data.cons (.bool _) (Abs.Data.cons (fun _=>ren_sl _) (Abs.Data.cons (.int _ _) Abs.Data.nil))))))⟩
def tbl:List (Nat × TE):=[(3,⟨none,[],[],[],some (.int .i64)⟩),(4,⟨none,[(.bool false)],[],[],some .bool⟩),(5,⟨none,[],[],[],some (.int .u8)⟩),(9,⟨none,[],[],[],some .string⟩),(22,⟨none,[],[],[],some (.slice 134)⟩),(24,⟨some 2,[(.bool false),(slK (kInt .u32) [])],[(0,1),(1,1)],[0,1],none⟩),(26,⟨some 3,[(.bool false),(slK (kInt .u32) []),(.int .i64 0)],[(0,2),(2,1)],[0,2],none⟩),(29,⟨none,[.nilptr],[],[],some (.pointer 54)⟩),(30,⟨none,[],[],[],some (.int .i64)⟩),(37,⟨some 6,[(.bool false),(slK (kInt .u32) []),(.int .i64 0),(.bool false),(slK (kInt .u32) []),(.int .i64 0)],[(0,3),(3,3)],[0,3],none⟩),(44,⟨none,[],[],[],none⟩),(52,⟨some 1,[],[],[0],none⟩),(54,⟨some 2,[(.int .i64 0),(.int .i64 0)],[(0,1),(1,1)],[0,1],none⟩),(80,⟨none,[],[],[],none⟩),(90,⟨none,[],[],[],some (.slice 26)⟩),(93,⟨none,[],[],[],some (.slice 37)⟩),(99,⟨some 3,[.nilfn,(.int .i64 0),(.int .i64 0)],[(0,1),(1,1),(2,1)],[0,1,2],none⟩),(118,⟨some 1,[],[],[0],none⟩),(120,⟨some 4,[(.int .i64 0),(.bool false),(slK (kInt .u32) []),(.int .i64 0)],[(0,1),(1,3)],[0,1],none⟩),(134,⟨none,[(.int .u32 0)],[],[],some (.int .u32)⟩),(149,⟨none,[],[],[],some (.slice 99)⟩),(151,⟨some 1,[(slK (kInt .u32) [])],[(0,1)],[0],none⟩),(153,⟨some 2,[(slK (kInt .u32) []),(.bool false)],[(0,1),(1,1)],[0,1],none⟩),(161,⟨none,[],[],[],some (.int .u64)⟩),(191,⟨none,[],[],[],none⟩)]
instance:TB Tryz.prog tbl:=⟨tbCons (by kernel_rfl) (.inl rfl) (.inr underlying3)<|tbCons (by kernel_rfl) (.inl rfl) (.inr underlying4)<|tbCons (by kernel_rfl) (.inl rfl) (.inr underlying5)<|tbCons (by kernel_rfl) (.inl rfl) (.inr underlying9)<|tbCons (by kernel_rfl) (.inl rfl) (.inr underlying22)<|tbCons (by kernel_rfl) (.inr ⟨_,underlying24,fun w=>by kernel_rfl⟩) (.inl rfl)<|tbCons (by kernel_rfl) (.inr ⟨_,underlying26,fun w=>by kernel_rfl⟩) (.inl rfl)<|tbCons (by kernel_rfl) (.inl rfl) (.inr underlying29)<|tbCons (by kernel_rfl) (.inl rfl) (.inr underlying30)<|tbCons (by kernel_rfl) (.inr ⟨_,underlying37,fun w=>by kernel_rfl⟩) (.inl rfl)<|tbCons (by kernel_rfl) (.inl rfl) (.inl rfl)<|tbCons (by kernel_rfl) (.inl rfl) (.inl rfl)<|tbCons (by kernel_rfl) (.inr ⟨_,underlying54,fun w=>by kernel_rfl⟩) (.inl rfl)<|tbCons (by kernel_rfl) (.inl rfl) (.inl rfl)<|tbCons (by kernel_rfl) (.inl rfl) (.inr underlying90)<|tbCons (by kernel_rfl) (.inl rfl) (.inr underlying93)<|tbCons (by kernel_rfl) (.inr ⟨_,underlying99,fun w=>by kernel_rfl⟩) (.inl rfl)<|tbCons (by kernel_rfl) (.inl rfl) (.inl rfl)<|tbCons (by kernel_rfl) (.inr ⟨_,underlying120,fun w=>by kernel_rfl⟩) (.inl rfl)<|tbCons (by kernel_rfl) (.inl rfl) (.inr underlying134)<|tbCons (by kernel_rfl) (.inl rfl) (.inr underlying149)<|tbCons (by kernel_rfl) (.inr ⟨_,underlying151,fun w=>by kernel_rfl⟩) (.inl rfl)<|tbCons (by kernel_rfl) (.inr ⟨_,underlying153,fun w=>by kernel_rfl⟩) (.inl rfl)<|tbCons (by kernel_rfl) (.inl rfl) (.inr underlying161)<|tbCons (by kernel_rfl) (.inl rfl) (.inl rfl)<|tbNil,by kernel_rfl⟩
theorem ze26:Zero Tryz.prog 26 [(.bool false),(slK (kInt .u32) []),(.int .i64 0)]:=zero_of (by kernel_rfl)
theorem ze37:Zero Tryz.prog 37 [(.bool false),(slK (kInt .u32) []),(.int .i64 0),(.bool false),(slK (kInt .u32) []),(.int .i64 0)]:=zero_of (by kernel_rfl)
theorem ag24:Agg Tryz.prog 24 2:=⟨_,underlying24,rfl,by kernel_rfl⟩
theorem si134:(Tryz.prog.info? 134).map (·.size)=some 1:=by kernel_rfl
theorem sc134:Sca Tryz.prog 134:=⟨_,underlying134,rfl,by kernel_rfl⟩
theorem ze134:Zero Tryz.prog 134 [(.int .u32 0)]:=zero_of (by kernel_rfl)
theorem sb134:(Tryz.prog.info? 134).map (fun i=>(i.size,i.bytes))=some (1,4):=by kernel_rfl
theorem ag37:Agg Tryz.prog 37 6:=⟨_,underlying37,rfl,by kernel_rfl⟩
theorem si26:(Tryz.prog.info? 26).map (·.size)=some 3:=by kernel_rfl
theorem si37:(Tryz.prog.info? 37).map (·.size)=some 6:=by kernel_rfl
theorem sb26:(Tryz.prog.info? 26).map (fun i=>(i.size,i.bytes))=some (3,40):=by kernel_rfl
theorem ze99:Zero Tryz.prog 99 [.nilfn,(.int .i64 0),(.int .i64 0)]:=zero_of (by kernel_rfl)
theorem si99:(Tryz.prog.info? 99).map (·.size)=some 3:=by kernel_rfl
theorem sb37:(Tryz.prog.info? 37).map (fun i=>(i.size,i.bytes))=some (6,80):=by kernel_rfl
end Go.Proofs.YtjffljhmjdljeaaGreat.Gen
