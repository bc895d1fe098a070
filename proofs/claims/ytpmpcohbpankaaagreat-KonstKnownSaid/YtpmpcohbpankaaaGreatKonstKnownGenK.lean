/- Printed by geng.py: kinds, and facts on types. -/
import Derived.Test.YtpmpcohbpankaaaGreatKonstKnownGenD
import Derived.Test.YtpmpcohbpankaaaGreatKonstKnownAbsW
import Derived.Test.YtpmpcohbpankaaaGreatProg
import Derived.KernelRfl
namespace Go.Proofs.YtpmpcohbpankaaaGreat.Gen
open Go Go.Abs Go.Proofs Go.Proofs.Tryz
def kN:Kd ApiInt:=⟨fun x=>[(.bool x.Neg),(slK (kInt .u32) x.Mag)],2,zAN,fun _=>rfl,fun _=>rfl,fun x=>(Abs.Data.cons (.bool _) (Abs.Data.cons (fun _=>ren_sl _) Abs.Data.nil))⟩
def kZintSize:Kd ZintSize:=⟨fun x=>[(slK (kInt .u32) x.mag)],1,zZintSize,fun _=>rfl,fun _=>rfl,fun x=>(Abs.Data.cons (fun _=>ren_sl _) Abs.Data.nil)⟩
def kZintSigned:Kd ZintSigned:=⟨fun x=>[(slK (kInt .u32) x.size.mag),(.bool x.neg)],2,zZintSigned,fun _=>rfl,fun _=>rfl,fun x=>(Abs.Data.cons (fun _=>ren_sl _) (Abs.Data.cons (.bool _) Abs.Data.nil))⟩
def kD:Kd AD:=⟨fun x=>[(.bool x.M.Neg),(slK (kInt .u32) x.M.Mag),(.int .i64 x.E)],3,zAD,fun _=>rfl,fun _=>rfl,fun x=>(Abs.Data.cons (.bool _) (Abs.Data.cons (fun _=>ren_sl _) (Abs.Data.cons (.int _ _) Abs.Data.nil)))⟩
def kI:Kd AI:=⟨fun x=>[(.bool x.Lo.M.Neg),(slK (kInt .u32) x.Lo.M.Mag),(.int .i64 x.Lo.E),(.bool x.Hi.M.Neg),(slK (kInt .u32) x.Hi.M.Mag),(.int .i64 x.Hi.E)],6,zAI,fun _=>rfl,fun _=>rfl,fun x=>(Abs.Data.cons (.bool _) (Abs.Data.cons (fun _=>ren_sl _) (Abs.Data.cons (.int _ _) (Abs.Data.cons (.bool _) (Abs.Data.cons (fun _=>ren_sl _) (Abs.Data.cons (.int _ _) Abs.Data.nil))))))⟩
def tbl:List (Nat × TE):=[(3,⟨none,[(.int .i64 0)],[],[],some (.int .i64)⟩),(4,⟨none,[],[],[],some .bool⟩),(5,⟨none,[],[],[],some (.int .u8)⟩),(9,⟨none,[],[],[],some .string⟩),(22,⟨none,[],[],[],some (.slice 77)⟩),(24,⟨some 2,[(.bool false),(slK (kInt .u32) [])],[(0,1),(1,1)],[0,1],none⟩),(26,⟨some 3,[(.bool false),(slK (kInt .u32) []),(.int .i64 0)],[(0,2),(2,1)],[0,2],none⟩),(28,⟨none,[],[],[],some (.pointer 45)⟩),(29,⟨none,[],[],[],some (.int .i64)⟩),(34,⟨some 6,[(.bool false),(slK (kInt .u32) []),(.int .i64 0),(.bool false),(slK (kInt .u32) []),(.int .i64 0)],[(0,3),(3,3)],[0,3],none⟩),(43,⟨some 1,[],[],[0],none⟩),(45,⟨some 2,[(.int .i64 0),(.int .i64 0)],[(0,1),(1,1)],[0,1],none⟩),(47,⟨none,[],[],[],none⟩),(58,⟨none,[],[],[],none⟩),(68,⟨none,[],[],[],some (.slice 3)⟩),(77,⟨none,[(.int .u32 0)],[],[],some (.int .u32)⟩),(83,⟨some 1,[],[],[0],none⟩),(85,⟨some 4,[(.int .i64 0),(.bool false),(slK (kInt .u32) []),(.int .i64 0)],[(0,1),(1,3)],[0,1],none⟩),(96,⟨none,[],[],[],some (.slice 26)⟩),(104,⟨none,[],[],[],some (.slice 34)⟩),(117,⟨none,[],[],[],some (.int .u64)⟩),(120,⟨some 1,[(slK (kInt .u32) [])],[(0,1)],[0],none⟩),(122,⟨some 2,[(slK (kInt .u32) []),(.bool false)],[(0,1),(1,1)],[0,1],none⟩),(126,⟨some 3,[.nilfn,(.int .i64 0),(.int .i64 0)],[(0,1),(1,1),(2,1)],[0,1,2],none⟩),(154,⟨none,[],[],[],some (.slice 126)⟩)]
instance:TB Tryz.prog tbl:=⟨tbCons (by kernel_rfl) (.inl rfl) (.inr underlying3)<|tbCons (by kernel_rfl) (.inl rfl) (.inr underlying4)<|tbCons (by kernel_rfl) (.inl rfl) (.inr underlying5)<|tbCons (by kernel_rfl) (.inl rfl) (.inr underlying9)<|tbCons (by kernel_rfl) (.inl rfl) (.inr underlying22)<|tbCons (by kernel_rfl) (.inr ⟨_,underlying24,fun w=>by kernel_rfl⟩) (.inl rfl)<|tbCons (by kernel_rfl) (.inr ⟨_,underlying26,fun w=>by kernel_rfl⟩) (.inl rfl)<|tbCons (by kernel_rfl) (.inl rfl) (.inr underlying28)<|tbCons (by kernel_rfl) (.inl rfl) (.inr underlying29)<|tbCons (by kernel_rfl) (.inr ⟨_,underlying34,fun w=>by kernel_rfl⟩) (.inl rfl)<|tbCons (by kernel_rfl) (.inl rfl) (.inl rfl)<|tbCons (by kernel_rfl) (.inr ⟨_,underlying45,fun w=>by kernel_rfl⟩) (.inl rfl)<|tbCons (by kernel_rfl) (.inl rfl) (.inl rfl)<|tbCons (by kernel_rfl) (.inl rfl) (.inl rfl)<|tbCons (by kernel_rfl) (.inl rfl) (.inr underlying68)<|tbCons (by kernel_rfl) (.inl rfl) (.inr underlying77)<|tbCons (by kernel_rfl) (.inl rfl) (.inl rfl)<|tbCons (by kernel_rfl) (.inr ⟨_,underlying85,fun w=>by kernel_rfl⟩) (.inl rfl)<|tbCons (by kernel_rfl) (.inl rfl) (.inr underlying96)<|tbCons (by kernel_rfl) (.inl rfl) (.inr underlying104)<|tbCons (by kernel_rfl) (.inl rfl) (.inr underlying117)<|tbCons (by kernel_rfl) (.inr ⟨_,underlying120,fun w=>by kernel_rfl⟩) (.inl rfl)<|tbCons (by kernel_rfl) (.inr ⟨_,underlying122,fun w=>by kernel_rfl⟩) (.inl rfl)<|tbCons (by kernel_rfl) (.inr ⟨_,underlying126,fun w=>by kernel_rfl⟩) (.inl rfl)<|tbCons (by kernel_rfl) (.inl rfl) (.inr underlying154)<|tbNil,by kernel_rfl⟩
theorem ze34:Zero Tryz.prog 34 [(.bool false),(slK (kInt .u32) []),(.int .i64 0),(.bool false),(slK (kInt .u32) []),(.int .i64 0)]:=zero_of (by kernel_rfl)
theorem ze126:Zero Tryz.prog 126 [.nilfn,(.int .i64 0),(.int .i64 0)]:=zero_of (by kernel_rfl)
theorem si126:(Tryz.prog.info? 126).map (·.size)=some 3:=by kernel_rfl
theorem ze26:Zero Tryz.prog 26 [(.bool false),(slK (kInt .u32) []),(.int .i64 0)]:=zero_of (by kernel_rfl)
theorem ze77:Zero Tryz.prog 77 [(.int .u32 0)]:=zero_of (by kernel_rfl)
theorem si77:(Tryz.prog.info? 77).map (·.size)=some 1:=by kernel_rfl
theorem sc77:Sca Tryz.prog 77:=⟨_,underlying77,rfl,by kernel_rfl⟩
theorem sb77:(Tryz.prog.info? 77).map (fun i=>(i.size,i.bytes))=some (1,4):=by kernel_rfl
theorem ag24:Agg Tryz.prog 24 2:=⟨_,underlying24,rfl,by kernel_rfl⟩
theorem ag34:Agg Tryz.prog 34 6:=⟨_,underlying34,rfl,by kernel_rfl⟩
theorem si34:(Tryz.prog.info? 34).map (·.size)=some 6:=by kernel_rfl
theorem si26:(Tryz.prog.info? 26).map (·.size)=some 3:=by kernel_rfl
theorem sb26:(Tryz.prog.info? 26).map (fun i=>(i.size,i.bytes))=some (3,40):=by kernel_rfl
theorem sb34:(Tryz.prog.info? 34).map (fun i=>(i.size,i.bytes))=some (6,80):=by kernel_rfl
end Go.Proofs.YtpmpcohbpankaaaGreat.Gen
