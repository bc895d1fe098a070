/- Printed by geng.py: kinds, and zrT on types. -/
import Derived.Test.YtjffljhmjdljeaaGreatGammToldGenD
import Derived.Test.YtjffljhmjdljeaaGreatGammToldAbsY
import Derived.Test.YtjffljhmjdljeaaGreatGammToldAbsZ
import Derived.Test.YtjffljhmjdljeaaGreatGammToldAbsZA
import Derived.Test.YtjffljhmjdljeaaGreatProg
import Derived.KernelRfl
set_option linter.unusedVariables false
set_option linter.unusedSimpArgs false
namespace Go.Proofs.YtjffljhmjdljeaaGreat.Gen
open Go Go.Abs Go.Proofs Go.Proofs.Tryz
abbrev kU:Kd Int:=kInt .u32
def kN:Kd za:=⟨fun x=>[(.bool x.Neg),(slK (kInt .u32) x.Mag)],2,zAN,fun _=>rfl,fun _=>rfl,fun x=>(Abs.Data.cons (.bool _) (Abs.Data.cons (fun _=>Q3 _) Abs.Data.nil))⟩
def kD:Kd AD:=⟨fun x=>[(.bool x.M.Neg),(slK (kInt .u32) x.M.Mag),(.int .i64 x.E)],3,zAD,fun _=>rfl,fun _=>rfl,fun x=>(Abs.Data.cons (.bool _) (Abs.Data.cons (fun _=>Q3 _) (Abs.Data.cons (.int _ _) Abs.Data.nil)))⟩
def zxN:Kd zha:=⟨fun x=>[(slK (kInt .u32) x.mag)],1,zZintSize,fun _=>rfl,fun _=>rfl,fun x=>(Abs.Data.cons (fun _=>Q3 _) Abs.Data.nil)⟩
def zrS:Kd QH:=⟨fun x=>[(slK (kInt .u32) x.size.mag),(.bool x.neg)],2,zxD,fun _=>rfl,fun _=>rfl,fun x=>(Abs.Data.cons (fun _=>Q3 _) (Abs.Data.cons (.bool _) Abs.Data.nil))⟩
def kI:Kd AI:=⟨fun x=>[(.bool x.Lo.M.Neg),(slK (kInt .u32) x.Lo.M.Mag),(.int .i64 x.Lo.E),(.bool x.Hi.M.Neg),(slK (kInt .u32) x.Hi.M.Mag),(.int .i64 x.Hi.E)],6,zAI,fun _=>rfl,fun _=>rfl,fun x=>(Abs.Data.cons (.bool _) (Abs.Data.cons (fun _=>Q3 _) (Abs.Data.cons (.int _ _) (Abs.Data.cons (.bool _) (Abs.Data.cons (fun _=>Q3 _) (Abs.Data.cons (.int _ _) Abs.Data.nil))))))⟩
def tbl:List (Nat × TE):=[(3,⟨none,[(.int .i64 0)],[],[],some (.int .i64)⟩),(4,⟨none,[],[],[],some .bool⟩),(5,⟨none,[],[],[],some (.int .u8)⟩),(9,⟨none,[],[],[],some .string⟩),(22,⟨none,[],[],[],some (.slice 134)⟩),(24,⟨some 2,[(.bool false),(slK (kInt .u32) [])],[(0,1),(1,1)],[0,1],none⟩),(26,⟨some 3,[(.bool false),(slK (kInt .u32) []),(.int .i64 0)],[(0,2),(2,1)],[0,2],none⟩),(29,⟨none,[],[],[],some (.pointer 54)⟩),(30,⟨none,[],[],[],some (.int .i64)⟩),(37,⟨some 6,[(.bool false),(slK (kInt .u32) []),(.int .i64 0),(.bool false),(slK (kInt .u32) []),(.int .i64 0)],[(0,3),(3,3)],[0,3],none⟩),(44,⟨none,[],[],[],none⟩),(52,⟨some 1,[],[],[0],none⟩),(54,⟨some 2,[(.int .i64 0),(.int .i64 0)],[(0,1),(1,1)],[0,1],none⟩),(80,⟨none,[],[],[],none⟩),(90,⟨none,[],[],[],some (.slice 26)⟩),(93,⟨none,[],[],[],some (.slice 37)⟩),(99,⟨some 3,[.nilfn,(.int .i64 0),(.int .i64 0)],[(0,1),(1,1),(2,1)],[0,1,2],none⟩),(118,⟨some 1,[],[],[0],none⟩),(120,⟨some 4,[(.int .i64 0),(.bool false),(slK (kInt .u32) []),(.int .i64 0)],[(0,1),(1,3)],[0,1],none⟩),(125,⟨none,[],[],[],some (.slice 3)⟩),(134,⟨none,[(.int .u32 0)],[],[],some (.int .u32)⟩),(149,⟨none,[],[],[],some (.slice 99)⟩),(151,⟨some 1,[(slK (kInt .u32) [])],[(0,1)],[0],none⟩),(153,⟨some 2,[(slK (kInt .u32) []),(.bool false)],[(0,1),(1,1)],[0,1],none⟩),(161,⟨none,[],[],[],some (.int .u64)⟩),(171,⟨some 2,[(.int .i64 0),(.int .i64 0)],[(0,1),(1,1)],[0,1],none⟩),(175,⟨some 2,[.nilptr,(.int .i64 0)],[(0,1),(1,1)],[0,1],none⟩),(191,⟨none,[],[],[],none⟩)]
instance:TB prog tbl:=⟨qt (by kernel_rfl) (.inl rfl) (.inr underlying3)<|qt (by kernel_rfl) (.inl rfl) (.inr underlying4)<|qt (by kernel_rfl) (.inl rfl) (.inr underlying5)<|qt (by kernel_rfl) (.inl rfl) (.inr underlying9)<|qt (by kernel_rfl) (.inl rfl) (.inr underlying22)<|qt (by kernel_rfl) (.inr ⟨_,underlying24,fun w=>by kernel_rfl⟩) (.inl rfl)<|qt (by kernel_rfl) (.inr ⟨_,underlying26,fun w=>by kernel_rfl⟩) (.inl rfl)<|qt (by kernel_rfl) (.inl rfl) (.inr underlying29)<|qt (by kernel_rfl) (.inl rfl) (.inr underlying30)<|qt (by kernel_rfl) (.inr ⟨_,underlying37,fun w=>by kernel_rfl⟩) (.inl rfl)<|qt (by kernel_rfl) (.inl rfl) (.inl rfl)<|qt (by kernel_rfl) (.inl rfl) (.inl rfl)<|qt (by kernel_rfl) (.inr ⟨_,underlying54,fun w=>by kernel_rfl⟩) (.inl rfl)<|qt (by kernel_rfl) (.inl rfl) (.inl rfl)<|qt (by kernel_rfl) (.inl rfl) (.inr underlying90)<|qt (by kernel_rfl) (.inl rfl) (.inr underlying93)<|qt (by kernel_rfl) (.inr ⟨_,underlying99,fun w=>by kernel_rfl⟩) (.inl rfl)<|qt (by kernel_rfl) (.inl rfl) (.inl rfl)<|qt (by kernel_rfl) (.inr ⟨_,underlying120,fun w=>by kernel_rfl⟩) (.inl rfl)<|qt (by kernel_rfl) (.inl rfl) (.inr underlying125)<|qt (by kernel_rfl) (.inl rfl) (.inr underlying134)<|qt (by kernel_rfl) (.inl rfl) (.inr underlying149)<|qt (by kernel_rfl) (.inr ⟨_,underlying151,fun w=>by kernel_rfl⟩) (.inl rfl)<|qt (by kernel_rfl) (.inr ⟨_,underlying153,fun w=>by kernel_rfl⟩) (.inl rfl)<|qt (by kernel_rfl) (.inl rfl) (.inr underlying161)<|qt (by kernel_rfl) (.inr ⟨_,underlying171,fun w=>by kernel_rfl⟩) (.inl rfl)<|qt (by kernel_rfl) (.inr ⟨_,underlying175,fun w=>by kernel_rfl⟩) (.inl rfl)<|qt (by kernel_rfl) (.inl rfl) (.inl rfl)<|zxr,by kernel_rfl⟩
class L1 {T0 R:Type} (f:Nat→T0→Option R) (st:outParam (T0→LG × LV)):Prop where
 z:∀ a0,f 0 a0=none:=by intros; rfl
instance {T0 R:Type} {f:Nat→T0→Option R} {st:T0→LG × LV} [h:L1 f st] {n a0} : LP (f n a0) T0 (fun n x=>f n x) n a0 (fun x=>st x):=⟨rfl,fun x=>h.z x⟩
class L2 {T0 T1 R:Type} (f:Nat→T0→T1→Option R) (st:outParam (T0→T1→LG × LV)):Prop where
 z:∀ a0 a1,f 0 a0 a1=none:=by intros; rfl
instance {T0 T1 R:Type} {f:Nat→T0→T1→Option R} {st:T0→T1→LG × LV} [h:L2 f st] {n a0 a1} : LP (f n a0 a1) (T0 × T1) (fun n x=>f n x.1 x.2) n (a0,a1) (fun x=>st x.1 x.2):=⟨rfl,fun x=>h.z x.1 x.2⟩
class L3 {T0 T1 T2 R:Type} (f:Nat→T0→T1→T2→Option R) (st:outParam (T0→T1→T2→LG × LV)):Prop where
 z:∀ a0 a1 a2,f 0 a0 a1 a2=none:=by intros; rfl
instance {T0 T1 T2 R:Type} {f:Nat→T0→T1→T2→Option R} {st:T0→T1→T2→LG × LV} [h:L3 f st] {n a0 a1 a2} : LP (f n a0 a1 a2) (T0 × T1 × T2) (fun n x=>f n x.1 x.2.1 x.2.2) n (a0,a1,a2) (fun x=>st x.1 x.2.1 x.2.2):=⟨rfl,fun x=>h.z x.1 x.2.1 x.2.2⟩
class L4 {T0 T1 T2 T3 R:Type} (f:Nat→T0→T1→T2→T3→Option R) (st:outParam (T0→T1→T2→T3→LG × LV)):Prop where
 z:∀ a0 a1 a2 a3,f 0 a0 a1 a2 a3=none:=by intros; rfl
instance {T0 T1 T2 T3 R:Type} {f:Nat→T0→T1→T2→T3→Option R} {st:T0→T1→T2→T3→LG × LV} [h:L4 f st] {n a0 a1 a2 a3} : LP (f n a0 a1 a2 a3) (T0 × T1 × T2 × T3) (fun n x=>f n x.1 x.2.1 x.2.2.1 x.2.2.2) n (a0,a1,a2,a3) (fun x=>st x.1 x.2.1 x.2.2.1 x.2.2.2):=⟨rfl,fun x=>h.z x.1 x.2.1 x.2.2.1 x.2.2.2⟩
class L7 {T0 T1 T2 T3 T4 T5 T6 R:Type} (f:Nat→T0→T1→T2→T3→T4→T5→T6→Option R) (st:outParam (T0→T1→T2→T3→T4→T5→T6→LG × LV)):Prop where
 z:∀ a0 a1 a2 a3 a4 a5 a6,f 0 a0 a1 a2 a3 a4 a5 a6=none:=by intros; rfl
instance {T0 T1 T2 T3 T4 T5 T6 R:Type} {f:Nat→T0→T1→T2→T3→T4→T5→T6→Option R} {st:T0→T1→T2→T3→T4→T5→T6→LG × LV} [h:L7 f st] {n a0 a1 a2 a3 a4 a5 a6} : LP (f n a0 a1 a2 a3 a4 a5 a6) (T0 × T1 × T2 × T3 × T4 × T5 × T6) (fun n x=>f n x.1 x.2.1 x.2.2.1 x.2.2.2.1 x.2.2.2.2.1 x.2.2.2.2.2.1 x.2.2.2.2.2.2) n (a0,a1,a2,a3,a4,a5,a6) (fun x=>st x.1 x.2.1 x.2.2.1 x.2.2.2.1 x.2.2.2.2.1 x.2.2.2.2.2.1 x.2.2.2.2.2.2):=⟨rfl,fun x=>h.z x.1 x.2.1 x.2.2.1 x.2.2.2.1 x.2.2.2.2.1 x.2.2.2.2.2.1 x.2.2.2.2.2.2⟩
class L8 {T0 T1 T2 T3 T4 T5 T6 T7 R:Type} (f:Nat→T0→T1→T2→T3→T4→T5→T6→T7→Option R) (st:outParam (T0→T1→T2→T3→T4→T5→T6→T7→LG × LV)):Prop where
 z:∀ a0 a1 a2 a3 a4 a5 a6 a7,f 0 a0 a1 a2 a3 a4 a5 a6 a7=none:=by intros; rfl
instance {T0 T1 T2 T3 T4 T5 T6 T7 R:Type} {f:Nat→T0→T1→T2→T3→T4→T5→T6→T7→Option R} {st:T0→T1→T2→T3→T4→T5→T6→T7→LG × LV} [h:L8 f st] {n a0 a1 a2 a3 a4 a5 a6 a7} : LP (f n a0 a1 a2 a3 a4 a5 a6 a7) (T0 × T1 × T2 × T3 × T4 × T5 × T6 × T7) (fun n x=>f n x.1 x.2.1 x.2.2.1 x.2.2.2.1 x.2.2.2.2.1 x.2.2.2.2.2.1 x.2.2.2.2.2.2.1 x.2.2.2.2.2.2.2) n (a0,a1,a2,a3,a4,a5,a6,a7) (fun x=>st x.1 x.2.1 x.2.2.1 x.2.2.2.1 x.2.2.2.2.1 x.2.2.2.2.2.1 x.2.2.2.2.2.2.1 x.2.2.2.2.2.2.2):=⟨rfl,fun x=>h.z x.1 x.2.1 x.2.2.1 x.2.2.2.1 x.2.2.2.2.1 x.2.2.2.2.2.1 x.2.2.2.2.2.2.1 x.2.2.2.2.2.2.2⟩
class L14 {T0 T1 T2 T3 T4 T5 T6 T7 T8 T9 T10 T11 T12 T13 R:Type} (f:Nat→T0→T1→T2→T3→T4→T5→T6→T7→T8→T9→T10→T11→T12→T13→Option R) (st:outParam (T0→T1→T2→T3→T4→T5→T6→T7→T8→T9→T10→T11→T12→T13→LG × LV)):Prop where
 z:∀ a0 a1 a2 a3 a4 a5 a6 a7 a8 a9 a10 a11 a12 a13,f 0 a0 a1 a2 a3 a4 a5 a6 a7 a8 a9 a10 a11 a12 a13=none:=by intros; rfl
instance {T0 T1 T2 T3 T4 T5 T6 T7 T8 T9 T10 T11 T12 T13 R:Type} {f:Nat→T0→T1→T2→T3→T4→T5→T6→T7→T8→T9→T10→T11→T12→T13→Option R} {st:T0→T1→T2→T3→T4→T5→T6→T7→T8→T9→T10→T11→T12→T13→LG × LV} [h:L14 f st] {n a0 a1 a2 a3 a4 a5 a6 a7 a8 a9 a10 a11 a12 a13} : LP (f n a0 a1 a2 a3 a4 a5 a6 a7 a8 a9 a10 a11 a12 a13) (T0 × T1 × T2 × T3 × T4 × T5 × T6 × T7 × T8 × T9 × T10 × T11 × T12 × T13) (fun n x=>f n x.1 x.2.1 x.2.2.1 x.2.2.2.1 x.2.2.2.2.1 x.2.2.2.2.2.1 x.2.2.2.2.2.2.1 x.2.2.2.2.2.2.2.1 x.2.2.2.2.2.2.2.2.1 x.2.2.2.2.2.2.2.2.2.1 x.2.2.2.2.2.2.2.2.2.2.1 x.2.2.2.2.2.2.2.2.2.2.2.1 x.2.2.2.2.2.2.2.2.2.2.2.2.1 x.2.2.2.2.2.2.2.2.2.2.2.2.2) n (a0,a1,a2,a3,a4,a5,a6,a7,a8,a9,a10,a11,a12,a13) (fun x=>st x.1 x.2.1 x.2.2.1 x.2.2.2.1 x.2.2.2.2.1 x.2.2.2.2.2.1 x.2.2.2.2.2.2.1 x.2.2.2.2.2.2.2.1 x.2.2.2.2.2.2.2.2.1 x.2.2.2.2.2.2.2.2.2.1 x.2.2.2.2.2.2.2.2.2.2.1 x.2.2.2.2.2.2.2.2.2.2.2.1 x.2.2.2.2.2.2.2.2.2.2.2.2.1 x.2.2.2.2.2.2.2.2.2.2.2.2.2):=⟨rfl,fun x=>h.z x.1 x.2.1 x.2.2.1 x.2.2.2.1 x.2.2.2.2.1 x.2.2.2.2.2.1 x.2.2.2.2.2.2.1 x.2.2.2.2.2.2.2.1 x.2.2.2.2.2.2.2.2.1 x.2.2.2.2.2.2.2.2.2.1 x.2.2.2.2.2.2.2.2.2.2.1 x.2.2.2.2.2.2.2.2.2.2.2.1 x.2.2.2.2.2.2.2.2.2.2.2.2.1 x.2.2.2.2.2.2.2.2.2.2.2.2.2⟩
theorem zii:qR prog 26 [(.bool false),(slK (kInt .u32) []),(.int .i64 0)]:=zjA (by kernel_rfl)
theorem q9:qR prog 134 [(.int .u32 0)]:=zjA (by kernel_rfl)
theorem zQ:(prog.info? 134).map (·.size)=some 1:=by kernel_rfl
theorem qx:Sca prog 134:=⟨_,underlying134,rfl,by kernel_rfl⟩
theorem Zd:(prog.info? 134).map (fun i=>(i.size,i.bytes))=some (1,4):=by kernel_rfl
theorem zxO:Agg prog 24 2:=⟨_,underlying24,rfl,by kernel_rfl⟩
theorem zxP:Sca prog 22:=⟨_,underlying22,rfl,by kernel_rfl⟩
theorem zlb:(prog.info? 26).map (·.size)=some 3:=by kernel_rfl
theorem zow:qR prog 37 [(.bool false),(slK (kInt .u32) []),(.int .i64 0),(.bool false),(slK (kInt .u32) []),(.int .i64 0)]:=zjA (by kernel_rfl)
theorem zf2:Agg prog 37 6:=⟨_,underlying37,rfl,by kernel_rfl⟩
theorem zf3:(prog.info? 37).map (·.size)=some 6:=by kernel_rfl
theorem zij:(prog.info? 26).map (fun i=>(i.size,i.bytes))=some (3,40):=by kernel_rfl
theorem zf4:(prog.info? 99).map (·.size)=some 3:=by kernel_rfl
theorem zox:(prog.info? 37).map (fun i=>(i.size,i.bytes))=some (6,80):=by kernel_rfl
end Go.Proofs.YtjffljhmjdljeaaGreat.Gen
