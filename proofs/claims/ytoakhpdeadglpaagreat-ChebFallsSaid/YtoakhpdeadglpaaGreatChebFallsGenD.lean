/- Printed by gen.py: the plain functions. -/
import Derived.Test.YtoakhpdeadglpaaGreatChebFallsAbsS
set_option linter.unusedVariables false
set_option linter.unusedSimpArgs false
namespace Go.Proofs.YtoakhpdeadglpaaGreat.Gen
open Go Go.Abs
structure ApiInt where
 Neg:Bool
 Mag:List Int
def zAN:ApiInt:=⟨false,[]⟩
structure ZintSize where
 mag:List Int
def zZintSize:ZintSize:=⟨[]⟩
structure ZintSigned where
 size:ZintSize
 neg:Bool
def zZintSigned:ZintSigned:=⟨zZintSize,false⟩
structure AD where
 M:ApiInt
 E:Int
def zAD:AD:=⟨zAN,0⟩
structure AI where
 Lo:AD
 Hi:AD
def zAI:AI:=⟨zAD,zAD⟩
structure ApiPiece where
 A:AD
 W:Int
 C:List AD
 Err:AD
def zApiPiece:ApiPiece:=⟨zAD,0,[],zAD⟩
structure ChebPart where
 a:AD
 w:Int
def zChebPart:ChebPart:=⟨zAD,0⟩
structure FunPlace where
 above:Bool
 size:Int
 reach:Int
 tiny:Int
 orders:Bool
def zFunPlace:FunPlace:=⟨false,0,0,0,false⟩
structure ApiTable where
 Fun:Int
 Order:Int
 A:AD
 W:Int
 Prec:Int
 Degree:Int
 Pieces:List ApiPiece
def zApiTable:ApiTable:=⟨0,0,zAD,0,0,0,[]⟩
def cheb_degree_j1 (y2:Bool):Option (Bool):=
 (some y2)
def cheb_degree (a0:Int):Option (Bool):=
 (if a0≥1 then (cheb_degree_j1 (decide (a0≤16))) else (cheb_degree_j1 false))
def iv_New_j1 (a0:Int) (y2:Bool):Option ((Int ⊕ (Int × Int × Int))):=
 (if y2=true then (some (Sum.inl 1)) else (some (Sum.inr (0,0,a0))))
def iv_New (a0:Int):Option ((Int ⊕ (Int × Int × Int))):=
 (if a0<2 then (iv_New_j1 a0 true) else (iv_New_j1 a0 (decide (a0>400))))
def nat_trim_j1 (y17:List Int):Option ((List Int)):=
 (some y17)
def nat_trim_j3 (y21:List Int) (ag2_nat_trim:List Int→Option ((List Int))) (y22:Bool):Option ((List Int)):=
 (if y22=true then (if 0≤(0:Int)∧(0:Int)≤(IntKind.i64.wrap ((y21.length:Int)-1))∧(IntKind.i64.wrap ((y21.length:Int)-1))≤(y21.length:Int) then (ag2_nat_trim (y21.take ((IntKind.i64.wrap ((y21.length:Int)-1)).toNat))) else none) else (nat_trim_j1 y21))
def nat_trim_l2:Nat→List Int→Option ((List Int))
 | 0,_=>none
 | n+1,y21=>(if (y21.length:Int)>0 then (if 0≤(IntKind.i64.wrap ((y21.length:Int)-1))∧(IntKind.i64.wrap ((y21.length:Int)-1))<(y21.length:Int) then (nat_trim_j3 y21 (fun z0=>nat_trim_l2 n z0) ((y21.getD ((IntKind.i64.wrap ((y21.length:Int)-1)).toNat) (kInt .u32).z) == 0)) else none) else (nat_trim_j3 y21 (fun z0=>nat_trim_l2 n z0) false))
def nat_trim (a0:List Int):Option ((List Int)):=
 (nat_trim_l2 fuel a0)
def nat_From (a0:Int):Option ((List Int)):=
 ((nat_trim [(IntKind.u32.wrap a0),(IntKind.u32.wrap (shrI .u64 a0 32))]).bind fun x2=>(some x2))
def slCl (l:List Int):Option (List Int):=
 if l.length≤9223372036854775807∧l.length*4≤140737488355328 then some l else none
def nat_Trim (a0:List Int):Option ((List Int)):=
 ((nat_trim a0).bind fun x3=>((slCl x3).bind fun x4=>(some x4)))
def zint_of_j1 (x3:(List Int)) (y4:Bool):Option (ZintSigned):=
 (some (⟨⟨x3⟩,y4⟩:ZintSigned))
def zint_of (a0:ApiInt):Option (ZintSigned):=
 ((nat_Trim a0.Mag).bind fun x3=>(if a0.Neg=true then (zint_of_j1 x3 (decide ((x3.length:Int)>0))) else (zint_of_j1 x3 false)))
def zint_size_zero (a0:ZintSize):Option (Bool):=
 (some ((a0.mag.length:Int) == 0))
def zint_signed_out_j1 (a0:ZintSigned) (y5:Bool):Option (ApiInt):=
 (some (⟨y5,a0.size.mag⟩:ApiInt))
def zint_signed_out (a0:ZintSigned):Option (ApiInt):=
 (if a0.neg=true then ((zint_size_zero a0.size).bind fun x6=>(zint_signed_out_j1 a0 (!x6))) else (zint_signed_out_j1 a0 false))
def zint_Make (a0:Bool) (a1:List Int):Option (ApiInt):=
 ((zint_of (⟨a0,a1⟩:ApiInt)).bind fun x3=>((zint_signed_out (⟨((x3).size),(x3).neg⟩:ZintSigned)).bind fun x4=>(some (x4))))
def zint_From_j1 (a0:Int) (y4:Int):Option (ApiInt):=
 ((nat_From y4).bind fun x5=>((zint_Make (decide (a0<0)) x5).bind fun x6=>(some (x6))))
def zint_From (a0:Int):Option (ApiInt):=
 (if a0<0 then (zint_From_j1 a0 (IntKind.u64.wrap (0-(IntKind.u64.wrap a0)))) else (zint_From_j1 a0 (IntKind.u64.wrap a0)))
def nat_Bit_j1 (y2:Bool):Option (Bool):=
 (some y2)
def nat_Bit (a0:List Int) (a1:Int):Option (Bool):=
 (if a1≥0 then (if (IntKind.i64.wrap (a1.tdiv 32))<(a0.length:Int) then (if 0≤(IntKind.i64.wrap (a1.tdiv 32))∧(IntKind.i64.wrap (a1.tdiv 32))<(a0.length:Int) then (if 0≤(a1.tmod 32) then (nat_Bit_j1 ((andI .u32 (a0.getD ((IntKind.i64.wrap (a1.tdiv 32)).toNat) (kInt .u32).z) (shlI .u32 1 (a1.tmod 32))) != 0)) else none) else none) else (nat_Bit_j1 false)) else (nat_Bit_j1 false))
def nat_Shr_j1 (y37:List Int):Option ((List Int)):=
 ((nat_trim y37).bind fun x38=>(some x38))
def nat_Shr_j3 (a1:Int) (y45:Int) (y46:List Int) (ag2_nat_Shr:Int→List Int→Option ((List Int))) (y48:Int):Option ((List Int)):=
 (if 0≤(a1.tmod 32) then (if 0≤y45∧y45.toNat<(y46).length then (ag2_nat_Shr (IntKind.i64.wrap (y45+1)) ((y46).set y45.toNat (IntKind.u32.wrap (shrI .u64 y48 (a1.tmod 32))))) else none) else none)
def nat_Shr_l2 (x25:(List Int)) (a1:Int):Nat→Int→List Int→Option ((List Int))
 | 0,_,_=>none
 | n+1,y45,y46=>(if y45<(((x25.take x25.length).drop ((IntKind.i64.wrap (a1.tdiv 32)).toNat)).length:Int) then (if 0≤y45∧y45<(((x25.take x25.length).drop ((IntKind.i64.wrap (a1.tdiv 32)).toNat)).length:Int) then (if (IntKind.i64.wrap (y45+1))<(((x25.take x25.length).drop ((IntKind.i64.wrap (a1.tdiv 32)).toNat)).length:Int) then (if 0≤(IntKind.i64.wrap (y45+1))∧(IntKind.i64.wrap (y45+1))<(((x25.take x25.length).drop ((IntKind.i64.wrap (a1.tdiv 32)).toNat)).length:Int) then (nat_Shr_j3 a1 y45 y46 (fun z0 z1=>nat_Shr_l2 x25 a1 n z0 z1) (orI .u64 (IntKind.u64.wrap (((x25.take x25.length).drop ((IntKind.i64.wrap (a1.tdiv 32)).toNat)).getD y45.toNat (kInt .u32).z)) (shlI .u64 (IntKind.u64.wrap (((x25.take x25.length).drop ((IntKind.i64.wrap (a1.tdiv 32)).toNat)).getD ((IntKind.i64.wrap (y45+1)).toNat) (kInt .u32).z)) 32))) else none) else (nat_Shr_j3 a1 y45 y46 (fun z0 z1=>nat_Shr_l2 x25 a1 n z0 z1) (IntKind.u64.wrap (((x25.take x25.length).drop ((IntKind.i64.wrap (a1.tdiv 32)).toNat)).getD y45.toNat (kInt .u32).z)))) else none) else (nat_Shr_j1 y46))
def nat_Shr (a0:List Int) (a1:Int):Option ((List Int)):=
 ((nat_trim a0).bind fun x25=>(if a1<0 then ((slCl x25).bind fun x26=>(some x26)) else (if (IntKind.i64.wrap (a1.tdiv 32))≥(x25.length:Int) then (some []) else (if 0≤(IntKind.i64.wrap (a1.tdiv 32))∧(IntKind.i64.wrap (a1.tdiv 32))≤(x25.length:Int)∧(x25.length:Int)≤(x25.length:Int) then (if 0≤(((x25.take x25.length).drop ((IntKind.i64.wrap (a1.tdiv 32)).toNat)).length:Int)∧(((x25.take x25.length).drop ((IntKind.i64.wrap (a1.tdiv 32)).toNat)).length:Int)*4≤281474976710656∧(((x25.take x25.length).drop ((IntKind.i64.wrap (a1.tdiv 32)).toNat)).length:Int)≤281474976710656 then (nat_Shr_l2 x25 a1 fuel 0 (List.replicate (((x25.take x25.length).drop ((IntKind.i64.wrap (a1.tdiv 32)).toNat)).length) (kInt .u32).z)) else none) else none))))
def dyad_norm_j2 (x20:(List Int)) (a0:Bool) (a2:Int) (y29:Int):Option (AD):=
 ((nat_Shr x20 y29).bind fun x30=>((zint_Make a0 x30).bind fun x31=>(some (⟨(x31),(IntKind.i64.wrap (a2+y29))⟩:AD))))
def dyad_norm_l3 (x20:(List Int)) (a0:Bool) (a2:Int):Nat→Int→Option (AD)
 | 0,_=>none
 | n+1,y35=>((nat_Bit x20 y35).bind fun x36=>(if ¬x36=true then ((fun z0=>dyad_norm_l3 x20 a0 a2 n z0) (IntKind.i64.wrap (y35+1))) else (dyad_norm_j2 x20 a0 a2 y35)))
def dyad_norm_j1 (x20:(List Int)) (a0:Bool) (a2:Int) (y23:Int):Option (AD):=
 (dyad_norm_l3 x20 a0 a2 fuel y23)
def dyad_norm_l4 (x20:(List Int)) (a0:Bool) (a2:Int):Nat→Int→Option (AD)
 | 0,_=>none
 | n+1,y38=>(if 0≤(IntKind.i64.wrap (y38.tdiv 32))∧(IntKind.i64.wrap (y38.tdiv 32))<(x20.length:Int) then (if (x20.getD ((IntKind.i64.wrap (y38.tdiv 32)).toNat) (kInt .u32).z)=0 then ((fun z0=>dyad_norm_l4 x20 a0 a2 n z0) (IntKind.i64.wrap (y38+32))) else (dyad_norm_j1 x20 a0 a2 y38)) else none)
def dyad_norm (a0:Bool) (a1:List Int) (a2:Int):Option (AD):=
 ((nat_Trim a1).bind fun x20=>(if (x20.length:Int)=0 then (some (⟨⟨false,[]⟩,0⟩:AD)) else (dyad_norm_l4 x20 a0 a2 fuel 0)))
def dyad_From (a0:Int):Option (AD):=
 ((zint_From a0).bind fun x3=>((dyad_norm ((x3).Neg) ((x3).Mag) 0).bind fun x4=>(some (⟨((x4).M),(x4).E⟩:AD))))
def zint_Right (a0:ApiInt):Option (Bool):=
 (if (a0.Mag.length:Int)=0 then (some (!a0.Neg)) else (if 0≤(IntKind.i64.wrap ((a0.Mag.length:Int)-1))∧(IntKind.i64.wrap ((a0.Mag.length:Int)-1))<(a0.Mag.length:Int) then (some ((a0.Mag.getD ((IntKind.i64.wrap ((a0.Mag.length:Int)-1)).toNat) (kInt .u32).z) != 0)) else none))
def dyad_zero (a0:AD):Option (Bool):=
 (some ((a0.M.Mag.length:Int) == 0))
def dyad_within_j1 (y2:Bool):Option (Bool):=
 (some y2)
def dyad_within (a0:Int) (a1:Int) (a2:Int):Option (Bool):=
 (if a0≥a1 then (dyad_within_j1 (decide (a0≤a2))) else (dyad_within_j1 false))
def dyad_Right_j1 (y9:Bool):Option (Bool):=
 (some y9)
def dyad_Right (a0:AD):Option (Bool):=
 ((zint_Right a0.M).bind fun x6=>(if ¬x6=true then (some false) else ((dyad_zero a0).bind fun x7=>(if x7=true then (some (a0.E == 0)) else (if 0≤(0:Int)∧(0:Int)<(a0.M.Mag.length:Int) then (if ¬(andI .u32 (a0.M.Mag.getD 0 (kInt .u32).z) 1)=0 then ((dyad_within a0.E (-131072) 131072).bind fun x10=>(dyad_Right_j1 x10)) else (dyad_Right_j1 false)) else none)))))
def nat_Cmp_j1:Option (Int):=
 (some 0)
def nat_Cmp_l2 (x7:(List Int)) (x8:(List Int)):Nat→Int→Option (Int)
 | 0,_=>none
 | n+1,y12=>(if y12<(x7.length:Int) then (if 0≤(IntKind.i64.wrap ((IntKind.i64.wrap ((x7.length:Int)-1))-y12))∧(IntKind.i64.wrap ((IntKind.i64.wrap ((x7.length:Int)-1))-y12))<(x7.length:Int) then (if 0≤(IntKind.i64.wrap ((IntKind.i64.wrap ((x8.length:Int)-1))-y12))∧(IntKind.i64.wrap ((IntKind.i64.wrap ((x8.length:Int)-1))-y12))<(x8.length:Int) then (if (x7.getD ((IntKind.i64.wrap ((IntKind.i64.wrap ((x7.length:Int)-1))-y12)).toNat) (kInt .u32).z)<(x8.getD ((IntKind.i64.wrap ((IntKind.i64.wrap ((x8.length:Int)-1))-y12)).toNat) (kInt .u32).z) then (some (-1)) else (if (x7.getD ((IntKind.i64.wrap ((IntKind.i64.wrap ((x7.length:Int)-1))-y12)).toNat) (kInt .u32).z)>(x8.getD ((IntKind.i64.wrap ((IntKind.i64.wrap ((x8.length:Int)-1))-y12)).toNat) (kInt .u32).z) then (some 1) else ((fun z0=>nat_Cmp_l2 x7 x8 n z0) (IntKind.i64.wrap (y12+1))))) else none) else none) else (nat_Cmp_j1))
def nat_Cmp (a0:List Int) (a1:List Int):Option (Int):=
 ((nat_trim a0).bind fun x7=>((nat_trim a1).bind fun x8=>(if ¬(x7.length:Int)=(x8.length:Int) then (if (x7.length:Int)<(x8.length:Int) then (some (-1)) else (some 1)) else (nat_Cmp_l2 x7 x8 fuel 0))))
def zint_Cmp_j2 (y22:List Int) (y23:Bool) (y24:List Int) (y25:Bool):Option (Int):=
 ((nat_Cmp y22 y24).bind fun x26=>(some x26))
def zint_Cmp_j1 (x14:ZintSigned) (x15:ZintSigned) (y21:Bool):Option (Int):=
 (if y21=true then (some (-1)) else (if (((x14).neg) != ((x15).neg))=true then (some 1) else (if ((x14).neg)=true then (zint_Cmp_j2 (((x15).size).mag) ((x15).neg) (((x14).size).mag) ((x14).neg)) else (zint_Cmp_j2 (((x14).size).mag) ((x14).neg) (((x15).size).mag) ((x15).neg)))))
def zint_Cmp (a0:ApiInt) (a1:ApiInt):Option (Int):=
 ((zint_of a0).bind fun x14=>((zint_of a1).bind fun x15=>(if (((x14).neg) != ((x15).neg))=true then (zint_Cmp_j1 x14 x15 ((x14).neg)) else (zint_Cmp_j1 x14 x15 false))))
def mb_Len32_j2 (y8:Int) (y9:Int):Option (Int):=
 ((if 0≤(IntKind.u8.wrap y8) then (⟨#[0,1,2,2,3,3,3,3,4,4,4,4,4,4,4,4,5,5,5,5,5,5,5,5,5,5,5,5,5,5,5,5,6,6,6,6,6,6,6,6,6,6,6,6,6,6,6,6,6,6,6,6,6,6,6,6,6,6,6,6,6,6,6,6,7,7,7,7,7,7,7,7,7,7,7,7,7,7,7,7,7,7,7,7,7,7,7,7,7,7,7,7,7,7,7,7,7,7,7,7,7,7,7,7,7,7,7,7,7,7,7,7,7,7,7,7,7,7,7,7,7,7,7,7,7,7,7,7,8,8,8,8,8,8,8,8,8,8,8,8,8,8,8,8,8,8,8,8,8,8,8,8,8,8,8,8,8,8,8,8,8,8,8,8,8,8,8,8,8,8,8,8,8,8,8,8,8,8,8,8,8,8,8,8,8,8,8,8,8,8,8,8,8,8,8,8,8,8,8,8,8,8,8,8,8,8,8,8,8,8,8,8,8,8,8,8,8,8,8,8,8,8,8,8,8,8,8,8,8,8,8,8,8,8,8,8,8,8,8,8,8,8,8,8,8,8,8,8,8,8,8,8,8,8,8,8]⟩:ByteArray)[(IntKind.u8.wrap y8).toNat]? else none).bind fun b10=>(some (IntKind.i64.wrap (y9+(IntKind.i64.wrap (b10.toNat:Int))))))
def mb_Len32_j1 (y6:Int) (y7:Int):Option (Int):=
 (if y6≥256 then (mb_Len32_j2 (shrI .u32 y6 8) (IntKind.i64.wrap (y7+8))) else (mb_Len32_j2 y6 y7))
def mb_Len32 (a0:Int):Option (Int):=
 (if a0≥65536 then (mb_Len32_j1 (shrI .u32 a0 16) 16) else (mb_Len32_j1 a0 0))
def nat_Bits (a0:List Int):Option (Int):=
 ((nat_trim a0).bind fun x3=>(if (x3.length:Int)=0 then (some 0) else (if 0≤(IntKind.i64.wrap ((x3.length:Int)-1))∧(IntKind.i64.wrap ((x3.length:Int)-1))<(x3.length:Int) then ((mb_Len32 (x3.getD ((IntKind.i64.wrap ((x3.length:Int)-1)).toNat) (kInt .u32).z)).bind fun x4=>(some (IntKind.i64.wrap ((IntKind.i64.wrap (32*(IntKind.i64.wrap ((x3.length:Int)-1))))+x4)))) else none)))
def dyad_size (a0:AD):Option (Int):=
 ((nat_Bits a0.M.Mag).bind fun x2=>(some (IntKind.i64.wrap (a0.E+x2))))
def zint_Neg (a0:ApiInt):Option (ApiInt):=
 ((zint_Make (!a0.Neg) a0.Mag).bind fun x2=>(some (x2)))
def dyad_Neg (a0:AD):Option (AD):=
 ((dyad_Right a0).bind fun x3=>(if ¬x3=true then (some (⟨⟨false,[]⟩,0⟩:AD)) else ((zint_Neg a0.M).bind fun x4=>(some (⟨(x4),a0.E⟩:AD)))))
def nat_Shl_j2 (y19:List Int):Option ((List Int) × Bool):=
 ((nat_trim y19).bind fun x20=>(some (x20,true)))
def nat_Shl_l3 (x14:(List Int)) (a1:Int):Nat→Int→List Int→Option ((List Int) × Bool)
 | 0,_,_=>none
 | n+1,y23,y24=>(if y23<(x14.length:Int) then (if 0≤y23∧y23<(x14.length:Int) then (if 0≤(a1.tmod 32) then (if 0≤(IntKind.i64.wrap ((IntKind.i64.wrap (a1.tdiv 32))+y23))∧(IntKind.i64.wrap ((IntKind.i64.wrap (a1.tdiv 32))+y23)).toNat<(y24).length then (if 0≤(IntKind.i64.wrap ((IntKind.i64.wrap (a1.tdiv 32))+y23))∧(IntKind.i64.wrap ((IntKind.i64.wrap (a1.tdiv 32))+y23)).toNat<(y24).length then (if 0≤(IntKind.i64.wrap ((IntKind.i64.wrap ((IntKind.i64.wrap (a1.tdiv 32))+y23))+1))∧(IntKind.i64.wrap ((IntKind.i64.wrap ((IntKind.i64.wrap (a1.tdiv 32))+y23))+1)).toNat<(((y24).set ((IntKind.i64.wrap ((IntKind.i64.wrap (a1.tdiv 32))+y23)).toNat) (orI .u32 ((y24).getD ((IntKind.i64.wrap ((IntKind.i64.wrap (a1.tdiv 32))+y23)).toNat) (kInt .u32).z) (IntKind.u32.wrap (shlI .u64 (IntKind.u64.wrap (x14.getD y23.toNat (kInt .u32).z)) (a1.tmod 32)))))).length then ((fun z0 z1=>nat_Shl_l3 x14 a1 n z0 z1) (IntKind.i64.wrap (y23+1)) ((((y24).set ((IntKind.i64.wrap ((IntKind.i64.wrap (a1.tdiv 32))+y23)).toNat) (orI .u32 ((y24).getD ((IntKind.i64.wrap ((IntKind.i64.wrap (a1.tdiv 32))+y23)).toNat) (kInt .u32).z) (IntKind.u32.wrap (shlI .u64 (IntKind.u64.wrap (x14.getD y23.toNat (kInt .u32).z)) (a1.tmod 32)))))).set ((IntKind.i64.wrap ((IntKind.i64.wrap ((IntKind.i64.wrap (a1.tdiv 32))+y23))+1)).toNat) (IntKind.u32.wrap (shrI .u64 (shlI .u64 (IntKind.u64.wrap (x14.getD y23.toNat (kInt .u32).z)) (a1.tmod 32)) 32)))) else none) else none) else none) else none) else none) else (nat_Shl_j2 y24))
def nat_Shl_j1 (a0:List Int) (a1:Int) (y13:Bool):Option ((List Int) × Bool):=
 (if y13=true then (some ([],false)) else ((nat_trim a0).bind fun x14=>(if 0≤(IntKind.i64.wrap ((IntKind.i64.wrap ((IntKind.i64.wrap (a1.tdiv 32))+(x14.length:Int)))+1))∧(IntKind.i64.wrap ((IntKind.i64.wrap ((IntKind.i64.wrap (a1.tdiv 32))+(x14.length:Int)))+1))*4≤281474976710656∧(IntKind.i64.wrap ((IntKind.i64.wrap ((IntKind.i64.wrap (a1.tdiv 32))+(x14.length:Int)))+1))≤281474976710656 then (nat_Shl_l3 x14 a1 fuel 0 (List.replicate ((IntKind.i64.wrap ((IntKind.i64.wrap ((IntKind.i64.wrap (a1.tdiv 32))+(x14.length:Int)))+1)).toNat) (kInt .u32).z)) else none)))
def nat_Shl (a0:List Int) (a1:Int):Option ((List Int) × Bool):=
 (if a1<0 then (nat_Shl_j1 a0 a1 true) else (nat_Shl_j1 a0 a1 (decide (a1>100000))))
def dyad_up_j1 (y34:List Int) (y35:Int):Option ((List Int)):=
 ((nat_Shl y34 (mx y35 0)).bind fun x36=>(some x36.1))
def dyad_up_l2:Nat→List Int→Int→Option ((List Int))
 | 0,_,_=>none
 | n+1,y43,y44=>(if y44>100000 then ((nat_Shl y43 100000).bind fun x46=>((fun z0 z1=>dyad_up_l2 n z0 z1) x46.1 (IntKind.i64.wrap (y44-100000)))) else (dyad_up_j1 y43 y44))
def dyad_up (a0:List Int) (a1:Int):Option ((List Int)):=
 (dyad_up_l2 fuel a0 a1)
def mb_Add32 (a0:Int) (a1:Int) (a2:Int):Option (Int × Int):=
 (some ((IntKind.u32.wrap (IntKind.u64.wrap ((IntKind.u64.wrap ((IntKind.u64.wrap a0)+(IntKind.u64.wrap a1)))+(IntKind.u64.wrap a2)))),(IntKind.u32.wrap (shrI .u64 (IntKind.u64.wrap ((IntKind.u64.wrap ((IntKind.u64.wrap a0)+(IntKind.u64.wrap a1)))+(IntKind.u64.wrap a2))) 32))))
def nat_Add_j2 (y42:List Int) (y62:Int) (y63:List Int):Option ((List Int)):=
 (if 0≤(y42.length:Int)∧y42.length<(y63).length then ((nat_trim ((y63).set y42.length y62)).bind fun x64=>(some x64)) else none)
def nat_Add_j4 (y77:Int) (y42:List Int) (y76:Int) (y78:List Int) (ag3_nat_Add:Int→Int→List Int→Option ((List Int))) (y81:Int):Option ((List Int)):=
 (if 0≤y77∧y77<(y42.length:Int) then ((mb_Add32 (y42.getD y77.toNat (kInt .u32).z) y81 y76).bind fun x82=>(if 0≤y77∧y77.toNat<(y78).length then (ag3_nat_Add x82.2 (IntKind.i64.wrap (y77+1)) ((y78).set y77.toNat x82.1)) else none)) else none)
def nat_Add_l3 (y42:List Int) (y43:List Int):Nat→Int→Int→List Int→Option ((List Int))
 | 0,_,_,_=>none
 | n+1,y76,y77,y78=>(if y77<(y42.length:Int) then (if y77<(y43.length:Int) then (if 0≤y77∧y77<(y43.length:Int) then (nat_Add_j4 y77 y42 y76 y78 (fun z0 z1 z2=>nat_Add_l3 y42 y43 n z0 z1 z2) (y43.getD y77.toNat (kInt .u32).z)) else none) else (nat_Add_j4 y77 y42 y76 y78 (fun z0 z1 z2=>nat_Add_l3 y42 y43 n z0 z1 z2) 0)) else (nat_Add_j2 y42 y76 y78))
def nat_Add_j1 (y42:List Int) (y43:List Int):Option ((List Int)):=
 (if 0≤(IntKind.i64.wrap ((y42.length:Int)+1))∧(IntKind.i64.wrap ((y42.length:Int)+1))*4≤281474976710656∧(IntKind.i64.wrap ((y42.length:Int)+1))≤281474976710656 then (nat_Add_l3 y42 y43 fuel 0 0 (List.replicate ((IntKind.i64.wrap ((y42.length:Int)+1)).toNat) (kInt .u32).z)) else none)
def nat_Add (a0:List Int) (a1:List Int):Option ((List Int)):=
 (if (a0.length:Int)<(a1.length:Int) then (nat_Add_j1 a1 a0) else (nat_Add_j1 a0 a1))
def mb_Sub32 (a0:Int) (a1:Int) (a2:Int):Option (Int × Int):=
 (some ((IntKind.u32.wrap ((IntKind.u32.wrap (a0-a1))-a2)),(shrI .u32 (orI .u32 (andI .u32 (notI .u32 a0) a1) (andI .u32 (notI .u32 (xorI .u32 a0 a1)) (IntKind.u32.wrap ((IntKind.u32.wrap (a0-a1))-a2)))) 31)))
def nat_Sub_j1 (y62:Int) (y63:List Int):Option ((List Int) × Bool):=
 (if y62>0 then (some ([],false)) else ((nat_trim y63).bind fun x64=>(some (x64,true))))
def nat_Sub_j3 (y77:Int) (x42:(List Int)) (y76:Int) (y78:List Int) (ag2_nat_Sub:Int→Int→List Int→Option ((List Int) × Bool)) (y81:Int):Option ((List Int) × Bool):=
 (if 0≤y77∧y77<(x42.length:Int) then ((mb_Sub32 (x42.getD y77.toNat (kInt .u32).z) y81 y76).bind fun x82=>(if 0≤y77∧y77.toNat<(y78).length then (ag2_nat_Sub x82.2 (IntKind.i64.wrap (y77+1)) ((y78).set y77.toNat x82.1)) else none)) else none)
def nat_Sub_l2 (x42:(List Int)) (x43:(List Int)):Nat→Int→Int→List Int→Option ((List Int) × Bool)
 | 0,_,_,_=>none
 | n+1,y76,y77,y78=>(if y77<(x42.length:Int) then (if y77<(x43.length:Int) then (if 0≤y77∧y77<(x43.length:Int) then (nat_Sub_j3 y77 x42 y76 y78 (fun z0 z1 z2=>nat_Sub_l2 x42 x43 n z0 z1 z2) (x43.getD y77.toNat (kInt .u32).z)) else none) else (nat_Sub_j3 y77 x42 y76 y78 (fun z0 z1 z2=>nat_Sub_l2 x42 x43 n z0 z1 z2) 0)) else (nat_Sub_j1 y76 y78))
def nat_Sub (a0:List Int) (a1:List Int):Option ((List Int) × Bool):=
 ((nat_trim a0).bind fun x42=>((nat_trim a1).bind fun x43=>(if (x42.length:Int)<(x43.length:Int) then (some ([],false)) else (if 0≤(x42.length:Int)∧(x42.length:Int)*4≤281474976710656∧(x42.length:Int)≤281474976710656 then (nat_Sub_l2 x42 x43 fuel 0 0 (List.replicate x42.length (kInt .u32).z)) else none))))
def zint_Add_j1 (y17:List Int) (y18:Bool) (y19:List Int) (y20:Bool):Option (ApiInt):=
 ((nat_Sub y17 y19).bind fun x21=>((zint_Make y18 x21.1).bind fun x22=>(some (x22))))
def zint_Add (a0:ApiInt) (a1:ApiInt):Option (ApiInt):=
 ((zint_of a0).bind fun x12=>((zint_of a1).bind fun x13=>(if (((x12).neg) == ((x13).neg))=true then ((nat_Add (((x12).size).mag) (((x13).size).mag)).bind fun x14=>((zint_Make ((x12).neg) x14).bind fun x15=>(some (x15)))) else ((nat_Cmp (((x12).size).mag) (((x13).size).mag)).bind fun x16=>(if x16<0 then (zint_Add_j1 (((x13).size).mag) ((x13).neg) (((x12).size).mag) ((x12).neg)) else (zint_Add_j1 (((x12).size).mag) ((x12).neg) (((x13).size).mag) ((x13).neg)))))))
def dyad_sum_j1 (y30:Bool) (y31:List Int) (y32:Int) (y33:Bool) (y34:List Int) (y35:Int):Option (AD):=
 ((dyad_up y31 (IntKind.i64.wrap (y32-y35))).bind fun x36=>((zint_Add (⟨y30,x36⟩:ApiInt) (⟨y33,y34⟩:ApiInt)).bind fun x37=>((dyad_norm ((x37).Neg) ((x37).Mag) y35).bind fun x38=>(some (⟨((x38).M),(x38).E⟩:AD)))))
def dyad_sum (a0:AD) (a1:AD):Option (AD):=
 ((dyad_zero a0).bind fun x28=>(if x28=true then (some a1) else ((dyad_zero a1).bind fun x29=>(if x29=true then (some a0) else (if a0.E<a1.E then (dyad_sum_j1 a1.M.Neg a1.M.Mag a1.E a0.M.Neg a0.M.Mag a0.E) else (dyad_sum_j1 a0.M.Neg a0.M.Mag a0.E a1.M.Neg a1.M.Mag a1.E))))))
def dyad_Cmp_j2 (a0:AD) (a1:AD) (y22:Bool):Option (Int):=
 (if y22=true then ((zint_Cmp a0.M a1.M).bind fun x23=>(some x23)) else ((dyad_size a0).bind fun x24=>((dyad_size a1).bind fun x25=>(if ¬x24=x25 then (if ((decide (x24<x25)) != a0.M.Neg)=true then (some (-1)) else (some 1)) else ((dyad_Neg a1).bind fun x26=>((dyad_sum a0 (⟨((x26).M),(x26).E⟩:AD)).bind fun x27=>((zint_Cmp ((x27).M) (⟨false,[]⟩:ApiInt)).bind fun x28=>(some x28))))))))
def dyad_Cmp_j1 (a0:AD) (a1:AD) (y19:Bool):Option (Int):=
 (if y19=true then (some 0) else (if (a0.M.Neg != a1.M.Neg)=true then (dyad_Cmp_j2 a0 a1 true) else ((dyad_zero a0).bind fun x29=>(if x29=true then (dyad_Cmp_j2 a0 a1 true) else ((dyad_zero a1).bind fun x30=>(dyad_Cmp_j2 a0 a1 x30))))))
def dyad_Cmp (a0:AD) (a1:AD):Option (Int):=
 ((dyad_Right a0).bind fun x31=>(if ¬x31=true then (dyad_Cmp_j1 a0 a1 true) else ((dyad_Right a1).bind fun x32=>(dyad_Cmp_j1 a0 a1 (!x32)))))
def iv_Right_j1 (y11:Bool):Option (Bool):=
 (some y11)
def iv_Right (a0:AI):Option (Bool):=
 ((dyad_Right a0.Lo).bind fun x12=>(if x12=true then ((dyad_Right a0.Hi).bind fun x13=>(if x13=true then ((dyad_Cmp a0.Lo a0.Hi).bind fun x14=>(iv_Right_j1 (decide (x14≤0)))) else (iv_Right_j1 false))) else (iv_Right_j1 false)))
def iv_trouble_note_j1 (y2:Int):Option (Bool × Int):=
 (some ((y2 == 0),y2))
def iv_trouble_note (a0:Int) (a1:Int) (a2:Int):Option (Bool × Int):=
 (if a1=0 then (iv_trouble_note_j1 a0) else (iv_trouble_note_j1 a1))
def cv_fine_j1 (y122:Int):Option (Bool × Int):=
 (some ((y122 == 0),y122))
def cv_fine_j3 (ag2_cv_fine:Int→Int→Option (Bool × Int)) (y149:Int) (y159:Bool) (y160:Int):Option (Bool × Int):=
 (if y159=true then (cv_fine_j1 y160) else (ag2_cv_fine (IntKind.i64.wrap (y149+1)) y160))
def cv_fine_l2 (a0:List AI) (a2:Int):Nat→Int→Int→Option (Bool × Int)
 | 0,_,_=>none
 | n+1,y149,y150=>(if y149<(a0.length:Int) then (if 0≤y149∧y149<(a0.length:Int) then ((iv_Right (⟨⟨(((a0.getD y149.toNat zAI).Lo).M),((a0.getD y149.toNat zAI).Lo).E⟩,⟨(((a0.getD y149.toNat zAI).Hi).M),((a0.getD y149.toNat zAI).Hi).E⟩⟩:AI)).bind fun x161=>(if ¬x161=true then ((iv_trouble_note 1 y150 a2).bind fun x162=>(cv_fine_j3 (fun z0 z1=>cv_fine_l2 a0 a2 n z0 z1) y149 (!x162.1) x162.2)) else (cv_fine_j3 (fun z0 z1=>cv_fine_l2 a0 a2 n z0 z1) y149 false y150))) else none) else (cv_fine_j1 y150))
def cv_fine (a0:List AI) (a1:Int) (a2:Int):Option (Bool × Int):=
 (cv_fine_l2 a0 a2 fuel 0 a1)
def cv_Point (a0:AD) (a1:Int) (a2:Int):Option (AI × Int):=
 ((cv_fine [(⟨a0,a0⟩:AI)] a1 a2).bind fun x2=>(if ¬x2.1=true then (some ((⟨⟨⟨false,[]⟩,0⟩,⟨⟨false,[]⟩,0⟩⟩:AI),x2.2)) else (some ((⟨a0,a0⟩:AI),x2.2))))
def cv_Int (a0:Int) (a1:Int) (a2:Int):Option (AI × Int):=
 ((dyad_From a0).bind fun x3=>((cv_Point (⟨((x3).M),(x3).E⟩:AD) a1 a2).bind fun x4=>(some ((⟨⟨(((x4.1).Lo).M),((x4.1).Lo).E⟩,⟨(((x4.1).Hi).M),((x4.1).Hi).E⟩⟩:AI),x4.2))))
def iv_Has_j1 (y14:Bool):Option (Bool):=
 (some y14)
def iv_Has (a0:AI) (a1:AD):Option (Bool):=
 ((iv_Right a0).bind fun x15=>(if x15=true then ((dyad_Right a1).bind fun x16=>(if x16=true then ((dyad_Cmp a0.Lo a1).bind fun x17=>(if x17≤0 then ((dyad_Cmp a1 a0.Hi).bind fun x18=>(iv_Has_j1 (decide (x18≤0)))) else (iv_Has_j1 false))) else (iv_Has_j1 false))) else (iv_Has_j1 false)))
def cv_Div_1 (a0:Bool) (a1:Int) (a2:Int):Option (Bool):=
 (some a0)
def dyad_fault_must_j2 (y4:Int):Option (Bool × Int):=
 (some ((y4 == 0),y4))
def dyad_fault_must_j1 (a1:Int) (a2:Int) (y3:Bool):Option (Bool × Int):=
 (if y3=true then (dyad_fault_must_j2 a1) else (dyad_fault_must_j2 a2))
def dyad_fault_must (a0:Bool) (a1:Int) (a2:Int) (a3:Bool) (a4:List Int) (a5:Int):Option (Bool × Int):=
 (if ¬a0=true then (dyad_fault_must_j1 a1 a2 (a2 == 0)) else (dyad_fault_must_j1 a1 a2 false))
def dw_right_j1 (y50:Int):Option (Bool × Int):=
 (some ((y50 == 0),y50))
def dw_right_l2 (a0:List AD) (a2:Bool) (a3:List Int) (a4:Int):Nat→Int→Int→Option (Bool × Int)
 | 0,_,_=>none
 | n+1,y61,y62=>(if y61<(a0.length:Int) then (if 0≤y61∧y61<(a0.length:Int) then ((dyad_Right (⟨((a0.getD y61.toNat zAD).M),(a0.getD y61.toNat zAD).E⟩:AD)).bind fun x65=>((dyad_fault_must x65 1 y62 a2 a3 a4).bind fun x66=>((fun z0 z1=>dw_right_l2 a0 a2 a3 a4 n z0 z1) (IntKind.i64.wrap (y61+1)) x66.2))) else none) else (dw_right_j1 y62))
def dw_right (a0:List AD) (a1:Int) (a2:Bool) (a3:List Int) (a4:Int):Option (Bool × Int):=
 (dw_right_l2 a0 a2 a3 a4 fuel 0 a1)
def dw_prec (a0:Int) (a1:Int) (a2:Bool) (a3:List Int) (a4:Int):Option (Bool × Int):=
 ((dyad_within a0 2 400).bind fun x3=>((dyad_fault_must x3 1 a1 a2 a3 a4).bind fun x4=>(some (x4.1,x4.2))))
def mb_Div32_j1 (a2:Int) (a0:Int) (a1:Int) (y2:Bool):Option (Int × Int):=
 (if y2=true then none else (if (IntKind.u64.wrap a2)≠0 then (if (IntKind.u64.wrap a2)≠0 then (some ((IntKind.u32.wrap (IntKind.u64.wrap ((orI .u64 (shlI .u64 (IntKind.u64.wrap a0) 32) (IntKind.u64.wrap a1)).tdiv (IntKind.u64.wrap a2)))),(IntKind.u32.wrap ((orI .u64 (shlI .u64 (IntKind.u64.wrap a0) 32) (IntKind.u64.wrap a1)).tmod (IntKind.u64.wrap a2))))) else none) else none))
def mb_Div32 (a0:Int) (a1:Int) (a2:Int):Option (Int × Int):=
 (if ¬a2=0 then (mb_Div32_j1 a2 a0 a1 (decide (a2≤a0))) else (mb_Div32_j1 a2 a0 a1 false))
def quo_short_j1 (y41:Int) (y42:List Int):Option ((List Int) × (List Int) × Bool):=
 ((nat_Trim y42).bind fun x43=>((nat_From (IntKind.u64.wrap y41)).bind fun x44=>(some (x43,x44,true))))
def quo_short_l2 (a0:List Int) (a1:Int):Nat→Int→Int→List Int→Option ((List Int) × (List Int) × Bool)
 | 0,_,_,_=>none
 | n+1,y52,y53,y54=>(if y53<(a0.length:Int) then (if 0≤(IntKind.i64.wrap ((IntKind.i64.wrap ((a0.length:Int)-1))-y53))∧(IntKind.i64.wrap ((IntKind.i64.wrap ((a0.length:Int)-1))-y53))<(a0.length:Int) then ((mb_Div32 y52 (a0.getD ((IntKind.i64.wrap ((IntKind.i64.wrap ((a0.length:Int)-1))-y53)).toNat) (kInt .u32).z) a1).bind fun x56=>(if 0≤(IntKind.i64.wrap ((IntKind.i64.wrap ((a0.length:Int)-1))-y53))∧(IntKind.i64.wrap ((IntKind.i64.wrap ((a0.length:Int)-1))-y53)).toNat<(y54).length then ((fun z0 z1 z2=>quo_short_l2 a0 a1 n z0 z1 z2) x56.2 (IntKind.i64.wrap (y53+1)) ((y54).set ((IntKind.i64.wrap ((IntKind.i64.wrap ((a0.length:Int)-1))-y53)).toNat) x56.1)) else none)) else none) else (quo_short_j1 y52 y54))
def quo_short (a0:List Int) (a1:Int):Option ((List Int) × (List Int) × Bool):=
 (if 0≤(a0.length:Int)∧(a0.length:Int)*4≤281474976710656∧(a0.length:Int)≤281474976710656 then (quo_short_l2 a0 a1 fuel 0 0 (List.replicate a0.length (kInt .u32).z)) else none)
def mb_LeadingZeros32 (a0:Int):Option (Int):=
 ((mb_Len32 a0).bind fun x2=>(some (IntKind.i64.wrap (32-x2))))
def quo_take_j1 (a2:List Int) (a1:Nat) (a0:Nat) (y47:Int) (y48:Int) (y49:List Int):Option (Bool × (List Int)):=
 (if 0≤(a2.length:Int)∧a2.length<a1∧(a0+a2.length)<(y49).length then ((mb_Sub32 ((y49).getD (a0+a2.length) (kInt .u32).z) (IntKind.u32.wrap y47) y48).bind fun x50=>(if 0≤(a2.length:Int)∧a2.length<a1∧(a0+a2.length)<(y49).length then (some ((decide (x50.2>0)),((y49).set (a0+a2.length) x50.1))) else none)) else none)
def quo_take_l2 (a2:List Int) (a1:Nat) (a0:Nat) (a3:Int):Nat→Int→Int→Int→List Int→Option (Bool × (List Int))
 | 0,_,_,_,_=>none
 | n+1,y59,y60,y61,y62=>(if y61<(a2.length:Int) then (if 0≤y61∧y61<(a2.length:Int) then (if 0≤y61∧y61.toNat<a1∧(a0+y61.toNat)<(y62).length then ((mb_Sub32 ((y62).getD (a0+y61.toNat) (kInt .u32).z) (IntKind.u32.wrap (IntKind.u64.wrap ((IntKind.u64.wrap ((IntKind.u64.wrap (a2.getD y61.toNat (kInt .u32).z))*a3))+y59))) y60).bind fun x64=>(if 0≤y61∧y61.toNat<a1∧(a0+y61.toNat)<(y62).length then ((fun z0 z1 z2 z3=>quo_take_l2 a2 a1 a0 a3 n z0 z1 z2 z3) (shrI .u64 (IntKind.u64.wrap ((IntKind.u64.wrap ((IntKind.u64.wrap (a2.getD y61.toNat (kInt .u32).z))*a3))+y59)) 32) x64.2 (IntKind.i64.wrap (y61+1)) ((y62).set (a0+y61.toNat) x64.1)) else none)) else none) else none) else (quo_take_j1 a2 a1 a0 y59 y60 y62))
def quo_take (a0:Nat) (a1:Nat) (a2:List Int) (a3:Int) (a4:List Int):Option (Bool × (List Int)):=
 (quo_take_l2 a2 a1 a0 a3 fuel 0 0 0 a4)
def quo_give_j1 (a2:List Int) (a1:Nat) (a0:Nat) (y39:Int) (y40:List Int):Option ((List Int)):=
 (if 0≤(a2.length:Int)∧a2.length<a1∧(a0+a2.length)<(y40).length then (if 0≤(a2.length:Int)∧a2.length<a1∧(a0+a2.length)<(y40).length then (some ((y40).set (a0+a2.length) (IntKind.u32.wrap (((y40).getD (a0+a2.length) (kInt .u32).z)+y39)))) else none) else none)
def quo_give_l2 (a2:List Int) (a1:Nat) (a0:Nat):Nat→Int→Int→List Int→Option ((List Int))
 | 0,_,_,_=>none
 | n+1,y48,y49,y50=>(if y49<(a2.length:Int) then (if 0≤y49∧y49<(a2.length:Int) then (if 0≤y49∧y49.toNat<a1∧(a0+y49.toNat)<(y50).length then ((mb_Add32 ((y50).getD (a0+y49.toNat) (kInt .u32).z) (a2.getD y49.toNat (kInt .u32).z) y48).bind fun x52=>(if 0≤y49∧y49.toNat<a1∧(a0+y49.toNat)<(y50).length then ((fun z0 z1 z2=>quo_give_l2 a2 a1 a0 n z0 z1 z2) x52.2 (IntKind.i64.wrap (y49+1)) ((y50).set (a0+y49.toNat) x52.1)) else none)) else none) else none) else (quo_give_j1 a2 a1 a0 y48 y50))
def quo_give (a0:Nat) (a1:Nat) (a2:List Int) (a3:List Int):Option ((List Int)):=
 (quo_give_l2 a2 a1 a0 fuel 0 0 a3)
def quo_long_j1 (x273:(List Int) × Bool) (x272:Int) (y407:List Int) (y408:List Int):Option ((List Int) × (List Int) × Bool):=
 ((nat_Trim y407).bind fun x409=>(if 0≤(0:Int)∧(0:Int)≤(x273.1.length:Int)∧(x273.1.length:Int)≤(y408.length:Int) then ((nat_Shr (y408.take x273.1.length) x272).bind fun x410=>(some (x409,x410,true))) else none))
def quo_long_j3 (ag2_quo_long:Int→List Int→List Int→Option ((List Int) × (List Int) × Bool)) (y498:Int) (y521:List Int) (y522:List Int):Option ((List Int) × (List Int) × Bool):=
 (ag2_quo_long (IntKind.i64.wrap (y498-1)) y521 y522)
def quo_long_j5 (y498:Int) (y499:List Int) (ag2_quo_long:Int→List Int→List Int→Option ((List Int) × (List Int) × Bool)) (y533:Int) (y534:List Int):Option ((List Int) × (List Int) × Bool):=
 (if 0≤y498∧y498.toNat<(y499).length then (quo_long_j3 ag2_quo_long y498 ((y499).set y498.toNat (IntKind.u32.wrap y533)) y534) else none)
def quo_long_j4 (y498:Int) (x273:(List Int) × Bool) (y500:List Int) (y499:List Int) (ag2_quo_long:Int→List Int→List Int→Option ((List Int) × (List Int) × Bool)) (y530:Int):Option ((List Int) × (List Int) × Bool):=
 (if 0≤y498∧y498≤(IntKind.i64.wrap ((IntKind.i64.wrap (y498+(x273.1.length:Int)))+1))∧(IntKind.i64.wrap ((IntKind.i64.wrap (y498+(x273.1.length:Int)))+1))≤((y500).length:Int) then ((quo_take (0+y498.toNat) ((IntKind.i64.wrap ((IntKind.i64.wrap (y498+(x273.1.length:Int)))+1)).toNat-y498.toNat) x273.1 y530 y500).bind fun x531=>(if x531.2.length=y500.length then (if x531.1=true then (if 0≤y498∧y498≤(IntKind.i64.wrap ((IntKind.i64.wrap (y498+(x273.1.length:Int)))+1))∧(IntKind.i64.wrap ((IntKind.i64.wrap (y498+(x273.1.length:Int)))+1))≤((x531.2).length:Int) then ((quo_give (0+y498.toNat) ((IntKind.i64.wrap ((IntKind.i64.wrap (y498+(x273.1.length:Int)))+1)).toNat-y498.toNat) x273.1 x531.2).bind fun x535=>(if x535.length=x531.2.length then (quo_long_j5 y498 y499 ag2_quo_long (IntKind.u64.wrap (y530-1)) x535) else none)) else none) else (quo_long_j5 y498 y499 ag2_quo_long y530 x531.2)) else none)) else none)
def quo_long_j7 (x273:(List Int) × Bool) (y541:Int) (y498:Int) (y500:List Int) (y499:List Int) (ag2_quo_long:Int→List Int→List Int→Option ((List Int) × (List Int) × Bool)) (y540:Int) (ag6_quo_long:Int→Int→Option ((List Int) × (List Int) × Bool)) (y542:Bool):Option ((List Int) × (List Int) × Bool):=
 (if y542=true then (if 0≤(IntKind.i64.wrap ((x273.1.length:Int)-1))∧(IntKind.i64.wrap ((x273.1.length:Int)-1))<(x273.1.length:Int) then (if (IntKind.u64.wrap (y541+(IntKind.u64.wrap (x273.1.getD ((IntKind.i64.wrap ((x273.1.length:Int)-1)).toNat) (kInt .u32).z))))≥4294967296 then (quo_long_j4 y498 x273 y500 y499 ag2_quo_long (IntKind.u64.wrap (y540-1))) else (ag6_quo_long (IntKind.u64.wrap (y540-1)) (IntKind.u64.wrap (y541+(IntKind.u64.wrap (x273.1.getD ((IntKind.i64.wrap ((x273.1.length:Int)-1)).toNat) (kInt .u32).z)))))) else none) else (quo_long_j4 y498 x273 y500 y499 ag2_quo_long y540))
def quo_long_l6 (x273:(List Int) × Bool) (y498:Int) (y500:List Int) (y499:List Int) (ag2_quo_long:Int→List Int→List Int→Option ((List Int) × (List Int) × Bool)):Nat→Int→Int→Option ((List Int) × (List Int) × Bool)
 | 0,_,_=>none
 | n+1,y540,y541=>(if y540≥4294967296 then (quo_long_j7 x273 y541 y498 y500 y499 ag2_quo_long y540 (fun z0 z1=>quo_long_l6 x273 y498 y500 y499 ag2_quo_long n z0 z1) true) else (if 0≤(IntKind.i64.wrap ((x273.1.length:Int)-2))∧(IntKind.i64.wrap ((x273.1.length:Int)-2))<(x273.1.length:Int) then (if 0≤(IntKind.i64.wrap ((IntKind.i64.wrap (y498+(x273.1.length:Int)))-2))∧(IntKind.i64.wrap ((IntKind.i64.wrap (y498+(x273.1.length:Int)))-2)).toNat<(y500).length then (quo_long_j7 x273 y541 y498 y500 y499 ag2_quo_long y540 (fun z0 z1=>quo_long_l6 x273 y498 y500 y499 ag2_quo_long n z0 z1) (decide ((IntKind.u64.wrap (y540*(IntKind.u64.wrap (x273.1.getD ((IntKind.i64.wrap ((x273.1.length:Int)-2)).toNat) (kInt .u32).z))))>(orI .u64 (shlI .u64 y541 32) (IntKind.u64.wrap ((y500).getD ((IntKind.i64.wrap ((IntKind.i64.wrap (y498+(x273.1.length:Int)))-2)).toNat) (kInt .u32).z)))))) else none) else none))
def quo_long_l2 (x273:(List Int) × Bool) (x272:Int):Nat→Int→List Int→List Int→Option ((List Int) × (List Int) × Bool)
 | 0,_,_,_=>none
 | n+1,y498,y499,y500=>(if y498≥0 then (if 0≤(IntKind.i64.wrap (y498+(x273.1.length:Int)))∧(IntKind.i64.wrap (y498+(x273.1.length:Int))).toNat<(y500).length then (if 0≤(IntKind.i64.wrap ((IntKind.i64.wrap (y498+(x273.1.length:Int)))-1))∧(IntKind.i64.wrap ((IntKind.i64.wrap (y498+(x273.1.length:Int)))-1)).toNat<(y500).length then (if 0≤(IntKind.i64.wrap ((x273.1.length:Int)-1))∧(IntKind.i64.wrap ((x273.1.length:Int)-1))<(x273.1.length:Int) then (if (IntKind.u64.wrap (x273.1.getD ((IntKind.i64.wrap ((x273.1.length:Int)-1)).toNat) (kInt .u32).z))≠0 then (if 0≤(IntKind.i64.wrap ((x273.1.length:Int)-1))∧(IntKind.i64.wrap ((x273.1.length:Int)-1))<(x273.1.length:Int) then (if (IntKind.u64.wrap (x273.1.getD ((IntKind.i64.wrap ((x273.1.length:Int)-1)).toNat) (kInt .u32).z))≠0 then (quo_long_l6 x273 y498 y500 y499 (fun z0 z1 z2=>quo_long_l2 x273 x272 n z0 z1 z2) fuel (IntKind.u64.wrap ((orI .u64 (shlI .u64 (IntKind.u64.wrap ((y500).getD ((IntKind.i64.wrap (y498+(x273.1.length:Int))).toNat) (kInt .u32).z)) 32) (IntKind.u64.wrap ((y500).getD ((IntKind.i64.wrap ((IntKind.i64.wrap (y498+(x273.1.length:Int)))-1)).toNat) (kInt .u32).z))).tdiv (IntKind.u64.wrap (x273.1.getD ((IntKind.i64.wrap ((x273.1.length:Int)-1)).toNat) (kInt .u32).z)))) ((orI .u64 (shlI .u64 (IntKind.u64.wrap ((y500).getD ((IntKind.i64.wrap (y498+(x273.1.length:Int))).toNat) (kInt .u32).z)) 32) (IntKind.u64.wrap ((y500).getD ((IntKind.i64.wrap ((IntKind.i64.wrap (y498+(x273.1.length:Int)))-1)).toNat) (kInt .u32).z))).tmod (IntKind.u64.wrap (x273.1.getD ((IntKind.i64.wrap ((x273.1.length:Int)-1)).toNat) (kInt .u32).z)))) else none) else none) else none) else none) else none) else none) else (quo_long_j1 x273 x272 y499 y500))
def quo_long (a0:List Int) (a1:List Int):Option ((List Int) × (List Int) × Bool):=
 (if 0≤(IntKind.i64.wrap ((a1.length:Int)-1))∧(IntKind.i64.wrap ((a1.length:Int)-1))<(a1.length:Int) then ((mb_LeadingZeros32 (a1.getD ((IntKind.i64.wrap ((a1.length:Int)-1)).toNat) (kInt .u32).z)).bind fun x272=>((nat_Shl a1 x272).bind fun x273=>(if 0≤(IntKind.i64.wrap ((a0.length:Int)+1))∧(IntKind.i64.wrap ((a0.length:Int)+1))*4≤281474976710656∧(IntKind.i64.wrap ((a0.length:Int)+1))≤281474976710656 then ((nat_Shl a0 x272).bind fun x274=>(if 0≤(IntKind.i64.wrap ((IntKind.i64.wrap ((a0.length:Int)-(x273.1.length:Int)))+1))∧(IntKind.i64.wrap ((IntKind.i64.wrap ((a0.length:Int)-(x273.1.length:Int)))+1))*4≤281474976710656∧(IntKind.i64.wrap ((IntKind.i64.wrap ((a0.length:Int)-(x273.1.length:Int)))+1))≤281474976710656 then (quo_long_l2 x273 x272 fuel (IntKind.i64.wrap ((a0.length:Int)-(x273.1.length:Int))) (List.replicate ((IntKind.i64.wrap ((IntKind.i64.wrap ((a0.length:Int)-(x273.1.length:Int)))+1)).toNat) (kInt .u32).z) (copyL (List.replicate ((IntKind.i64.wrap ((a0.length:Int)+1)).toNat) (kInt .u32).z) x274.1)) else none)) else none))) else none)
def quo_DivMod (a0:List Int) (a1:List Int):Option ((List Int) × (List Int) × Bool):=
 ((nat_Trim a1).bind fun x8=>((nat_Trim a0).bind fun x9=>(if (x8.length:Int)=0 then (some ([],[],false)) else ((nat_Cmp x9 x8).bind fun x12=>(if x12<0 then (some ([],x9,true)) else (if (x8.length:Int)=1 then (if 0≤(0:Int)∧(0:Int)<(x8.length:Int) then ((quo_short x9 (x8.getD 0 (kInt .u32).z)).bind fun x13=>(some (x13.1,x13.2.1,x13.2.2))) else none) else ((quo_long x9 x8).bind fun x14=>(some (x14.1,x14.2.1,x14.2.2)))))))))
def dw_cut_j3 (a0:Bool) (y98:Int) (y103:List Int):Option (Bool × (List Int) × Int):=
 ((dyad_norm a0 y103 y98).bind fun x104=>(some (((x104).M).Neg,((x104).M).Mag,(x104).E)))
def dw_cut_j2 (y97:List Int) (a0:Bool) (y98:Int) (y100:Bool):Option (Bool × (List Int) × Int):=
 (if y100=true then ((nat_From 1).bind fun x105=>((nat_Add y97 x105).bind fun x106=>(dw_cut_j3 a0 y98 x106))) else (dw_cut_j3 a0 y98 y97))
def dw_cut_j1 (a0:Bool) (a5:Bool) (y97:List Int) (y98:Int) (y99:Bool):Option (Bool × (List Int) × Int):=
 (if y99=true then (dw_cut_j2 y97 a0 y98 a5) else (dw_cut_j2 y97 a0 y98 false))
def dw_cut_j4 (a1:List Int) (x68:Int) (a4:Int) (a0:Bool) (a5:Bool) (a2:Int) (y120:Bool):Option (Bool × (List Int) × Int):=
 ((nat_Shr a1 (IntKind.i64.wrap (x68-a4))).bind fun x121=>(dw_cut_j1 a0 a5 x121 (IntKind.i64.wrap (a2+(IntKind.i64.wrap (x68-a4)))) y120))
def dw_cut_j6 (a1:List Int) (y131:Int) (ag5_dw_cut:Bool→Int→Option (Bool × (List Int) × Int)) (x68:Int) (a4:Int) (a0:Bool) (a5:Bool) (a2:Int) (y130:Bool) (y132:Bool):Option (Bool × (List Int) × Int):=
 (if y132=true then ((nat_Bit a1 y131).bind fun x134=>(ag5_dw_cut x134 (IntKind.i64.wrap (y131+1)))) else (dw_cut_j4 a1 x68 a4 a0 a5 a2 y130))
def dw_cut_l5 (x68:Int) (a4:Int) (a1:List Int) (a0:Bool) (a5:Bool) (a2:Int):Nat→Bool→Int→Option (Bool × (List Int) × Int)
 | 0,_,_=>none
 | n+1,y130,y131=>(if y131<(IntKind.i64.wrap (x68-a4)) then (dw_cut_j6 a1 y131 (fun z0 z1=>dw_cut_l5 x68 a4 a1 a0 a5 a2 n z0 z1) x68 a4 a0 a5 a2 y130 (!y130)) else (dw_cut_j6 a1 y131 (fun z0 z1=>dw_cut_l5 x68 a4 a1 a0 a5 a2 n z0 z1) x68 a4 a0 a5 a2 y130 false))
def dw_cut (a0:Bool) (a1:List Int) (a2:Int) (a3:Bool) (a4:Int) (a5:Bool) (a6:Int) (a7:Bool) (a8:List Int) (a9:Int):Option (Bool × (List Int) × Int):=
 ((nat_Bits a1).bind fun x68=>(if (IntKind.i64.wrap (x68-a4))>0 then (dw_cut_l5 x68 a4 a1 a0 a5 a2 fuel a3 0) else (dw_cut_j1 a0 a5 a1 a2 a3)))
def dyad_inRange_j1 (y17:Bool):Option (Bool):=
 (some y17)
def dyad_inRange (a0:AD):Option (Bool):=
 ((dyad_zero a0).bind fun x18=>(if x18=true then (dyad_inRange_j1 true) else ((dyad_size a0).bind fun x19=>((dyad_within x19 (-65536) 65536).bind fun x20=>(if x20=true then ((dyad_within a0.E (-131072) 131072).bind fun x21=>(if x21=true then ((nat_Bits a0.M.Mag).bind fun x22=>(dyad_inRange_j1 (decide (x22≤262144)))) else (dyad_inRange_j1 false))) else (dyad_inRange_j1 false))))))
def dw_told_j1 (a1:Bool) (a2:List Int) (a3:Int) (y12:Bool) (y13:Int):Option (AD × Int × Int):=
 (if y12=true then (some ((⟨⟨false,[]⟩,0⟩:AD),y13,y13)) else (some ((⟨⟨a1,a2⟩,a3⟩:AD),0,y13)))
def dw_told (a0:Int) (a1:Bool) (a2:List Int) (a3:Int):Option (AD × Int × Int):=
 (if ¬a0=0 then ((dyad_fault_must true 4 a0 a1 a2 a3).bind fun x14=>(dw_told_j1 a1 a2 a3 (!x14.1) x14.2)) else ((dyad_inRange (⟨⟨a1,a2⟩,a3⟩:AD)).bind fun x15=>((dyad_fault_must x15 4 a0 a1 a2 a3).bind fun x16=>(dw_told_j1 a1 a2 a3 (!x16.1) x16.2))))
def dyad_Div_j2 (y33:Int) (y39:Bool) (y40:List Int) (y41:Int):Option (AD × Int):=
 ((dw_told y33 y39 y40 y41).bind fun x42=>(some ((⟨((x42.1).M),(x42.1).E⟩:AD),x42.2.1)))
def dyad_Div_j1 (a1:AD) (a0:AD) (a2:Int) (a3:Bool) (y32:Bool) (y33:Int):Option (AD × Int):=
 (if y32=true then ((nat_Bits a1.M.Mag).bind fun x43=>((nat_Bits a0.M.Mag).bind fun x44=>((dyad_up a0.M.Mag (mx 0 (IntKind.i64.wrap ((IntKind.i64.wrap ((IntKind.i64.wrap (a2+2))+x43))-x44)))).bind fun x45=>((quo_DivMod x45 a1.M.Mag).bind fun x46=>((dw_cut (a0.M.Neg != a1.M.Neg) x46.1 (IntKind.i64.wrap ((IntKind.i64.wrap (a0.E-a1.E))-(mx 0 (IntKind.i64.wrap ((IntKind.i64.wrap ((IntKind.i64.wrap (a2+2))+x43))-x44))))) (decide ((x46.2.1.length:Int)>0)) a2 (a3 != (a0.M.Neg != a1.M.Neg)) y33 false [] 0).bind fun x47=>(dyad_Div_j2 y33 x47.1 x47.2.1 x47.2.2)))))) else (dyad_Div_j2 y33 false [] 0))
def dyad_Div (a0:AD) (a1:AD) (a2:Int) (a3:Bool):Option (AD × Int):=
 ((dw_right [a0,a1] 0 false [] 0).bind fun x48=>(if x48.1=true then ((dw_prec a2 x48.2 false [] 0).bind fun x49=>(if x49.1=true then ((dyad_zero a1).bind fun x50=>((dyad_fault_must (!x50) 3 x49.2 false [] 0).bind fun x51=>(if x51.1=true then ((dyad_zero a0).bind fun x52=>(dyad_Div_j1 a1 a0 a2 a3 (!x52) x51.2)) else (dyad_Div_j1 a1 a0 a2 a3 false x51.2)))) else (dyad_Div_j1 a1 a0 a2 a3 false x49.2))) else (dyad_Div_j1 a1 a0 a2 a3 false x48.2)))
def cv_Div_1_1 (a0:AD) (a1:AD) (a2:Int) (a3:Int) (a4:Bool):Option (AD × Int):=
 ((dyad_Div a0 a1 a3 a4).bind fun x2=>(some ((⟨((x2.1).M),(x2.1).E⟩:AD),x2.2)))
def cv_take (a0:AD) (a1:Int) (a2:Int) (a3:Int):Option (AD × Int):=
 ((iv_trouble_note a1 a2 a3).bind fun x2=>(if ¬x2.1=true then (some ((⟨⟨false,[]⟩,0⟩:AD),x2.2)) else (some (a0,x2.2))))
def cv_four_e8e7_j3 (y731:Int) (y732:List AD):Option ((List AD) × Int):=
 (some (y732,y731))
def cv_four_e8e7_j5 (ag4_cv_four_e8e7:Int→Int→List AD→Option ((List AD) × Int)) (y892:Int) (y933:Int) (y934:List AD):Option ((List AD) × Int):=
 (ag4_cv_four_e8e7 (IntKind.i64.wrap (y892+1)) y933 y934)
def cv_four_e8e7_j6 (ag4_cv_four_e8e7:Int→Int→List AD→Option ((List AD) × Int)) (y892:Int) (y953:Int) (y954:List AD):Option ((List AD) × Int):=
 (cv_four_e8e7_j5 ag4_cv_four_e8e7 y892 y953 y954)
def cv_four_e8e7_l7 (y490:List AD) (y488:List AD) (y892:Int) (a3:Int) (a4:Bool) (ag4_cv_four_e8e7:Int→Int→List AD→Option ((List AD) × Int)):Nat→Int→Int→List AD→Option ((List AD) × Int)
 | 0,_,_,_=>none
 | n+1,y966,y967,y968=>(if y966<(y490.length:Int) then (if 0≤y966∧y966<(y490.length:Int) then ((cv_Div_1_1 (⟨((y488.getD y892.toNat zAD).M),(y488.getD y892.toNat zAD).E⟩:AD) (⟨((y490.getD y966.toNat zAD).M),(y490.getD y966.toNat zAD).E⟩:AD) y967 a3 a4).bind fun x971=>((cv_take (⟨((x971.1).M),(x971.1).E⟩:AD) x971.2 y967 a3).bind fun x972=>(if 0<[(⟨((x972.1).M),(x972.1).E⟩:AD)].length∧y968.length+[(⟨((x972.1).M),(x972.1).E⟩:AD)].length≤9223372036854775807∧(y968.length+[(⟨((x972.1).M),(x972.1).E⟩:AD)].length)*40≤140737488355328 then ((fun z0 z1 z2=>cv_four_e8e7_l7 y490 y488 y892 a3 a4 ag4_cv_four_e8e7 n z0 z1 z2) (IntKind.i64.wrap (y966+1)) x972.2 (y968++[(⟨((x972.1).M),(x972.1).E⟩:AD)])) else none))) else none) else (cv_four_e8e7_j6 ag4_cv_four_e8e7 y892 y967 y968))
def cv_four_e8e7_l4 (y488:List AD) (y490:List AD) (a3:Int) (a4:Bool):Nat→Int→Int→List AD→Option ((List AD) × Int)
 | 0,_,_,_=>none
 | n+1,y892,y893,y894=>(if y892<(y488.length:Int) then (if 0≤y892∧y892<(y488.length:Int) then (cv_four_e8e7_l7 y490 y488 y892 a3 a4 (fun z0 z1 z2=>cv_four_e8e7_l4 y488 y490 a3 a4 n z0 z1 z2) fuel 0 y893 y894) else none) else (cv_four_e8e7_j3 y893 y894))
def cv_four_e8e7_j2 (y488:List AD) (a3:Int) (a4:Bool) (a2:Int) (y490:List AD):Option ((List AD) × Int):=
 (cv_four_e8e7_l4 y488 y490 a3 a4 fuel 0 a2 [])
def cv_four_e8e7_j1 (a1:AI) (a3:Int) (a4:Bool) (a2:Int) (y488:List AD):Option ((List AD) × Int):=
 ((dyad_Cmp a1.Lo a1.Hi).bind fun x489=>(if x489=0 then (if 0≤(0:Int)∧(0:Int)≤(1:Int)∧(1:Int)≤([a1.Lo,a1.Hi].length:Int) then (cv_four_e8e7_j2 y488 a3 a4 a2 ([a1.Lo,a1.Hi].take 1)) else none) else (cv_four_e8e7_j2 y488 a3 a4 a2 [a1.Lo,a1.Hi])))
def cv_four_e8e7 (a0:AI) (a1:AI) (a2:Int) (a3:Int) (a4:Bool):Option ((List AD) × Int):=
 ((dyad_Cmp a0.Lo a0.Hi).bind fun x487=>(if x487=0 then (if 0≤(0:Int)∧(0:Int)≤(1:Int)∧(1:Int)≤([a0.Lo,a0.Hi].length:Int) then (cv_four_e8e7_j1 a1 a3 a4 a2 ([a0.Lo,a0.Hi].take 1)) else none) else (cv_four_e8e7_j1 a1 a3 a4 a2 [a0.Lo,a0.Hi])))
def iv_ends_j1 (y193:Bool) (y194:List Int) (y195:Int) (y196:Bool) (y197:List Int) (y198:Int):Option (AD × AD):=
 (some ((⟨⟨y193,y194⟩,y195⟩:AD),(⟨⟨y196,y197⟩,y198⟩:AD)))
def iv_ends_j4 (ag2_iv_ends:Int→Bool→List Int→Int→Bool→List Int→Int→Option (AD × AD)) (y238:Int) (y254:Bool) (y255:List Int) (y256:Int) (y258:Bool) (y259:List Int) (y260:Int):Option (AD × AD):=
 (ag2_iv_ends (IntKind.i64.wrap (y238+1)) y254 y255 y256 y258 y259 y260)
def iv_ends_j3 (a0:List AD) (y238:Int) (y242:Bool) (y243:List Int) (y244:Int) (ag2_iv_ends:Int→Bool→List Int→Int→Bool→List Int→Int→Option (AD × AD)) (y254:Bool) (y255:List Int) (y256:Int):Option (AD × AD):=
 ((dyad_Cmp (⟨((((a0.take a0.length).drop 1).getD y238.toNat zAD).M),(((a0.take a0.length).drop 1).getD y238.toNat zAD).E⟩:AD) (⟨⟨y242,y243⟩,y244⟩:AD)).bind fun x257=>(if x257>0 then (iv_ends_j4 ag2_iv_ends y238 y254 y255 y256 (((((a0.take a0.length).drop 1).getD y238.toNat zAD).M).Neg) (((((a0.take a0.length).drop 1).getD y238.toNat zAD).M).Mag) ((((a0.take a0.length).drop 1).getD y238.toNat zAD).E)) else (iv_ends_j4 ag2_iv_ends y238 y254 y255 y256 y242 y243 y244)))
def iv_ends_l2 (a0:List AD):Nat→Int→Bool→List Int→Int→Bool→List Int→Int→Option (AD × AD)
 | 0,_,_,_,_,_,_,_=>none
 | n+1,y238,y239,y240,y241,y242,y243,y244=>(if y238<(((a0.take a0.length).drop 1).length:Int) then (if 0≤y238∧y238<(((a0.take a0.length).drop 1).length:Int) then ((dyad_Cmp (⟨((((a0.take a0.length).drop 1).getD y238.toNat zAD).M),(((a0.take a0.length).drop 1).getD y238.toNat zAD).E⟩:AD) (⟨⟨y239,y240⟩,y241⟩:AD)).bind fun x253=>(if x253<0 then (iv_ends_j3 a0 y238 y242 y243 y244 (fun z0 z1 z2 z3 z4 z5 z6=>iv_ends_l2 a0 n z0 z1 z2 z3 z4 z5 z6) (((((a0.take a0.length).drop 1).getD y238.toNat zAD).M).Neg) (((((a0.take a0.length).drop 1).getD y238.toNat zAD).M).Mag) ((((a0.take a0.length).drop 1).getD y238.toNat zAD).E)) else (iv_ends_j3 a0 y238 y242 y243 y244 (fun z0 z1 z2 z3 z4 z5 z6=>iv_ends_l2 a0 n z0 z1 z2 z3 z4 z5 z6) y239 y240 y241))) else none) else (iv_ends_j1 y239 y240 y241 y242 y243 y244))
def iv_ends (a0:List AD):Option (AD × AD):=
 (if 0≤(0:Int)∧(0:Int)<(a0.length:Int) then (if 0≤(0:Int)∧(0:Int)<(a0.length:Int) then (if 0≤(1:Int)∧(1:Int)≤(a0.length:Int)∧(a0.length:Int)≤(a0.length:Int) then (iv_ends_l2 a0 fuel 0 (((a0.getD 0 zAD).M).Neg) (((a0.getD 0 zAD).M).Mag) ((a0.getD 0 zAD).E) (((a0.getD 0 zAD).M).Neg) (((a0.getD 0 zAD).M).Mag) ((a0.getD 0 zAD).E)) else none) else none) else none)
def cv_out (a0:AD) (a1:AD) (a2:Int) (a3:Int):Option (AI):=
 (if ¬a2=0 then (some (⟨⟨⟨false,[]⟩,0⟩,⟨⟨false,[]⟩,0⟩⟩:AI)) else (some (⟨a0,a1⟩:AI)))
def cv_Div (a0:AI) (a1:AI) (a2:Int) (a3:Int):Option (AI × Int):=
 ((cv_fine [a0,a1] a2 a3).bind fun x11=>(if ¬x11.1=true then (some ((⟨⟨⟨false,[]⟩,0⟩,⟨⟨false,[]⟩,0⟩⟩:AI),x11.2)) else ((iv_Has a1 (⟨⟨false,[]⟩,0⟩:AD)).bind fun x12=>(if x12=true then ((iv_trouble_note 3 x11.2 a3).bind fun x13=>(some ((⟨⟨⟨false,[]⟩,0⟩,⟨⟨false,[]⟩,0⟩⟩:AI),x13.2))) else ((cv_Div_1 false x11.2 a3).bind fun x14=>((cv_four_e8e7 a0 a1 x11.2 a3 x14).bind fun x15=>((iv_ends x15.1).bind fun x16=>((cv_Div_1 true x15.2 a3).bind fun x17=>((cv_four_e8e7 a0 a1 x15.2 a3 x17).bind fun x18=>((iv_ends x18.1).bind fun x19=>((cv_out (⟨((x16.1).M),(x16.1).E⟩:AD) (⟨((x19.2).M),(x19.2).E⟩:AD) x18.2 a3).bind fun x20=>(some ((⟨⟨(((x20).Lo).M),((x20).Lo).E⟩,⟨(((x20).Hi).M),((x20).Hi).E⟩⟩:AI),x18.2)))))))))))))
def dyad_Make (a0:ApiInt) (a1:Int):Option (AD × Bool):=
 ((dyad_within a1 (-100000) 100000).bind fun x4=>(if ¬x4=true then (some ((⟨⟨false,[]⟩,0⟩:AD),false)) else ((dyad_norm a0.Neg a0.Mag a1).bind fun x5=>((dyad_inRange (⟨((x5).M),(x5).E⟩:AD)).bind fun x6=>(if ¬x6=true then (some ((⟨⟨false,[]⟩,0⟩:AD),false)) else (some ((⟨((x5).M),(x5).E⟩:AD),true)))))))
def dyad_Half (a0:Int):Option (AD):=
 ((zint_From 1).bind fun x3=>((dyad_Make (x3) a0).bind fun x4=>(some (⟨((x4.1).M),(x4.1).E⟩:AD))))
def cv_Neg (a0:AI) (a1:Int) (a2:Int):Option (AI × Int):=
 ((cv_fine [a0] a1 a2).bind fun x4=>(if ¬x4.1=true then (some ((⟨⟨⟨false,[]⟩,0⟩,⟨⟨false,[]⟩,0⟩⟩:AI),x4.2)) else ((dyad_Neg a0.Hi).bind fun x5=>((dyad_Neg a0.Lo).bind fun x6=>(some ((⟨⟨((x5).M),(x5).E⟩,⟨((x6).M),(x6).E⟩⟩:AI),x4.2))))))
def iv_trouble_Err (a0:Int) (a1:Int):Option (Int):=
 (some a0)
def iv_In_j1 (y11:Bool):Option (Bool):=
 (some y11)
def iv_In (a0:AI) (a1:AI):Option (Bool):=
 ((iv_Right a0).bind fun x12=>(if x12=true then ((iv_Has a1 a0.Lo).bind fun x13=>(if x13=true then ((iv_Has a1 a0.Hi).bind fun x14=>(iv_In_j1 x14)) else (iv_In_j1 false))) else (iv_In_j1 false)))
def small_in (a0:AI) (a1:Int) (a2:Int) (a3:Int):Option (Bool × Int):=
 ((dyad_Half a1).bind fun x9=>((cv_Neg a0 a2 a3).bind fun x10=>((iv_trouble_Err x10.2 a3).bind fun x11=>(if ¬x11=0 then (some (false,x10.2)) else ((dyad_Neg (⟨((x9).M),(x9).E⟩:AD)).bind fun x12=>((iv_In a0 (⟨⟨((x12).M),(x12).E⟩,⟨((x9).M),(x9).E⟩⟩:AI)).bind fun x13=>(if x13=true then (some (true,x10.2)) else ((cv_Int 1 x10.2 a3).bind fun x14=>((cv_Int 0 x14.2 a3).bind fun x15=>((cv_Div (⟨⟨(((x14.1).Lo).M),((x14.1).Lo).E⟩,⟨(((x14.1).Hi).M),((x14.1).Hi).E⟩⟩:AI) (⟨⟨(((x15.1).Lo).M),((x15.1).Lo).E⟩,⟨(((x15.1).Hi).M),((x15.1).Hi).E⟩⟩:AI) x15.2 a3).bind fun x16=>(some (false,x16.2))))))))))))
def nat_Mul_j1 (y280:List Int):Option ((List Int)):=
 ((nat_trim y280).bind fun x281=>(some x281))
def nat_Mul_j3 (ag2_nat_Mul:Int→List Int→Option ((List Int))) (y342:Int) (y358:List Int):Option ((List Int)):=
 (ag2_nat_Mul (IntKind.i64.wrap (y342+1)) y358)
def nat_Mul_j4 (y342:Int) (x188:(List Int)) (ag2_nat_Mul:Int→List Int→Option ((List Int))) (y365:Int) (y366:List Int):Option ((List Int)):=
 (if 0≤(IntKind.i64.wrap (y342+(x188.length:Int)))∧(IntKind.i64.wrap (y342+(x188.length:Int))).toNat<(y366).length then (nat_Mul_j3 ag2_nat_Mul y342 ((y366).set ((IntKind.i64.wrap (y342+(x188.length:Int))).toNat) (IntKind.u32.wrap y365))) else none)
def nat_Mul_l5 (x188:(List Int)) (y342:Int) (x187:(List Int)) (ag2_nat_Mul:Int→List Int→Option ((List Int))):Nat→Int→Int→List Int→Option ((List Int))
 | 0,_,_,_=>none
 | n+1,y370,y371,y372=>(if y371<(x188.length:Int) then (if 0≤y371∧y371<(x188.length:Int) then (if 0≤(IntKind.i64.wrap (y342+y371))∧(IntKind.i64.wrap (y342+y371)).toNat<(y372).length then (if 0≤(IntKind.i64.wrap (y342+y371))∧(IntKind.i64.wrap (y342+y371)).toNat<(y372).length then ((fun z0 z1 z2=>nat_Mul_l5 x188 y342 x187 ag2_nat_Mul n z0 z1 z2) (shrI .u64 (IntKind.u64.wrap ((IntKind.u64.wrap ((IntKind.u64.wrap ((IntKind.u64.wrap (x187.getD y342.toNat (kInt .u32).z))*(IntKind.u64.wrap (x188.getD y371.toNat (kInt .u32).z))))+(IntKind.u64.wrap ((y372).getD ((IntKind.i64.wrap (y342+y371)).toNat) (kInt .u32).z))))+y370)) 32) (IntKind.i64.wrap (y371+1)) ((y372).set ((IntKind.i64.wrap (y342+y371)).toNat) (IntKind.u32.wrap (IntKind.u64.wrap ((IntKind.u64.wrap ((IntKind.u64.wrap ((IntKind.u64.wrap (x187.getD y342.toNat (kInt .u32).z))*(IntKind.u64.wrap (x188.getD y371.toNat (kInt .u32).z))))+(IntKind.u64.wrap ((y372).getD ((IntKind.i64.wrap (y342+y371)).toNat) (kInt .u32).z))))+y370))))) else none) else none) else none) else (nat_Mul_j4 y342 x188 ag2_nat_Mul y370 y372))
def nat_Mul_l2 (x187:(List Int)) (x188:(List Int)):Nat→Int→List Int→Option ((List Int))
 | 0,_,_=>none
 | n+1,y342,y343=>(if y342<(x187.length:Int) then (if 0≤y342∧y342<(x187.length:Int) then (nat_Mul_l5 x188 y342 x187 (fun z0 z1=>nat_Mul_l2 x187 x188 n z0 z1) fuel 0 0 y343) else none) else (nat_Mul_j1 y343))
def nat_Mul (a0:List Int) (a1:List Int):Option ((List Int)):=
 ((nat_trim a0).bind fun x187=>((nat_trim a1).bind fun x188=>(if 0≤(IntKind.i64.wrap ((x187.length:Int)+(x188.length:Int)))∧(IntKind.i64.wrap ((x187.length:Int)+(x188.length:Int)))*4≤281474976710656∧(IntKind.i64.wrap ((x187.length:Int)+(x188.length:Int)))≤281474976710656 then (nat_Mul_l2 x187 x188 fuel 0 (List.replicate ((IntKind.i64.wrap ((x187.length:Int)+(x188.length:Int))).toNat) (kInt .u32).z)) else none)))
def dyad_Mul_j1 (x10:Bool × Int) (y13:Bool) (y14:List Int) (y15:Int):Option (AD × Int):=
 ((dw_told x10.2 y13 y14 y15).bind fun x16=>(some ((⟨((x16.1).M),(x16.1).E⟩:AD),x16.2.1)))
def dyad_Mul (a0:AD) (a1:AD):Option (AD × Int):=
 ((dw_right [a0,a1] 0 false [] 0).bind fun x10=>(if x10.1=true then ((nat_Mul a0.M.Mag a1.M.Mag).bind fun x17=>((dyad_norm (a0.M.Neg != a1.M.Neg) x17 (IntKind.i64.wrap (a0.E+a1.E))).bind fun x18=>(dyad_Mul_j1 x10 (((x18).M).Neg) (((x18).M).Mag) ((x18).E)))) else (dyad_Mul_j1 x10 false [] 0)))
def cv_four_6ec2_j3 (y731:Int) (y732:List AD):Option ((List AD) × Int):=
 (some (y732,y731))
def cv_four_6ec2_j5 (ag4_cv_four_6ec2:Int→Int→List AD→Option ((List AD) × Int)) (y892:Int) (y933:Int) (y934:List AD):Option ((List AD) × Int):=
 (ag4_cv_four_6ec2 (IntKind.i64.wrap (y892+1)) y933 y934)
def cv_four_6ec2_j6 (ag4_cv_four_6ec2:Int→Int→List AD→Option ((List AD) × Int)) (y892:Int) (y953:Int) (y954:List AD):Option ((List AD) × Int):=
 (cv_four_6ec2_j5 ag4_cv_four_6ec2 y892 y953 y954)
def cv_four_6ec2_l7 (y490:List AD) (y488:List AD) (y892:Int) (a3:Int) (ag4_cv_four_6ec2:Int→Int→List AD→Option ((List AD) × Int)):Nat→Int→Int→List AD→Option ((List AD) × Int)
 | 0,_,_,_=>none
 | n+1,y966,y967,y968=>(if y966<(y490.length:Int) then (if 0≤y966∧y966<(y490.length:Int) then ((dyad_Mul (⟨((y488.getD y892.toNat zAD).M),(y488.getD y892.toNat zAD).E⟩:AD) (⟨((y490.getD y966.toNat zAD).M),(y490.getD y966.toNat zAD).E⟩:AD)).bind fun x971=>((cv_take (⟨((x971.1).M),(x971.1).E⟩:AD) x971.2 y967 a3).bind fun x972=>(if 0<[(⟨((x972.1).M),(x972.1).E⟩:AD)].length∧y968.length+[(⟨((x972.1).M),(x972.1).E⟩:AD)].length≤9223372036854775807∧(y968.length+[(⟨((x972.1).M),(x972.1).E⟩:AD)].length)*40≤140737488355328 then ((fun z0 z1 z2=>cv_four_6ec2_l7 y490 y488 y892 a3 ag4_cv_four_6ec2 n z0 z1 z2) (IntKind.i64.wrap (y966+1)) x972.2 (y968++[(⟨((x972.1).M),(x972.1).E⟩:AD)])) else none))) else none) else (cv_four_6ec2_j6 ag4_cv_four_6ec2 y892 y967 y968))
def cv_four_6ec2_l4 (y488:List AD) (y490:List AD) (a3:Int):Nat→Int→Int→List AD→Option ((List AD) × Int)
 | 0,_,_,_=>none
 | n+1,y892,y893,y894=>(if y892<(y488.length:Int) then (if 0≤y892∧y892<(y488.length:Int) then (cv_four_6ec2_l7 y490 y488 y892 a3 (fun z0 z1 z2=>cv_four_6ec2_l4 y488 y490 a3 n z0 z1 z2) fuel 0 y893 y894) else none) else (cv_four_6ec2_j3 y893 y894))
def cv_four_6ec2_j2 (y488:List AD) (a3:Int) (a2:Int) (y490:List AD):Option ((List AD) × Int):=
 (cv_four_6ec2_l4 y488 y490 a3 fuel 0 a2 [])
def cv_four_6ec2_j1 (a1:AI) (a3:Int) (a2:Int) (y488:List AD):Option ((List AD) × Int):=
 ((dyad_Cmp a1.Lo a1.Hi).bind fun x489=>(if x489=0 then (if 0≤(0:Int)∧(0:Int)≤(1:Int)∧(1:Int)≤([a1.Lo,a1.Hi].length:Int) then (cv_four_6ec2_j2 y488 a3 a2 ([a1.Lo,a1.Hi].take 1)) else none) else (cv_four_6ec2_j2 y488 a3 a2 [a1.Lo,a1.Hi])))
def cv_four_6ec2 (a0:AI) (a1:AI) (a2:Int) (a3:Int):Option ((List AD) × Int):=
 ((dyad_Cmp a0.Lo a0.Hi).bind fun x487=>(if x487=0 then (if 0≤(0:Int)∧(0:Int)≤(1:Int)∧(1:Int)≤([a0.Lo,a0.Hi].length:Int) then (cv_four_6ec2_j1 a1 a3 a2 ([a0.Lo,a0.Hi].take 1)) else none) else (cv_four_6ec2_j1 a1 a3 a2 [a0.Lo,a0.Hi])))
def dyad_Round_j2 (y16:Int) (y18:Bool) (y19:List Int) (y20:Int):Option (AD × Int):=
 ((dw_told y16 y18 y19 y20).bind fun x21=>(some ((⟨((x21.1).M),(x21.1).E⟩:AD),x21.2.1)))
def dyad_Round_j1 (a0:AD) (a1:Int) (a2:Bool) (y15:Bool) (y16:Int):Option (AD × Int):=
 (if y15=true then ((dw_cut a0.M.Neg a0.M.Mag a0.E false a1 (a2 != a0.M.Neg) y16 false [] 0).bind fun x22=>(dyad_Round_j2 y16 x22.1 x22.2.1 x22.2.2)) else (dyad_Round_j2 y16 false [] 0))
def dyad_Round (a0:AD) (a1:Int) (a2:Bool):Option (AD × Int):=
 ((dw_right [a0] 0 false [] 0).bind fun x23=>(if x23.1=true then ((dw_prec a1 x23.2 false [] 0).bind fun x24=>(dyad_Round_j1 a0 a1 a2 x24.1 x24.2)) else (dyad_Round_j1 a0 a1 a2 false x23.2)))
def cv_down (a0:AD) (a1:Int) (a2:Int):Option (AD × Int):=
 (if ¬a1=0 then (some ((⟨⟨false,[]⟩,0⟩:AD),a1)) else ((dyad_Round a0 a2 false).bind fun x3=>((cv_take (⟨((x3.1).M),(x3.1).E⟩:AD) x3.2 a1 a2).bind fun x4=>(some ((⟨((x4.1).M),(x4.1).E⟩:AD),x4.2)))))
def cv_up (a0:AD) (a1:Int) (a2:Int):Option (AD × Int):=
 (if ¬a1=0 then (some ((⟨⟨false,[]⟩,0⟩:AD),a1)) else ((dyad_Round a0 a2 true).bind fun x3=>((cv_take (⟨((x3.1).M),(x3.1).E⟩:AD) x3.2 a1 a2).bind fun x4=>(some ((⟨((x4.1).M),(x4.1).E⟩:AD),x4.2)))))
def cv_Mul (a0:AI) (a1:AI) (a2:Int) (a3:Int):Option (AI × Int):=
 ((cv_fine [a0,a1] a2 a3).bind fun x7=>(if ¬x7.1=true then (some ((⟨⟨⟨false,[]⟩,0⟩,⟨⟨false,[]⟩,0⟩⟩:AI),x7.2)) else ((cv_four_6ec2 a0 a1 x7.2 a3).bind fun x8=>((iv_ends x8.1).bind fun x9=>((cv_down (⟨((x9.1).M),(x9.1).E⟩:AD) x8.2 a3).bind fun x10=>((cv_up (⟨((x9.2).M),(x9.2).E⟩:AD) x10.2 a3).bind fun x11=>((cv_out (⟨((x10.1).M),(x10.1).E⟩:AD) (⟨((x11.1).M),(x11.1).E⟩:AD) x11.2 a3).bind fun x12=>(some ((⟨⟨(((x12).Lo).M),((x12).Lo).E⟩,⟨(((x12).Hi).M),((x12).Hi).E⟩⟩:AI),x11.2)))))))))
def cv_Prec (a0:Int) (a1:Int):Option (Int):=
 (some a1)
def small_Terms (a0:Int):Option (Int):=
 (some (IntKind.i64.wrap ((IntKind.i64.wrap ((mn (mx a0 0) 400).tdiv 2))+4)))
def small_odd_1_df97 (a0:Int) (a1:AI) (a2:Int) (a3:Int) (a4:Bool) (a5:List Int) (a6:Int) (a7:Bool) (a8:List Int) (a9:Int):Option (AI × AI × Int):=
 ((cv_Mul a1 (⟨⟨⟨a4,a5⟩,a6⟩,⟨⟨a7,a8⟩,a9⟩⟩:AI) a2 a3).bind fun x5=>((cv_Neg (⟨⟨(((x5.1).Lo).M),((x5.1).Lo).E⟩,⟨(((x5.1).Hi).M),((x5.1).Hi).E⟩⟩:AI) x5.2 a3).bind fun x6=>((cv_Int (IntKind.i64.wrap ((IntKind.i64.wrap (2*a0))+1)) x6.2 a3).bind fun x7=>((cv_Div (⟨⟨(((x6.1).Lo).M),((x6.1).Lo).E⟩,⟨(((x6.1).Hi).M),((x6.1).Hi).E⟩⟩:AI) (⟨⟨(((x7.1).Lo).M),((x7.1).Lo).E⟩,⟨(((x7.1).Hi).M),((x7.1).Hi).E⟩⟩:AI) x7.2 a3).bind fun x8=>(some ((⟨⟨(((x6.1).Lo).M),((x6.1).Lo).E⟩,⟨(((x6.1).Hi).M),((x6.1).Hi).E⟩⟩:AI),(⟨⟨(((x8.1).Lo).M),((x8.1).Lo).E⟩,⟨(((x8.1).Hi).M),((x8.1).Hi).E⟩⟩:AI),x8.2))))))
def dyad_Add_j1 (x8:Bool × Int) (y10:Bool) (y11:List Int) (y12:Int):Option (AD × Int):=
 ((dw_told x8.2 y10 y11 y12).bind fun x13=>(some ((⟨((x13.1).M),(x13.1).E⟩:AD),x13.2.1)))
def dyad_Add (a0:AD) (a1:AD):Option (AD × Int):=
 ((dw_right [a0,a1] 0 false [] 0).bind fun x8=>(if x8.1=true then ((dyad_sum a0 a1).bind fun x14=>(dyad_Add_j1 x8 (((x14).M).Neg) (((x14).M).Mag) ((x14).E))) else (dyad_Add_j1 x8 false [] 0)))
def cv_sum (a0:AD) (a1:AD) (a2:Int) (a3:Int):Option (AD × Int):=
 (if ¬a2=0 then (some ((⟨⟨false,[]⟩,0⟩:AD),a2)) else ((dyad_Add a0 a1).bind fun x3=>((cv_take (⟨((x3.1).M),(x3.1).E⟩:AD) x3.2 a2 a3).bind fun x4=>(some ((⟨((x4.1).M),(x4.1).E⟩:AD),x4.2)))))
def cv_Add (a0:AI) (a1:AI) (a2:Int) (a3:Int):Option (AI × Int):=
 ((cv_fine [a0,a1] a2 a3).bind fun x7=>(if ¬x7.1=true then (some ((⟨⟨⟨false,[]⟩,0⟩,⟨⟨false,[]⟩,0⟩⟩:AI),x7.2)) else ((cv_sum a0.Lo a1.Lo x7.2 a3).bind fun x8=>((cv_down (⟨((x8.1).M),(x8.1).E⟩:AD) x8.2 a3).bind fun x9=>((cv_sum a0.Hi a1.Hi x9.2 a3).bind fun x10=>((cv_up (⟨((x10.1).M),(x10.1).E⟩:AD) x10.2 a3).bind fun x11=>((cv_out (⟨((x9.1).M),(x9.1).E⟩:AD) (⟨((x11.1).M),(x11.1).E⟩:AD) x11.2 a3).bind fun x12=>(some ((⟨⟨(((x12).Lo).M),((x12).Lo).E⟩,⟨(((x12).Hi).M),((x12).Hi).E⟩⟩:AI),x11.2)))))))))
def cv_Wide (a0:AI) (a1:AD) (a2:Int) (a3:Int):Option (AI × Int):=
 ((cv_fine [a0,(⟨⟨⟨false,[]⟩,0⟩,a1⟩:AI)] a2 a3).bind fun x8=>(if ¬x8.1=true then (some ((⟨⟨⟨false,[]⟩,0⟩,⟨⟨false,[]⟩,0⟩⟩:AI),x8.2)) else ((dyad_Neg a1).bind fun x9=>((cv_sum a0.Lo (⟨((x9).M),(x9).E⟩:AD) x8.2 a3).bind fun x10=>((cv_down (⟨((x10.1).M),(x10.1).E⟩:AD) x10.2 a3).bind fun x11=>((cv_sum a0.Hi a1 x11.2 a3).bind fun x12=>((cv_up (⟨((x12.1).M),(x12.1).E⟩:AD) x12.2 a3).bind fun x13=>((cv_out (⟨((x11.1).M),(x11.1).E⟩:AD) (⟨((x13.1).M),(x13.1).E⟩:AD) x13.2 a3).bind fun x14=>(some ((⟨⟨(((x14).Lo).M),((x14).Lo).E⟩,⟨(((x14).Hi).M),((x14).Hi).E⟩⟩:AI),x13.2))))))))))
def small_series_5374_j1 (a2:Int) (y135:Int) (y136:Bool) (y137:List Int) (y138:Int) (y139:Bool) (y140:List Int) (y141:Int):Option (AI × Int):=
 ((cv_Prec y135 a2).bind fun x142=>((dyad_Half (IntKind.i64.wrap (0-x142))).bind fun x143=>((cv_Wide (⟨⟨⟨y136,y137⟩,y138⟩,⟨⟨y139,y140⟩,y141⟩⟩:AI) (⟨((x143).M),(x143).E⟩:AD) y135 a2).bind fun x144=>(some ((⟨⟨(((x144.1).Lo).M),((x144.1).Lo).E⟩,⟨(((x144.1).Hi).M),((x144.1).Hi).E⟩⟩:AI),x144.2)))))
def small_series_5374_l2 (x94:Int) (a2:Int) (a3:Bool) (a4:List Int) (a5:Int) (a6:Bool) (a7:List Int) (a8:Int):Nat→Int→Int→Bool→List Int→Int→Bool→List Int→Int→Bool→List Int→Int→Bool→List Int→Int→Option (AI × Int)
 | 0,_,_,_,_,_,_,_,_,_,_,_,_,_,_=>none
 | n+1,y167,y168,y169,y170,y171,y172,y173,y174,y175,y176,y177,y178,y179,y180=>(if y167<x94 then ((small_odd_1_df97 (IntKind.i64.wrap (y167+1)) (⟨⟨⟨y175,y176⟩,y177⟩,⟨⟨y178,y179⟩,y180⟩⟩:AI) y168 a2 a3 a4 a5 a6 a7 a8).bind fun x183=>((cv_Add (⟨⟨⟨y169,y170⟩,y171⟩,⟨⟨y172,y173⟩,y174⟩⟩:AI) (⟨⟨(((x183.2.1).Lo).M),((x183.2.1).Lo).E⟩,⟨(((x183.2.1).Hi).M),((x183.2.1).Hi).E⟩⟩:AI) x183.2.2 a2).bind fun x184=>((fun z0 z1 z2 z3 z4 z5 z6 z7 z8 z9 z10 z11 z12 z13=>small_series_5374_l2 x94 a2 a3 a4 a5 a6 a7 a8 n z0 z1 z2 z3 z4 z5 z6 z7 z8 z9 z10 z11 z12 z13) (IntKind.i64.wrap (y167+1)) x184.2 ((((x184.1).Lo).M).Neg) ((((x184.1).Lo).M).Mag) (((x184.1).Lo).E) ((((x184.1).Hi).M).Neg) ((((x184.1).Hi).M).Mag) (((x184.1).Hi).E) ((((x183.1).Lo).M).Neg) ((((x183.1).Lo).M).Mag) (((x183.1).Lo).E) ((((x183.1).Hi).M).Neg) ((((x183.1).Hi).M).Mag) (((x183.1).Hi).E)))) else (small_series_5374_j1 a2 y168 y169 y170 y171 y172 y173 y174))
def small_series_5374 (a0:AI) (a1:Int) (a2:Int) (a3:Bool) (a4:List Int) (a5:Int) (a6:Bool) (a7:List Int) (a8:Int):Option (AI × Int):=
 ((cv_Prec a1 a2).bind fun x93=>((small_Terms x93).bind fun x94=>(small_series_5374_l2 x94 a2 a3 a4 a5 a6 a7 a8 fuel 0 a1 a0.Lo.M.Neg a0.Lo.M.Mag a0.Lo.E a0.Hi.M.Neg a0.Hi.M.Mag a0.Hi.E a0.Lo.M.Neg a0.Lo.M.Mag a0.Lo.E a0.Hi.M.Neg a0.Hi.M.Mag a0.Hi.E)))
def small_odd_8ed8 (a0:AI) (a1:Int) (a2:Int):Option (AI × Int):=
 ((small_in a0 (-1) a1 a2).bind fun x4=>(if ¬x4.1=true then (some ((⟨⟨⟨false,[]⟩,0⟩,⟨⟨false,[]⟩,0⟩⟩:AI),x4.2)) else ((cv_Mul a0 a0 x4.2 a2).bind fun x5=>((small_series_5374 a0 x5.2 a2 ((((x5.1).Lo).M).Neg) ((((x5.1).Lo).M).Mag) (((x5.1).Lo).E) ((((x5.1).Hi).M).Neg) ((((x5.1).Hi).M).Mag) (((x5.1).Hi).E)).bind fun x6=>(some ((⟨⟨(((x6.1).Lo).M),((x6.1).Lo).E⟩,⟨(((x6.1).Hi).M),((x6.1).Hi).E⟩⟩:AI),x6.2))))))
def small_Atan (a0:AI) (a1:Int) (a2:Int):Option (AI × Int):=
 ((small_odd_8ed8 a0 a1 a2).bind fun x2=>(some ((⟨⟨(((x2.1).Lo).M),((x2.1).Lo).E⟩,⟨(((x2.1).Hi).M),((x2.1).Hi).E⟩⟩:AI),x2.2)))
def dyad_Scale_j2 (y20:Int) (y21:Bool) (y22:List Int) (y23:Int):Option (AD × Int):=
 ((dw_told y20 y21 y22 y23).bind fun x24=>(some ((⟨((x24.1).M),(x24.1).E⟩:AD),x24.2.1)))
def dyad_Scale_j1 (a0:AD) (a1:Int) (y19:Bool) (y20:Int):Option (AD × Int):=
 (if y19=true then (dyad_Scale_j2 y20 a0.M.Neg a0.M.Mag (IntKind.i64.wrap (a0.E+a1))) else (dyad_Scale_j2 y20 false [] 0))
def dyad_Scale (a0:AD) (a1:Int):Option (AD × Int):=
 ((dw_right [a0] 0 false [] 0).bind fun x25=>(if x25.1=true then ((dyad_within a1 (-100000) 100000).bind fun x26=>((dyad_fault_must x26 4 x25.2 false [] 0).bind fun x27=>(if x27.1=true then ((dyad_zero a0).bind fun x28=>(dyad_Scale_j1 a0 a1 (!x28) x27.2)) else (dyad_Scale_j1 a0 a1 false x27.2)))) else (dyad_Scale_j1 a0 a1 false x25.2)))
def cv_Scale (a0:AI) (a1:Int) (a2:Int) (a3:Int):Option (AI × Int):=
 ((cv_fine [a0] a2 a3).bind fun x7=>(if ¬x7.1=true then (some ((⟨⟨⟨false,[]⟩,0⟩,⟨⟨false,[]⟩,0⟩⟩:AI),x7.2)) else ((dyad_Scale a0.Lo a1).bind fun x8=>((cv_take (⟨((x8.1).M),(x8.1).E⟩:AD) x8.2 x7.2 a3).bind fun x9=>(if ¬x9.2=0 then (some ((⟨⟨⟨false,[]⟩,0⟩,⟨⟨false,[]⟩,0⟩⟩:AI),x9.2)) else ((dyad_Scale a0.Hi a1).bind fun x10=>((cv_take (⟨((x10.1).M),(x10.1).E⟩:AD) x10.2 x9.2 a3).bind fun x11=>((cv_out (⟨((x9.1).M),(x9.1).E⟩:AD) (⟨((x11.1).M),(x11.1).E⟩:AD) x11.2 a3).bind fun x12=>(some ((⟨⟨(((x12).Lo).M),((x12).Lo).E⟩,⟨(((x12).Hi).M),((x12).Hi).E⟩⟩:AI),x11.2))))))))))
def konst_parts_3d9d_j2 (y217:Int) (y218:List AI):Option ((List AI) × Int):=
 (some (y218,y217))
def konst_parts_3d9d_j4 (ag3_konst_parts_3d9d:Int→Int→List AI→Option ((List AI) × Int)) (y230:Int) (y235:Int) (y236:List AI):Option ((List AI) × Int):=
 (if 0<y236.length then (ag3_konst_parts_3d9d (IntKind.i64.wrap (y230+1)) y235 y236) else none)
def konst_parts_3d9d_l3 (a1:Int) (a5:Int) (a3:Int):Nat→Int→Int→List AI→Option ((List AI) × Int)
 | 0,_,_,_=>none
 | n+1,y230,y231,y232=>(if y230<2 then (if y230=0 then (if 0<y232.length then (if 0≤y230∧y230.toNat<(y232).length then ((cv_Scale (⟨⟨((((y232).getD y230.toNat zAI).Lo).M),(((y232).getD y230.toNat zAI).Lo).E⟩,⟨((((y232).getD y230.toNat zAI).Hi).M),(((y232).getD y230.toNat zAI).Hi).E⟩⟩:AI) a1 y231 a5).bind fun x237=>(if 0≤y230∧y230.toNat<(y232).length then (konst_parts_3d9d_j4 (fun z0 z1 z2=>konst_parts_3d9d_l3 a1 a5 a3 n z0 z1 z2) y230 x237.2 ((y232).set y230.toNat (⟨⟨(((x237.1).Lo).M),((x237.1).Lo).E⟩,⟨(((x237.1).Hi).M),((x237.1).Hi).E⟩⟩:AI))) else none)) else none) else none) else (if y230=1 then (if 0<y232.length then (if 0≤y230∧y230.toNat<(y232).length then ((cv_Scale (⟨⟨((((y232).getD y230.toNat zAI).Lo).M),(((y232).getD y230.toNat zAI).Lo).E⟩,⟨((((y232).getD y230.toNat zAI).Hi).M),(((y232).getD y230.toNat zAI).Hi).E⟩⟩:AI) a3 y231 a5).bind fun x238=>(if 0≤y230∧y230.toNat<(y232).length then (konst_parts_3d9d_j4 (fun z0 z1 z2=>konst_parts_3d9d_l3 a1 a5 a3 n z0 z1 z2) y230 x238.2 ((y232).set y230.toNat (⟨⟨(((x238.1).Lo).M),((x238.1).Lo).E⟩,⟨(((x238.1).Hi).M),((x238.1).Hi).E⟩⟩:AI))) else none)) else none) else none) else none)) else (konst_parts_3d9d_j2 y231 y232))
def konst_parts_3d9d_j1 (a1:Int) (a5:Int) (a3:Int) (y195:Int) (y196:List AI):Option ((List AI) × Int):=
 (konst_parts_3d9d_l3 a1 a5 a3 fuel 0 y195 y196)
def konst_parts_3d9d_j6 (ag5_konst_parts_3d9d:Int→Int→List AI→Option ((List AI) × Int)) (y268:Int) (y279:Int) (y280:List AI):Option ((List AI) × Int):=
 (if 0<y280.length then (ag5_konst_parts_3d9d (IntKind.i64.wrap (y268+1)) y279 y280) else none)
def konst_parts_3d9d_l5 (a5:Int) (a0:Int) (a2:Int) (a1:Int) (a3:Int):Nat→Int→Int→List AI→Option ((List AI) × Int)
 | 0,_,_,_=>none
 | n+1,y268,y269,y270=>(if y268<2 then (if y268=0 then ((cv_Int 1 y269 a5).bind fun x281=>((cv_Int a0 x281.2 a5).bind fun x282=>((cv_Div (⟨⟨(((x281.1).Lo).M),((x281.1).Lo).E⟩,⟨(((x281.1).Hi).M),((x281.1).Hi).E⟩⟩:AI) (⟨⟨(((x282.1).Lo).M),((x282.1).Lo).E⟩,⟨(((x282.1).Hi).M),((x282.1).Hi).E⟩⟩:AI) x282.2 a5).bind fun x283=>((small_Atan (⟨⟨(((x283.1).Lo).M),((x283.1).Lo).E⟩,⟨(((x283.1).Hi).M),((x283.1).Hi).E⟩⟩:AI) x283.2 a5).bind fun x284=>(if 0<[(⟨⟨(((x284.1).Lo).M),((x284.1).Lo).E⟩,⟨(((x284.1).Hi).M),((x284.1).Hi).E⟩⟩:AI)].length∧y270.length+[(⟨⟨(((x284.1).Lo).M),((x284.1).Lo).E⟩,⟨(((x284.1).Hi).M),((x284.1).Hi).E⟩⟩:AI)].length≤9223372036854775807∧(y270.length+[(⟨⟨(((x284.1).Lo).M),((x284.1).Lo).E⟩,⟨(((x284.1).Hi).M),((x284.1).Hi).E⟩⟩:AI)].length)*80≤140737488355328 then (konst_parts_3d9d_j6 (fun z0 z1 z2=>konst_parts_3d9d_l5 a5 a0 a2 a1 a3 n z0 z1 z2) y268 x284.2 (y270++[(⟨⟨(((x284.1).Lo).M),((x284.1).Lo).E⟩,⟨(((x284.1).Hi).M),((x284.1).Hi).E⟩⟩:AI)])) else none))))) else (if y268=1 then ((cv_Int 1 y269 a5).bind fun x285=>((cv_Int a2 x285.2 a5).bind fun x286=>((cv_Div (⟨⟨(((x285.1).Lo).M),((x285.1).Lo).E⟩,⟨(((x285.1).Hi).M),((x285.1).Hi).E⟩⟩:AI) (⟨⟨(((x286.1).Lo).M),((x286.1).Lo).E⟩,⟨(((x286.1).Hi).M),((x286.1).Hi).E⟩⟩:AI) x286.2 a5).bind fun x287=>((small_Atan (⟨⟨(((x287.1).Lo).M),((x287.1).Lo).E⟩,⟨(((x287.1).Hi).M),((x287.1).Hi).E⟩⟩:AI) x287.2 a5).bind fun x288=>(if 0<[(⟨⟨(((x288.1).Lo).M),((x288.1).Lo).E⟩,⟨(((x288.1).Hi).M),((x288.1).Hi).E⟩⟩:AI)].length∧y270.length+[(⟨⟨(((x288.1).Lo).M),((x288.1).Lo).E⟩,⟨(((x288.1).Hi).M),((x288.1).Hi).E⟩⟩:AI)].length≤9223372036854775807∧(y270.length+[(⟨⟨(((x288.1).Lo).M),((x288.1).Lo).E⟩,⟨(((x288.1).Hi).M),((x288.1).Hi).E⟩⟩:AI)].length)*80≤140737488355328 then (konst_parts_3d9d_j6 (fun z0 z1 z2=>konst_parts_3d9d_l5 a5 a0 a2 a1 a3 n z0 z1 z2) y268 x288.2 (y270++[(⟨⟨(((x288.1).Lo).M),((x288.1).Lo).E⟩,⟨(((x288.1).Hi).M),((x288.1).Hi).E⟩⟩:AI)])) else none))))) else none)) else (konst_parts_3d9d_j1 a1 a5 a3 y269 y270))
def konst_parts_3d9d (a0:Int) (a1:Int) (a2:Int) (a3:Int) (a4:Int) (a5:Int):Option ((List AI) × Int):=
 (konst_parts_3d9d_l5 a5 a0 a2 a1 a3 fuel 0 a4 [])
def cv_Sub (a0:AI) (a1:AI) (a2:Int) (a3:Int):Option (AI × Int):=
 ((cv_Neg a1 a2 a3).bind fun x3=>((cv_Add a0 (⟨⟨(((x3.1).Lo).M),((x3.1).Lo).E⟩,⟨(((x3.1).Hi).M),((x3.1).Hi).E⟩⟩:AI) x3.2 a3).bind fun x4=>(some ((⟨⟨(((x4.1).Lo).M),((x4.1).Lo).E⟩,⟨(((x4.1).Hi).M),((x4.1).Hi).E⟩⟩:AI),x4.2))))
def konst_Pi (a0:Int) (a1:Int):Option (AI × Int):=
 ((konst_parts_3d9d 5 4 239 2 a0 a1).bind fun x3=>(if 0≤(0:Int)∧(0:Int)<(x3.1.length:Int) then (if 0≤(1:Int)∧(1:Int)<(x3.1.length:Int) then ((cv_Sub (⟨⟨(((x3.1.getD 0 zAI).Lo).M),((x3.1.getD 0 zAI).Lo).E⟩,⟨(((x3.1.getD 0 zAI).Hi).M),((x3.1.getD 0 zAI).Hi).E⟩⟩:AI) (⟨⟨(((x3.1.getD 1 zAI).Lo).M),((x3.1.getD 1 zAI).Lo).E⟩,⟨(((x3.1.getD 1 zAI).Hi).M),((x3.1.getD 1 zAI).Hi).E⟩⟩:AI) x3.2 a1).bind fun x4=>(some ((⟨⟨(((x4.1).Lo).M),((x4.1).Lo).E⟩,⟨(((x4.1).Hi).M),((x4.1).Hi).E⟩⟩:AI),x4.2))) else none) else none))
def cv_Mid (a0:AI) (a1:Int) (a2:Int):Option (AD × Int):=
 ((cv_fine [a0] a1 a2).bind fun x6=>(if ¬x6.1=true then (some ((⟨⟨false,[]⟩,0⟩:AD),x6.2)) else ((cv_sum a0.Lo a0.Hi x6.2 a2).bind fun x7=>(if ¬x7.2=0 then (some ((⟨⟨false,[]⟩,0⟩:AD),x7.2)) else ((dyad_Scale (⟨((x7.1).M),(x7.1).E⟩:AD) (-1)).bind fun x8=>((cv_take (⟨((x8.1).M),(x8.1).E⟩:AD) x8.2 x7.2 a2).bind fun x9=>((cv_down (⟨((x9.1).M),(x9.1).E⟩:AD) x9.2 a2).bind fun x10=>(some ((⟨((x10.1).M),(x10.1).E⟩:AD),x10.2)))))))))
def trig_fits_j1 (y8:Bool):Option (Bool):=
 (some y8)
def trig_fits (a0:AD) (a1:Int):Option (Bool):=
 (if a1≥2 then (if a1≤336 then ((dyad_Right a0).bind fun x9=>(if x9=true then ((nat_Bits a0.M.Mag).bind fun x10=>(trig_fits_j1 (decide (x10≤400)))) else (trig_fits_j1 false))) else (trig_fits_j1 false)) else (trig_fits_j1 false))
def dyad_Size_j1 (a0:AD) (y9:Bool):Option (Int × Bool):=
 (if y9=true then (some (0,false)) else ((dyad_size a0).bind fun x10=>(some (x10,true))))
def dyad_Size (a0:AD):Option (Int × Bool):=
 ((dyad_Right a0).bind fun x11=>(if ¬x11=true then (dyad_Size_j1 a0 true) else ((dyad_zero a0).bind fun x12=>(dyad_Size_j1 a0 x12))))
def zint_Shift_j2 (a1:Int) (x19:ZintSigned) (y27:List Int):Option (ApiInt × Bool):=
 ((nat_Shr y27 (IntKind.i64.wrap (0-a1))).bind fun x28=>((zint_Make ((x19).neg) x28).bind fun x29=>(some ((x29),true))))
def zint_Shift_j1 (a0:ApiInt) (a1:Int) (y18:Bool):Option (ApiInt × Bool):=
 (if y18=true then (some ((⟨false,[]⟩:ApiInt),false)) else ((zint_of a0).bind fun x19=>(if a1≥0 then ((nat_Shl (((x19).size).mag) a1).bind fun x20=>((zint_Make ((x19).neg) x20.1).bind fun x21=>(some ((x21),true)))) else (if ((x19).neg)=true then ((nat_From 1).bind fun x30=>((nat_Shl x30 (IntKind.i64.wrap (0-a1))).bind fun x31=>((nat_From 1).bind fun x32=>((nat_Sub x31.1 x32).bind fun x33=>((nat_Add (((x19).size).mag) x33.1).bind fun x34=>(zint_Shift_j2 a1 x19 x34)))))) else (zint_Shift_j2 a1 x19 (((x19).size).mag))))))
def zint_Shift (a0:ApiInt) (a1:Int):Option (ApiInt × Bool):=
 (if a1<(-100000) then (zint_Shift_j1 a0 a1 true) else (zint_Shift_j1 a0 a1 (decide (a1>100000))))
def dyad_Floor_j2 (y56:Bool) (y57:List Int):Option (ApiInt × Int):=
 (some ((⟨y56,y57⟩:ApiInt),0))
def dyad_Floor_l3:Nat→Int→Bool→List Int→Option (ApiInt × Int)
 | 0,_,_,_=>none
 | n+1,y65,y66,y67=>(if y65>0 then ((zint_Shift (⟨y66,y67⟩:ApiInt) (IntKind.i64.wrap (0-(mn y65 100000)))).bind fun x69=>((fun z0 z1 z2=>dyad_Floor_l3 n z0 z1 z2) (IntKind.i64.wrap (y65-100000)) ((x69.1).Neg) ((x69.1).Mag))) else (dyad_Floor_j2 y66 y67))
def dyad_Floor_j1 (a0:AD) (y40:Bool) (y41:Int):Option (ApiInt × Int):=
 (if y40=true then (some ((⟨false,[]⟩:ApiInt),y41)) else (if a0.E≥0 then ((dyad_up a0.M.Mag a0.E).bind fun x42=>((zint_Make a0.M.Neg x42).bind fun x43=>(some ((x43),0)))) else (dyad_Floor_l3 fuel (IntKind.i64.wrap (0-a0.E)) a0.M.Neg a0.M.Mag)))
def dyad_Floor (a0:AD):Option (ApiInt × Int):=
 ((dw_right [a0] 0 a0.M.Neg a0.M.Mag a0.E).bind fun x70=>(if ¬x70.1=true then (dyad_Floor_j1 a0 true x70.2) else ((dyad_inRange a0).bind fun x71=>((dyad_fault_must x71 4 x70.2 a0.M.Neg a0.M.Mag a0.E).bind fun x72=>(dyad_Floor_j1 a0 (!x72.1) x72.2)))))
def nat_Small (a0:List Int):Option (Int × Bool):=
 ((nat_trim a0).bind fun x2=>(if (x2.length:Int)=0 then (some (0,true)) else (if (x2.length:Int)=1 then (if 0≤(0:Int)∧(0:Int)<(x2.length:Int) then (some ((IntKind.u64.wrap (x2.getD 0 (kInt .u32).z)),true)) else none) else (if (x2.length:Int)=2 then (if 0≤(1:Int)∧(1:Int)<(x2.length:Int) then (if 0≤(0:Int)∧(0:Int)<(x2.length:Int) then (some ((orI .u64 (shlI .u64 (IntKind.u64.wrap (x2.getD 1 (kInt .u32).z)) 32) (IntKind.u64.wrap (x2.getD 0 (kInt .u32).z))),true)) else none) else none) else (some (0,false))))))
def zint_Small_j2 (x8:Int × Bool) (y12:Bool):Option (Int × Bool):=
 (if y12=true then (some ((IntKind.i64.wrap x8.1),true)) else (some (0,false)))
def zint_Small_j1 (x8:Int × Bool) (x7:ZintSigned) (y11:Bool):Option (Int × Bool):=
 (if y11=true then (some ((IntKind.i64.wrap (IntKind.u64.wrap (0-x8.1))),true)) else (if x8.2=true then (if ¬((x7).neg)=true then (zint_Small_j2 x8 (decide (x8.1<9223372036854775808))) else (zint_Small_j2 x8 false)) else (zint_Small_j2 x8 false)))
def zint_Small (a0:ApiInt):Option (Int × Bool):=
 ((zint_of a0).bind fun x7=>((nat_Small (((x7).size).mag)).bind fun x8=>(if x8.2=true then (if ((x7).neg)=true then (zint_Small_j1 x8 x7 (decide (x8.1≤9223372036854775808))) else (zint_Small_j1 x8 x7 false)) else (zint_Small_j1 x8 x7 false))))
def trig_Turns_j2 (a0:AD) (x36:AI × Int) (x29:Int × Int × Int) (x39:Int × Bool) (x31:AI × Int) (y40:Bool):Option (Int × AI × Int):=
 (if y40=true then (some (0,(⟨⟨⟨false,[]⟩,0⟩,⟨⟨false,[]⟩,0⟩⟩:AI),4)) else ((cv_Point a0 x36.2 x29.2.2).bind fun x41=>((cv_Int x39.1 x41.2 x29.2.2).bind fun x42=>((cv_Mul (⟨⟨(((x42.1).Lo).M),((x42.1).Lo).E⟩,⟨(((x42.1).Hi).M),((x42.1).Hi).E⟩⟩:AI) (⟨⟨(((x31.1).Lo).M),((x31.1).Lo).E⟩,⟨(((x31.1).Hi).M),((x31.1).Hi).E⟩⟩:AI) x42.2 x29.2.2).bind fun x43=>((cv_Sub (⟨⟨(((x41.1).Lo).M),((x41.1).Lo).E⟩,⟨(((x41.1).Hi).M),((x41.1).Hi).E⟩⟩:AI) (⟨⟨(((x43.1).Lo).M),((x43.1).Lo).E⟩,⟨(((x43.1).Hi).M),((x43.1).Hi).E⟩⟩:AI) x43.2 x29.2.2).bind fun x44=>((iv_trouble_Err x44.2 x29.2.2).bind fun x45=>(if ¬x45=0 then ((iv_trouble_Err x44.2 x29.2.2).bind fun x46=>(some (0,(⟨⟨⟨false,[]⟩,0⟩,⟨⟨false,[]⟩,0⟩⟩:AI),x46))) else (some (x39.1,(⟨⟨(((x44.1).Lo).M),((x44.1).Lo).E⟩,⟨(((x44.1).Hi).M),((x44.1).Hi).E⟩⟩:AI),0)))))))))
def trig_Turns_j1 (a1:Int) (a0:AD) (y26:Bool):Option (Int × AI × Int):=
 (if y26=true then (some (0,(⟨⟨⟨false,[]⟩,0⟩,⟨⟨false,[]⟩,0⟩⟩:AI),4)) else ((iv_New (IntKind.i64.wrap (a1+32))).bind fun x27=>match x27 with | Sum.inl x28=>none | (Sum.inr x29)=>((konst_Pi x29.2.1 x29.2.2).bind fun x30=>((cv_Scale (⟨⟨(((x30.1).Lo).M),((x30.1).Lo).E⟩,⟨(((x30.1).Hi).M),((x30.1).Hi).E⟩⟩:AI) (-1) x30.2 x29.2.2).bind fun x31=>((cv_Point a0 x31.2 x29.2.2).bind fun x32=>((cv_Div (⟨⟨(((x32.1).Lo).M),((x32.1).Lo).E⟩,⟨(((x32.1).Hi).M),((x32.1).Hi).E⟩⟩:AI) (⟨⟨(((x31.1).Lo).M),((x31.1).Lo).E⟩,⟨(((x31.1).Hi).M),((x31.1).Hi).E⟩⟩:AI) x32.2 x29.2.2).bind fun x33=>((dyad_Half (-1)).bind fun x34=>((cv_Point (⟨((x34).M),(x34).E⟩:AD) x33.2 x29.2.2).bind fun x35=>((cv_Add (⟨⟨(((x33.1).Lo).M),((x33.1).Lo).E⟩,⟨(((x33.1).Hi).M),((x33.1).Hi).E⟩⟩:AI) (⟨⟨(((x35.1).Lo).M),((x35.1).Lo).E⟩,⟨(((x35.1).Hi).M),((x35.1).Hi).E⟩⟩:AI) x35.2 x29.2.2).bind fun x36=>((iv_trouble_Err x36.2 x29.2.2).bind fun x37=>(if ¬x37=0 then (some (0,(⟨⟨⟨false,[]⟩,0⟩,⟨⟨false,[]⟩,0⟩⟩:AI),x37)) else ((dyad_Floor (⟨(((x36.1).Lo).M),((x36.1).Lo).E⟩:AD)).bind fun x38=>((zint_Small (x38.1)).bind fun x39=>(if ¬x38.2=0 then (trig_Turns_j2 a0 x36 x29 x39 x31 true) else (trig_Turns_j2 a0 x36 x29 x39 x31 (!x39.2))))))))))))))))
def trig_Turns (a0:AD) (a1:Int):Option (Int × AI × Int):=
 ((trig_fits a0 a1).bind fun x24=>(if ¬x24=true then (some (0,(⟨⟨⟨false,[]⟩,0⟩,⟨⟨false,[]⟩,0⟩⟩:AI),1)) else ((dyad_Size a0).bind fun x25=>(if x25.2=true then (trig_Turns_j1 a1 a0 (decide (x25.1>11))) else (trig_Turns_j1 a1 a0 false)))))
def trig_one_func_c_iv_Calc_y_api_Iv_api_Iv_69d9 (a0:Int):Option ((Unit ⊕ Unit)):=
 (if (andI .i64 a0 1)=0 then (some (Sum.inl ())) else (if (andI .i64 a0 1)=1 then (some (Sum.inr ())) else none))
def small_turned (a0:AI) (a1:AI) (a2:Int) (a3:Int) (a4:Int):Option (AI × Int):=
 ((cv_Mul a0 a1 a3 a4).bind fun x5=>((cv_Int a2 x5.2 a4).bind fun x6=>((cv_Div (⟨⟨(((x5.1).Lo).M),((x5.1).Lo).E⟩,⟨(((x5.1).Hi).M),((x5.1).Hi).E⟩⟩:AI) (⟨⟨(((x6.1).Lo).M),((x6.1).Lo).E⟩,⟨(((x6.1).Hi).M),((x6.1).Hi).E⟩⟩:AI) x6.2 a4).bind fun x7=>((cv_Neg (⟨⟨(((x7.1).Lo).M),((x7.1).Lo).E⟩,⟨(((x7.1).Hi).M),((x7.1).Hi).E⟩⟩:AI) x7.2 a4).bind fun x8=>(some ((⟨⟨(((x8.1).Lo).M),((x8.1).Lo).E⟩,⟨(((x8.1).Hi).M),((x8.1).Hi).E⟩⟩:AI),x8.2))))))
def small_Sin_1 (a0:Int) (a1:AI) (a2:Int) (a3:Int) (a4:Bool) (a5:List Int) (a6:Int) (a7:Bool) (a8:List Int) (a9:Int):Option (AI × Int):=
 ((small_turned a1 (⟨⟨⟨a4,a5⟩,a6⟩,⟨⟨a7,a8⟩,a9⟩⟩:AI) (IntKind.i64.wrap ((IntKind.i64.wrap (2*a0))*(IntKind.i64.wrap ((IntKind.i64.wrap (2*a0))+1)))) a2 a3).bind fun x2=>(some ((⟨⟨(((x2.1).Lo).M),((x2.1).Lo).E⟩,⟨(((x2.1).Hi).M),((x2.1).Hi).E⟩⟩:AI),x2.2)))
def small_plain_1_7cba (a0:Int) (a1:AI) (a2:Int) (a3:Int) (a4:Bool) (a5:List Int) (a6:Int) (a7:Bool) (a8:List Int) (a9:Int):Option (AI × AI × Int):=
 ((small_Sin_1 a0 a1 a2 a3 a4 a5 a6 a7 a8 a9).bind fun x2=>(some ((⟨⟨(((x2.1).Lo).M),((x2.1).Lo).E⟩,⟨(((x2.1).Hi).M),((x2.1).Hi).E⟩⟩:AI),(⟨⟨(((x2.1).Lo).M),((x2.1).Lo).E⟩,⟨(((x2.1).Hi).M),((x2.1).Hi).E⟩⟩:AI),x2.2)))
def small_series_f1ab_j1 (a2:Int) (y135:Int) (y136:Bool) (y137:List Int) (y138:Int) (y139:Bool) (y140:List Int) (y141:Int):Option (AI × Int):=
 ((cv_Prec y135 a2).bind fun x142=>((dyad_Half (IntKind.i64.wrap (0-x142))).bind fun x143=>((cv_Wide (⟨⟨⟨y136,y137⟩,y138⟩,⟨⟨y139,y140⟩,y141⟩⟩:AI) (⟨((x143).M),(x143).E⟩:AD) y135 a2).bind fun x144=>(some ((⟨⟨(((x144.1).Lo).M),((x144.1).Lo).E⟩,⟨(((x144.1).Hi).M),((x144.1).Hi).E⟩⟩:AI),x144.2)))))
def small_series_f1ab_l2 (x94:Int) (a2:Int) (a3:Bool) (a4:List Int) (a5:Int) (a6:Bool) (a7:List Int) (a8:Int):Nat→Int→Int→Bool→List Int→Int→Bool→List Int→Int→Bool→List Int→Int→Bool→List Int→Int→Option (AI × Int)
 | 0,_,_,_,_,_,_,_,_,_,_,_,_,_,_=>none
 | n+1,y167,y168,y169,y170,y171,y172,y173,y174,y175,y176,y177,y178,y179,y180=>(if y167<x94 then ((small_plain_1_7cba (IntKind.i64.wrap (y167+1)) (⟨⟨⟨y175,y176⟩,y177⟩,⟨⟨y178,y179⟩,y180⟩⟩:AI) y168 a2 a3 a4 a5 a6 a7 a8).bind fun x183=>((cv_Add (⟨⟨⟨y169,y170⟩,y171⟩,⟨⟨y172,y173⟩,y174⟩⟩:AI) (⟨⟨(((x183.2.1).Lo).M),((x183.2.1).Lo).E⟩,⟨(((x183.2.1).Hi).M),((x183.2.1).Hi).E⟩⟩:AI) x183.2.2 a2).bind fun x184=>((fun z0 z1 z2 z3 z4 z5 z6 z7 z8 z9 z10 z11 z12 z13=>small_series_f1ab_l2 x94 a2 a3 a4 a5 a6 a7 a8 n z0 z1 z2 z3 z4 z5 z6 z7 z8 z9 z10 z11 z12 z13) (IntKind.i64.wrap (y167+1)) x184.2 ((((x184.1).Lo).M).Neg) ((((x184.1).Lo).M).Mag) (((x184.1).Lo).E) ((((x184.1).Hi).M).Neg) ((((x184.1).Hi).M).Mag) (((x184.1).Hi).E) ((((x183.1).Lo).M).Neg) ((((x183.1).Lo).M).Mag) (((x183.1).Lo).E) ((((x183.1).Hi).M).Neg) ((((x183.1).Hi).M).Mag) (((x183.1).Hi).E)))) else (small_series_f1ab_j1 a2 y168 y169 y170 y171 y172 y173 y174))
def small_series_f1ab (a0:AI) (a1:Int) (a2:Int) (a3:Bool) (a4:List Int) (a5:Int) (a6:Bool) (a7:List Int) (a8:Int):Option (AI × Int):=
 ((cv_Prec a1 a2).bind fun x93=>((small_Terms x93).bind fun x94=>(small_series_f1ab_l2 x94 a2 a3 a4 a5 a6 a7 a8 fuel 0 a1 a0.Lo.M.Neg a0.Lo.M.Mag a0.Lo.E a0.Hi.M.Neg a0.Hi.M.Mag a0.Hi.E a0.Lo.M.Neg a0.Lo.M.Mag a0.Lo.E a0.Hi.M.Neg a0.Hi.M.Mag a0.Hi.E)))
def small_plain_c50f (a0:AI) (a1:Int) (a2:Int) (a3:Bool) (a4:List Int) (a5:Int) (a6:Bool) (a7:List Int) (a8:Int):Option (AI × Int):=
 ((small_series_f1ab a0 a1 a2 a3 a4 a5 a6 a7 a8).bind fun x2=>(some ((⟨⟨(((x2.1).Lo).M),((x2.1).Lo).E⟩,⟨(((x2.1).Hi).M),((x2.1).Hi).E⟩⟩:AI),x2.2)))
def small_Sin (a0:AI) (a1:Int) (a2:Int):Option (AI × Int):=
 ((small_in a0 0 a1 a2).bind fun x4=>(if ¬x4.1=true then (some ((⟨⟨⟨false,[]⟩,0⟩,⟨⟨false,[]⟩,0⟩⟩:AI),x4.2)) else ((cv_Mul a0 a0 x4.2 a2).bind fun x5=>((small_plain_c50f a0 x5.2 a2 ((((x5.1).Lo).M).Neg) ((((x5.1).Lo).M).Mag) (((x5.1).Lo).E) ((((x5.1).Hi).M).Neg) ((((x5.1).Hi).M).Mag) (((x5.1).Hi).E)).bind fun x6=>(some ((⟨⟨(((x6.1).Lo).M),((x6.1).Lo).E⟩,⟨(((x6.1).Hi).M),((x6.1).Hi).E⟩⟩:AI),x6.2))))))
def trig_one_func_a_api_Iv_api_Iv_4a04 (a0:Int) (a1:Int) (a2:Int):Option ((Unit ⊕ Unit)):=
 (if (andI .i64 a0 1)=0 then (some (Sum.inl ())) else (if (andI .i64 a0 1)=1 then (some (Sum.inr ())) else none))
def trig_quarter_1 (a0:AI):Option (AI):=
 (some a0)
def cv_Out (a0:AI) (a1:Int) (a2:Int):Option (AI × Int):=
 ((cv_fine [a0] a1 a2).bind fun x5=>(if ¬x5.1=true then (some ((⟨⟨⟨false,[]⟩,0⟩,⟨⟨false,[]⟩,0⟩⟩:AI),x5.2)) else ((cv_down a0.Lo x5.2 a2).bind fun x6=>((cv_up a0.Hi x6.2 a2).bind fun x7=>((cv_out (⟨((x6.1).M),(x6.1).E⟩:AD) (⟨((x7.1).M),(x7.1).E⟩:AD) x7.2 a2).bind fun x8=>(some ((⟨⟨(((x8).Lo).M),((x8).Lo).E⟩,⟨(((x8).Hi).M),((x8).Hi).E⟩⟩:AI),x7.2)))))))
def trig_done (a0:AI) (a1:Int) (a2:Int) (a3:Int):Option (AI × Int):=
 ((iv_trouble_Err a2 a3).bind fun x7=>(if ¬x7=0 then (some ((⟨⟨⟨false,[]⟩,0⟩,⟨⟨false,[]⟩,0⟩⟩:AI),x7)) else ((iv_New a1).bind fun x8=>match x8 with | Sum.inl x9=>none | (Sum.inr x10)=>((cv_Out a0 x10.2.1 x10.2.2).bind fun x11=>((iv_trouble_Err x11.2 x10.2.2).bind fun x12=>(some ((⟨⟨(((x11.1).Lo).M),((x11.1).Lo).E⟩,⟨(((x11.1).Hi).M),((x11.1).Hi).E⟩⟩:AI),x12)))))))
def small_Cos_1 (a0:Int) (a1:AI) (a2:Int) (a3:Int) (a4:Bool) (a5:List Int) (a6:Int) (a7:Bool) (a8:List Int) (a9:Int):Option (AI × Int):=
 ((small_turned a1 (⟨⟨⟨a4,a5⟩,a6⟩,⟨⟨a7,a8⟩,a9⟩⟩:AI) (IntKind.i64.wrap ((IntKind.i64.wrap ((IntKind.i64.wrap ((IntKind.i64.wrap (2*a0))-1))*2))*a0)) a2 a3).bind fun x2=>(some ((⟨⟨(((x2.1).Lo).M),((x2.1).Lo).E⟩,⟨(((x2.1).Hi).M),((x2.1).Hi).E⟩⟩:AI),x2.2)))
def small_plain_1_b404 (a0:Int) (a1:AI) (a2:Int) (a3:Int) (a4:Bool) (a5:List Int) (a6:Int) (a7:Bool) (a8:List Int) (a9:Int):Option (AI × AI × Int):=
 ((small_Cos_1 a0 a1 a2 a3 a4 a5 a6 a7 a8 a9).bind fun x2=>(some ((⟨⟨(((x2.1).Lo).M),((x2.1).Lo).E⟩,⟨(((x2.1).Hi).M),((x2.1).Hi).E⟩⟩:AI),(⟨⟨(((x2.1).Lo).M),((x2.1).Lo).E⟩,⟨(((x2.1).Hi).M),((x2.1).Hi).E⟩⟩:AI),x2.2)))
def small_series_7c7a_j1 (a2:Int) (y135:Int) (y136:Bool) (y137:List Int) (y138:Int) (y139:Bool) (y140:List Int) (y141:Int):Option (AI × Int):=
 ((cv_Prec y135 a2).bind fun x142=>((dyad_Half (IntKind.i64.wrap (0-x142))).bind fun x143=>((cv_Wide (⟨⟨⟨y136,y137⟩,y138⟩,⟨⟨y139,y140⟩,y141⟩⟩:AI) (⟨((x143).M),(x143).E⟩:AD) y135 a2).bind fun x144=>(some ((⟨⟨(((x144.1).Lo).M),((x144.1).Lo).E⟩,⟨(((x144.1).Hi).M),((x144.1).Hi).E⟩⟩:AI),x144.2)))))
def small_series_7c7a_l2 (x94:Int) (a2:Int) (a3:Bool) (a4:List Int) (a5:Int) (a6:Bool) (a7:List Int) (a8:Int):Nat→Int→Int→Bool→List Int→Int→Bool→List Int→Int→Bool→List Int→Int→Bool→List Int→Int→Option (AI × Int)
 | 0,_,_,_,_,_,_,_,_,_,_,_,_,_,_=>none
 | n+1,y167,y168,y169,y170,y171,y172,y173,y174,y175,y176,y177,y178,y179,y180=>(if y167<x94 then ((small_plain_1_b404 (IntKind.i64.wrap (y167+1)) (⟨⟨⟨y175,y176⟩,y177⟩,⟨⟨y178,y179⟩,y180⟩⟩:AI) y168 a2 a3 a4 a5 a6 a7 a8).bind fun x183=>((cv_Add (⟨⟨⟨y169,y170⟩,y171⟩,⟨⟨y172,y173⟩,y174⟩⟩:AI) (⟨⟨(((x183.2.1).Lo).M),((x183.2.1).Lo).E⟩,⟨(((x183.2.1).Hi).M),((x183.2.1).Hi).E⟩⟩:AI) x183.2.2 a2).bind fun x184=>((fun z0 z1 z2 z3 z4 z5 z6 z7 z8 z9 z10 z11 z12 z13=>small_series_7c7a_l2 x94 a2 a3 a4 a5 a6 a7 a8 n z0 z1 z2 z3 z4 z5 z6 z7 z8 z9 z10 z11 z12 z13) (IntKind.i64.wrap (y167+1)) x184.2 ((((x184.1).Lo).M).Neg) ((((x184.1).Lo).M).Mag) (((x184.1).Lo).E) ((((x184.1).Hi).M).Neg) ((((x184.1).Hi).M).Mag) (((x184.1).Hi).E) ((((x183.1).Lo).M).Neg) ((((x183.1).Lo).M).Mag) (((x183.1).Lo).E) ((((x183.1).Hi).M).Neg) ((((x183.1).Hi).M).Mag) (((x183.1).Hi).E)))) else (small_series_7c7a_j1 a2 y168 y169 y170 y171 y172 y173 y174))
def small_series_7c7a (a0:AI) (a1:Int) (a2:Int) (a3:Bool) (a4:List Int) (a5:Int) (a6:Bool) (a7:List Int) (a8:Int):Option (AI × Int):=
 ((cv_Prec a1 a2).bind fun x93=>((small_Terms x93).bind fun x94=>(small_series_7c7a_l2 x94 a2 a3 a4 a5 a6 a7 a8 fuel 0 a1 a0.Lo.M.Neg a0.Lo.M.Mag a0.Lo.E a0.Hi.M.Neg a0.Hi.M.Mag a0.Hi.E a0.Lo.M.Neg a0.Lo.M.Mag a0.Lo.E a0.Hi.M.Neg a0.Hi.M.Mag a0.Hi.E)))
def small_plain_fc4a (a0:AI) (a1:Int) (a2:Int) (a3:Bool) (a4:List Int) (a5:Int) (a6:Bool) (a7:List Int) (a8:Int):Option (AI × Int):=
 ((small_series_7c7a a0 a1 a2 a3 a4 a5 a6 a7 a8).bind fun x2=>(some ((⟨⟨(((x2.1).Lo).M),((x2.1).Lo).E⟩,⟨(((x2.1).Hi).M),((x2.1).Hi).E⟩⟩:AI),x2.2)))
def small_Cos (a0:AI) (a1:Int) (a2:Int):Option (AI × Int):=
 ((small_in a0 0 a1 a2).bind fun x5=>(if ¬x5.1=true then (some ((⟨⟨⟨false,[]⟩,0⟩,⟨⟨false,[]⟩,0⟩⟩:AI),x5.2)) else ((cv_Mul a0 a0 x5.2 a2).bind fun x6=>((cv_Int 1 x6.2 a2).bind fun x7=>((small_plain_fc4a (⟨⟨(((x7.1).Lo).M),((x7.1).Lo).E⟩,⟨(((x7.1).Hi).M),((x7.1).Hi).E⟩⟩:AI) x7.2 a2 ((((x6.1).Lo).M).Neg) ((((x6.1).Lo).M).Mag) (((x6.1).Lo).E) ((((x6.1).Hi).M).Neg) ((((x6.1).Hi).M).Mag) (((x6.1).Hi).E)).bind fun x8=>(some ((⟨⟨(((x8.1).Lo).M),((x8.1).Lo).E⟩,⟨(((x8.1).Hi).M),((x8.1).Hi).E⟩⟩:AI),x8.2)))))))
def trig_quarter (a0:AD) (a1:Int) (a2:Int):Option (AI × Int):=
 ((trig_Turns a0 a1).bind fun x27=>(if ¬x27.2.2=0 then (some ((⟨⟨⟨false,[]⟩,0⟩,⟨⟨false,[]⟩,0⟩⟩:AI),x27.2.2)) else ((iv_New (IntKind.i64.wrap (a1+32))).bind fun x28=>match x28 with | Sum.inl x29=>((trig_one_func_c_iv_Calc_y_api_Iv_api_Iv_69d9 (IntKind.i64.wrap (x27.1+a2))).bind fun x31=>match x31 with | Sum.inl x32=>none | (Sum.inr x33)=>none) | (Sum.inr x30)=>((trig_one_func_c_iv_Calc_y_api_Iv_api_Iv_69d9 (IntKind.i64.wrap (x27.1+a2))).bind fun x34=>match x34 with | Sum.inl x35=>((small_Sin (⟨⟨(((x27.2.1).Lo).M),((x27.2.1).Lo).E⟩,⟨(((x27.2.1).Hi).M),((x27.2.1).Hi).E⟩⟩:AI) x30.2.1 x30.2.2).bind fun x37=>((trig_one_func_a_api_Iv_api_Iv_4a04 (shrI .i64 (IntKind.i64.wrap (x27.1+a2)) 1) x37.2 x30.2.2).bind fun x38=>match x38 with | Sum.inl x39=>((trig_quarter_1 (⟨⟨(((x37.1).Lo).M),((x37.1).Lo).E⟩,⟨(((x37.1).Hi).M),((x37.1).Hi).E⟩⟩:AI)).bind fun x41=>((trig_done (⟨⟨(((x41).Lo).M),((x41).Lo).E⟩,⟨(((x41).Hi).M),((x41).Hi).E⟩⟩:AI) a1 x37.2 x30.2.2).bind fun x42=>(some ((⟨⟨(((x42.1).Lo).M),((x42.1).Lo).E⟩,⟨(((x42.1).Hi).M),((x42.1).Hi).E⟩⟩:AI),x42.2)))) | (Sum.inr x40)=>((cv_Neg (⟨⟨(((x37.1).Lo).M),((x37.1).Lo).E⟩,⟨(((x37.1).Hi).M),((x37.1).Hi).E⟩⟩:AI) x37.2 x30.2.2).bind fun x43=>((trig_done (⟨⟨(((x43.1).Lo).M),((x43.1).Lo).E⟩,⟨(((x43.1).Hi).M),((x43.1).Hi).E⟩⟩:AI) a1 x43.2 x30.2.2).bind fun x44=>(some ((⟨⟨(((x44.1).Lo).M),((x44.1).Lo).E⟩,⟨(((x44.1).Hi).M),((x44.1).Hi).E⟩⟩:AI),x44.2)))))) | (Sum.inr x36)=>((small_Cos (⟨⟨(((x27.2.1).Lo).M),((x27.2.1).Lo).E⟩,⟨(((x27.2.1).Hi).M),((x27.2.1).Hi).E⟩⟩:AI) x30.2.1 x30.2.2).bind fun x45=>((trig_one_func_a_api_Iv_api_Iv_4a04 (shrI .i64 (IntKind.i64.wrap (x27.1+a2)) 1) x45.2 x30.2.2).bind fun x46=>match x46 with | Sum.inl x47=>((trig_quarter_1 (⟨⟨(((x45.1).Lo).M),((x45.1).Lo).E⟩,⟨(((x45.1).Hi).M),((x45.1).Hi).E⟩⟩:AI)).bind fun x49=>((trig_done (⟨⟨(((x49).Lo).M),((x49).Lo).E⟩,⟨(((x49).Hi).M),((x49).Hi).E⟩⟩:AI) a1 x45.2 x30.2.2).bind fun x50=>(some ((⟨⟨(((x50.1).Lo).M),((x50.1).Lo).E⟩,⟨(((x50.1).Hi).M),((x50.1).Hi).E⟩⟩:AI),x50.2)))) | (Sum.inr x48)=>((cv_Neg (⟨⟨(((x45.1).Lo).M),((x45.1).Lo).E⟩,⟨(((x45.1).Hi).M),((x45.1).Hi).E⟩⟩:AI) x45.2 x30.2.2).bind fun x51=>((trig_done (⟨⟨(((x51.1).Lo).M),((x51.1).Lo).E⟩,⟨(((x51.1).Hi).M),((x51.1).Hi).E⟩⟩:AI) a1 x51.2 x30.2.2).bind fun x52=>(some ((⟨⟨(((x52.1).Lo).M),((x52.1).Lo).E⟩,⟨(((x52.1).Hi).M),((x52.1).Hi).E⟩⟩:AI),x52.2))))))))))
def trig_Cos (a0:AD) (a1:Int):Option (AI × Int):=
 ((trig_quarter a0 a1 1).bind fun x2=>(some ((⟨⟨(((x2.1).Lo).M),((x2.1).Lo).E⟩,⟨(((x2.1).Hi).M),((x2.1).Hi).E⟩⟩:AI),x2.2)))
def cheb_Node_j1 (a0:Int) (a1:Int) (y18:Bool):Option (AD × Int):=
 (if y18=true then (some ((⟨⟨false,[]⟩,0⟩:AD),1)) else ((iv_New 64).bind fun x19=>match x19 with | Sum.inl x20=>none | (Sum.inr x21)=>((konst_Pi x21.2.1 x21.2.2).bind fun x22=>((cv_Int (IntKind.i64.wrap ((IntKind.i64.wrap (2*a0))+1)) x22.2 x21.2.2).bind fun x23=>((cv_Mul (⟨⟨(((x22.1).Lo).M),((x22.1).Lo).E⟩,⟨(((x22.1).Hi).M),((x22.1).Hi).E⟩⟩:AI) (⟨⟨(((x23.1).Lo).M),((x23.1).Lo).E⟩,⟨(((x23.1).Hi).M),((x23.1).Hi).E⟩⟩:AI) x23.2 x21.2.2).bind fun x24=>((cv_Int (IntKind.i64.wrap ((IntKind.i64.wrap (2*a1))+2)) x24.2 x21.2.2).bind fun x25=>((cv_Div (⟨⟨(((x24.1).Lo).M),((x24.1).Lo).E⟩,⟨(((x24.1).Hi).M),((x24.1).Hi).E⟩⟩:AI) (⟨⟨(((x25.1).Lo).M),((x25.1).Lo).E⟩,⟨(((x25.1).Hi).M),((x25.1).Hi).E⟩⟩:AI) x25.2 x21.2.2).bind fun x26=>((cv_Mid (⟨⟨(((x26.1).Lo).M),((x26.1).Lo).E⟩,⟨(((x26.1).Hi).M),((x26.1).Hi).E⟩⟩:AI) x26.2 x21.2.2).bind fun x27=>((iv_trouble_Err x27.2 x21.2.2).bind fun x28=>(if ¬x28=0 then (some ((⟨⟨false,[]⟩,0⟩:AD),x28)) else ((trig_Cos (⟨((x27.1).M),(x27.1).E⟩:AD) 64).bind fun x29=>(if ¬x29.2=0 then (some ((⟨⟨false,[]⟩,0⟩:AD),x29.2)) else ((cv_Mid (⟨⟨(((x29.1).Lo).M),((x29.1).Lo).E⟩,⟨(((x29.1).Hi).M),((x29.1).Hi).E⟩⟩:AI) x27.2 x21.2.2).bind fun x30=>((iv_trouble_Err x30.2 x21.2.2).bind fun x31=>(some ((⟨((x30.1).M),(x30.1).E⟩:AD),x31))))))))))))))))
def cheb_Node (a0:Int) (a1:Int):Option (AD × Int):=
 ((cheb_degree a1).bind fun x32=>(if ¬x32=true then (cheb_Node_j1 a0 a1 true) else (if a0<0 then (cheb_Node_j1 a0 a1 true) else (cheb_Node_j1 a0 a1 (decide (a0>a1))))))
def r01_Trim_j1 (a0:List Int) (y17:Int):Option ((List Int)):=
 (if 0≤(0:Int)∧(0:Int)≤y17∧y17≤(a0.length:Int) then (if (a0.take y17.toNat).length≤9223372036854775807∧(a0.take y17.toNat).length*4≤140737488355328 then (some (a0.take y17.toNat)) else none) else none)
def r01_Trim_j3 (ag2_r01_Trim:Int→Option ((List Int))) (y21:Int) (a0:List Int) (y22:Bool):Option ((List Int)):=
 (if y22=true then (ag2_r01_Trim (IntKind.i64.wrap (y21-1))) else (r01_Trim_j1 a0 y21))
def r01_Trim_l2 (a0:List Int):Nat→Int→Option ((List Int))
 | 0,_=>none
 | n+1,y21=>(if y21>0 then (if 0≤(IntKind.i64.wrap (y21-1))∧(IntKind.i64.wrap (y21-1))<(a0.length:Int) then (r01_Trim_j3 (fun z0=>r01_Trim_l2 a0 n z0) y21 a0 ((a0.getD ((IntKind.i64.wrap (y21-1)).toNat) (kInt .u32).z) == 0)) else none) else (r01_Trim_j3 (fun z0=>r01_Trim_l2 a0 n z0) y21 a0 false))
def r01_Trim (a0:List Int):Option ((List Int)):=
 (r01_Trim_l2 a0 fuel (a0.length:Int))
def r01_From (a0:Int):Option ((List Int)):=
 ((r01_Trim [(IntKind.u32.wrap a0),(IntKind.u32.wrap (shrI .u64 a0 32))]).bind fun x2=>(some x2))
def r04_Make_j1 (x3:(List Int)) (y4:Bool):Option (ApiInt):=
 (some (⟨y4,x3⟩:ApiInt))
def r04_Make (a0:Bool) (a1:List Int):Option (ApiInt):=
 ((r01_Trim a1).bind fun x3=>(if a0=true then (r04_Make_j1 x3 (decide ((x3.length:Int)>0))) else (r04_Make_j1 x3 false)))
def r04_From (a0:Int):Option (ApiInt):=
 (if a0<0 then ((r01_From (IntKind.u64.wrap ((IntKind.u64.wrap (IntKind.i64.wrap (0-(IntKind.i64.wrap (a0+1)))))+1))).bind fun x5=>((r04_Make true x5).bind fun x6=>(some (x6)))) else ((r01_From (IntKind.u64.wrap a0)).bind fun x7=>((r04_Make false x7).bind fun x8=>(some (x8)))))
def r01_Bit_j1 (a1:Int) (a0:List Int) (y2:Bool):Option (Bool):=
 (if y2=true then (some false) else (if 0≤(IntKind.i64.wrap (a1.tdiv 32))∧(IntKind.i64.wrap (a1.tdiv 32))<(a0.length:Int) then (if 0≤(a1.tmod 32) then (some ((andI .u32 (shrI .u32 (a0.getD ((IntKind.i64.wrap (a1.tdiv 32)).toNat) (kInt .u32).z) (a1.tmod 32)) 1) == 1)) else none) else none))
def r01_Bit (a0:List Int) (a1:Int):Option (Bool):=
 (if a1<0 then (r01_Bit_j1 a1 a0 true) else (r01_Bit_j1 a1 a0 (decide ((IntKind.i64.wrap (a1.tdiv 32))≥(a0.length:Int)))))
def r01_at (a0:List Int) (a1:Int):Option (Int):=
 (if a1≥(a0.length:Int) then (some 0) else (if 0≤a1∧a1<(a0.length:Int) then (some (IntKind.u64.wrap (a0.getD a1.toNat (kInt .u32).z))) else none))
def r01_Shr_j1 (y53:List Int):Option ((List Int)):=
 ((r01_Trim y53).bind fun x54=>(some x54))
def r01_Shr_l2 (a0:List Int) (a1:Int):Nat→Int→List Int→Option ((List Int))
 | 0,_,_=>none
 | n+1,y65,y66=>(if y65<(a0.length:Int) then ((r01_at a0 y65).bind fun x69=>((r01_at a0 (IntKind.i64.wrap (y65+1))).bind fun x70=>(if 0≤(a1.tmod 32) then (if 0<[(IntKind.u32.wrap (shrI .u64 (orI .u64 x69 (shlI .u64 x70 32)) (a1.tmod 32)))].length∧y66.length+[(IntKind.u32.wrap (shrI .u64 (orI .u64 x69 (shlI .u64 x70 32)) (a1.tmod 32)))].length≤9223372036854775807∧(y66.length+[(IntKind.u32.wrap (shrI .u64 (orI .u64 x69 (shlI .u64 x70 32)) (a1.tmod 32)))].length)*4≤140737488355328 then ((fun z0 z1=>r01_Shr_l2 a0 a1 n z0 z1) (IntKind.i64.wrap (y65+1)) (y66++[(IntKind.u32.wrap (shrI .u64 (orI .u64 x69 (shlI .u64 x70 32)) (a1.tmod 32)))])) else none) else none))) else (r01_Shr_j1 y66))
def r01_Shr (a0:List Int) (a1:Int):Option ((List Int)):=
 (if a1<0 then ((r01_Trim a0).bind fun x36=>(some x36)) else (if (IntKind.i64.wrap (a1.tdiv 32))≥(a0.length:Int) then (some []) else (r01_Shr_l2 a0 a1 fuel (IntKind.i64.wrap (a1.tdiv 32)) [])))
def r05_norm_j1 (x15:ApiInt) (a1:Int) (y21:Int):Option (AD):=
 ((r01_Shr ((x15).Mag) y21).bind fun x22=>((r04_Make ((x15).Neg) x22).bind fun x23=>(some (⟨(x23),(IntKind.i64.wrap (a1+y21))⟩:AD))))
def r05_norm_l2 (x15:ApiInt) (a1:Int):Nat→Int→Option (AD)
 | 0,_=>none
 | n+1,y27=>((r01_Bit ((x15).Mag) y27).bind fun x28=>(if ¬x28=true then ((fun z0=>r05_norm_l2 x15 a1 n z0) (IntKind.i64.wrap (y27+1))) else (r05_norm_j1 x15 a1 y27)))
def r05_norm (a0:ApiInt) (a1:Int):Option (AD):=
 ((r04_Make a0.Neg a0.Mag).bind fun x15=>(if (((x15).Mag).length:Int)=0 then (some (⟨⟨false,[]⟩,0⟩:AD)) else (r05_norm_l2 x15 a1 fuel 0)))
def r05_From (a0:Int):Option (AD):=
 ((r04_From a0).bind fun x3=>((r05_norm (x3) 0).bind fun x4=>(some (⟨((x4).M),(x4).E⟩:AD))))
def slices_Reverse_cheb_part_cheb_part_j1:Option (Unit):=
 (some ())
def slices_Reverse_cheb_part_cheb_part_l2 (a0:List ChebPart):Nat→Option (Unit)
 | 0=>none
 | n+1=>(if 0<(IntKind.i64.wrap ((a0.length:Int)-1)) then (if 0≤(IntKind.i64.wrap ((a0.length:Int)-1))∧(IntKind.i64.wrap ((a0.length:Int)-1))<(a0.length:Int) then (if 0≤(0:Int)∧(0:Int)<(a0.length:Int) then (if 0≤(0:Int)∧(0:Int)<(a0.length:Int) then none else none) else none) else none) else (slices_Reverse_cheb_part_cheb_part_j1))
def slices_Reverse_cheb_part_cheb_part (a0:List ChebPart):Option (Unit):=
 (slices_Reverse_cheb_part_cheb_part_l2 a0 fuel)
def cheb_queue_add_6495 (a0:List ChebPart):Option ((List ChebPart)):=
 ((slices_Reverse_cheb_part_cheb_part a0).bind fun x2=>(if 0<a0.length∧a0.length≤9223372036854775807∧a0.length*48≤140737488355328 then (some a0) else none))
def cheb_queue_next (a0:List ChebPart):Option (ChebPart × (List ChebPart)):=
 (if 0≤(IntKind.i64.wrap ((a0.length:Int)-1))∧(IntKind.i64.wrap ((a0.length:Int)-1))<(a0.length:Int) then (if 0≤(0:Int)∧(0:Int)≤(IntKind.i64.wrap ((a0.length:Int)-1))∧(IntKind.i64.wrap ((a0.length:Int)-1))≤(a0.length:Int) then (some ((⟨⟨(((a0.getD ((IntKind.i64.wrap ((a0.length:Int)-1)).toNat) zChebPart).a).M),((a0.getD ((IntKind.i64.wrap ((a0.length:Int)-1)).toNat) zChebPart).a).E⟩,(a0.getD ((IntKind.i64.wrap ((a0.length:Int)-1)).toNat) zChebPart).w⟩:ChebPart),(a0.take ((IntKind.i64.wrap ((a0.length:Int)-1)).toNat)))) else none) else none)
def cheb_stretch_j1 (y2:Bool):Option (Bool):=
 (some y2)
def cheb_stretch (a0:Int):Option (Bool):=
 (if a0≥(-30) then (cheb_stretch_j1 (decide (a0≤10))) else (cheb_stretch_j1 false))
def cheb_plain_j1 (y7:Bool):Option (Bool):=
 (some y7)
def cheb_plain (a0:AD):Option (Bool):=
 ((dyad_Size a0).bind fun x5=>((dyad_Right a0).bind fun x8=>(if x8=true then (if ¬x5.2=true then (cheb_plain_j1 true) else (if a0.E≥(-64) then (cheb_plain_j1 (decide (x5.1≤16))) else (cheb_plain_j1 false))) else (cheb_plain_j1 false))))
def fun_plain_e0f3:Option (Unit):=
 (some ())
def fun_plain_651d:Option (Unit):=
 (some ())
def fun_plain_dae2:Option (Unit):=
 (some ())
def fun_plain_6b09:Option (Unit):=
 (some ())
def fun_plain_ece2:Option (Unit):=
 (some ())
def fun_plain_37dd:Option (Unit):=
 (some ())
def fun_plain_ceff:Option (Unit):=
 (some ())
def fun_plain_bb43:Option (Unit):=
 (some ())
def fun_plain_ed83:Option (Unit):=
 (some ())
def fun_all:Option (Unit):=
 ((fun_plain_e0f3).bind fun x10=>((fun_plain_651d).bind fun x11=>((fun_plain_dae2).bind fun x12=>((fun_plain_6b09).bind fun x13=>((fun_plain_ece2).bind fun x14=>((fun_plain_37dd).bind fun x15=>((fun_plain_ceff).bind fun x16=>((fun_plain_bb43).bind fun x17=>((fun_plain_ed83).bind fun x18=>(some ()))))))))))
def fun_find_j1 (a0:Int) (y3:Bool):Option (Bool × Int × Int × Int × Bool × ByteArray × Bool):=
 (if y3=true then (some (false,0,0,0,false,(⟨#[]⟩:ByteArray),false)) else ((fun_all).bind fun x4=>(if (IntKind.i64.wrap (a0-1))=0 then (some (false,11,0,0,false,(⟨#[101,120,112]⟩:ByteArray),true)) else (if (IntKind.i64.wrap (a0-1))=1 then (some (true,0,0,0,false,(⟨#[108,110]⟩:ByteArray),true)) else (if (IntKind.i64.wrap (a0-1))=2 then (some (false,11,0,0,false,(⟨#[115,105,110]⟩:ByteArray),true)) else (if (IntKind.i64.wrap (a0-1))=3 then (some (false,11,0,0,false,(⟨#[99,111,115]⟩:ByteArray),true)) else (if (IntKind.i64.wrap (a0-1))=4 then (some (false,0,0,0,false,(⟨#[97,116,97,110]⟩:ByteArray),true)) else (if (IntKind.i64.wrap (a0-1))=5 then (some (false,0,6,0,false,(⟨#[101,114,102]⟩:ByteArray),true)) else (if (IntKind.i64.wrap (a0-1))=6 then (some (false,0,6,0,false,(⟨#[101,114,102,99]⟩:ByteArray),true)) else (if (IntKind.i64.wrap (a0-1))=7 then (some (true,0,64,64,false,(⟨#[103,97,109,109,97]⟩:ByteArray),true)) else (if (IntKind.i64.wrap (a0-1))=8 then (some (true,0,64,64,false,(⟨#[108,103,97,109,109,97]⟩:ByteArray),true)) else (if (IntKind.i64.wrap (a0-1))=9 then (some (false,0,32,0,true,(⟨#[98,101,115,115,101,108]⟩:ByteArray),true)) else none))))))))))))
def fun_find (a0:Int):Option (Bool × Int × Int × Int × Bool × ByteArray × Bool):=
 (if a0<1 then (fun_find_j1 a0 true) else (fun_find_j1 a0 (decide (a0>10))))
def fun_may_j1 (x11:Bool × Int × Int × Int × Bool × ByteArray × Bool) (y16:Bool):Option (Bool × Int × Int × Int × Bool × ByteArray × Bool):=
 (some (x11.1,x11.2.1,x11.2.2.1,x11.2.2.2.1,x11.2.2.2.2.1,x11.2.2.2.2.2.1,y16))
def fun_may (a0:Int) (a1:Int) (a2:AD):Option (Bool × Int × Int × Int × Bool × ByteArray × Bool):=
 ((fun_find a0).bind fun x11=>(if x11.2.2.2.2.2.2=true then (if a1=0 then ((dyad_Right a2).bind fun x17=>(if x17=true then ((nat_Bits a2.M.Mag).bind fun x18=>(fun_may_j1 x11 (decide (x18≤200)))) else (fun_may_j1 x11 false))) else (if x11.2.2.2.2.1=true then (if a1>0 then (if a1≤64 then ((dyad_Right a2).bind fun x19=>(if x19=true then ((nat_Bits a2.M.Mag).bind fun x20=>(fun_may_j1 x11 (decide (x20≤200)))) else (fun_may_j1 x11 false))) else (fun_may_j1 x11 false)) else (fun_may_j1 x11 false)) else (fun_may_j1 x11 false))) else (fun_may_j1 x11 false)))
def fun_function_at_0140_j4 (y67:Bool):Option (Int):=
 (if y67=true then (some 4) else (some 0))
def fun_function_at_0140_j3 (a3:Int) (a6:AD) (y64:Bool):Option (Int):=
 (if y64=true then (some 4) else (if a3>0 then ((dyad_Half (IntKind.i64.wrap (0-a3))).bind fun x68=>((dyad_Cmp a6 (⟨((x68).M),(x68).E⟩:AD)).bind fun x69=>(fun_function_at_0140_j4 (decide (x69<0))))) else (fun_function_at_0140_j4 false)))
def fun_function_at_0140_j2 (a2:Int) (a6:AD) (a3:Int) (y59:Bool):Option (Int):=
 (if y59=true then (some 4) else (if a2>0 then ((dyad_From a2).bind fun x70=>((dyad_Cmp a6 (⟨((x70).M),(x70).E⟩:AD)).bind fun x71=>(if x71>0 then (fun_function_at_0140_j3 a3 a6 true) else ((dyad_From (IntKind.i64.wrap (0-a2))).bind fun x72=>((dyad_Cmp a6 (⟨((x72).M),(x72).E⟩:AD)).bind fun x73=>(fun_function_at_0140_j3 a3 a6 (decide (x73<0)))))))) else (fun_function_at_0140_j3 a3 a6 false)))
def fun_function_at_0140_j1 (a1:Int) (x38:Int × Bool) (a2:Int) (a6:AD) (a3:Int) (y58:Bool):Option (Int):=
 (if y58=true then (some 3) else (if a1>0 then (if x38.2=true then (fun_function_at_0140_j2 a2 a6 a3 (decide (x38.1>a1))) else (fun_function_at_0140_j2 a2 a6 a3 false)) else (fun_function_at_0140_j2 a2 a6 a3 false)))
def fun_function_at_0140 (a0:Bool) (a1:Int) (a2:Int) (a3:Int) (a4:Bool) (a5:ByteArray) (a6:AD):Option (Int):=
 ((dyad_Size a6).bind fun x38=>(if a0=true then ((dyad_Cmp a6 (⟨⟨false,[]⟩,0⟩:AD)).bind fun x74=>(fun_function_at_0140_j1 a1 x38 a2 a6 a3 (decide (x74≤0)))) else (fun_function_at_0140_j1 a1 x38 a2 a6 a3 false)))
def zint_Mul (a0:ApiInt) (a1:ApiInt):Option (ApiInt):=
 ((zint_of a0).bind fun x5=>((zint_of a1).bind fun x6=>((nat_Mul (((x5).size).mag) (((x6).size).mag)).bind fun x7=>((zint_Make (((x5).neg) != ((x6).neg)) x7).bind fun x8=>(some (x8))))))
def fun_factorial_j1 (y59:Bool) (y60:List Int):Option (ApiInt):=
 (some (⟨y59,y60⟩:ApiInt))
def fun_factorial_l2 (a0:Int):Nat→Int→Bool→List Int→Option (ApiInt)
 | 0,_,_,_=>none
 | n+1,y72,y73,y74=>(if y72<a0 then ((zint_From y72).bind fun x77=>((zint_Mul (⟨y73,y74⟩:ApiInt) (x77)).bind fun x78=>((fun z0 z1 z2=>fun_factorial_l2 a0 n z0 z1 z2) (IntKind.i64.wrap (y72+1)) ((x78).Neg) ((x78).Mag)))) else (fun_factorial_j1 y73 y74))
def fun_factorial (a0:Int):Option (ApiInt):=
 ((zint_From 1).bind fun x40=>(fun_factorial_l2 a0 fuel 2 ((x40).Neg) ((x40).Mag)))
def fun_Slope_j3:Option (AD × Int):=
 ((dyad_From 1).bind fun x144=>(some ((⟨((x144).M),(x144).E⟩:AD),0)))
def fun_Slope_j4 (x108:AD × Bool) (y160:Bool) (y161:List Int) (y162:Int):Option (AD × Int):=
 ((dyad_Div (⟨((x108.1).M),(x108.1).E⟩:AD) (⟨⟨y160,y161⟩,y162⟩:AD) 64 true).bind fun x163=>(some ((⟨((x163.1).M),(x163.1).E⟩:AD),x163.2)))
def fun_Slope_l5 (a4:Int) (a2:AD) (x108:AD × Bool):Nat→Int→Bool→List Int→Int→Option (AD × Int)
 | 0,_,_,_,_=>none
 | n+1,y172,y173,y174,y175=>(if y172<a4 then ((dyad_Mul (⟨⟨y173,y174⟩,y175⟩:AD) a2).bind fun x177=>(if ¬x177.2=0 then (some ((⟨⟨false,[]⟩,0⟩:AD),x177.2)) else ((fun z0 z1 z2 z3=>fun_Slope_l5 a4 a2 x108 n z0 z1 z2 z3) (IntKind.i64.wrap (y172+1)) (((x177.1).M).Neg) (((x177.1).M).Mag) ((x177.1).E)))) else (fun_Slope_j4 x108 y173 y174 y175))
def fun_Slope_j6 (x108:AD × Bool) (a4:Int) (y178:Bool):Option (AD × Int):=
 (if y178=true then ((dyad_Scale (⟨((x108.1).M),(x108.1).E⟩:AD) (IntKind.i64.wrap (a4+1))).bind fun x179=>(some ((⟨((x179.1).M),(x179.1).E⟩:AD),x179.2))) else (fun_Slope_j3))
def fun_Slope_j2 (a4:Int) (a0:Int) (a2:AD):Option (AD × Int):=
 ((fun_factorial a4).bind fun x107=>((dyad_Make (x107) 0).bind fun x108=>(if a0=1 then none else (if a0=2 then ((dyad_From 1).bind fun x145=>(fun_Slope_l5 a4 a2 x108 fuel 0 (((x145).M).Neg) (((x145).M).Mag) ((x145).E))) else (if a0=5 then (some ((⟨((x108.1).M),(x108.1).E⟩:AD),0)) else (if a0=6 then (fun_Slope_j6 x108 a4 true) else (fun_Slope_j6 x108 a4 (a0 == 7))))))))
def fun_Slope_l7 (a2:AD) (a3:AD) (x95:Bool × Int × Int × Int × Bool × ByteArray × Bool) (a4:Int) (a0:Int):Nat→Int→Option (AD × Int)
 | 0,_=>none
 | n+1,y185=>(if y185<([a2,a3].length:Int) then (if 0≤y185∧y185<([a2,a3].length:Int) then ((fun_function_at_0140 x95.1 x95.2.1 x95.2.2.1 x95.2.2.2.1 x95.2.2.2.2.1 x95.2.2.2.2.2.1 (⟨(([a2,a3].getD y185.toNat zAD).M),([a2,a3].getD y185.toNat zAD).E⟩:AD)).bind fun x187=>(if ¬x187=0 then (some ((⟨⟨false,[]⟩,0⟩:AD),x187)) else ((fun z0=>fun_Slope_l7 a2 a3 x95 a4 a0 n z0) (IntKind.i64.wrap (y185+1))))) else none) else (fun_Slope_j2 a4 a0 a2))
def fun_Slope_j1 (x95:Bool × Int × Int × Int × Bool × ByteArray × Bool) (a2:AD) (a3:AD) (a4:Int) (a0:Int) (y98:Bool):Option (AD × Int):=
 (if y98=true then (some ((⟨⟨false,[]⟩,0⟩:AD),1)) else (if x95.2.2.2.1>0 then (some ((⟨⟨false,[]⟩,0⟩:AD),3)) else (fun_Slope_l7 a2 a3 x95 a4 a0 fuel 0)))
def fun_Slope (a0:Int) (a1:Int) (a2:AD) (a3:AD) (a4:Int):Option (AD × Int):=
 ((fun_may a0 a1 a2).bind fun x95=>((fun_may a0 a1 a3).bind fun x96=>(if ¬x95.2.2.2.2.2.2=true then (fun_Slope_j1 x95 a2 a3 a4 a0 true) else (if ¬x96.2.2.2.2.2.2=true then (fun_Slope_j1 x95 a2 a3 a4 a0 true) else (if a4<1 then (fun_Slope_j1 x95 a2 a3 a4 a0 true) else (if a4>40 then (fun_Slope_j1 x95 a2 a3 a4 a0 true) else ((dyad_Cmp a2 a3).bind fun x188=>(fun_Slope_j1 x95 a2 a3 a4 a0 (decide (x188>0))))))))))
def cheb_Make_j1 (a3:Int) (a2:AD) (a0:Int) (a1:Int) (a4:Int) (y14:Bool):Option (ApiPiece × Int):=
 (if y14=true then (some ((⟨⟨⟨false,[]⟩,0⟩,0,[],⟨⟨false,[]⟩,0⟩⟩:ApiPiece),1)) else ((dyad_Half a3).bind fun x15=>((dyad_Add a2 (⟨((x15).M),(x15).E⟩:AD)).bind fun x16=>(if ¬x16.2=0 then (some ((⟨⟨⟨false,[]⟩,0⟩,0,[],⟨⟨false,[]⟩,0⟩⟩:ApiPiece),x16.2)) else ((fun_Slope a0 a1 a2 (⟨((x16.1).M),(x16.1).E⟩:AD) (IntKind.i64.wrap (a4+1))).bind fun x17=>(if ¬x17.2=0 then (some ((⟨⟨⟨false,[]⟩,0⟩,0,[],⟨⟨false,[]⟩,0⟩⟩:ApiPiece),x17.2)) else none))))))
def cheb_Make (a0:Int) (a1:Int) (a2:AD) (a3:Int) (a4:Int):Option (ApiPiece × Int):=
 ((cheb_stretch a3).bind fun x18=>(if ¬x18=true then (cheb_Make_j1 a3 a2 a0 a1 a4 true) else ((cheb_degree a4).bind fun x19=>(if ¬x19=true then (cheb_Make_j1 a3 a2 a0 a1 a4 true) else ((cheb_plain a2).bind fun x20=>(cheb_Make_j1 a3 a2 a0 a1 a4 (!x20)))))))
def cheb_Build_j2 (a0:Int) (a1:Int) (a2:AD) (a3:Int) (a4:Int) (a5:Int):Option (ApiTable × Int × Int):=
 (some ((⟨a0,a1,a2,a3,a4,a5,[]⟩:ApiTable),0,0))
def cheb_Build_l3 (x28:(List ChebPart)) (a6:Int) (a0:Int) (a1:Int) (a5:Int) (a4:Int) (a2:AD) (a3:Int):Nat→Option (ApiTable × Int × Int)
 | 0=>none
 | n+1=>(if (x28.length:Int)>0 then (if 0=a6 then (some ((⟨0,0,⟨⟨false,[]⟩,0⟩,0,0,0,[]⟩:ApiTable),0,9)) else ((cheb_queue_next x28).bind fun x50=>((cheb_Make a0 a1 (⟨(((x50.1).a).M),((x50.1).a).E⟩:AD) ((x50.1).w) a5).bind fun x51=>(if ¬x51.2=0 then (some ((⟨0,0,⟨⟨false,[]⟩,0⟩,0,0,0,[]⟩:ApiTable),0,x51.2)) else ((dyad_Half (IntKind.i64.wrap ((IntKind.i64.wrap (0-a4))-2))).bind fun x52=>none))))) else (cheb_Build_j2 a0 a1 a2 a3 a4 a5))
def cheb_Build_j1 (a2:AD) (a3:Int) (a6:Int) (a0:Int) (a1:Int) (a5:Int) (a4:Int) (y27:Bool):Option (ApiTable × Int × Int):=
 (if y27=true then (some ((⟨0,0,⟨⟨false,[]⟩,0⟩,0,0,0,[]⟩:ApiTable),0,1)) else ((cheb_queue_add_6495 [(⟨a2,a3⟩:ChebPart)]).bind fun x28=>(cheb_Build_l3 x28 a6 a0 a1 a5 a4 a2 a3 fuel)))
def cheb_Build (a0:Int) (a1:Int) (a2:AD) (a3:Int) (a4:Int) (a5:Int) (a6:Int):Option (ApiTable × Int × Int):=
 (if a4<4 then (cheb_Build_j1 a2 a3 a6 a0 a1 a5 a4 true) else (if a4>48 then (cheb_Build_j1 a2 a3 a6 a0 a1 a5 a4 true) else (cheb_Build_j1 a2 a3 a6 a0 a1 a5 a4 (decide (a6<0)))))
def r01_Bits_j1 (y16:Int):Option (Int):=
 (some y16)
def r01_Bits_l2:Nat→Int→Int→Option (Int)
 | 0,_,_=>none
 | n+1,y19,y20=>(if y20>0 then ((fun z0 z1=>r01_Bits_l2 n z0 z1) (IntKind.i64.wrap (y19+1)) (shrI .u32 y20 1)) else (r01_Bits_j1 y19))
def r01_Bits (a0:List Int):Option (Int):=
 ((r01_Trim a0).bind fun x11=>(if (x11.length:Int)=0 then (some 0) else (if 0≤(IntKind.i64.wrap ((x11.length:Int)-1))∧(IntKind.i64.wrap ((x11.length:Int)-1))<(x11.length:Int) then (r01_Bits_l2 fuel (IntKind.i64.wrap (32*(IntKind.i64.wrap ((x11.length:Int)-1)))) (x11.getD ((IntKind.i64.wrap ((x11.length:Int)-1)).toNat) (kInt .u32).z)) else none)))
def r05_size (a0:AD):Option (Int):=
 ((r01_Bits a0.M.Mag).bind fun x2=>(some (IntKind.i64.wrap (a0.E+x2))))
def r05_inRange_j1 (y7:Bool):Option (Bool):=
 (some y7)
def r05_inRange (a0:AD):Option (Bool):=
 (if (a0.M.Mag.length:Int)=0 then (some true) else ((r05_size a0).bind fun x5=>(if x5≥(-65536) then (if x5≤65536 then (if a0.E≥(-131072) then (if a0.E≤131072 then ((r01_Bits a0.M.Mag).bind fun x8=>(r05_inRange_j1 (decide (x8≤262144)))) else (r05_inRange_j1 false)) else (r05_inRange_j1 false)) else (r05_inRange_j1 false)) else (r05_inRange_j1 false))))
def r05_Make_j1 (a0:ApiInt) (a1:Int) (y4:Bool):Option (AD × Bool):=
 (if y4=true then (some ((⟨⟨false,[]⟩,0⟩:AD),false)) else ((r05_norm a0 a1).bind fun x5=>((r05_inRange (⟨((x5).M),(x5).E⟩:AD)).bind fun x6=>(if ¬x6=true then (some ((⟨⟨false,[]⟩,0⟩:AD),false)) else (some ((⟨((x5).M),(x5).E⟩:AD),true))))))
def r05_Make (a0:ApiInt) (a1:Int):Option (AD × Bool):=
 (if a1<(-100000) then (r05_Make_j1 a0 a1 true) else (r05_Make_j1 a0 a1 (decide (a1>100000))))
def r05_Half (a0:Int):Option (AD):=
 ((r04_From 1).bind fun x3=>((r05_Make (x3) a0).bind fun x4=>(some (⟨((x4.1).M),(x4.1).E⟩:AD))))
def r04_Right_j1 (y2:Bool):Option (Bool):=
 (some y2)
def r04_Right (a0:ApiInt):Option (Bool):=
 (if (a0.Mag.length:Int)=0 then (if ¬a0.Neg=true then (r04_Right_j1 true) else (if (a0.Mag.length:Int)>0 then (if 0≤(IntKind.i64.wrap ((a0.Mag.length:Int)-1))∧(IntKind.i64.wrap ((a0.Mag.length:Int)-1))<(a0.Mag.length:Int) then (r04_Right_j1 ((a0.Mag.getD ((IntKind.i64.wrap ((a0.Mag.length:Int)-1)).toNat) (kInt .u32).z) != 0)) else none) else (r04_Right_j1 false))) else (if (a0.Mag.length:Int)>0 then (if 0≤(IntKind.i64.wrap ((a0.Mag.length:Int)-1))∧(IntKind.i64.wrap ((a0.Mag.length:Int)-1))<(a0.Mag.length:Int) then (r04_Right_j1 ((a0.Mag.getD ((IntKind.i64.wrap ((a0.Mag.length:Int)-1)).toNat) (kInt .u32).z) != 0)) else none) else (r04_Right_j1 false)))
def r05_Right_j1 (y4:Bool):Option (Bool):=
 (some y4)
def r05_Right (a0:AD):Option (Bool):=
 ((r04_Right a0.M).bind fun x3=>(if ¬x3=true then (some false) else (if (a0.M.Mag.length:Int)=0 then (some (a0.E == 0)) else (if 0≤(0:Int)∧(0:Int)<(a0.M.Mag.length:Int) then (if ((a0.M.Mag.getD 0 (kInt .u32).z).tmod 2)=1 then (if a0.E≥(-131072) then (r05_Right_j1 (decide (a0.E≤131072))) else (r05_Right_j1 false)) else (r05_Right_j1 false)) else none))))
def r01_Cmp_j1:Option (Int):=
 (some 0)
def r01_Cmp_l2 (a0:List Int) (a1:List Int):Nat→Int→Option (Int)
 | 0,_=>none
 | n+1,y96=>(if y96≥0 then ((r01_at a0 y96).bind fun x101=>((r01_at a1 y96).bind fun x102=>(if x101<x102 then (some (-1)) else ((r01_at a0 y96).bind fun x103=>((r01_at a1 y96).bind fun x104=>(if x103>x104 then (some 1) else ((fun z0=>r01_Cmp_l2 a0 a1 n z0) (IntKind.i64.wrap (y96-1))))))))) else (r01_Cmp_j1))
def r01_Cmp (a0:List Int) (a1:List Int):Option (Int):=
 (r01_Cmp_l2 a0 a1 fuel (IntKind.i64.wrap ((mx (a0.length:Int) (a1.length:Int))-1)))
def r04_Cmp_j2 (x10:ApiInt) (x11:ApiInt) (y16:Bool):Option (Int):=
 (if y16=true then (some 1) else (if ((x10).Neg)=true then ((r01_Cmp ((x11).Mag) ((x10).Mag)).bind fun x17=>(some x17)) else ((r01_Cmp ((x10).Mag) ((x11).Mag)).bind fun x18=>(some x18))))
def r04_Cmp_j1 (x10:ApiInt) (x11:ApiInt) (y15:Bool):Option (Int):=
 (if y15=true then (some (-1)) else (if ¬((x10).Neg)=true then (r04_Cmp_j2 x10 x11 ((x11).Neg)) else (r04_Cmp_j2 x10 x11 false)))
def r04_Cmp (a0:ApiInt) (a1:ApiInt):Option (Int):=
 ((r04_Make a0.Neg a0.Mag).bind fun x10=>((r04_Make a1.Neg a1.Mag).bind fun x11=>(if ((x10).Neg)=true then (r04_Cmp_j1 x10 x11 (!((x11).Neg))) else (r04_Cmp_j1 x10 x11 false))))
def r01_Shl_j2 (y24:Int) (y25:List Int):Option ((List Int) × Bool):=
 (if 0<[(IntKind.u32.wrap y24)].length∧y25.length+[(IntKind.u32.wrap y24)].length≤9223372036854775807∧(y25.length+[(IntKind.u32.wrap y24)].length)*4≤140737488355328 then ((r01_Trim (y25++[(IntKind.u32.wrap y24)])).bind fun x26=>(some (x26,true))) else none)
def r01_Shl_l3 (a0:List Int) (a1:Int):Nat→Int→Int→List Int→Option ((List Int) × Bool)
 | 0,_,_,_=>none
 | n+1,y30,y31,y32=>(if y31<(a0.length:Int) then (if 0≤y31∧y31<(a0.length:Int) then (if 0≤(a1.tmod 32) then (if 0<[(IntKind.u32.wrap (orI .u64 (shlI .u64 (IntKind.u64.wrap (a0.getD y31.toNat (kInt .u32).z)) (a1.tmod 32)) y30))].length∧y32.length+[(IntKind.u32.wrap (orI .u64 (shlI .u64 (IntKind.u64.wrap (a0.getD y31.toNat (kInt .u32).z)) (a1.tmod 32)) y30))].length≤9223372036854775807∧(y32.length+[(IntKind.u32.wrap (orI .u64 (shlI .u64 (IntKind.u64.wrap (a0.getD y31.toNat (kInt .u32).z)) (a1.tmod 32)) y30))].length)*4≤140737488355328 then ((fun z0 z1 z2=>r01_Shl_l3 a0 a1 n z0 z1 z2) (shrI .u64 (orI .u64 (shlI .u64 (IntKind.u64.wrap (a0.getD y31.toNat (kInt .u32).z)) (a1.tmod 32)) y30) 32) (IntKind.i64.wrap (y31+1)) (y32++[(IntKind.u32.wrap (orI .u64 (shlI .u64 (IntKind.u64.wrap (a0.getD y31.toNat (kInt .u32).z)) (a1.tmod 32)) y30))])) else none) else none) else none) else (r01_Shl_j2 y30 y32))
def r01_Shl_j1 (a1:Int) (a0:List Int) (y17:Bool):Option ((List Int) × Bool):=
 (if y17=true then (some ([],false)) else (if 0≤(IntKind.i64.wrap (a1.tdiv 32))∧(IntKind.i64.wrap (a1.tdiv 32))*4≤281474976710656∧(IntKind.i64.wrap (a1.tdiv 32))≤281474976710656 then (r01_Shl_l3 a0 a1 fuel 0 0 (List.replicate ((IntKind.i64.wrap (a1.tdiv 32)).toNat) (kInt .u32).z)) else none))
def r01_Shl (a0:List Int) (a1:Int):Option ((List Int) × Bool):=
 (if a1<0 then (r01_Shl_j1 a1 a0 true) else (r01_Shl_j1 a1 a0 (decide (a1>100000))))
def r05_up_j1 (a0:ApiInt) (y33:List Int):Option (ApiInt):=
 ((r04_Make a0.Neg y33).bind fun x34=>(some (x34)))
def r05_up_l2 (a0:ApiInt):Nat→Int→List Int→Option (ApiInt)
 | 0,_,_=>none
 | n+1,y41,y42=>(if y41>0 then ((r01_Shl y42 (mn y41 100000)).bind fun x44=>((fun z0 z1=>r05_up_l2 a0 n z0 z1) (IntKind.i64.wrap (y41-(mn y41 100000))) x44.1)) else (r05_up_j1 a0 y42))
def r05_up (a0:ApiInt) (a1:Int):Option (ApiInt):=
 (r05_up_l2 a0 fuel a1 a0.Mag)
def r05_lift (a0:AD) (a1:AD):Option (ApiInt × ApiInt × Int):=
 (if (a0.M.Mag.length:Int)=0 then (some ((⟨false,[]⟩:ApiInt),a1.M,a1.E)) else (if (a1.M.Mag.length:Int)=0 then (some (a0.M,(⟨false,[]⟩:ApiInt),a0.E)) else (if a0.E>a1.E then ((r05_up a0.M (IntKind.i64.wrap (a0.E-a1.E))).bind fun x5=>(some ((x5),a1.M,a1.E))) else ((r05_up a1.M (IntKind.i64.wrap (a1.E-a0.E))).bind fun x6=>(some (a0.M,(x6),a0.E))))))
def r05_Cmp_j2 (a0:AD) (a1:AD) (y15:Bool):Option (Int):=
 (if y15=true then ((r04_Cmp a0.M a1.M).bind fun x16=>(some x16)) else ((r05_size a0).bind fun x17=>((r05_size a1).bind fun x18=>(if ¬x17=x18 then ((r05_size a0).bind fun x19=>((r05_size a1).bind fun x20=>(if ((decide (x19<x20)) == a0.M.Neg)=true then (some 1) else (some (-1))))) else ((r05_lift a0 a1).bind fun x21=>((r04_Cmp (x21.1) (x21.2.1)).bind fun x22=>(some x22)))))))
def r05_Cmp_j1 (a0:AD) (a1:AD) (y14:Bool):Option (Int):=
 (if y14=true then (some 0) else (if (a0.M.Neg != a1.M.Neg)=true then (r05_Cmp_j2 a0 a1 true) else (if (a0.M.Mag.length:Int)=0 then (r05_Cmp_j2 a0 a1 true) else (r05_Cmp_j2 a0 a1 ((a1.M.Mag.length:Int) == 0)))))
def r05_Cmp (a0:AD) (a1:AD):Option (Int):=
 ((r05_Right a0).bind fun x12=>((r05_Right a1).bind fun x13=>(if ¬x12=true then (r05_Cmp_j1 a0 a1 true) else (r05_Cmp_j1 a0 a1 (!x13)))))
def l15_examples_j1 (y22:Bool):Option (Bool):=
 (some y22)
def l15_examples:Option (Bool):=
 ((cheb_Node 0 0).bind fun x14=>((r05_From 1).bind fun x15=>((cheb_Build 8 0 (⟨((x15).M),(x15).E⟩:AD) 0 10 4 9).bind fun x16=>((cheb_Node 0 1).bind fun x17=>(if x14.2=1 then (if x16.2.2=3 then (if x16.2.1=0 then (if x17.2=0 then ((r05_Half (-1)).bind fun x23=>((r05_Cmp (⟨((x17.1).M),(x17.1).E⟩:AD) (⟨((x23).M),(x23).E⟩:AD)).bind fun x24=>(if x24>0 then ((r05_From 1).bind fun x25=>((r05_Cmp (⟨((x17.1).M),(x17.1).E⟩:AD) (⟨((x25).M),(x25).E⟩:AD)).bind fun x26=>(l15_examples_j1 (decide (x26<0))))) else (l15_examples_j1 false)))) else (l15_examples_j1 false)) else (l15_examples_j1 false)) else (l15_examples_j1 false)) else (l15_examples_j1 false))))))
def l15_ChebFalls_j3 (y38:Bool):Option (Bool):=
 (some y38)
def l15_ChebFalls_j2 (y23:Int) (x22:Bool) (y24:Int):Option (Bool):=
 (if (IntKind.i64.wrap (1+(y24.tmod 16)))≠0 then ((cheb_Node (y23.tmod (IntKind.i64.wrap (1+(y24.tmod 16)))) (IntKind.i64.wrap (1+(y24.tmod 16)))).bind fun x25=>((cheb_Node (IntKind.i64.wrap ((y23.tmod (IntKind.i64.wrap (1+(y24.tmod 16))))+1)) (IntKind.i64.wrap (1+(y24.tmod 16)))).bind fun x26=>((cheb_Node (IntKind.i64.wrap ((IntKind.i64.wrap (1+(y24.tmod 16)))-(y23.tmod (IntKind.i64.wrap (1+(y24.tmod 16)))))) (IntKind.i64.wrap (1+(y24.tmod 16)))).bind fun x27=>((dyad_Add (⟨((x25.1).M),(x25.1).E⟩:AD) (⟨((x27.1).M),(x27.1).E⟩:AD)).bind fun x28=>((dyad_Half (-55)).bind fun x29=>((dyad_Neg (⟨((x29).M),(x29).E⟩:AD)).bind fun x30=>((dyad_Half (-55)).bind fun x31=>((dyad_From (-1)).bind fun x32=>((dyad_From 1).bind fun x33=>(if x22=true then (if x25.2=0 then (if x26.2=0 then (if x27.2=0 then (if x28.2=0 then ((dyad_Cmp (⟨((x25.1).M),(x25.1).E⟩:AD) (⟨((x26.1).M),(x26.1).E⟩:AD)).bind fun x39=>(if x39>0 then ((iv_Has (⟨⟨((x30).M),(x30).E⟩,⟨((x31).M),(x31).E⟩⟩:AI) (⟨((x28.1).M),(x28.1).E⟩:AD)).bind fun x40=>(if x40=true then ((iv_Has (⟨⟨((x32).M),(x32).E⟩,⟨((x33).M),(x33).E⟩⟩:AI) (⟨((x25.1).M),(x25.1).E⟩:AD)).bind fun x41=>(if x41=true then ((iv_Has (⟨⟨((x32).M),(x32).E⟩,⟨((x33).M),(x33).E⟩⟩:AI) (⟨((x26.1).M),(x26.1).E⟩:AD)).bind fun x42=>(l15_ChebFalls_j3 x42)) else (l15_ChebFalls_j3 false))) else (l15_ChebFalls_j3 false))) else (l15_ChebFalls_j3 false))) else (l15_ChebFalls_j3 false)) else (l15_ChebFalls_j3 false)) else (l15_ChebFalls_j3 false)) else (l15_ChebFalls_j3 false)) else (l15_ChebFalls_j3 false))))))))))) else none)
def l15_ChebFalls_j1 (a1:Int) (x22:Bool) (y23:Int):Option (Bool):=
 (if a1<0 then (l15_ChebFalls_j2 y23 x22 (IntKind.i64.wrap (0-(IntKind.i64.wrap (a1+1))))) else (l15_ChebFalls_j2 y23 x22 a1))
def l15_ChebFalls (a0:Int) (a1:Int):Option (Bool):=
 ((l15_examples).bind fun x22=>(if ¬x22=true then (some false) else (if a0<0 then (l15_ChebFalls_j1 a1 x22 (IntKind.i64.wrap (0-(IntKind.i64.wrap (a0+1))))) else (l15_ChebFalls_j1 a1 x22 a0))))
end Go.Proofs.YtoakhpdeadglpaaGreat.Gen
