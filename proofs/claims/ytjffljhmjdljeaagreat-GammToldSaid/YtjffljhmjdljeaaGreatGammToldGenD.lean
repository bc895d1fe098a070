/- Printed by gen.py: the plain functions. -/
import Derived.Test.YtjffljhmjdljeaaGreatGammToldAbsS
set_option linter.unusedVariables false
set_option linter.unusedSimpArgs false
namespace Go.Proofs.YtjffljhmjdljeaaGreat.Gen
open Go Go.Abs
open Go.IntKind (i64 u64 u32)
structure za where
 Neg:Bool
 Mag:List Int
def zAN:za:=⟨false,[]⟩
structure AD where
 M:za
 E:Int
def zAD:AD:=⟨zAN,0⟩
structure zha where
 mag:List Int
def zZintSize:zha:=⟨[]⟩
structure QH where
 size:zha
 neg:Bool
def zxD:QH:=⟨zZintSize,false⟩
structure AI where
 Lo:AD
 Hi:AD
def zAI:AI:=⟨zAD,zAD⟩
def zhb (a0:List Int) (y17:Int):Option ((List Int)):=
 (if 0≤(0:Int)∧(0:Int)≤y17∧y17≤(a0.length:Int) then (if (a0.take y17.toNat).length≤9223372036854775807∧(a0.take y17.toNat).length*4≤140737488355328 then (some (a0.take y17.toNat)) else none) else none)
def zeR (ag2_r01_Trim:Int→Option ((List Int))) (y21:Int) (a0:List Int) (y22:Bool):Option ((List Int)):=
 (if y22=true then (ag2_r01_Trim (i64.wrap (y21-1))) else (zhb a0 y21))
def zbA (a0:List Int):Nat→Int→Option ((List Int))
 | 0,_=>none
 | n+1,y21=>(if y21>0 then (if 0≤(i64.wrap (y21-1))∧(i64.wrap (y21-1))<(a0.length:Int) then (zeR (fun z0=>zbA a0 n z0) y21 a0 ((a0.getD ((i64.wrap (y21-1)).toNat) (kInt .u32).z) == 0)) else none) else (zeR (fun z0=>zbA a0 n z0) y21 a0 false))
def Zj (a0:List Int):Option ((List Int)):=
 (zbA a0 fuel (a0.length:Int))
def zbB (a0:Int):Option ((List Int)):=
 ((Zj [(u32.wrap a0),(u32.wrap (shrI .u64 a0 32))]).bind fun x2=>(some x2))
def znp (x3:(List Int)) (y4:Bool):Option za:=
 (some (⟨y4,x3⟩:za))
def qE (a0:Bool) (a1:List Int):Option za:=
 ((Zj a1).bind fun x3=>(if a0=true then (znp x3 (decide ((x3.length:Int)>0))) else (znp x3 false)))
def zeS (a0:Int):Option za:=
 (if a0<0 then ((zbB (u64.wrap ((u64.wrap (i64.wrap (0-(i64.wrap (a0+1)))))+1))).bind fun x5=>((qE true x5).bind fun x6=>(some x6))) else ((zbB (u64.wrap a0)).bind fun x7=>((qE false x7).bind fun x8=>(some x8))))
def znq (a1:Int) (a0:List Int) (y2:Bool):Option Bool:=
 (if y2=true then (some false) else (if 0≤(i64.wrap (a1.tdiv 32))∧(i64.wrap (a1.tdiv 32))<(a0.length:Int) then (if 0≤(a1.tmod 32) then (some ((zaw .u32 (shrI .u32 (a0.getD ((i64.wrap (a1.tdiv 32)).toNat) (kInt .u32).z) (a1.tmod 32)) 1) == 1)) else none) else none))
def zhc (a0:List Int) (a1:Int):Option Bool:=
 (if a1<0 then (znq a1 a0 true) else (znq a1 a0 (decide ((i64.wrap (a1.tdiv 32))≥(a0.length:Int)))))
def ZQ (a0:List Int) (a1:Int):Option Int:=
 (if a1≥(a0.length:Int) then (some 0) else (if 0≤a1∧a1<(a0.length:Int) then (some (u64.wrap (a0.getD a1.toNat (kInt .u32).z))) else none))
def zjY (y53:List Int):Option ((List Int)):=
 ((Zj y53).bind fun x54=>(some x54))
def zdy (a0:List Int) (a1:Int):Nat→Int→List Int→Option ((List Int))
 | 0,_,_=>none
 | n+1,y65,y66=>(if y65<(a0.length:Int) then ((ZQ a0 y65).bind fun x69=>((ZQ a0 (i64.wrap (y65+1))).bind fun x70=>(if 0≤(a1.tmod 32) then (if 0<[(u32.wrap (shrI .u64 (orI .u64 x69 (shlI .u64 x70 32)) (a1.tmod 32)))].length∧y66.length+[(u32.wrap (shrI .u64 (orI .u64 x69 (shlI .u64 x70 32)) (a1.tmod 32)))].length≤9223372036854775807∧(y66.length+[(u32.wrap (shrI .u64 (orI .u64 x69 (shlI .u64 x70 32)) (a1.tmod 32)))].length)*4≤140737488355328 then ((fun z0 z1=>zdy a0 a1 n z0 z1) (i64.wrap (y65+1)) (y66++[(u32.wrap (shrI .u64 (orI .u64 x69 (shlI .u64 x70 32)) (a1.tmod 32)))])) else none) else none))) else (zjY y66))
def zck (a0:List Int) (a1:Int):Option ((List Int)):=
 (if a1<0 then ((Zj a0).bind fun x36=>(some x36)) else (if (i64.wrap (a1.tdiv 32))≥(a0.length:Int) then (some []) else (zdy a0 a1 fuel (i64.wrap (a1.tdiv 32)) [])))
def zrD (x15:za) (a1:Int) (y21:Int):Option AD:=
 ((zck x15.Mag y21).bind fun x22=>((qE x15.Neg x22).bind fun x23=>(some (⟨x23,(i64.wrap (a1+y21))⟩:AD))))
def zeT (x15:za) (a1:Int):Nat→Int→Option AD
 | 0,_=>none
 | n+1,y27=>((zhc x15.Mag y27).bind fun x28=>(if ¬x28=true then ((fun z0=>zeT x15 a1 n z0) (i64.wrap (y27+1))) else (zrD x15 a1 y27)))
def zay (a0:za) (a1:Int):Option AD:=
 ((qE a0.Neg a0.Mag).bind fun x15=>(if (x15.Mag.length:Int)=0 then (some (⟨⟨false,[]⟩,0⟩:AD)) else (zeT x15 a1 fuel 0)))
def zaX (a0:Int):Option AD:=
 ((zeS a0).bind fun x3=>((zay x3 0).bind fun x4=>(some (⟨x4.M,x4.E⟩:AD))))
def zhd (a0:za):Option Bool:=
 (if (a0.Mag.length:Int)=0 then (some (!a0.Neg)) else (if 0≤(i64.wrap ((a0.Mag.length:Int)-1))∧(i64.wrap ((a0.Mag.length:Int)-1))<(a0.Mag.length:Int) then (some ((a0.Mag.getD ((i64.wrap ((a0.Mag.length:Int)-1)).toNat) (kInt .u32).z) != 0)) else none))
def Qa (a0:AD):Option Bool:=
 (some ((a0.M.Mag.length:Int) == 0))
def znr (y2:Bool):Option Bool:=
 (some y2)
def zaz (a0:Int) (a1:Int) (a2:Int):Option Bool:=
 (if a0≥a1 then (znr (decide (a0≤a2))) else (znr false))
def zns (y9:Bool):Option Bool:=
 (some y9)
def Zc (a0:AD):Option Bool:=
 ((zhd a0.M).bind fun x6=>(if ¬x6=true then (some false) else ((Qa a0).bind fun x7=>(if x7=true then (some (a0.E == 0)) else (if 0≤(0:Int)∧(0:Int)<(a0.M.Mag.length:Int) then (if ¬(zaw .u32 (a0.M.Mag.getD 0 (kInt .u32).z) 1)=0 then ((zaz a0.E (-131072) 131072).bind fun x10=>(zns x10)) else (zns false)) else none)))))
def znt (y17:List Int):Option ((List Int)):=
 (some y17)
def zjZ (y21:List Int) (ag2_nat_trim:List Int→Option ((List Int))) (y22:Bool):Option ((List Int)):=
 (if y22=true then (if 0≤(0:Int)∧(0:Int)≤(i64.wrap ((y21.length:Int)-1))∧(i64.wrap ((y21.length:Int)-1))≤(y21.length:Int) then (ag2_nat_trim (y21.take ((i64.wrap ((y21.length:Int)-1)).toNat))) else none) else (znt y21))
def zdz:Nat→List Int→Option ((List Int))
 | 0,_=>none
 | n+1,y21=>(if (y21.length:Int)>0 then (if 0≤(i64.wrap ((y21.length:Int)-1))∧(i64.wrap ((y21.length:Int)-1))<(y21.length:Int) then (zjZ y21 (fun z0=>zdz n z0) ((y21.getD ((i64.wrap ((y21.length:Int)-1)).toNat) (kInt .u32).z) == 0)) else none) else (zjZ y21 (fun z0=>zdz n z0) false))
def qZ (a0:List Int):Option ((List Int)):=
 (zdz fuel a0)
def zeU (y8:Int) (y9:Int):Option Int:=
 ((if 0≤(IntKind.u8.wrap y8) then (⟨#[0,1,2,2,3,3,3,3,4,4,4,4,4,4,4,4,5,5,5,5,5,5,5,5,5,5,5,5,5,5,5,5,6,6,6,6,6,6,6,6,6,6,6,6,6,6,6,6,6,6,6,6,6,6,6,6,6,6,6,6,6,6,6,6,7,7,7,7,7,7,7,7,7,7,7,7,7,7,7,7,7,7,7,7,7,7,7,7,7,7,7,7,7,7,7,7,7,7,7,7,7,7,7,7,7,7,7,7,7,7,7,7,7,7,7,7,7,7,7,7,7,7,7,7,7,7,7,7,8,8,8,8,8,8,8,8,8,8,8,8,8,8,8,8,8,8,8,8,8,8,8,8,8,8,8,8,8,8,8,8,8,8,8,8,8,8,8,8,8,8,8,8,8,8,8,8,8,8,8,8,8,8,8,8,8,8,8,8,8,8,8,8,8,8,8,8,8,8,8,8,8,8,8,8,8,8,8,8,8,8,8,8,8,8,8,8,8,8,8,8,8,8,8,8,8,8,8,8,8,8,8,8,8,8,8,8,8,8,8,8,8,8,8,8,8,8,8,8,8,8,8,8,8,8,8,8]⟩:ByteArray)[(IntKind.u8.wrap y8).toNat]? else none).bind fun b10=>(some (i64.wrap (y9+(i64.wrap (b10.toNat:Int))))))
def zhe (y6:Int) (y7:Int):Option Int:=
 (if y6≥256 then (zeU (shrI .u32 y6 8) (i64.wrap (y7+8))) else (zeU y6 y7))
def zeV (a0:Int):Option Int:=
 (if a0≥65536 then (zhe (shrI .u32 a0 16) 16) else (zhe a0 0))
def ZR (a0:List Int):Option Int:=
 ((qZ a0).bind fun x3=>(if (x3.length:Int)=0 then (some 0) else (if 0≤(i64.wrap ((x3.length:Int)-1))∧(i64.wrap ((x3.length:Int)-1))<(x3.length:Int) then ((zeV (x3.getD ((i64.wrap ((x3.length:Int)-1)).toNat) (kInt .u32).z)).bind fun x4=>(some (i64.wrap ((i64.wrap (32*(i64.wrap ((x3.length:Int)-1))))+x4)))) else none)))
def zdA (l:List Int):Option (List Int):=
 if l.length≤9223372036854775807∧l.length*4≤140737488355328 then some l else none
def zaY (a0:List Int):Option ((List Int)):=
 ((qZ a0).bind fun x3=>((zdA x3).bind fun x4=>(some x4)))
def znu (x3:(List Int)) (y4:Bool):Option QH:=
 (some (⟨⟨x3⟩,y4⟩:QH))
def Q5 (a0:za):Option QH:=
 ((zaY a0.Mag).bind fun x3=>(if a0.Neg=true then (znu x3 (decide ((x3.length:Int)>0))) else (znu x3 false)))
def zrE:Option Int:=
 (some 0)
def zeW (x7:(List Int)) (x8:(List Int)):Nat→Int→Option Int
 | 0,_=>none
 | n+1,y12=>(if y12<(x7.length:Int) then (if 0≤(i64.wrap ((i64.wrap ((x7.length:Int)-1))-y12))∧(i64.wrap ((i64.wrap ((x7.length:Int)-1))-y12))<(x7.length:Int) then (if 0≤(i64.wrap ((i64.wrap ((x8.length:Int)-1))-y12))∧(i64.wrap ((i64.wrap ((x8.length:Int)-1))-y12))<(x8.length:Int) then (if (x7.getD ((i64.wrap ((i64.wrap ((x7.length:Int)-1))-y12)).toNat) (kInt .u32).z)<(x8.getD ((i64.wrap ((i64.wrap ((x8.length:Int)-1))-y12)).toNat) (kInt .u32).z) then (some (-1)) else (if (x7.getD ((i64.wrap ((i64.wrap ((x7.length:Int)-1))-y12)).toNat) (kInt .u32).z)>(x8.getD ((i64.wrap ((i64.wrap ((x8.length:Int)-1))-y12)).toNat) (kInt .u32).z) then (some 1) else ((fun z0=>zeW x7 x8 n z0) (i64.wrap (y12+1))))) else none) else none) else zrE)
def zdB (a0:List Int) (a1:List Int):Option Int:=
 ((qZ a0).bind fun x7=>((qZ a1).bind fun x8=>(if ¬(x7.length:Int)=(x8.length:Int) then (if (x7.length:Int)<(x8.length:Int) then (some (-1)) else (some 1)) else (zeW x7 x8 fuel 0))))
def znv (y22:List Int) (y23:Bool) (y24:List Int) (y25:Bool):Option Int:=
 ((zdB y22 y24).bind fun x26=>(some x26))
def znw (x14:QH) (x15:QH) (y21:Bool):Option Int:=
 (if y21=true then (some (-1)) else (if (x14.neg != x15.neg)=true then (some 1) else (if x14.neg=true then (znv x15.size.mag x15.neg x14.size.mag x14.neg) else (znv x14.size.mag x14.neg x15.size.mag x15.neg))))
def zdC (a0:za) (a1:za):Option Int:=
 ((Q5 a0).bind fun x14=>((Q5 a1).bind fun x15=>(if (x14.neg != x15.neg)=true then (znw x14 x15 x14.neg) else (znw x14 x15 false))))
def zcl (a0:AD):Option Int:=
 ((ZR a0.M.Mag).bind fun x2=>(some (i64.wrap (a0.E+x2))))
def zj0 (a0:zha):Option Bool:=
 (some ((a0.mag.length:Int) == 0))
def znx (a0:QH) (y5:Bool):Option za:=
 (some (⟨y5,a0.size.mag⟩:za))
def zhf (a0:QH):Option za:=
 (if a0.neg=true then ((zj0 a0.size).bind fun x6=>(znx a0 (!x6))) else (znx a0 false))
def Qm (a0:Bool) (a1:List Int):Option za:=
 ((Q5 (⟨a0,a1⟩:za)).bind fun x3=>((zhf (⟨x3.size,x3.neg⟩:QH)).bind fun x4=>(some x4)))
def zeX (a0:za):Option za:=
 ((Qm (!a0.Neg) a0.Mag).bind fun x2=>(some x2))
def zbC (a0:AD):Option AD:=
 ((Zc a0).bind fun x3=>(if ¬x3=true then (some (⟨⟨false,[]⟩,0⟩:AD)) else ((zeX a0.M).bind fun x4=>(some (⟨x4,a0.E⟩:AD)))))
def zj1 (y19:List Int):Option ((List Int) × Bool):=
 ((qZ y19).bind fun x20=>(some (x20,true)))
def zdD (x14:(List Int)) (a1:Int):Nat→Int→List Int→Option ((List Int) × Bool)
 | 0,_,_=>none
 | n+1,y23,y24=>(if y23<(x14.length:Int) then (if 0≤y23∧y23<(x14.length:Int) then (if 0≤(a1.tmod 32) then (if 0≤(i64.wrap ((i64.wrap (a1.tdiv 32))+y23))∧(i64.wrap ((i64.wrap (a1.tdiv 32))+y23)).toNat<y24.length then (if 0≤(i64.wrap ((i64.wrap (a1.tdiv 32))+y23))∧(i64.wrap ((i64.wrap (a1.tdiv 32))+y23)).toNat<y24.length then (if 0≤(i64.wrap ((i64.wrap ((i64.wrap (a1.tdiv 32))+y23))+1))∧(i64.wrap ((i64.wrap ((i64.wrap (a1.tdiv 32))+y23))+1)).toNat<((y24.set ((i64.wrap ((i64.wrap (a1.tdiv 32))+y23)).toNat) (orI .u32 (y24.getD ((i64.wrap ((i64.wrap (a1.tdiv 32))+y23)).toNat) (kInt .u32).z) (u32.wrap (shlI .u64 (u64.wrap (x14.getD y23.toNat (kInt .u32).z)) (a1.tmod 32)))))).length then ((fun z0 z1=>zdD x14 a1 n z0 z1) (i64.wrap (y23+1)) (((y24.set ((i64.wrap ((i64.wrap (a1.tdiv 32))+y23)).toNat) (orI .u32 (y24.getD ((i64.wrap ((i64.wrap (a1.tdiv 32))+y23)).toNat) (kInt .u32).z) (u32.wrap (shlI .u64 (u64.wrap (x14.getD y23.toNat (kInt .u32).z)) (a1.tmod 32)))))).set ((i64.wrap ((i64.wrap ((i64.wrap (a1.tdiv 32))+y23))+1)).toNat) (u32.wrap (shrI .u64 (shlI .u64 (u64.wrap (x14.getD y23.toNat (kInt .u32).z)) (a1.tmod 32)) 32)))) else none) else none) else none) else none) else none) else (zj1 y24))
def zhg (a0:List Int) (a1:Int) (y13:Bool):Option ((List Int) × Bool):=
 (if y13=true then (some ([],false)) else ((qZ a0).bind fun x14=>(if 0≤(i64.wrap ((i64.wrap ((i64.wrap (a1.tdiv 32))+(x14.length:Int)))+1))∧(i64.wrap ((i64.wrap ((i64.wrap (a1.tdiv 32))+(x14.length:Int)))+1))*4≤281474976710656∧(i64.wrap ((i64.wrap ((i64.wrap (a1.tdiv 32))+(x14.length:Int)))+1))≤281474976710656 then (zdD x14 a1 fuel 0 (List.replicate ((i64.wrap ((i64.wrap ((i64.wrap (a1.tdiv 32))+(x14.length:Int)))+1)).toNat) (kInt .u32).z)) else none)))
def zaZ (a0:List Int) (a1:Int):Option ((List Int) × Bool):=
 (if a1<0 then (zhg a0 a1 true) else (zhg a0 a1 (decide (a1>100000))))
def zny (y34:List Int) (y35:Int):Option ((List Int)):=
 ((zaZ y34 (mx y35 0)).bind fun x36=>(some x36.1))
def zeY:Nat→List Int→Int→Option ((List Int))
 | 0,_,_=>none
 | n+1,y43,y44=>(if y44>100000 then ((zaZ y43 100000).bind fun x46=>((fun z0 z1=>zeY n z0 z1) x46.1 (i64.wrap (y44-100000)))) else (zny y43 y44))
def za0 (a0:List Int) (a1:Int):Option ((List Int)):=
 (zeY fuel a0 a1)
def zdE (a0:Int) (a1:Int) (a2:Int):Option (Int × Int):=
 (some ((u32.wrap (u64.wrap ((u64.wrap ((u64.wrap a0)+(u64.wrap a1)))+(u64.wrap a2)))),(u32.wrap (shrI .u64 (u64.wrap ((u64.wrap ((u64.wrap a0)+(u64.wrap a1)))+(u64.wrap a2))) 32))))
def zj2 (y42:List Int) (y62:Int) (y63:List Int):Option ((List Int)):=
 (if 0≤(y42.length:Int)∧y42.length<y63.length then ((qZ (y63.set y42.length y62)).bind fun x64=>(some x64)) else none)
def zeZ (y77:Int) (y42:List Int) (y76:Int) (y78:List Int) (ag3_nat_Add:Int→Int→List Int→Option ((List Int))) (y81:Int):Option ((List Int)):=
 (if 0≤y77∧y77<(y42.length:Int) then ((zdE (y42.getD y77.toNat (kInt .u32).z) y81 y76).bind fun x82=>(if 0≤y77∧y77.toNat<y78.length then (ag3_nat_Add x82.2 (i64.wrap (y77+1)) (y78.set y77.toNat x82.1)) else none)) else none)
def za1 (y42:List Int) (y43:List Int):Nat→Int→Int→List Int→Option ((List Int))
 | 0,_,_,_=>none
 | n+1,y76,y77,y78=>(if y77<(y42.length:Int) then (if y77<(y43.length:Int) then (if 0≤y77∧y77<(y43.length:Int) then (zeZ y77 y42 y76 y78 (fun z0 z1 z2=>za1 y42 y43 n z0 z1 z2) (y43.getD y77.toNat (kInt .u32).z)) else none) else (zeZ y77 y42 y76 y78 (fun z0 z1 z2=>za1 y42 y43 n z0 z1 z2) 0)) else (zj2 y42 y76 y78))
def ze0 (y42:List Int) (y43:List Int):Option ((List Int)):=
 (if 0≤(i64.wrap ((y42.length:Int)+1))∧(i64.wrap ((y42.length:Int)+1))*4≤281474976710656∧(i64.wrap ((y42.length:Int)+1))≤281474976710656 then (za1 y42 y43 fuel 0 0 (List.replicate ((i64.wrap ((y42.length:Int)+1)).toNat) (kInt .u32).z)) else none)
def zcm (a0:List Int) (a1:List Int):Option ((List Int)):=
 (if (a0.length:Int)<(a1.length:Int) then (ze0 a1 a0) else (ze0 a0 a1))
def zcn (a0:Int) (a1:Int) (a2:Int):Option (Int × Int):=
 (some ((u32.wrap ((u32.wrap (a0-a1))-a2)),(shrI .u32 (orI .u32 (zaw .u32 (zjI .u32 a0) a1) (zaw .u32 (zjI .u32 (znd .u32 a0 a1)) (u32.wrap ((u32.wrap (a0-a1))-a2)))) 31)))
def zj3 (y62:Int) (y63:List Int):Option ((List Int) × Bool):=
 (if y62>0 then (some ([],false)) else ((qZ y63).bind fun x64=>(some (x64,true))))
def ze1 (y77:Int) (x42:(List Int)) (y76:Int) (y78:List Int) (ag2_nat_Sub:Int→Int→List Int→Option ((List Int) × Bool)) (y81:Int):Option ((List Int) × Bool):=
 (if 0≤y77∧y77<(x42.length:Int) then ((zcn (x42.getD y77.toNat (kInt .u32).z) y81 y76).bind fun x82=>(if 0≤y77∧y77.toNat<y78.length then (ag2_nat_Sub x82.2 (i64.wrap (y77+1)) (y78.set y77.toNat x82.1)) else none)) else none)
def za2 (x42:(List Int)) (x43:(List Int)):Nat→Int→Int→List Int→Option ((List Int) × Bool)
 | 0,_,_,_=>none
 | n+1,y76,y77,y78=>(if y77<(x42.length:Int) then (if y77<(x43.length:Int) then (if 0≤y77∧y77<(x43.length:Int) then (ze1 y77 x42 y76 y78 (fun z0 z1 z2=>za2 x42 x43 n z0 z1 z2) (x43.getD y77.toNat (kInt .u32).z)) else none) else (ze1 y77 x42 y76 y78 (fun z0 z1 z2=>za2 x42 x43 n z0 z1 z2) 0)) else (zj3 y76 y78))
def ze2 (a0:List Int) (a1:List Int):Option ((List Int) × Bool):=
 ((qZ a0).bind fun x42=>((qZ a1).bind fun x43=>(if (x42.length:Int)<(x43.length:Int) then (some ([],false)) else (if 0≤(x42.length:Int)∧(x42.length:Int)*4≤281474976710656∧(x42.length:Int)≤281474976710656 then (za2 x42 x43 fuel 0 0 (List.replicate x42.length (kInt .u32).z)) else none))))
def znz (y17:List Int) (y18:Bool) (y19:List Int) (y20:Bool):Option za:=
 ((ze2 y17 y19).bind fun x21=>((Qm y18 x21.1).bind fun x22=>(some x22)))
def zhh (a0:za) (a1:za):Option za:=
 ((Q5 a0).bind fun x12=>((Q5 a1).bind fun x13=>(if (x12.neg == x13.neg)=true then ((zcm x12.size.mag x13.size.mag).bind fun x14=>((Qm x12.neg x14).bind fun x15=>(some x15))) else ((zdB x12.size.mag x13.size.mag).bind fun x16=>(if x16<0 then (znz x13.size.mag x13.neg x12.size.mag x12.neg) else (znz x12.size.mag x12.neg x13.size.mag x13.neg))))))
def zj4 (y2:Bool):Option Bool:=
 (some y2)
def ze3 (a0:List Int) (a1:Int):Option Bool:=
 (if a1≥0 then (if (i64.wrap (a1.tdiv 32))<(a0.length:Int) then (if 0≤(i64.wrap (a1.tdiv 32))∧(i64.wrap (a1.tdiv 32))<(a0.length:Int) then (if 0≤(a1.tmod 32) then (zj4 ((zaw .u32 (a0.getD ((i64.wrap (a1.tdiv 32)).toNat) (kInt .u32).z) (shlI .u32 1 (a1.tmod 32))) != 0)) else none) else none) else (zj4 false)) else (zj4 false))
def zj5 (y37:List Int):Option ((List Int)):=
 ((qZ y37).bind fun x38=>(some x38))
def ze4 (a1:Int) (y45:Int) (y46:List Int) (ag2_nat_Shr:Int→List Int→Option ((List Int))) (y48:Int):Option ((List Int)):=
 (if 0≤(a1.tmod 32) then (if 0≤y45∧y45.toNat<y46.length then (ag2_nat_Shr (i64.wrap (y45+1)) (y46.set y45.toNat (u32.wrap (shrI .u64 y48 (a1.tmod 32))))) else none) else none)
def za3 (x25:(List Int)) (a1:Int):Nat→Int→List Int→Option ((List Int))
 | 0,_,_=>none
 | n+1,y45,y46=>(if y45<(((x25.take x25.length).drop ((i64.wrap (a1.tdiv 32)).toNat)).length:Int) then (if 0≤y45∧y45<(((x25.take x25.length).drop ((i64.wrap (a1.tdiv 32)).toNat)).length:Int) then (if (i64.wrap (y45+1))<(((x25.take x25.length).drop ((i64.wrap (a1.tdiv 32)).toNat)).length:Int) then (if 0≤(i64.wrap (y45+1))∧(i64.wrap (y45+1))<(((x25.take x25.length).drop ((i64.wrap (a1.tdiv 32)).toNat)).length:Int) then (ze4 a1 y45 y46 (fun z0 z1=>za3 x25 a1 n z0 z1) (orI .u64 (u64.wrap (((x25.take x25.length).drop ((i64.wrap (a1.tdiv 32)).toNat)).getD y45.toNat (kInt .u32).z)) (shlI .u64 (u64.wrap (((x25.take x25.length).drop ((i64.wrap (a1.tdiv 32)).toNat)).getD ((i64.wrap (y45+1)).toNat) (kInt .u32).z)) 32))) else none) else (ze4 a1 y45 y46 (fun z0 z1=>za3 x25 a1 n z0 z1) (u64.wrap (((x25.take x25.length).drop ((i64.wrap (a1.tdiv 32)).toNat)).getD y45.toNat (kInt .u32).z)))) else none) else (zj5 y46))
def zco (a0:List Int) (a1:Int):Option ((List Int)):=
 ((qZ a0).bind fun x25=>(if a1<0 then ((zdA x25).bind fun x26=>(some x26)) else (if (i64.wrap (a1.tdiv 32))≥(x25.length:Int) then (some []) else (if 0≤(i64.wrap (a1.tdiv 32))∧(i64.wrap (a1.tdiv 32))≤(x25.length:Int)∧(x25.length:Int)≤(x25.length:Int) then (if 0≤(((x25.take x25.length).drop ((i64.wrap (a1.tdiv 32)).toNat)).length:Int)∧(((x25.take x25.length).drop ((i64.wrap (a1.tdiv 32)).toNat)).length:Int)*4≤281474976710656∧(((x25.take x25.length).drop ((i64.wrap (a1.tdiv 32)).toNat)).length:Int)≤281474976710656 then (za3 x25 a1 fuel 0 (List.replicate (((x25.take x25.length).drop ((i64.wrap (a1.tdiv 32)).toNat)).length) (kInt .u32).z)) else none) else none))))
def zrF (x20:(List Int)) (a0:Bool) (a2:Int) (y29:Int):Option AD:=
 ((zco x20 y29).bind fun x30=>((Qm a0 x30).bind fun x31=>(some (⟨x31,(i64.wrap (a2+y29))⟩:AD))))
def zdF (x20:(List Int)) (a0:Bool) (a2:Int):Nat→Int→Option AD
 | 0,_=>none
 | n+1,y35=>((ze3 x20 y35).bind fun x36=>(if ¬x36=true then ((fun z0=>zdF x20 a0 a2 n z0) (i64.wrap (y35+1))) else (zrF x20 a0 a2 y35)))
def znA (x20:(List Int)) (a0:Bool) (a2:Int) (y23:Int):Option AD:=
 (zdF x20 a0 a2 fuel y23)
def ze5 (x20:(List Int)) (a0:Bool) (a2:Int):Nat→Int→Option AD
 | 0,_=>none
 | n+1,y38=>(if 0≤(i64.wrap (y38.tdiv 32))∧(i64.wrap (y38.tdiv 32))<(x20.length:Int) then (if (x20.getD ((i64.wrap (y38.tdiv 32)).toNat) (kInt .u32).z)=0 then ((fun z0=>ze5 x20 a0 a2 n z0) (i64.wrap (y38+32))) else (znA x20 a0 a2 y38)) else none)
def za4 (a0:Bool) (a1:List Int) (a2:Int):Option AD:=
 ((zaY a1).bind fun x20=>(if (x20.length:Int)=0 then (some (⟨⟨false,[]⟩,0⟩:AD)) else (ze5 x20 a0 a2 fuel 0)))
def ze6 (y30:Bool) (y31:List Int) (y32:Int) (y33:Bool) (y34:List Int) (y35:Int):Option AD:=
 ((za0 y31 (i64.wrap (y32-y35))).bind fun x36=>((zhh (⟨y30,x36⟩:za) (⟨y33,y34⟩:za)).bind fun x37=>((za4 x37.Neg x37.Mag y35).bind fun x38=>(some (⟨x38.M,x38.E⟩:AD)))))
def zdG (a0:AD) (a1:AD):Option AD:=
 ((Qa a0).bind fun x28=>(if x28=true then (some a1) else ((Qa a1).bind fun x29=>(if x29=true then (some a0) else (if a0.E<a1.E then (ze6 a1.M.Neg a1.M.Mag a1.E a0.M.Neg a0.M.Mag a0.E) else (ze6 a0.M.Neg a0.M.Mag a0.E a1.M.Neg a1.M.Mag a1.E))))))
def zcp (a0:AD) (a1:AD) (y22:Bool):Option Int:=
 (if y22=true then ((zdC a0.M a1.M).bind fun x23=>(some x23)) else ((zcl a0).bind fun x24=>((zcl a1).bind fun x25=>(if ¬x24=x25 then (if ((decide (x24<x25)) != a0.M.Neg)=true then (some (-1)) else (some 1)) else ((zbC a1).bind fun x26=>((zdG a0 (⟨x26.M,x26.E⟩:AD)).bind fun x27=>((zdC x27.M (⟨false,[]⟩:za)).bind fun x28=>(some x28))))))))
def zhi (a0:AD) (a1:AD) (y19:Bool):Option Int:=
 (if y19=true then (some 0) else (if (a0.M.Neg != a1.M.Neg)=true then (zcp a0 a1 true) else ((Qa a0).bind fun x29=>(if x29=true then (zcp a0 a1 true) else ((Qa a1).bind fun x30=>(zcp a0 a1 x30))))))
def ZA (a0:AD) (a1:AD):Option Int:=
 ((Zc a0).bind fun x31=>(if ¬x31=true then (zhi a0 a1 true) else ((Zc a1).bind fun x32=>(zhi a0 a1 (!x32)))))
def za5 (a0:Int):Option ((List Int)):=
 ((qZ [(u32.wrap a0),(u32.wrap (shrI .u64 a0 32))]).bind fun x2=>(some x2))
def znB (a0:Int) (y4:Int):Option za:=
 ((za5 y4).bind fun x5=>((Qm (decide (a0<0)) x5).bind fun x6=>(some x6)))
def ze7 (a0:Int):Option za:=
 (if a0<0 then (znB a0 (u64.wrap (0-(u64.wrap a0)))) else (znB a0 (u64.wrap a0)))
def ze8 (a0:Int):Option AD:=
 ((ze7 a0).bind fun x3=>((za4 x3.Neg x3.Mag 0).bind fun x4=>(some (⟨x4.M,x4.E⟩:AD))))
def zhj (y17:Bool):Option Bool:=
 (some y17)
def zbD (a0:AD):Option Bool:=
 ((Qa a0).bind fun x18=>(if x18=true then (zhj true) else ((zcl a0).bind fun x19=>((zaz x19 (-65536) 65536).bind fun x20=>(if x20=true then ((zaz a0.E (-131072) 131072).bind fun x21=>(if x21=true then ((ZR a0.M.Mag).bind fun x22=>(zhj (decide (x22≤262144)))) else (zhj false))) else (zhj false))))))
def zhk (a0:za) (a1:Int):Option (AD × Bool):=
 ((zaz a1 (-100000) 100000).bind fun x4=>(if ¬x4=true then (some ((⟨⟨false,[]⟩,0⟩:AD),false)) else ((za4 a0.Neg a0.Mag a1).bind fun x5=>((zbD (⟨x5.M,x5.E⟩:AD)).bind fun x6=>(if ¬x6=true then (some ((⟨⟨false,[]⟩,0⟩:AD),false)) else (some ((⟨x5.M,x5.E⟩:AD),true)))))))
def Q6 (a0:Int):Option AD:=
 ((ze7 1).bind fun x3=>((zhk x3 a0).bind fun x4=>(some (⟨x4.1.M,x4.1.E⟩:AD))))
def zhl (y54:Bool):Option Int:=
 (if y54=true then (some 4) else (some 0))
def zdH (a0:AD) (y48:Bool):Option Int:=
 (if y48=true then (some 1) else ((ZA a0 (⟨⟨false,[]⟩,0⟩:AD)).bind fun x49=>(if x49≤0 then (some 3) else ((ze8 64).bind fun x55=>((ZA a0 (⟨x55.M,x55.E⟩:AD)).bind fun x56=>(if x56>0 then (zhl true) else ((Q6 (-64)).bind fun x57=>((ZA a0 (⟨x57.M,x57.E⟩:AD)).bind fun x58=>(zhl (decide (x58<0)))))))))))
def Qn (a0:AD) (a1:Int):Option Int:=
 (if a1<2 then (zdH a0 true) else (if a1>64 then (zdH a0 true) else ((Zc a0).bind fun x59=>(if ¬x59=true then (zdH a0 true) else ((ZR a0.M.Mag).bind fun x60=>(zdH a0 (decide (x60>200))))))))
def znC (y4:Int):Option (Bool × Int):=
 (some ((y4 == 0),y4))
def znD (a1:Int) (a2:Int) (y3:Bool):Option (Bool × Int):=
 (if y3=true then (znC a1) else (znC a2))
def zaA (a0:Bool) (a1:Int) (a2:Int) (a3:Bool) (a4:List Int) (a5:Int):Option (Bool × Int):=
 (if ¬a0=true then (znD a1 a2 (a2 == 0)) else (znD a1 a2 false))
def zxE (y50:Int):Option (Bool × Int):=
 (some ((y50 == 0),y50))
def zcq (a0:List AD) (a2:Bool) (a3:List Int) (a4:Int):Nat→Int→Int→Option (Bool × Int)
 | 0,_,_=>none
 | n+1,y61,y62=>(if y61<(a0.length:Int) then (if 0≤y61∧y61<(a0.length:Int) then ((Zc (⟨((a0.getD y61.toNat zAD).M),(a0.getD y61.toNat zAD).E⟩:AD)).bind fun x65=>((zaA x65 1 y62 a2 a3 a4).bind fun x66=>((fun z0 z1=>zcq a0 a2 a3 a4 n z0 z1) (i64.wrap (y61+1)) x66.2))) else none) else (zxE y62))
def Q7 (a0:List AD) (a1:Int) (a2:Bool) (a3:List Int) (a4:Int):Option (Bool × Int):=
 (zcq a0 a2 a3 a4 fuel 0 a1)
def zj6 (a1:Int) (x19:QH) (y27:List Int):Option (za × Bool):=
 ((zco y27 (i64.wrap (0-a1))).bind fun x28=>((Qm x19.neg x28).bind fun x29=>(some (x29,true))))
def znE (a0:za) (a1:Int) (y18:Bool):Option (za × Bool):=
 (if y18=true then (some ((⟨false,[]⟩:za),false)) else ((Q5 a0).bind fun x19=>(if a1≥0 then ((zaZ x19.size.mag a1).bind fun x20=>((Qm x19.neg x20.1).bind fun x21=>(some (x21,true)))) else (if x19.neg=true then ((za5 1).bind fun x30=>((zaZ x30 (i64.wrap (0-a1))).bind fun x31=>((za5 1).bind fun x32=>((ze2 x31.1 x32).bind fun x33=>((zcm x19.size.mag x33.1).bind fun x34=>(zj6 a1 x19 x34)))))) else (zj6 a1 x19 x19.size.mag)))))
def zhm (a0:za) (a1:Int):Option (za × Bool):=
 (if a1<(-100000) then (znE a0 a1 true) else (znE a0 a1 (decide (a1>100000))))
def znF (y56:Bool) (y57:List Int):Option (za × Int):=
 (some ((⟨y56,y57⟩:za),0))
def zdI:Nat→Int→Bool→List Int→Option (za × Int)
 | 0,_,_,_=>none
 | n+1,y65,y66,y67=>(if y65>0 then ((zhm (⟨y66,y67⟩:za) (i64.wrap (0-(mn y65 100000)))).bind fun x69=>((fun z0 z1 z2=>zdI n z0 z1 z2) (i64.wrap (y65-100000)) x69.1.Neg x69.1.Mag)) else (znF y66 y67))
def znG (a0:AD) (y40:Bool) (y41:Int):Option (za × Int):=
 (if y40=true then (some ((⟨false,[]⟩:za),y41)) else (if a0.E≥0 then ((za0 a0.M.Mag a0.E).bind fun x42=>((Qm a0.M.Neg x42).bind fun x43=>(some (x43,0)))) else (zdI fuel (i64.wrap (0-a0.E)) a0.M.Neg a0.M.Mag)))
def zhn (a0:AD):Option (za × Int):=
 ((Q7 [a0] 0 a0.M.Neg a0.M.Mag a0.E).bind fun x70=>(if ¬x70.1=true then (znG a0 true x70.2) else ((zbD a0).bind fun x71=>((zaA x71 4 x70.2 a0.M.Neg a0.M.Mag a0.E).bind fun x72=>(znG a0 (!x72.1) x72.2)))))
def zho (a0:List Int):Option (Int × Bool):=
 ((qZ a0).bind fun x2=>(if (x2.length:Int)=0 then (some (0,true)) else (if (x2.length:Int)=1 then (if 0≤(0:Int)∧(0:Int)<(x2.length:Int) then (some ((u64.wrap (x2.getD 0 (kInt .u32).z)),true)) else none) else (if (x2.length:Int)=2 then (if 0≤(1:Int)∧(1:Int)<(x2.length:Int) then (if 0≤(0:Int)∧(0:Int)<(x2.length:Int) then (some ((orI .u64 (shlI .u64 (u64.wrap (x2.getD 1 (kInt .u32).z)) 32) (u64.wrap (x2.getD 0 (kInt .u32).z))),true)) else none) else none) else (some (0,false))))))
def zj7 (x8:Int × Bool) (y12:Bool):Option (Int × Bool):=
 (if y12=true then (some ((i64.wrap x8.1),true)) else (some (0,false)))
def zj8 (x8:Int × Bool) (x7:QH) (y11:Bool):Option (Int × Bool):=
 (if y11=true then (some ((i64.wrap (u64.wrap (0-x8.1))),true)) else (if x8.2=true then (if ¬x7.neg=true then (zj7 x8 (decide (x8.1<9223372036854775808))) else (zj7 x8 false)) else (zj7 x8 false)))
def zhp (a0:za):Option (Int × Bool):=
 ((Q5 a0).bind fun x7=>((zho x7.size.mag).bind fun x8=>(if x8.2=true then (if x7.neg=true then (zj8 x8 x7 (decide (x8.1≤9223372036854775808))) else (zj8 x8 x7 false)) else (zj8 x8 x7 false))))
def zaB (a0:AD):Option (Int × Int):=
 ((Qn a0 2).bind fun x4=>(if ¬x4=0 then (some (0,x4)) else ((zhn a0).bind fun x5=>((zhp x5.1).bind fun x6=>(some ((i64.wrap (256-x6.1)),0))))))
def znH (a0:Int) (y2:Bool):Option ((Int ⊕ (Int × Int × Int))):=
 (if y2=true then (some (Sum.inl 1)) else (some (Sum.inr (0,0,a0))))
def Q8 (a0:Int):Option ((Int ⊕ (Int × Int × Int))):=
 (if a0<2 then (znH a0 true) else (znH a0 (decide (a0>400))))
def zbE (a0:Int):Option ((Int ⊕ (Int × Int × Int))):=
 ((Q8 a0).bind fun x4=>match x4 with | Sum.inl x5=>(some (Sum.inl 0)) | (Sum.inr x6)=>(some (Sum.inr (x6.2.1,x6.2.2,0))))
def zhq (y11:Bool):Option Bool:=
 (some y11)
def QJ (a0:AI):Option Bool:=
 ((Zc a0.Lo).bind fun x12=>(if x12=true then ((Zc a0.Hi).bind fun x13=>(if x13=true then ((ZA a0.Lo a0.Hi).bind fun x14=>(zhq (decide (x14≤0)))) else (zhq false))) else (zhq false)))
def znI (y2:Int):Option (Bool × Int):=
 (some ((y2 == 0),y2))
def zdJ (a0:Int) (a1:Int) (a2:Int):Option (Bool × Int):=
 (if a1=0 then (znI a0) else (znI a1))
def zrG (y122:Int):Option (Bool × Int):=
 (some ((y122 == 0),y122))
def znJ (ag2_cv_fine:Int→Int→Option (Bool × Int)) (y149:Int) (y159:Bool) (y160:Int):Option (Bool × Int):=
 (if y159=true then (zrG y160) else (ag2_cv_fine (i64.wrap (y149+1)) y160))
def za6 (a0:List AI) (a2:Int):Nat→Int→Int→Option (Bool × Int)
 | 0,_,_=>none
 | n+1,y149,y150=>(if y149<(a0.length:Int) then (if 0≤y149∧y149<(a0.length:Int) then ((QJ (⟨⟨(((a0.getD y149.toNat zAI).Lo).M),((a0.getD y149.toNat zAI).Lo).E⟩,⟨(((a0.getD y149.toNat zAI).Hi).M),((a0.getD y149.toNat zAI).Hi).E⟩⟩:AI)).bind fun x161=>(if ¬x161=true then ((zdJ 1 y150 a2).bind fun x162=>(znJ (fun z0 z1=>za6 a0 a2 n z0 z1) y149 (!x162.1) x162.2)) else (znJ (fun z0 z1=>za6 a0 a2 n z0 z1) y149 false y150))) else none) else (zrG y150))
def ZS (a0:List AI) (a1:Int) (a2:Int):Option (Bool × Int):=
 (za6 a0 a2 fuel 0 a1)
def zaC (a0:AD) (a1:Int) (a2:Int):Option (AI × Int):=
 ((ZS [(⟨a0,a0⟩:AI)] a1 a2).bind fun x2=>(if ¬x2.1=true then (some ((⟨⟨⟨false,[]⟩,0⟩,⟨⟨false,[]⟩,0⟩⟩:AI),x2.2)) else (some ((⟨a0,a0⟩:AI),x2.2))))
def qI (a0:Int) (a1:Int) (a2:Int):Option (AI × Int):=
 ((ze8 a0).bind fun x3=>((zaC (⟨x3.M,x3.E⟩:AD) a1 a2).bind fun x4=>(some ((⟨⟨x4.1.Lo.M,x4.1.Lo.E⟩,⟨x4.1.Hi.M,x4.1.Hi.E⟩⟩:AI),x4.2))))
def zj9 (a1:Bool) (a2:List Int) (a3:Int) (y12:Bool) (y13:Int):Option (AD × Int × Int):=
 (if y12=true then (some ((⟨⟨false,[]⟩,0⟩:AD),y13,y13)) else (some ((⟨⟨a1,a2⟩,a3⟩:AD),0,y13)))
def Qo (a0:Int) (a1:Bool) (a2:List Int) (a3:Int):Option (AD × Int × Int):=
 (if ¬a0=0 then ((zaA true 4 a0 a1 a2 a3).bind fun x14=>(zj9 a1 a2 a3 (!x14.1) x14.2)) else ((zbD (⟨⟨a1,a2⟩,a3⟩:AD)).bind fun x15=>((zaA x15 4 a0 a1 a2 a3).bind fun x16=>(zj9 a1 a2 a3 (!x16.1) x16.2))))
def znK (x8:Bool × Int) (y10:Bool) (y11:List Int) (y12:Int):Option (AD × Int):=
 ((Qo x8.2 y10 y11 y12).bind fun x13=>(some ((⟨x13.1.M,x13.1.E⟩:AD),x13.2.1)))
def zhr (a0:AD) (a1:AD):Option (AD × Int):=
 ((Q7 [a0,a1] 0 false [] 0).bind fun x8=>(if x8.1=true then ((zdG a0 a1).bind fun x14=>(znK x8 x14.M.Neg x14.M.Mag x14.E)) else (znK x8 false [] 0)))
def zaD (a0:AD) (a1:Int) (a2:Int) (a3:Int):Option (AD × Int):=
 ((zdJ a1 a2 a3).bind fun x2=>(if ¬x2.1=true then (some ((⟨⟨false,[]⟩,0⟩:AD),x2.2)) else (some (a0,x2.2))))
def zcr (a0:AD) (a1:AD) (a2:Int) (a3:Int):Option (AD × Int):=
 (if ¬a2=0 then (some ((⟨⟨false,[]⟩,0⟩:AD),a2)) else ((zhr a0 a1).bind fun x3=>((zaD (⟨x3.1.M,x3.1.E⟩:AD) x3.2 a2 a3).bind fun x4=>(some ((⟨x4.1.M,x4.1.E⟩:AD),x4.2)))))
def ze9 (a0:Int) (a1:Int) (a2:Bool) (a3:List Int) (a4:Int):Option (Bool × Int):=
 ((zaz a0 2 400).bind fun x3=>((zaA x3 1 a1 a2 a3 a4).bind fun x4=>(some (x4.1,x4.2))))
def zka (a0:Bool) (y98:Int) (y103:List Int):Option (Bool × (List Int) × Int):=
 ((za4 a0 y103 y98).bind fun x104=>(some (x104.M.Neg,x104.M.Mag,x104.E)))
def znL (y97:List Int) (a0:Bool) (y98:Int) (y100:Bool):Option (Bool × (List Int) × Int):=
 (if y100=true then ((za5 1).bind fun x105=>((zcm y97 x105).bind fun x106=>(zka a0 y98 x106))) else (zka a0 y98 y97))
def zfa (a0:Bool) (a5:Bool) (y97:List Int) (y98:Int) (y99:Bool):Option (Bool × (List Int) × Int):=
 (if y99=true then (znL y97 a0 y98 a5) else (znL y97 a0 y98 false))
def znM (a1:List Int) (x68:Int) (a4:Int) (a0:Bool) (a5:Bool) (a2:Int) (y120:Bool):Option (Bool × (List Int) × Int):=
 ((zco a1 (i64.wrap (x68-a4))).bind fun x121=>(zfa a0 a5 x121 (i64.wrap (a2+(i64.wrap (x68-a4)))) y120))
def zkb (a1:List Int) (y131:Int) (ag5_dw_cut:Bool→Int→Option (Bool × (List Int) × Int)) (x68:Int) (a4:Int) (a0:Bool) (a5:Bool) (a2:Int) (y130:Bool) (y132:Bool):Option (Bool × (List Int) × Int):=
 (if y132=true then ((ze3 a1 y131).bind fun x134=>(ag5_dw_cut x134 (i64.wrap (y131+1)))) else (znM a1 x68 a4 a0 a5 a2 y130))
def zdK (x68:Int) (a4:Int) (a1:List Int) (a0:Bool) (a5:Bool) (a2:Int):Nat→Bool→Int→Option (Bool × (List Int) × Int)
 | 0,_,_=>none
 | n+1,y130,y131=>(if y131<(i64.wrap (x68-a4)) then (zkb a1 y131 (fun z0 z1=>zdK x68 a4 a1 a0 a5 a2 n z0 z1) x68 a4 a0 a5 a2 y130 (!y130)) else (zkb a1 y131 (fun z0 z1=>zdK x68 a4 a1 a0 a5 a2 n z0 z1) x68 a4 a0 a5 a2 y130 false))
def zcs (a0:Bool) (a1:List Int) (a2:Int) (a3:Bool) (a4:Int) (a5:Bool) (a6:Int) (a7:Bool) (a8:List Int) (a9:Int):Option (Bool × (List Int) × Int):=
 ((ZR a1).bind fun x68=>(if (i64.wrap (x68-a4))>0 then (zdK x68 a4 a1 a0 a5 a2 fuel a3 0) else (zfa a0 a5 a1 a2 a3)))
def znN (y16:Int) (y18:Bool) (y19:List Int) (y20:Int):Option (AD × Int):=
 ((Qo y16 y18 y19 y20).bind fun x21=>(some ((⟨x21.1.M,x21.1.E⟩:AD),x21.2.1)))
def znO (a0:AD) (a1:Int) (a2:Bool) (y15:Bool) (y16:Int):Option (AD × Int):=
 (if y15=true then ((zcs a0.M.Neg a0.M.Mag a0.E false a1 (a2 != a0.M.Neg) y16 false [] 0).bind fun x22=>(znN y16 x22.1 x22.2.1 x22.2.2)) else (znN y16 false [] 0))
def zfb (a0:AD) (a1:Int) (a2:Bool):Option (AD × Int):=
 ((Q7 [a0] 0 false [] 0).bind fun x23=>(if x23.1=true then ((ze9 a1 x23.2 false [] 0).bind fun x24=>(znO a0 a1 a2 x24.1 x24.2)) else (znO a0 a1 a2 false x23.2)))
def zct (a0:AD) (a1:Int) (a2:Int):Option (AD × Int):=
 (if ¬a1=0 then (some ((⟨⟨false,[]⟩,0⟩:AD),a1)) else ((zfb a0 a2 false).bind fun x3=>((zaD (⟨x3.1.M,x3.1.E⟩:AD) x3.2 a1 a2).bind fun x4=>(some ((⟨x4.1.M,x4.1.E⟩:AD),x4.2)))))
def zcu (a0:AD) (a1:Int) (a2:Int):Option (AD × Int):=
 (if ¬a1=0 then (some ((⟨⟨false,[]⟩,0⟩:AD),a1)) else ((zfb a0 a2 true).bind fun x3=>((zaD (⟨x3.1.M,x3.1.E⟩:AD) x3.2 a1 a2).bind fun x4=>(some ((⟨x4.1.M,x4.1.E⟩:AD),x4.2)))))
def za7 (a0:AD) (a1:AD) (a2:Int) (a3:Int):Option AI:=
 (if ¬a2=0 then (some (⟨⟨⟨false,[]⟩,0⟩,⟨⟨false,[]⟩,0⟩⟩:AI)) else (some (⟨a0,a1⟩:AI)))
def Qb (a0:AI) (a1:AI) (a2:Int) (a3:Int):Option (AI × Int):=
 ((ZS [a0,a1] a2 a3).bind fun x7=>(if ¬x7.1=true then (some ((⟨⟨⟨false,[]⟩,0⟩,⟨⟨false,[]⟩,0⟩⟩:AI),x7.2)) else ((zcr a0.Lo a1.Lo x7.2 a3).bind fun x8=>((zct (⟨x8.1.M,x8.1.E⟩:AD) x8.2 a3).bind fun x9=>((zcr a0.Hi a1.Hi x9.2 a3).bind fun x10=>((zcu (⟨x10.1.M,x10.1.E⟩:AD) x10.2 a3).bind fun x11=>((za7 (⟨x9.1.M,x9.1.E⟩:AD) (⟨x11.1.M,x11.1.E⟩:AD) x11.2 a3).bind fun x12=>(some ((⟨⟨x12.Lo.M,x12.Lo.E⟩,⟨x12.Hi.M,x12.Hi.E⟩⟩:AI),x11.2)))))))))
def zkc (y280:List Int):Option ((List Int)):=
 ((qZ y280).bind fun x281=>(some x281))
def zkd (ag2_nat_Mul:Int→List Int→Option ((List Int))) (y342:Int) (y358:List Int):Option ((List Int)):=
 (ag2_nat_Mul (i64.wrap (y342+1)) y358)
def zke (y342:Int) (x188:(List Int)) (ag2_nat_Mul:Int→List Int→Option ((List Int))) (y365:Int) (y366:List Int):Option ((List Int)):=
 (if 0≤(i64.wrap (y342+(x188.length:Int)))∧(i64.wrap (y342+(x188.length:Int))).toNat<y366.length then (zkd ag2_nat_Mul y342 (y366.set ((i64.wrap (y342+(x188.length:Int))).toNat) (u32.wrap y365))) else none)
def zdL (x188:(List Int)) (y342:Int) (x187:(List Int)) (ag2_nat_Mul:Int→List Int→Option ((List Int))):Nat→Int→Int→List Int→Option ((List Int))
 | 0,_,_,_=>none
 | n+1,y370,y371,y372=>(if y371<(x188.length:Int) then (if 0≤y371∧y371<(x188.length:Int) then (if 0≤(i64.wrap (y342+y371))∧(i64.wrap (y342+y371)).toNat<y372.length then (if 0≤(i64.wrap (y342+y371))∧(i64.wrap (y342+y371)).toNat<y372.length then ((fun z0 z1 z2=>zdL x188 y342 x187 ag2_nat_Mul n z0 z1 z2) (shrI .u64 (u64.wrap ((u64.wrap ((u64.wrap ((u64.wrap (x187.getD y342.toNat (kInt .u32).z))*(u64.wrap (x188.getD y371.toNat (kInt .u32).z))))+(u64.wrap (y372.getD ((i64.wrap (y342+y371)).toNat) (kInt .u32).z))))+y370)) 32) (i64.wrap (y371+1)) (y372.set ((i64.wrap (y342+y371)).toNat) (u32.wrap (u64.wrap ((u64.wrap ((u64.wrap ((u64.wrap (x187.getD y342.toNat (kInt .u32).z))*(u64.wrap (x188.getD y371.toNat (kInt .u32).z))))+(u64.wrap (y372.getD ((i64.wrap (y342+y371)).toNat) (kInt .u32).z))))+y370))))) else none) else none) else none) else (zke y342 x188 ag2_nat_Mul y370 y372))
def Q9 (x187:(List Int)) (x188:(List Int)):Nat→Int→List Int→Option ((List Int))
 | 0,_,_=>none
 | n+1,y342,y343=>(if y342<(x187.length:Int) then (if 0≤y342∧y342<(x187.length:Int) then (zdL x188 y342 x187 (fun z0 z1=>Q9 x187 x188 n z0 z1) fuel 0 0 y343) else none) else (zkc y343))
def zdM (a0:List Int) (a1:List Int):Option ((List Int)):=
 ((qZ a0).bind fun x187=>((qZ a1).bind fun x188=>(if 0≤(i64.wrap ((x187.length:Int)+(x188.length:Int)))∧(i64.wrap ((x187.length:Int)+(x188.length:Int)))*4≤281474976710656∧(i64.wrap ((x187.length:Int)+(x188.length:Int)))≤281474976710656 then (Q9 x187 x188 fuel 0 (List.replicate ((i64.wrap ((x187.length:Int)+(x188.length:Int))).toNat) (kInt .u32).z)) else none)))
def znP (x10:Bool × Int) (y13:Bool) (y14:List Int) (y15:Int):Option (AD × Int):=
 ((Qo x10.2 y13 y14 y15).bind fun x16=>(some ((⟨x16.1.M,x16.1.E⟩:AD),x16.2.1)))
def zhs (a0:AD) (a1:AD):Option (AD × Int):=
 ((Q7 [a0,a1] 0 false [] 0).bind fun x10=>(if x10.1=true then ((zdM a0.M.Mag a1.M.Mag).bind fun x17=>((za4 (a0.M.Neg != a1.M.Neg) x17 (i64.wrap (a0.E+a1.E))).bind fun x18=>(znP x10 x18.M.Neg x18.M.Mag x18.E))) else (znP x10 false [] 0)))
def znQ (y731:Int) (y732:List AD):Option ((List AD) × Int):=
 (some (y732,y731))
def zkf (ag4_cv_four_6ec2:Int→Int→List AD→Option ((List AD) × Int)) (y892:Int) (y933:Int) (y934:List AD):Option ((List AD) × Int):=
 (ag4_cv_four_6ec2 (i64.wrap (y892+1)) y933 y934)
def zkg (ag4_cv_four_6ec2:Int→Int→List AD→Option ((List AD) × Int)) (y892:Int) (y953:Int) (y954:List AD):Option ((List AD) × Int):=
 (zkf ag4_cv_four_6ec2 y892 y953 y954)
def zbF (y490:List AD) (y488:List AD) (y892:Int) (a3:Int) (ag4_cv_four_6ec2:Int→Int→List AD→Option ((List AD) × Int)):Nat→Int→Int→List AD→Option ((List AD) × Int)
 | 0,_,_,_=>none
 | n+1,y966,y967,y968=>(if y966<(y490.length:Int) then (if 0≤y966∧y966<(y490.length:Int) then ((zhs (⟨((y488.getD y892.toNat zAD).M),(y488.getD y892.toNat zAD).E⟩:AD) (⟨((y490.getD y966.toNat zAD).M),(y490.getD y966.toNat zAD).E⟩:AD)).bind fun x971=>((zaD (⟨x971.1.M,x971.1.E⟩:AD) x971.2 y967 a3).bind fun x972=>(if 0<[(⟨x972.1.M,x972.1.E⟩:AD)].length∧y968.length+[(⟨x972.1.M,x972.1.E⟩:AD)].length≤9223372036854775807∧(y968.length+[(⟨x972.1.M,x972.1.E⟩:AD)].length)*40≤140737488355328 then ((fun z0 z1 z2=>zbF y490 y488 y892 a3 ag4_cv_four_6ec2 n z0 z1 z2) (i64.wrap (y966+1)) x972.2 (y968++[(⟨x972.1.M,x972.1.E⟩:AD)])) else none))) else none) else (zkg ag4_cv_four_6ec2 y892 y967 y968))
def zaE (y488:List AD) (y490:List AD) (a3:Int):Nat→Int→Int→List AD→Option ((List AD) × Int)
 | 0,_,_,_=>none
 | n+1,y892,y893,y894=>(if y892<(y488.length:Int) then (if 0≤y892∧y892<(y488.length:Int) then (zbF y490 y488 y892 a3 (fun z0 z1 z2=>zaE y488 y490 a3 n z0 z1 z2) fuel 0 y893 y894) else none) else (znQ y893 y894))
def zfc (y488:List AD) (a3:Int) (a2:Int) (y490:List AD):Option ((List AD) × Int):=
 (zaE y488 y490 a3 fuel 0 a2 [])
def zht (a1:AI) (a3:Int) (a2:Int) (y488:List AD):Option ((List AD) × Int):=
 ((ZA a1.Lo a1.Hi).bind fun x489=>(if x489=0 then (if 0≤(0:Int)∧(0:Int)≤(1:Int)∧(1:Int)≤([a1.Lo,a1.Hi].length:Int) then (zfc y488 a3 a2 ([a1.Lo,a1.Hi].take 1)) else none) else (zfc y488 a3 a2 [a1.Lo,a1.Hi])))
def zhu (a0:AI) (a1:AI) (a2:Int) (a3:Int):Option ((List AD) × Int):=
 ((ZA a0.Lo a0.Hi).bind fun x487=>(if x487=0 then (if 0≤(0:Int)∧(0:Int)≤(1:Int)∧(1:Int)≤([a0.Lo,a0.Hi].length:Int) then (zht a1 a3 a2 ([a0.Lo,a0.Hi].take 1)) else none) else (zht a1 a3 a2 [a0.Lo,a0.Hi])))
def zxF (y193:Bool) (y194:List Int) (y195:Int) (y196:Bool) (y197:List Int) (y198:Int):Option (AD × AD):=
 (some ((⟨⟨y193,y194⟩,y195⟩:AD),(⟨⟨y196,y197⟩,y198⟩:AD)))
def znR (ag2_iv_ends:Int→Bool→List Int→Int→Bool→List Int→Int→Option (AD × AD)) (y238:Int) (y254:Bool) (y255:List Int) (y256:Int) (y258:Bool) (y259:List Int) (y260:Int):Option (AD × AD):=
 (ag2_iv_ends (i64.wrap (y238+1)) y254 y255 y256 y258 y259 y260)
def znS (a0:List AD) (y238:Int) (y242:Bool) (y243:List Int) (y244:Int) (ag2_iv_ends:Int→Bool→List Int→Int→Bool→List Int→Int→Option (AD × AD)) (y254:Bool) (y255:List Int) (y256:Int):Option (AD × AD):=
 ((ZA (⟨((((a0.take a0.length).drop 1).getD y238.toNat zAD).M),(((a0.take a0.length).drop 1).getD y238.toNat zAD).E⟩:AD) (⟨⟨y242,y243⟩,y244⟩:AD)).bind fun x257=>(if x257>0 then (znR ag2_iv_ends y238 y254 y255 y256 (((((a0.take a0.length).drop 1).getD y238.toNat zAD).M).Neg) (((((a0.take a0.length).drop 1).getD y238.toNat zAD).M).Mag) ((((a0.take a0.length).drop 1).getD y238.toNat zAD).E)) else (znR ag2_iv_ends y238 y254 y255 y256 y242 y243 y244)))
def zdN (a0:List AD):Nat→Int→Bool→List Int→Int→Bool→List Int→Int→Option (AD × AD)
 | 0,_,_,_,_,_,_,_=>none
 | n+1,y238,y239,y240,y241,y242,y243,y244=>(if y238<(((a0.take a0.length).drop 1).length:Int) then (if 0≤y238∧y238<(((a0.take a0.length).drop 1).length:Int) then ((ZA (⟨((((a0.take a0.length).drop 1).getD y238.toNat zAD).M),(((a0.take a0.length).drop 1).getD y238.toNat zAD).E⟩:AD) (⟨⟨y239,y240⟩,y241⟩:AD)).bind fun x253=>(if x253<0 then (znS a0 y238 y242 y243 y244 (fun z0 z1 z2 z3 z4 z5 z6=>zdN a0 n z0 z1 z2 z3 z4 z5 z6) (((((a0.take a0.length).drop 1).getD y238.toNat zAD).M).Neg) (((((a0.take a0.length).drop 1).getD y238.toNat zAD).M).Mag) ((((a0.take a0.length).drop 1).getD y238.toNat zAD).E)) else (znS a0 y238 y242 y243 y244 (fun z0 z1 z2 z3 z4 z5 z6=>zdN a0 n z0 z1 z2 z3 z4 z5 z6) y239 y240 y241))) else none) else (zxF y239 y240 y241 y242 y243 y244))
def zcv (a0:List AD):Option (AD × AD):=
 (if 0≤(0:Int)∧(0:Int)<(a0.length:Int) then (if 0≤(0:Int)∧(0:Int)<(a0.length:Int) then (if 0≤(1:Int)∧(1:Int)≤(a0.length:Int)∧(a0.length:Int)≤(a0.length:Int) then (zdN a0 fuel 0 (((a0.getD 0 zAD).M).Neg) (((a0.getD 0 zAD).M).Mag) ((a0.getD 0 zAD).E) (((a0.getD 0 zAD).M).Neg) (((a0.getD 0 zAD).M).Mag) ((a0.getD 0 zAD).E)) else none) else none) else none)
def ZB (a0:AI) (a1:AI) (a2:Int) (a3:Int):Option (AI × Int):=
 ((ZS [a0,a1] a2 a3).bind fun x7=>(if ¬x7.1=true then (some ((⟨⟨⟨false,[]⟩,0⟩,⟨⟨false,[]⟩,0⟩⟩:AI),x7.2)) else ((zhu a0 a1 x7.2 a3).bind fun x8=>((zcv x8.1).bind fun x9=>((zct (⟨x9.1.M,x9.1.E⟩:AD) x8.2 a3).bind fun x10=>((zcu (⟨x9.2.M,x9.2.E⟩:AD) x10.2 a3).bind fun x11=>((za7 (⟨x10.1.M,x10.1.E⟩:AD) (⟨x11.1.M,x11.1.E⟩:AD) x11.2 a3).bind fun x12=>(some ((⟨⟨x12.Lo.M,x12.Lo.E⟩,⟨x12.Hi.M,x12.Hi.E⟩⟩:AI),x11.2)))))))))
def zbG (a0:AI) (a1:Int) (a2:Int):Option (AI × Int):=
 ((ZS [a0] a1 a2).bind fun x4=>(if ¬x4.1=true then (some ((⟨⟨⟨false,[]⟩,0⟩,⟨⟨false,[]⟩,0⟩⟩:AI),x4.2)) else ((zbC a0.Hi).bind fun x5=>((zbC a0.Lo).bind fun x6=>(some ((⟨⟨x5.M,x5.E⟩,⟨x6.M,x6.E⟩⟩:AI),x4.2))))))
def zbH (a0:AI) (a1:AI) (a2:Int) (a3:Int):Option (AI × Int):=
 ((zbG a1 a2 a3).bind fun x3=>((Qb a0 (⟨⟨x3.1.Lo.M,x3.1.Lo.E⟩,⟨x3.1.Hi.M,x3.1.Hi.E⟩⟩:AI) x3.2 a3).bind fun x4=>(some ((⟨⟨x4.1.Lo.M,x4.1.Lo.E⟩,⟨x4.1.Hi.M,x4.1.Hi.E⟩⟩:AI),x4.2))))
def Qp (a0:Int) (a1:Int):Option Int:=
 (some a0)
def zdO (a0:Int) (a1:Int) (a2:Int):Option Int:=
 (if ¬a0=0 then (some a0) else ((Qp a1 a2).bind fun x2=>(some x2)))
def ZT (a0:Int) (a1:Int):Option Int:=
 (some a1)
def zxG:Option Bool:=
 (some true)
def znT (ag3_expo_fits:Int→Option Bool) (y120:Int) (y128:Bool):Option Bool:=
 (if y128=true then (some false) else (ag3_expo_fits (i64.wrap (y120+1))))
def za8 (a1:List AD):Nat→Int→Option Bool
 | 0,_=>none
 | n+1,y120=>(if y120<(a1.length:Int) then (if 0≤y120∧y120<(a1.length:Int) then ((Zc (⟨((a1.getD y120.toNat zAD).M),(a1.getD y120.toNat zAD).E⟩:AD)).bind fun x129=>(if ¬x129=true then (znT (fun z0=>za8 a1 n z0) y120 true) else ((ZR (((a1.getD y120.toNat zAD).M).Mag)).bind fun x130=>(znT (fun z0=>za8 a1 n z0) y120 (decide (x130>400)))))) else none) else zxG)
def znU (a1:List AD) (y66:Bool):Option Bool:=
 (if y66=true then (some false) else (za8 a1 fuel 0))
def za9 (a0:Int) (a1:List AD):Option Bool:=
 (if a0<2 then (znU a1 true) else (znU a1 (decide (a0>336))))
def znV (a0:AD) (y9:Bool):Option (Int × Bool):=
 (if y9=true then (some (0,false)) else ((zcl a0).bind fun x10=>(some (x10,true))))
def zfd (a0:AD):Option (Int × Bool):=
 ((Zc a0).bind fun x11=>(if ¬x11=true then (znV a0 true) else ((Qa a0).bind fun x12=>(znV a0 x12))))
def zkh (y20:Int) (y21:Bool) (y22:List Int) (y23:Int):Option (AD × Int):=
 ((Qo y20 y21 y22 y23).bind fun x24=>(some ((⟨x24.1.M,x24.1.E⟩:AD),x24.2.1)))
def zhv (a0:AD) (a1:Int) (y19:Bool) (y20:Int):Option (AD × Int):=
 (if y19=true then (zkh y20 a0.M.Neg a0.M.Mag (i64.wrap (a0.E+a1))) else (zkh y20 false [] 0))
def zcw (a0:AD) (a1:Int):Option (AD × Int):=
 ((Q7 [a0] 0 false [] 0).bind fun x25=>(if x25.1=true then ((zaz a1 (-100000) 100000).bind fun x26=>((zaA x26 4 x25.2 false [] 0).bind fun x27=>(if x27.1=true then ((Qa a0).bind fun x28=>(zhv a0 a1 (!x28) x27.2)) else (zhv a0 a1 false x27.2)))) else (zhv a0 a1 false x25.2)))
def ZC (a0:AI) (a1:Int) (a2:Int) (a3:Int):Option (AI × Int):=
 ((ZS [a0] a2 a3).bind fun x7=>(if ¬x7.1=true then (some ((⟨⟨⟨false,[]⟩,0⟩,⟨⟨false,[]⟩,0⟩⟩:AI),x7.2)) else ((zcw a0.Lo a1).bind fun x8=>((zaD (⟨x8.1.M,x8.1.E⟩:AD) x8.2 x7.2 a3).bind fun x9=>(if ¬x9.2=0 then (some ((⟨⟨⟨false,[]⟩,0⟩,⟨⟨false,[]⟩,0⟩⟩:AI),x9.2)) else ((zcw a0.Hi a1).bind fun x10=>((zaD (⟨x10.1.M,x10.1.E⟩:AD) x10.2 x9.2 a3).bind fun x11=>((za7 (⟨x9.1.M,x9.1.E⟩:AD) (⟨x11.1.M,x11.1.E⟩:AD) x11.2 a3).bind fun x12=>(some ((⟨⟨x12.Lo.M,x12.Lo.E⟩,⟨x12.Hi.M,x12.Hi.E⟩⟩:AI),x11.2))))))))))
def zhw (y14:Bool):Option Bool:=
 (some y14)
def zdP (a0:AI) (a1:AD):Option Bool:=
 ((QJ a0).bind fun x15=>(if x15=true then ((Zc a1).bind fun x16=>(if x16=true then ((ZA a0.Lo a1).bind fun x17=>(if x17≤0 then ((ZA a1 a0.Hi).bind fun x18=>(zhw (decide (x18≤0)))) else (zhw false))) else (zhw false))) else (zhw false)))
def zhx (a0:Bool) (a1:Int) (a2:Int):Option Bool:=
 (some a0)
def znW (a2:Int) (a0:Int) (a1:Int) (y2:Bool):Option (Int × Int):=
 (if y2=true then none else (if (u64.wrap a2)≠0 then (if (u64.wrap a2)≠0 then (some ((u32.wrap (u64.wrap ((orI .u64 (shlI .u64 (u64.wrap a0) 32) (u64.wrap a1)).tdiv (u64.wrap a2)))),(u32.wrap ((orI .u64 (shlI .u64 (u64.wrap a0) 32) (u64.wrap a1)).tmod (u64.wrap a2))))) else none) else none))
def zhy (a0:Int) (a1:Int) (a2:Int):Option (Int × Int):=
 (if ¬a2=0 then (znW a2 a0 a1 (decide (a2≤a0))) else (znW a2 a0 a1 false))
def zki (y41:Int) (y42:List Int):Option ((List Int) × (List Int) × Bool):=
 ((zaY y42).bind fun x43=>((za5 (u64.wrap y41)).bind fun x44=>(some (x43,x44,true))))
def zdQ (a0:List Int) (a1:Int):Nat→Int→Int→List Int→Option ((List Int) × (List Int) × Bool)
 | 0,_,_,_=>none
 | n+1,y52,y53,y54=>(if y53<(a0.length:Int) then (if 0≤(i64.wrap ((i64.wrap ((a0.length:Int)-1))-y53))∧(i64.wrap ((i64.wrap ((a0.length:Int)-1))-y53))<(a0.length:Int) then ((zhy y52 (a0.getD ((i64.wrap ((i64.wrap ((a0.length:Int)-1))-y53)).toNat) (kInt .u32).z) a1).bind fun x56=>(if 0≤(i64.wrap ((i64.wrap ((a0.length:Int)-1))-y53))∧(i64.wrap ((i64.wrap ((a0.length:Int)-1))-y53)).toNat<y54.length then ((fun z0 z1 z2=>zdQ a0 a1 n z0 z1 z2) x56.2 (i64.wrap (y53+1)) (y54.set ((i64.wrap ((i64.wrap ((a0.length:Int)-1))-y53)).toNat) x56.1)) else none)) else none) else (zki y52 y54))
def zhz (a0:List Int) (a1:Int):Option ((List Int) × (List Int) × Bool):=
 (if 0≤(a0.length:Int)∧(a0.length:Int)*4≤281474976710656∧(a0.length:Int)≤281474976710656 then (zdQ a0 a1 fuel 0 0 (List.replicate a0.length (kInt .u32).z)) else none)
def zhA (a0:Int):Option Int:=
 ((zeV a0).bind fun x2=>(some (i64.wrap (32-x2))))
def zkj (a2:List Int) (a1:Nat) (a0:Nat) (y47:Int) (y48:Int) (y49:List Int):Option (Bool × (List Int)):=
 (if 0≤(a2.length:Int)∧a2.length<a1∧(a0+a2.length)<y49.length then ((zcn (y49.getD (a0+a2.length) (kInt .u32).z) (u32.wrap y47) y48).bind fun x50=>(if 0≤(a2.length:Int)∧a2.length<a1∧(a0+a2.length)<y49.length then (some ((decide (x50.2>0)),(y49.set (a0+a2.length) x50.1))) else none)) else none)
def zdR (a2:List Int) (a1:Nat) (a0:Nat) (a3:Int):Nat→Int→Int→Int→List Int→Option (Bool × (List Int))
 | 0,_,_,_,_=>none
 | n+1,y59,y60,y61,y62=>(if y61<(a2.length:Int) then (if 0≤y61∧y61<(a2.length:Int) then (if 0≤y61∧y61.toNat<a1∧(a0+y61.toNat)<y62.length then ((zcn (y62.getD (a0+y61.toNat) (kInt .u32).z) (u32.wrap (u64.wrap ((u64.wrap ((u64.wrap (a2.getD y61.toNat (kInt .u32).z))*a3))+y59))) y60).bind fun x64=>(if 0≤y61∧y61.toNat<a1∧(a0+y61.toNat)<y62.length then ((fun z0 z1 z2 z3=>zdR a2 a1 a0 a3 n z0 z1 z2 z3) (shrI .u64 (u64.wrap ((u64.wrap ((u64.wrap (a2.getD y61.toNat (kInt .u32).z))*a3))+y59)) 32) x64.2 (i64.wrap (y61+1)) (y62.set (a0+y61.toNat) x64.1)) else none)) else none) else none) else (zkj a2 a1 a0 y59 y60 y62))
def zhB (a0:Nat) (a1:Nat) (a2:List Int) (a3:Int) (a4:List Int):Option (Bool × (List Int)):=
 (zdR a2 a1 a0 a3 fuel 0 0 0 a4)
def zkk (a2:List Int) (a1:Nat) (a0:Nat) (y39:Int) (y40:List Int):Option ((List Int)):=
 (if 0≤(a2.length:Int)∧a2.length<a1∧(a0+a2.length)<y40.length then (if 0≤(a2.length:Int)∧a2.length<a1∧(a0+a2.length)<y40.length then (some (y40.set (a0+a2.length) (u32.wrap ((y40.getD (a0+a2.length) (kInt .u32).z)+y39)))) else none) else none)
def zdS (a2:List Int) (a1:Nat) (a0:Nat):Nat→Int→Int→List Int→Option ((List Int))
 | 0,_,_,_=>none
 | n+1,y48,y49,y50=>(if y49<(a2.length:Int) then (if 0≤y49∧y49<(a2.length:Int) then (if 0≤y49∧y49.toNat<a1∧(a0+y49.toNat)<y50.length then ((zdE (y50.getD (a0+y49.toNat) (kInt .u32).z) (a2.getD y49.toNat (kInt .u32).z) y48).bind fun x52=>(if 0≤y49∧y49.toNat<a1∧(a0+y49.toNat)<y50.length then ((fun z0 z1 z2=>zdS a2 a1 a0 n z0 z1 z2) x52.2 (i64.wrap (y49+1)) (y50.set (a0+y49.toNat) x52.1)) else none)) else none) else none) else (zkk a2 a1 a0 y48 y50))
def zhC (a0:Nat) (a1:Nat) (a2:List Int) (a3:List Int):Option ((List Int)):=
 (zdS a2 a1 a0 fuel 0 0 a3)
def zkl (x273:(List Int) × Bool) (x272:Int) (y407:List Int) (y408:List Int):Option ((List Int) × (List Int) × Bool):=
 ((zaY y407).bind fun x409=>(if 0≤(0:Int)∧(0:Int)≤(x273.1.length:Int)∧(x273.1.length:Int)≤(y408.length:Int) then ((zco (y408.take x273.1.length) x272).bind fun x410=>(some (x409,x410,true))) else none))
def zkm (ag2_quo_long:Int→List Int→List Int→Option ((List Int) × (List Int) × Bool)) (y498:Int) (y521:List Int) (y522:List Int):Option ((List Int) × (List Int) × Bool):=
 (ag2_quo_long (i64.wrap (y498-1)) y521 y522)
def zfe (y498:Int) (y499:List Int) (ag2_quo_long:Int→List Int→List Int→Option ((List Int) × (List Int) × Bool)) (y533:Int) (y534:List Int):Option ((List Int) × (List Int) × Bool):=
 (if 0≤y498∧y498.toNat<y499.length then (zkm ag2_quo_long y498 (y499.set y498.toNat (u32.wrap y533)) y534) else none)
def zcx (y498:Int) (x273:(List Int) × Bool) (y500:List Int) (y499:List Int) (ag2_quo_long:Int→List Int→List Int→Option ((List Int) × (List Int) × Bool)) (y530:Int):Option ((List Int) × (List Int) × Bool):=
 (if 0≤y498∧y498≤(i64.wrap ((i64.wrap (y498+(x273.1.length:Int)))+1))∧(i64.wrap ((i64.wrap (y498+(x273.1.length:Int)))+1))≤(y500.length:Int) then ((zhB (0+y498.toNat) ((i64.wrap ((i64.wrap (y498+(x273.1.length:Int)))+1)).toNat-y498.toNat) x273.1 y530 y500).bind fun x531=>(if x531.2.length=y500.length then (if x531.1=true then (if 0≤y498∧y498≤(i64.wrap ((i64.wrap (y498+(x273.1.length:Int)))+1))∧(i64.wrap ((i64.wrap (y498+(x273.1.length:Int)))+1))≤(x531.2.length:Int) then ((zhC (0+y498.toNat) ((i64.wrap ((i64.wrap (y498+(x273.1.length:Int)))+1)).toNat-y498.toNat) x273.1 x531.2).bind fun x535=>(if x535.length=x531.2.length then (zfe y498 y499 ag2_quo_long (u64.wrap (y530-1)) x535) else none)) else none) else (zfe y498 y499 ag2_quo_long y530 x531.2)) else none)) else none)
def zdT (x273:(List Int) × Bool) (y541:Int) (y498:Int) (y500:List Int) (y499:List Int) (ag2_quo_long:Int→List Int→List Int→Option ((List Int) × (List Int) × Bool)) (y540:Int) (ag6_quo_long:Int→Int→Option ((List Int) × (List Int) × Bool)) (y542:Bool):Option ((List Int) × (List Int) × Bool):=
 (if y542=true then (if 0≤(i64.wrap ((x273.1.length:Int)-1))∧(i64.wrap ((x273.1.length:Int)-1))<(x273.1.length:Int) then (if (u64.wrap (y541+(u64.wrap (x273.1.getD ((i64.wrap ((x273.1.length:Int)-1)).toNat) (kInt .u32).z))))≥4294967296 then (zcx y498 x273 y500 y499 ag2_quo_long (u64.wrap (y540-1))) else (ag6_quo_long (u64.wrap (y540-1)) (u64.wrap (y541+(u64.wrap (x273.1.getD ((i64.wrap ((x273.1.length:Int)-1)).toNat) (kInt .u32).z)))))) else none) else (zcx y498 x273 y500 y499 ag2_quo_long y540))
def zbI (x273:(List Int) × Bool) (y498:Int) (y500:List Int) (y499:List Int) (ag2_quo_long:Int→List Int→List Int→Option ((List Int) × (List Int) × Bool)):Nat→Int→Int→Option ((List Int) × (List Int) × Bool)
 | 0,_,_=>none
 | n+1,y540,y541=>(if y540≥4294967296 then (zdT x273 y541 y498 y500 y499 ag2_quo_long y540 (fun z0 z1=>zbI x273 y498 y500 y499 ag2_quo_long n z0 z1) true) else (if 0≤(i64.wrap ((x273.1.length:Int)-2))∧(i64.wrap ((x273.1.length:Int)-2))<(x273.1.length:Int) then (if 0≤(i64.wrap ((i64.wrap (y498+(x273.1.length:Int)))-2))∧(i64.wrap ((i64.wrap (y498+(x273.1.length:Int)))-2)).toNat<y500.length then (zdT x273 y541 y498 y500 y499 ag2_quo_long y540 (fun z0 z1=>zbI x273 y498 y500 y499 ag2_quo_long n z0 z1) (decide ((u64.wrap (y540*(u64.wrap (x273.1.getD ((i64.wrap ((x273.1.length:Int)-2)).toNat) (kInt .u32).z))))>(orI .u64 (shlI .u64 y541 32) (u64.wrap (y500.getD ((i64.wrap ((i64.wrap (y498+(x273.1.length:Int)))-2)).toNat) (kInt .u32).z)))))) else none) else none))
def Qd (x273:(List Int) × Bool) (x272:Int):Nat→Int→List Int→List Int→Option ((List Int) × (List Int) × Bool)
 | 0,_,_,_=>none
 | n+1,y498,y499,y500=>(if y498≥0 then (if 0≤(i64.wrap (y498+(x273.1.length:Int)))∧(i64.wrap (y498+(x273.1.length:Int))).toNat<y500.length then (if 0≤(i64.wrap ((i64.wrap (y498+(x273.1.length:Int)))-1))∧(i64.wrap ((i64.wrap (y498+(x273.1.length:Int)))-1)).toNat<y500.length then (if 0≤(i64.wrap ((x273.1.length:Int)-1))∧(i64.wrap ((x273.1.length:Int)-1))<(x273.1.length:Int) then (if (u64.wrap (x273.1.getD ((i64.wrap ((x273.1.length:Int)-1)).toNat) (kInt .u32).z))≠0 then (if 0≤(i64.wrap ((x273.1.length:Int)-1))∧(i64.wrap ((x273.1.length:Int)-1))<(x273.1.length:Int) then (if (u64.wrap (x273.1.getD ((i64.wrap ((x273.1.length:Int)-1)).toNat) (kInt .u32).z))≠0 then (zbI x273 y498 y500 y499 (fun z0 z1 z2=>Qd x273 x272 n z0 z1 z2) fuel (u64.wrap ((orI .u64 (shlI .u64 (u64.wrap (y500.getD ((i64.wrap (y498+(x273.1.length:Int))).toNat) (kInt .u32).z)) 32) (u64.wrap (y500.getD ((i64.wrap ((i64.wrap (y498+(x273.1.length:Int)))-1)).toNat) (kInt .u32).z))).tdiv (u64.wrap (x273.1.getD ((i64.wrap ((x273.1.length:Int)-1)).toNat) (kInt .u32).z)))) ((orI .u64 (shlI .u64 (u64.wrap (y500.getD ((i64.wrap (y498+(x273.1.length:Int))).toNat) (kInt .u32).z)) 32) (u64.wrap (y500.getD ((i64.wrap ((i64.wrap (y498+(x273.1.length:Int)))-1)).toNat) (kInt .u32).z))).tmod (u64.wrap (x273.1.getD ((i64.wrap ((x273.1.length:Int)-1)).toNat) (kInt .u32).z)))) else none) else none) else none) else none) else none) else none) else (zkl x273 x272 y499 y500))
def zhD (a0:List Int) (a1:List Int):Option ((List Int) × (List Int) × Bool):=
 (if 0≤(i64.wrap ((a1.length:Int)-1))∧(i64.wrap ((a1.length:Int)-1))<(a1.length:Int) then ((zhA (a1.getD ((i64.wrap ((a1.length:Int)-1)).toNat) (kInt .u32).z)).bind fun x272=>((zaZ a1 x272).bind fun x273=>(if 0≤(i64.wrap ((a0.length:Int)+1))∧(i64.wrap ((a0.length:Int)+1))*4≤281474976710656∧(i64.wrap ((a0.length:Int)+1))≤281474976710656 then ((zaZ a0 x272).bind fun x274=>(if 0≤(i64.wrap ((i64.wrap ((a0.length:Int)-(x273.1.length:Int)))+1))∧(i64.wrap ((i64.wrap ((a0.length:Int)-(x273.1.length:Int)))+1))*4≤281474976710656∧(i64.wrap ((i64.wrap ((a0.length:Int)-(x273.1.length:Int)))+1))≤281474976710656 then (Qd x273 x272 fuel (i64.wrap ((a0.length:Int)-(x273.1.length:Int))) (List.replicate ((i64.wrap ((i64.wrap ((a0.length:Int)-(x273.1.length:Int)))+1)).toNat) (kInt .u32).z) (Zz (List.replicate ((i64.wrap ((a0.length:Int)+1)).toNat) (kInt .u32).z) x274.1)) else none)) else none))) else none)
def zdU (a0:List Int) (a1:List Int):Option ((List Int) × (List Int) × Bool):=
 ((zaY a1).bind fun x8=>((zaY a0).bind fun x9=>(if (x8.length:Int)=0 then (some ([],[],false)) else ((zdB x9 x8).bind fun x12=>(if x12<0 then (some ([],x9,true)) else (if (x8.length:Int)=1 then (if 0≤(0:Int)∧(0:Int)<(x8.length:Int) then ((zhz x9 (x8.getD 0 (kInt .u32).z)).bind fun x13=>(some (x13.1,x13.2.1,x13.2.2))) else none) else ((zhD x9 x8).bind fun x14=>(some (x14.1,x14.2.1,x14.2.2)))))))))
def znX (y33:Int) (y39:Bool) (y40:List Int) (y41:Int):Option (AD × Int):=
 ((Qo y33 y39 y40 y41).bind fun x42=>(some ((⟨x42.1.M,x42.1.E⟩:AD),x42.2.1)))
def zhE (a1:AD) (a0:AD) (a2:Int) (a3:Bool) (y32:Bool) (y33:Int):Option (AD × Int):=
 (if y32=true then ((ZR a1.M.Mag).bind fun x43=>((ZR a0.M.Mag).bind fun x44=>((za0 a0.M.Mag (mx 0 (i64.wrap ((i64.wrap ((i64.wrap (a2+2))+x43))-x44)))).bind fun x45=>((zdU x45 a1.M.Mag).bind fun x46=>((zcs (a0.M.Neg != a1.M.Neg) x46.1 (i64.wrap ((i64.wrap (a0.E-a1.E))-(mx 0 (i64.wrap ((i64.wrap ((i64.wrap (a2+2))+x43))-x44))))) (decide ((x46.2.1.length:Int)>0)) a2 (a3 != (a0.M.Neg != a1.M.Neg)) y33 false [] 0).bind fun x47=>(znX y33 x47.1 x47.2.1 x47.2.2)))))) else (znX y33 false [] 0))
def zhF (a0:AD) (a1:AD) (a2:Int) (a3:Bool):Option (AD × Int):=
 ((Q7 [a0,a1] 0 false [] 0).bind fun x48=>(if x48.1=true then ((ze9 a2 x48.2 false [] 0).bind fun x49=>(if x49.1=true then ((Qa a1).bind fun x50=>((zaA (!x50) 3 x49.2 false [] 0).bind fun x51=>(if x51.1=true then ((Qa a0).bind fun x52=>(zhE a1 a0 a2 a3 (!x52) x51.2)) else (zhE a1 a0 a2 a3 false x51.2)))) else (zhE a1 a0 a2 a3 false x49.2))) else (zhE a1 a0 a2 a3 false x48.2)))
def zkn (a0:AD) (a1:AD) (a2:Int) (a3:Int) (a4:Bool):Option (AD × Int):=
 ((zhF a0 a1 a3 a4).bind fun x2=>(some ((⟨x2.1.M,x2.1.E⟩:AD),x2.2)))
def znY (y731:Int) (y732:List AD):Option ((List AD) × Int):=
 (some (y732,y731))
def zko (ag4_cv_four_e8e7:Int→Int→List AD→Option ((List AD) × Int)) (y892:Int) (y933:Int) (y934:List AD):Option ((List AD) × Int):=
 (ag4_cv_four_e8e7 (i64.wrap (y892+1)) y933 y934)
def zkp (ag4_cv_four_e8e7:Int→Int→List AD→Option ((List AD) × Int)) (y892:Int) (y953:Int) (y954:List AD):Option ((List AD) × Int):=
 (zko ag4_cv_four_e8e7 y892 y953 y954)
def zbJ (y490:List AD) (y488:List AD) (y892:Int) (a3:Int) (a4:Bool) (ag4_cv_four_e8e7:Int→Int→List AD→Option ((List AD) × Int)):Nat→Int→Int→List AD→Option ((List AD) × Int)
 | 0,_,_,_=>none
 | n+1,y966,y967,y968=>(if y966<(y490.length:Int) then (if 0≤y966∧y966<(y490.length:Int) then ((zkn (⟨((y488.getD y892.toNat zAD).M),(y488.getD y892.toNat zAD).E⟩:AD) (⟨((y490.getD y966.toNat zAD).M),(y490.getD y966.toNat zAD).E⟩:AD) y967 a3 a4).bind fun x971=>((zaD (⟨x971.1.M,x971.1.E⟩:AD) x971.2 y967 a3).bind fun x972=>(if 0<[(⟨x972.1.M,x972.1.E⟩:AD)].length∧y968.length+[(⟨x972.1.M,x972.1.E⟩:AD)].length≤9223372036854775807∧(y968.length+[(⟨x972.1.M,x972.1.E⟩:AD)].length)*40≤140737488355328 then ((fun z0 z1 z2=>zbJ y490 y488 y892 a3 a4 ag4_cv_four_e8e7 n z0 z1 z2) (i64.wrap (y966+1)) x972.2 (y968++[(⟨x972.1.M,x972.1.E⟩:AD)])) else none))) else none) else (zkp ag4_cv_four_e8e7 y892 y967 y968))
def zaF (y488:List AD) (y490:List AD) (a3:Int) (a4:Bool):Nat→Int→Int→List AD→Option ((List AD) × Int)
 | 0,_,_,_=>none
 | n+1,y892,y893,y894=>(if y892<(y488.length:Int) then (if 0≤y892∧y892<(y488.length:Int) then (zbJ y490 y488 y892 a3 a4 (fun z0 z1 z2=>zaF y488 y490 a3 a4 n z0 z1 z2) fuel 0 y893 y894) else none) else (znY y893 y894))
def zdV (y488:List AD) (a3:Int) (a4:Bool) (a2:Int) (y490:List AD):Option ((List AD) × Int):=
 (zaF y488 y490 a3 a4 fuel 0 a2 [])
def zff (a1:AI) (a3:Int) (a4:Bool) (a2:Int) (y488:List AD):Option ((List AD) × Int):=
 ((ZA a1.Lo a1.Hi).bind fun x489=>(if x489=0 then (if 0≤(0:Int)∧(0:Int)≤(1:Int)∧(1:Int)≤([a1.Lo,a1.Hi].length:Int) then (zdV y488 a3 a4 a2 ([a1.Lo,a1.Hi].take 1)) else none) else (zdV y488 a3 a4 a2 [a1.Lo,a1.Hi])))
def zcy (a0:AI) (a1:AI) (a2:Int) (a3:Int) (a4:Bool):Option ((List AD) × Int):=
 ((ZA a0.Lo a0.Hi).bind fun x487=>(if x487=0 then (if 0≤(0:Int)∧(0:Int)≤(1:Int)∧(1:Int)≤([a0.Lo,a0.Hi].length:Int) then (zff a1 a3 a4 a2 ([a0.Lo,a0.Hi].take 1)) else none) else (zff a1 a3 a4 a2 [a0.Lo,a0.Hi])))
def Qq (a0:AI) (a1:AI) (a2:Int) (a3:Int):Option (AI × Int):=
 ((ZS [a0,a1] a2 a3).bind fun x11=>(if ¬x11.1=true then (some ((⟨⟨⟨false,[]⟩,0⟩,⟨⟨false,[]⟩,0⟩⟩:AI),x11.2)) else ((zdP a1 (⟨⟨false,[]⟩,0⟩:AD)).bind fun x12=>(if x12=true then ((zdJ 3 x11.2 a3).bind fun x13=>(some ((⟨⟨⟨false,[]⟩,0⟩,⟨⟨false,[]⟩,0⟩⟩:AI),x13.2))) else ((zhx false x11.2 a3).bind fun x14=>((zcy a0 a1 x11.2 a3 x14).bind fun x15=>((zcv x15.1).bind fun x16=>((zhx true x15.2 a3).bind fun x17=>((zcy a0 a1 x15.2 a3 x17).bind fun x18=>((zcv x18.1).bind fun x19=>((za7 (⟨x16.1.M,x16.1.E⟩:AD) (⟨x19.2.M,x19.2.E⟩:AD) x18.2 a3).bind fun x20=>(some ((⟨⟨x20.Lo.M,x20.Lo.E⟩,⟨x20.Hi.M,x20.Hi.E⟩⟩:AI),x18.2)))))))))))))
def zkq (y11:Bool):Option Bool:=
 (some y11)
def zfg (a0:AI) (a1:AI):Option Bool:=
 ((QJ a0).bind fun x12=>(if x12=true then ((zdP a1 a0.Lo).bind fun x13=>(if x13=true then ((zdP a1 a0.Hi).bind fun x14=>(zkq x14)) else (zkq false))) else (zkq false)))
def zdW (a0:AI) (a1:Int) (a2:Int) (a3:Int):Option (Bool × Int):=
 ((Q6 a1).bind fun x9=>((zbG a0 a2 a3).bind fun x10=>((Qp x10.2 a3).bind fun x11=>(if ¬x11=0 then (some (false,x10.2)) else ((zbC (⟨x9.M,x9.E⟩:AD)).bind fun x12=>((zfg a0 (⟨⟨x12.M,x12.E⟩,⟨x9.M,x9.E⟩⟩:AI)).bind fun x13=>(if x13=true then (some (true,x10.2)) else ((qI 1 x10.2 a3).bind fun x14=>((qI 0 x14.2 a3).bind fun x15=>((Qq (⟨⟨x14.1.Lo.M,x14.1.Lo.E⟩,⟨x14.1.Hi.M,x14.1.Hi.E⟩⟩:AI) (⟨⟨x15.1.Lo.M,x15.1.Lo.E⟩,⟨x15.1.Hi.M,x15.1.Hi.E⟩⟩:AI) x15.2 a3).bind fun x16=>(some (false,x16.2))))))))))))
def zdX (a0:Int):Option Int:=
 (some (i64.wrap ((i64.wrap ((mn (mx a0 0) 400).tdiv 2))+4)))
def zkr (a0:AI):Option AI:=
 (some a0)
def zhG (a0:Int) (a1:AI) (a2:Int) (a3:Int) (a4:Bool) (a5:List Int) (a6:Int) (a7:Bool) (a8:List Int) (a9:Int):Option (AI × AI × Int):=
 ((ZB a1 (⟨⟨⟨a4,a5⟩,a6⟩,⟨⟨a7,a8⟩,a9⟩⟩:AI) a2 a3).bind fun x5=>((zkr (⟨⟨x5.1.Lo.M,x5.1.Lo.E⟩,⟨x5.1.Hi.M,x5.1.Hi.E⟩⟩:AI)).bind fun x6=>((qI (i64.wrap ((i64.wrap (2*a0))+1)) x5.2 a3).bind fun x7=>((Qq (⟨⟨x6.Lo.M,x6.Lo.E⟩,⟨x6.Hi.M,x6.Hi.E⟩⟩:AI) (⟨⟨x7.1.Lo.M,x7.1.Lo.E⟩,⟨x7.1.Hi.M,x7.1.Hi.E⟩⟩:AI) x7.2 a3).bind fun x8=>(some ((⟨⟨x6.Lo.M,x6.Lo.E⟩,⟨x6.Hi.M,x6.Hi.E⟩⟩:AI),(⟨⟨x8.1.Lo.M,x8.1.Lo.E⟩,⟨x8.1.Hi.M,x8.1.Hi.E⟩⟩:AI),x8.2))))))
def zbK (a0:AI) (a1:AD) (a2:Int) (a3:Int):Option (AI × Int):=
 ((ZS [a0,(⟨⟨⟨false,[]⟩,0⟩,a1⟩:AI)] a2 a3).bind fun x8=>(if ¬x8.1=true then (some ((⟨⟨⟨false,[]⟩,0⟩,⟨⟨false,[]⟩,0⟩⟩:AI),x8.2)) else ((zbC a1).bind fun x9=>((zcr a0.Lo (⟨x9.M,x9.E⟩:AD) x8.2 a3).bind fun x10=>((zct (⟨x10.1.M,x10.1.E⟩:AD) x10.2 a3).bind fun x11=>((zcr a0.Hi a1 x11.2 a3).bind fun x12=>((zcu (⟨x12.1.M,x12.1.E⟩:AD) x12.2 a3).bind fun x13=>((za7 (⟨x11.1.M,x11.1.E⟩:AD) (⟨x13.1.M,x13.1.E⟩:AD) x13.2 a3).bind fun x14=>(some ((⟨⟨x14.Lo.M,x14.Lo.E⟩,⟨x14.Hi.M,x14.Hi.E⟩⟩:AI),x13.2))))))))))
def zrH (a2:Int) (y135:Int) (y136:Bool) (y137:List Int) (y138:Int) (y139:Bool) (y140:List Int) (y141:Int):Option (AI × Int):=
 ((ZT y135 a2).bind fun x142=>((Q6 (i64.wrap (0-x142))).bind fun x143=>((zbK (⟨⟨⟨y136,y137⟩,y138⟩,⟨⟨y139,y140⟩,y141⟩⟩:AI) (⟨x143.M,x143.E⟩:AD) y135 a2).bind fun x144=>(some ((⟨⟨x144.1.Lo.M,x144.1.Lo.E⟩,⟨x144.1.Hi.M,x144.1.Hi.E⟩⟩:AI),x144.2)))))
def zfh (x94:Int) (a2:Int) (a3:Bool) (a4:List Int) (a5:Int) (a6:Bool) (a7:List Int) (a8:Int):Nat→Int→Int→Bool→List Int→Int→Bool→List Int→Int→Bool→List Int→Int→Bool→List Int→Int→Option (AI × Int)
 | 0,_,_,_,_,_,_,_,_,_,_,_,_,_,_=>none
 | n+1,y167,y168,y169,y170,y171,y172,y173,y174,y175,y176,y177,y178,y179,y180=>(if y167<x94 then ((zhG (i64.wrap (y167+1)) (⟨⟨⟨y175,y176⟩,y177⟩,⟨⟨y178,y179⟩,y180⟩⟩:AI) y168 a2 a3 a4 a5 a6 a7 a8).bind fun x183=>((Qb (⟨⟨⟨y169,y170⟩,y171⟩,⟨⟨y172,y173⟩,y174⟩⟩:AI) (⟨⟨x183.2.1.Lo.M,x183.2.1.Lo.E⟩,⟨x183.2.1.Hi.M,x183.2.1.Hi.E⟩⟩:AI) x183.2.2 a2).bind fun x184=>((fun z0 z1 z2 z3 z4 z5 z6 z7 z8 z9 z10 z11 z12 z13=>zfh x94 a2 a3 a4 a5 a6 a7 a8 n z0 z1 z2 z3 z4 z5 z6 z7 z8 z9 z10 z11 z12 z13) (i64.wrap (y167+1)) x184.2 x184.1.Lo.M.Neg x184.1.Lo.M.Mag x184.1.Lo.E x184.1.Hi.M.Neg x184.1.Hi.M.Mag x184.1.Hi.E x183.1.Lo.M.Neg x183.1.Lo.M.Mag x183.1.Lo.E x183.1.Hi.M.Neg x183.1.Hi.M.Mag x183.1.Hi.E))) else (zrH a2 y168 y169 y170 y171 y172 y173 y174))
def zks (a0:AI) (a1:Int) (a2:Int) (a3:Bool) (a4:List Int) (a5:Int) (a6:Bool) (a7:List Int) (a8:Int):Option (AI × Int):=
 ((ZT a1 a2).bind fun x93=>((zdX x93).bind fun x94=>(zfh x94 a2 a3 a4 a5 a6 a7 a8 fuel 0 a1 a0.Lo.M.Neg a0.Lo.M.Mag a0.Lo.E a0.Hi.M.Neg a0.Hi.M.Mag a0.Hi.E a0.Lo.M.Neg a0.Lo.M.Mag a0.Lo.E a0.Hi.M.Neg a0.Hi.M.Mag a0.Hi.E)))
def zkt (a0:AI) (a1:Int) (a2:Int):Option (AI × Int):=
 ((zdW a0 (-1) a1 a2).bind fun x4=>(if ¬x4.1=true then (some ((⟨⟨⟨false,[]⟩,0⟩,⟨⟨false,[]⟩,0⟩⟩:AI),x4.2)) else ((ZB a0 a0 x4.2 a2).bind fun x5=>((zks a0 x5.2 a2 x5.1.Lo.M.Neg x5.1.Lo.M.Mag x5.1.Lo.E x5.1.Hi.M.Neg x5.1.Hi.M.Mag x5.1.Hi.E).bind fun x6=>(some ((⟨⟨x6.1.Lo.M,x6.1.Lo.E⟩,⟨x6.1.Hi.M,x6.1.Hi.E⟩⟩:AI),x6.2))))))
def zdY (a0:AI) (a1:Int) (a2:Int):Option (AI × Int):=
 ((zkt a0 a1 a2).bind fun x2=>(some ((⟨⟨x2.1.Lo.M,x2.1.Lo.E⟩,⟨x2.1.Hi.M,x2.1.Hi.E⟩⟩:AI),x2.2)))
def zku (y133:Int) (y134:List AI):Option ((List AI) × Int):=
 (some (y134,y133))
def zfi (a1:Int) (a3:Int):Nat→Int→Int→List AI→Option ((List AI) × Int)
 | 0,_,_,_=>none
 | n+1,y142,y143,y144=>(if y142<1 then (if y142=0 then (if 0<y144.length then (if 0≤y142∧y142.toNat<y144.length then ((ZC (⟨⟨(((y144.getD y142.toNat zAI).Lo).M),((y144.getD y142.toNat zAI).Lo).E⟩,⟨(((y144.getD y142.toNat zAI).Hi).M),((y144.getD y142.toNat zAI).Hi).E⟩⟩:AI) a1 y143 a3).bind fun x146=>(if 0≤y142∧y142.toNat<y144.length then (if 0<(y144.set y142.toNat (⟨⟨x146.1.Lo.M,x146.1.Lo.E⟩,⟨x146.1.Hi.M,x146.1.Hi.E⟩⟩:AI)).length then ((fun z0 z1 z2=>zfi a1 a3 n z0 z1 z2) (i64.wrap (y142+1)) x146.2 (y144.set y142.toNat (⟨⟨x146.1.Lo.M,x146.1.Lo.E⟩,⟨x146.1.Hi.M,x146.1.Hi.E⟩⟩:AI))) else none) else none)) else none) else none) else none) else (zku y143 y144))
def zkv (a1:Int) (a3:Int) (y119:Int) (y120:List AI):Option ((List AI) × Int):=
 (zfi a1 a3 fuel 0 y119 y120)
def zfj (a3:Int) (a0:Int) (a1:Int):Nat→Int→Int→List AI→Option ((List AI) × Int)
 | 0,_,_,_=>none
 | n+1,y166,y167,y168=>(if y166<1 then (if y166=0 then ((qI 1 y167 a3).bind fun x173=>((qI a0 x173.2 a3).bind fun x174=>((Qq (⟨⟨x173.1.Lo.M,x173.1.Lo.E⟩,⟨x173.1.Hi.M,x173.1.Hi.E⟩⟩:AI) (⟨⟨x174.1.Lo.M,x174.1.Lo.E⟩,⟨x174.1.Hi.M,x174.1.Hi.E⟩⟩:AI) x174.2 a3).bind fun x175=>((zdY (⟨⟨x175.1.Lo.M,x175.1.Lo.E⟩,⟨x175.1.Hi.M,x175.1.Hi.E⟩⟩:AI) x175.2 a3).bind fun x176=>(if 0<[(⟨⟨x176.1.Lo.M,x176.1.Lo.E⟩,⟨x176.1.Hi.M,x176.1.Hi.E⟩⟩:AI)].length∧y168.length+[(⟨⟨x176.1.Lo.M,x176.1.Lo.E⟩,⟨x176.1.Hi.M,x176.1.Hi.E⟩⟩:AI)].length≤9223372036854775807∧(y168.length+[(⟨⟨x176.1.Lo.M,x176.1.Lo.E⟩,⟨x176.1.Hi.M,x176.1.Hi.E⟩⟩:AI)].length)*80≤140737488355328 then ((fun z0 z1 z2=>zfj a3 a0 a1 n z0 z1 z2) (i64.wrap (y166+1)) x176.2 (y168++[(⟨⟨x176.1.Lo.M,x176.1.Lo.E⟩,⟨x176.1.Hi.M,x176.1.Hi.E⟩⟩:AI)])) else none))))) else none) else (zkv a1 a3 y167 y168))
def zkw (a0:Int) (a1:Int) (a2:Int) (a3:Int):Option ((List AI) × Int):=
 (zfj a3 a0 a1 fuel 0 a2 [])
def zhH (a0:Int) (a1:Int):Option (AI × Int):=
 ((zkw 3 1 a0 a1).bind fun x2=>(if 0≤(0:Int)∧(0:Int)<(x2.1.length:Int) then (some ((⟨⟨(((x2.1.getD 0 zAI).Lo).M),((x2.1.getD 0 zAI).Lo).E⟩,⟨(((x2.1.getD 0 zAI).Hi).M),((x2.1.getD 0 zAI).Hi).E⟩⟩:AI),x2.2)) else none))
def zcz (a0:AI) (a1:Int) (a2:Int):Option (AI × Int):=
 ((ZS [a0] a1 a2).bind fun x5=>(if ¬x5.1=true then (some ((⟨⟨⟨false,[]⟩,0⟩,⟨⟨false,[]⟩,0⟩⟩:AI),x5.2)) else ((zct a0.Lo x5.2 a2).bind fun x6=>((zcu a0.Hi x6.2 a2).bind fun x7=>((za7 (⟨x6.1.M,x6.1.E⟩:AD) (⟨x7.1.M,x7.1.E⟩:AD) x7.2 a2).bind fun x8=>(some ((⟨⟨x8.Lo.M,x8.Lo.E⟩,⟨x8.Hi.M,x8.Hi.E⟩⟩:AI),x7.2)))))))
def zfk (a0:AI) (a1:Int) (a2:Int) (a3:Int):Option (AI × Int):=
 ((Qp a2 a3).bind fun x7=>(if ¬x7=0 then (some ((⟨⟨⟨false,[]⟩,0⟩,⟨⟨false,[]⟩,0⟩⟩:AI),x7)) else ((Q8 a1).bind fun x8=>match x8 with | Sum.inl x9=>none | (Sum.inr x10)=>((zcz a0 x10.2.1 x10.2.2).bind fun x11=>((Qp x11.2 x10.2.2).bind fun x12=>(some ((⟨⟨x11.1.Lo.M,x11.1.Lo.E⟩,⟨x11.1.Hi.M,x11.1.Hi.E⟩⟩:AI),x12)))))))
def zkx (x41:Int × Int × Int) (a1:Int) (y48:Int) (y49:Int) (y50:Bool) (y51:List Int) (y52:Int) (y53:Bool) (y54:List Int) (y55:Int):Option (AI × Int):=
 ((qI 1 y49 x41.2.2).bind fun x56=>((zbH (⟨⟨⟨y50,y51⟩,y52⟩,⟨⟨y53,y54⟩,y55⟩⟩:AI) (⟨⟨x56.1.Lo.M,x56.1.Lo.E⟩,⟨x56.1.Hi.M,x56.1.Hi.E⟩⟩:AI) x56.2 x41.2.2).bind fun x57=>((qI 1 x57.2 x41.2.2).bind fun x58=>((Qb (⟨⟨⟨y50,y51⟩,y52⟩,⟨⟨y53,y54⟩,y55⟩⟩:AI) (⟨⟨x58.1.Lo.M,x58.1.Lo.E⟩,⟨x58.1.Hi.M,x58.1.Hi.E⟩⟩:AI) x58.2 x41.2.2).bind fun x59=>((Qq (⟨⟨x57.1.Lo.M,x57.1.Lo.E⟩,⟨x57.1.Hi.M,x57.1.Hi.E⟩⟩:AI) (⟨⟨x59.1.Lo.M,x59.1.Lo.E⟩,⟨x59.1.Hi.M,x59.1.Hi.E⟩⟩:AI) x59.2 x41.2.2).bind fun x60=>((zdY (⟨⟨x60.1.Lo.M,x60.1.Lo.E⟩,⟨x60.1.Hi.M,x60.1.Hi.E⟩⟩:AI) x60.2 x41.2.2).bind fun x61=>((ZC (⟨⟨x61.1.Lo.M,x61.1.Lo.E⟩,⟨x61.1.Hi.M,x61.1.Hi.E⟩⟩:AI) 1 x61.2 x41.2.2).bind fun x62=>((qI y48 x62.2 x41.2.2).bind fun x63=>((zhH x63.2 x41.2.2).bind fun x64=>((ZB (⟨⟨x63.1.Lo.M,x63.1.Lo.E⟩,⟨x63.1.Hi.M,x63.1.Hi.E⟩⟩:AI) (⟨⟨x64.1.Lo.M,x64.1.Lo.E⟩,⟨x64.1.Hi.M,x64.1.Hi.E⟩⟩:AI) x64.2 x41.2.2).bind fun x65=>((Qb (⟨⟨x62.1.Lo.M,x62.1.Lo.E⟩,⟨x62.1.Hi.M,x62.1.Hi.E⟩⟩:AI) (⟨⟨x65.1.Lo.M,x65.1.Lo.E⟩,⟨x65.1.Hi.M,x65.1.Hi.E⟩⟩:AI) x65.2 x41.2.2).bind fun x66=>((zfk (⟨⟨x66.1.Lo.M,x66.1.Lo.E⟩,⟨x66.1.Hi.M,x66.1.Hi.E⟩⟩:AI) a1 x66.2 x41.2.2).bind fun x67=>(some ((⟨⟨x67.1.Lo.M,x67.1.Lo.E⟩,⟨x67.1.Hi.M,x67.1.Hi.E⟩⟩:AI),x67.2))))))))))))))
def zky (x43:AI × Int) (x41:Int × Int × Int) (a1:Int) (x37:Int × Bool) (y46:Bool):Option (AI × Int):=
 (if y46=true then ((ZC (⟨⟨x43.1.Lo.M,x43.1.Lo.E⟩,⟨x43.1.Hi.M,x43.1.Hi.E⟩⟩:AI) (-1) x43.2 x41.2.2).bind fun x68=>(zkx x41 a1 (i64.wrap ((i64.wrap (x37.1-1))+1)) x68.2 x68.1.Lo.M.Neg x68.1.Lo.M.Mag x68.1.Lo.E x68.1.Hi.M.Neg x68.1.Hi.M.Mag x68.1.Hi.E)) else (zkx x41 a1 (i64.wrap (x37.1-1)) x43.2 x43.1.Lo.M.Neg x43.1.Lo.M.Mag x43.1.Lo.E x43.1.Hi.M.Neg x43.1.Hi.M.Mag x43.1.Hi.E))
def znZ (a1:Int) (a0:AD) (x37:Int × Bool) (y38:Bool):Option (AI × Int):=
 (if y38=true then (some ((⟨⟨⟨false,[]⟩,0⟩,⟨⟨false,[]⟩,0⟩⟩:AI),3)) else ((Q8 (i64.wrap (a1+32))).bind fun x39=>match x39 with | Sum.inl x40=>none | (Sum.inr x41)=>((zaC a0 x41.2.1 x41.2.2).bind fun x42=>((ZC (⟨⟨x42.1.Lo.M,x42.1.Lo.E⟩,⟨x42.1.Hi.M,x42.1.Hi.E⟩⟩:AI) (i64.wrap (0-(i64.wrap (x37.1-1)))) x42.2 x41.2.2).bind fun x43=>((Qp x43.2 x41.2.2).bind fun x69=>(if x69=0 then ((ZA (⟨x43.1.Lo.M,x43.1.Lo.E⟩:AD) (⟨⟨false,[3]⟩,(-1)⟩:AD)).bind fun x70=>(zky x43 x41 a1 x37 (decide (x70≥0)))) else (zky x43 x41 a1 x37 false)))))))
def zfl (a0:AD) (a1:Int):Option (AI × Int):=
 ((za9 a1 [a0]).bind fun x36=>(if ¬x36=true then (some ((⟨⟨⟨false,[]⟩,0⟩,⟨⟨false,[]⟩,0⟩⟩:AI),1)) else ((zfd a0).bind fun x37=>(if ¬x37.2=true then (znZ a1 a0 x37 true) else (znZ a1 a0 x37 a0.M.Neg)))))
def zn0 (a0:AI) (a1:Int) (y10:Bool):Option (AI × Int):=
 (if y10=true then (some ((⟨⟨⟨false,[]⟩,0⟩,⟨⟨false,[]⟩,0⟩⟩:AI),1)) else ((zfl a0.Lo a1).bind fun x11=>(if ¬x11.2=0 then (some ((⟨⟨⟨false,[]⟩,0⟩,⟨⟨false,[]⟩,0⟩⟩:AI),x11.2)) else ((zfl a0.Hi a1).bind fun x12=>(if ¬x12.2=0 then (some ((⟨⟨⟨false,[]⟩,0⟩,⟨⟨false,[]⟩,0⟩⟩:AI),x12.2)) else (some ((⟨⟨x11.1.Lo.M,x11.1.Lo.E⟩,⟨x12.1.Hi.M,x12.1.Hi.E⟩⟩:AI),0)))))))
def zkz (a0:AI) (a1:Int):Option (AI × Int):=
 ((QJ a0).bind fun x13=>(if ¬x13=true then (zn0 a0 a1 true) else ((za9 a1 [a0.Lo,a0.Hi]).bind fun x14=>(zn0 a0 a1 (!x14)))))
def zhI (a0:AI) (a1:Int):Option (AI × Int):=
 ((zkz a0 a1).bind fun x2=>(some ((⟨⟨x2.1.Lo.M,x2.1.Lo.E⟩,⟨x2.1.Hi.M,x2.1.Hi.E⟩⟩:AI),x2.2)))
def zbL (a0:AI) (a1:Int) (a2:Int) (a3:Int):Option (AI × Int):=
 ((zdO a1 a2 a3).bind fun x4=>(if ¬x4=0 then (some ((⟨⟨⟨false,[]⟩,0⟩,⟨⟨false,[]⟩,0⟩⟩:AI),a1)) else ((ZT a2 a3).bind fun x5=>((zhI a0 x5).bind fun x6=>(some ((⟨⟨x6.1.Lo.M,x6.1.Lo.E⟩,⟨x6.1.Hi.M,x6.1.Hi.E⟩⟩:AI),x6.2))))))
def zhJ (a0:Int) (a1:AI) (a2:Int) (a3:Int) (a4:Bool) (a5:List Int) (a6:Int) (a7:Bool) (a8:List Int) (a9:Int):Option (AI × AI × Int):=
 ((ZB a1 (⟨⟨⟨a4,a5⟩,a6⟩,⟨⟨a7,a8⟩,a9⟩⟩:AI) a2 a3).bind fun x5=>((zbG (⟨⟨x5.1.Lo.M,x5.1.Lo.E⟩,⟨x5.1.Hi.M,x5.1.Hi.E⟩⟩:AI) x5.2 a3).bind fun x6=>((qI (i64.wrap ((i64.wrap (2*a0))+1)) x6.2 a3).bind fun x7=>((Qq (⟨⟨x6.1.Lo.M,x6.1.Lo.E⟩,⟨x6.1.Hi.M,x6.1.Hi.E⟩⟩:AI) (⟨⟨x7.1.Lo.M,x7.1.Lo.E⟩,⟨x7.1.Hi.M,x7.1.Hi.E⟩⟩:AI) x7.2 a3).bind fun x8=>(some ((⟨⟨x6.1.Lo.M,x6.1.Lo.E⟩,⟨x6.1.Hi.M,x6.1.Hi.E⟩⟩:AI),(⟨⟨x8.1.Lo.M,x8.1.Lo.E⟩,⟨x8.1.Hi.M,x8.1.Hi.E⟩⟩:AI),x8.2))))))
def zrI (a2:Int) (y135:Int) (y136:Bool) (y137:List Int) (y138:Int) (y139:Bool) (y140:List Int) (y141:Int):Option (AI × Int):=
 ((ZT y135 a2).bind fun x142=>((Q6 (i64.wrap (0-x142))).bind fun x143=>((zbK (⟨⟨⟨y136,y137⟩,y138⟩,⟨⟨y139,y140⟩,y141⟩⟩:AI) (⟨x143.M,x143.E⟩:AD) y135 a2).bind fun x144=>(some ((⟨⟨x144.1.Lo.M,x144.1.Lo.E⟩,⟨x144.1.Hi.M,x144.1.Hi.E⟩⟩:AI),x144.2)))))
def zfm (x94:Int) (a2:Int) (a3:Bool) (a4:List Int) (a5:Int) (a6:Bool) (a7:List Int) (a8:Int):Nat→Int→Int→Bool→List Int→Int→Bool→List Int→Int→Bool→List Int→Int→Bool→List Int→Int→Option (AI × Int)
 | 0,_,_,_,_,_,_,_,_,_,_,_,_,_,_=>none
 | n+1,y167,y168,y169,y170,y171,y172,y173,y174,y175,y176,y177,y178,y179,y180=>(if y167<x94 then ((zhJ (i64.wrap (y167+1)) (⟨⟨⟨y175,y176⟩,y177⟩,⟨⟨y178,y179⟩,y180⟩⟩:AI) y168 a2 a3 a4 a5 a6 a7 a8).bind fun x183=>((Qb (⟨⟨⟨y169,y170⟩,y171⟩,⟨⟨y172,y173⟩,y174⟩⟩:AI) (⟨⟨x183.2.1.Lo.M,x183.2.1.Lo.E⟩,⟨x183.2.1.Hi.M,x183.2.1.Hi.E⟩⟩:AI) x183.2.2 a2).bind fun x184=>((fun z0 z1 z2 z3 z4 z5 z6 z7 z8 z9 z10 z11 z12 z13=>zfm x94 a2 a3 a4 a5 a6 a7 a8 n z0 z1 z2 z3 z4 z5 z6 z7 z8 z9 z10 z11 z12 z13) (i64.wrap (y167+1)) x184.2 x184.1.Lo.M.Neg x184.1.Lo.M.Mag x184.1.Lo.E x184.1.Hi.M.Neg x184.1.Hi.M.Mag x184.1.Hi.E x183.1.Lo.M.Neg x183.1.Lo.M.Mag x183.1.Lo.E x183.1.Hi.M.Neg x183.1.Hi.M.Mag x183.1.Hi.E))) else (zrI a2 y168 y169 y170 y171 y172 y173 y174))
def zkA (a0:AI) (a1:Int) (a2:Int) (a3:Bool) (a4:List Int) (a5:Int) (a6:Bool) (a7:List Int) (a8:Int):Option (AI × Int):=
 ((ZT a1 a2).bind fun x93=>((zdX x93).bind fun x94=>(zfm x94 a2 a3 a4 a5 a6 a7 a8 fuel 0 a1 a0.Lo.M.Neg a0.Lo.M.Mag a0.Lo.E a0.Hi.M.Neg a0.Hi.M.Mag a0.Hi.E a0.Lo.M.Neg a0.Lo.M.Mag a0.Lo.E a0.Hi.M.Neg a0.Hi.M.Mag a0.Hi.E)))
def zkB (a0:AI) (a1:Int) (a2:Int):Option (AI × Int):=
 ((zdW a0 (-1) a1 a2).bind fun x4=>(if ¬x4.1=true then (some ((⟨⟨⟨false,[]⟩,0⟩,⟨⟨false,[]⟩,0⟩⟩:AI),x4.2)) else ((ZB a0 a0 x4.2 a2).bind fun x5=>((zkA a0 x5.2 a2 x5.1.Lo.M.Neg x5.1.Lo.M.Mag x5.1.Lo.E x5.1.Hi.M.Neg x5.1.Hi.M.Mag x5.1.Hi.E).bind fun x6=>(some ((⟨⟨x6.1.Lo.M,x6.1.Lo.E⟩,⟨x6.1.Hi.M,x6.1.Hi.E⟩⟩:AI),x6.2))))))
def zcA (a0:AI) (a1:Int) (a2:Int):Option (AI × Int):=
 ((zkB a0 a1 a2).bind fun x2=>(some ((⟨⟨x2.1.Lo.M,x2.1.Lo.E⟩,⟨x2.1.Hi.M,x2.1.Hi.E⟩⟩:AI),x2.2)))
def zn1 (y217:Int) (y218:List AI):Option ((List AI) × Int):=
 (some (y218,y217))
def zfn (ag3_konst_parts_3d9d:Int→Int→List AI→Option ((List AI) × Int)) (y230:Int) (y235:Int) (y236:List AI):Option ((List AI) × Int):=
 (if 0<y236.length then (ag3_konst_parts_3d9d (i64.wrap (y230+1)) y235 y236) else none)
def zbM (a1:Int) (a5:Int) (a3:Int):Nat→Int→Int→List AI→Option ((List AI) × Int)
 | 0,_,_,_=>none
 | n+1,y230,y231,y232=>(if y230<2 then (if y230=0 then (if 0<y232.length then (if 0≤y230∧y230.toNat<y232.length then ((ZC (⟨⟨(((y232.getD y230.toNat zAI).Lo).M),((y232.getD y230.toNat zAI).Lo).E⟩,⟨(((y232.getD y230.toNat zAI).Hi).M),((y232.getD y230.toNat zAI).Hi).E⟩⟩:AI) a1 y231 a5).bind fun x237=>(if 0≤y230∧y230.toNat<y232.length then (zfn (fun z0 z1 z2=>zbM a1 a5 a3 n z0 z1 z2) y230 x237.2 (y232.set y230.toNat (⟨⟨x237.1.Lo.M,x237.1.Lo.E⟩,⟨x237.1.Hi.M,x237.1.Hi.E⟩⟩:AI))) else none)) else none) else none) else (if y230=1 then (if 0<y232.length then (if 0≤y230∧y230.toNat<y232.length then ((ZC (⟨⟨(((y232.getD y230.toNat zAI).Lo).M),((y232.getD y230.toNat zAI).Lo).E⟩,⟨(((y232.getD y230.toNat zAI).Hi).M),((y232.getD y230.toNat zAI).Hi).E⟩⟩:AI) a3 y231 a5).bind fun x238=>(if 0≤y230∧y230.toNat<y232.length then (zfn (fun z0 z1 z2=>zbM a1 a5 a3 n z0 z1 z2) y230 x238.2 (y232.set y230.toNat (⟨⟨x238.1.Lo.M,x238.1.Lo.E⟩,⟨x238.1.Hi.M,x238.1.Hi.E⟩⟩:AI))) else none)) else none) else none) else none)) else (zn1 y231 y232))
def zkC (a1:Int) (a5:Int) (a3:Int) (y195:Int) (y196:List AI):Option ((List AI) × Int):=
 (zbM a1 a5 a3 fuel 0 y195 y196)
def zfo (ag5_konst_parts_3d9d:Int→Int→List AI→Option ((List AI) × Int)) (y268:Int) (y279:Int) (y280:List AI):Option ((List AI) × Int):=
 (if 0<y280.length then (ag5_konst_parts_3d9d (i64.wrap (y268+1)) y279 y280) else none)
def zbN (a5:Int) (a0:Int) (a2:Int) (a1:Int) (a3:Int):Nat→Int→Int→List AI→Option ((List AI) × Int)
 | 0,_,_,_=>none
 | n+1,y268,y269,y270=>(if y268<2 then (if y268=0 then ((qI 1 y269 a5).bind fun x281=>((qI a0 x281.2 a5).bind fun x282=>((Qq (⟨⟨x281.1.Lo.M,x281.1.Lo.E⟩,⟨x281.1.Hi.M,x281.1.Hi.E⟩⟩:AI) (⟨⟨x282.1.Lo.M,x282.1.Lo.E⟩,⟨x282.1.Hi.M,x282.1.Hi.E⟩⟩:AI) x282.2 a5).bind fun x283=>((zcA (⟨⟨x283.1.Lo.M,x283.1.Lo.E⟩,⟨x283.1.Hi.M,x283.1.Hi.E⟩⟩:AI) x283.2 a5).bind fun x284=>(if 0<[(⟨⟨x284.1.Lo.M,x284.1.Lo.E⟩,⟨x284.1.Hi.M,x284.1.Hi.E⟩⟩:AI)].length∧y270.length+[(⟨⟨x284.1.Lo.M,x284.1.Lo.E⟩,⟨x284.1.Hi.M,x284.1.Hi.E⟩⟩:AI)].length≤9223372036854775807∧(y270.length+[(⟨⟨x284.1.Lo.M,x284.1.Lo.E⟩,⟨x284.1.Hi.M,x284.1.Hi.E⟩⟩:AI)].length)*80≤140737488355328 then (zfo (fun z0 z1 z2=>zbN a5 a0 a2 a1 a3 n z0 z1 z2) y268 x284.2 (y270++[(⟨⟨x284.1.Lo.M,x284.1.Lo.E⟩,⟨x284.1.Hi.M,x284.1.Hi.E⟩⟩:AI)])) else none))))) else (if y268=1 then ((qI 1 y269 a5).bind fun x285=>((qI a2 x285.2 a5).bind fun x286=>((Qq (⟨⟨x285.1.Lo.M,x285.1.Lo.E⟩,⟨x285.1.Hi.M,x285.1.Hi.E⟩⟩:AI) (⟨⟨x286.1.Lo.M,x286.1.Lo.E⟩,⟨x286.1.Hi.M,x286.1.Hi.E⟩⟩:AI) x286.2 a5).bind fun x287=>((zcA (⟨⟨x287.1.Lo.M,x287.1.Lo.E⟩,⟨x287.1.Hi.M,x287.1.Hi.E⟩⟩:AI) x287.2 a5).bind fun x288=>(if 0<[(⟨⟨x288.1.Lo.M,x288.1.Lo.E⟩,⟨x288.1.Hi.M,x288.1.Hi.E⟩⟩:AI)].length∧y270.length+[(⟨⟨x288.1.Lo.M,x288.1.Lo.E⟩,⟨x288.1.Hi.M,x288.1.Hi.E⟩⟩:AI)].length≤9223372036854775807∧(y270.length+[(⟨⟨x288.1.Lo.M,x288.1.Lo.E⟩,⟨x288.1.Hi.M,x288.1.Hi.E⟩⟩:AI)].length)*80≤140737488355328 then (zfo (fun z0 z1 z2=>zbN a5 a0 a2 a1 a3 n z0 z1 z2) y268 x288.2 (y270++[(⟨⟨x288.1.Lo.M,x288.1.Lo.E⟩,⟨x288.1.Hi.M,x288.1.Hi.E⟩⟩:AI)])) else none))))) else none)) else (zkC a1 a5 a3 y269 y270))
def zhK (a0:Int) (a1:Int) (a2:Int) (a3:Int) (a4:Int) (a5:Int):Option ((List AI) × Int):=
 (zbN a5 a0 a2 a1 a3 fuel 0 a4 [])
def zhL (a0:Int) (a1:Int):Option (AI × Int):=
 ((zhK 5 4 239 2 a0 a1).bind fun x3=>(if 0≤(0:Int)∧(0:Int)<(x3.1.length:Int) then (if 0≤(1:Int)∧(1:Int)<(x3.1.length:Int) then ((zbH (⟨⟨(((x3.1.getD 0 zAI).Lo).M),((x3.1.getD 0 zAI).Lo).E⟩,⟨(((x3.1.getD 0 zAI).Hi).M),((x3.1.getD 0 zAI).Hi).E⟩⟩:AI) (⟨⟨(((x3.1.getD 1 zAI).Lo).M),((x3.1.getD 1 zAI).Lo).E⟩,⟨(((x3.1.getD 1 zAI).Hi).M),((x3.1.getD 1 zAI).Hi).E⟩⟩:AI) x3.2 a1).bind fun x4=>(some ((⟨⟨x4.1.Lo.M,x4.1.Lo.E⟩,⟨x4.1.Hi.M,x4.1.Hi.E⟩⟩:AI),x4.2))) else none) else none))
def zxH (y74:Int) (y75:Bool) (y76:List Int) (y77:Int) (y78:Bool) (y79:List Int) (y80:Int):Option (AI × Int):=
 (some ((⟨⟨⟨y75,y76⟩,y77⟩,⟨⟨y78,y79⟩,y80⟩⟩:AI),y74))
def zfp (a0:List AI) (a3:Int):Nat→Int→Int→Bool→List Int→Int→Bool→List Int→Int→Option (AI × Int)
 | 0,_,_,_,_,_,_,_,_=>none
 | n+1,y93,y94,y95,y96,y97,y98,y99,y100=>(if y93<(((a0.take a0.length).drop 1).length:Int) then (if 0≤y93∧y93<(((a0.take a0.length).drop 1).length:Int) then ((Qb (⟨⟨⟨y95,y96⟩,y97⟩,⟨⟨y98,y99⟩,y100⟩⟩:AI) (⟨⟨(((((a0.take a0.length).drop 1).getD y93.toNat zAI).Lo).M),((((a0.take a0.length).drop 1).getD y93.toNat zAI).Lo).E⟩,⟨(((((a0.take a0.length).drop 1).getD y93.toNat zAI).Hi).M),((((a0.take a0.length).drop 1).getD y93.toNat zAI).Hi).E⟩⟩:AI) y94 a3).bind fun x102=>((fun z0 z1 z2 z3 z4 z5 z6 z7=>zfp a0 a3 n z0 z1 z2 z3 z4 z5 z6 z7) (i64.wrap (y93+1)) x102.2 x102.1.Lo.M.Neg x102.1.Lo.M.Mag x102.1.Lo.E x102.1.Hi.M.Neg x102.1.Hi.M.Mag x102.1.Hi.E)) else none) else (zxH y94 y95 y96 y97 y98 y99 y100))
def zhM (a0:List AI) (a1:Int) (a2:Int) (a3:Int):Option (AI × Int):=
 (if 0≤(0:Int)∧(0:Int)<(a0.length:Int) then (if 0≤(1:Int)∧(1:Int)≤(a0.length:Int)∧(a0.length:Int)≤(a0.length:Int) then (zfp a0 a3 fuel 0 a2 ((((a0.getD 0 zAI).Lo).M).Neg) ((((a0.getD 0 zAI).Lo).M).Mag) (((a0.getD 0 zAI).Lo).E) ((((a0.getD 0 zAI).Hi).M).Neg) ((((a0.getD 0 zAI).Hi).M).Mag) (((a0.getD 0 zAI).Hi).E)) else none) else none)
def zkD (a0:Int) (y4:Bool):Option (Int × Int × Bool):=
 (if y4=true then (some ((-1),30,true)) else (if a0=3 then (some (1,42,true)) else (if a0=5 then (some (5,66,true)) else (if a0=6 then (some ((-691),2730,true)) else (if a0=7 then (some (7,6,true)) else (if a0=8 then (some ((-3617),510,true)) else (if a0=9 then (some (43867,798,true)) else (if a0=10 then (some ((-174611),330,true)) else (some (0,0,false))))))))))
def zaG (a0:Int):Option (Int × Int × Bool):=
 (if a0=1 then (some (1,6,true)) else (if a0=2 then (zkD a0 true) else (zkD a0 (a0 == 4))))
def zrJ (y426:Int) (y427:Bool) (y428:List Int) (y429:Int) (y430:Bool) (y431:List Int) (y432:Int):Option (AI × Int):=
 (some ((⟨⟨⟨y427,y428⟩,y429⟩,⟨⟨y430,y431⟩,y432⟩⟩:AI),y426))
def zn2 (a3:Int) (x276:Int × Int) (y322:Bool) (y323:List Int) (y324:Int) (y325:Bool) (y326:List Int) (y327:Int) (a1:Int) (y415:Int) (y416:Bool) (y417:List Int) (y418:Int) (y419:Bool) (y420:List Int) (y421:Int):Option (AI × Int):=
 ((Q6 (-160)).bind fun x422=>((zbK (⟨⟨⟨y416,y417⟩,y418⟩,⟨⟨y419,y420⟩,y421⟩⟩:AI) (⟨x422.M,x422.E⟩:AD) y415 a3).bind fun x423=>(if x276.1>0 then ((zbL (⟨⟨⟨y322,y323⟩,y324⟩,⟨⟨y325,y326⟩,y327⟩⟩:AI) a1 x423.2 a3).bind fun x433=>(if x433.2=a1 then ((zbH (⟨⟨x423.1.Lo.M,x423.1.Lo.E⟩,⟨x423.1.Hi.M,x423.1.Hi.E⟩⟩:AI) (⟨⟨x433.1.Lo.M,x433.1.Lo.E⟩,⟨x433.1.Hi.M,x433.1.Hi.E⟩⟩:AI) x423.2 a3).bind fun x434=>(zrJ x434.2 x434.1.Lo.M.Neg x434.1.Lo.M.Mag x434.1.Lo.E x434.1.Hi.M.Neg x434.1.Hi.M.Mag x434.1.Hi.E)) else none)) else (zrJ x423.2 x423.1.Lo.M.Neg x423.1.Lo.M.Mag x423.1.Lo.E x423.1.Hi.M.Neg x423.1.Hi.M.Mag x423.1.Hi.E))))
def zfq (a3:Int) (x279:AI × Int) (x276:Int × Int) (y322:Bool) (y323:List Int) (y324:Int) (y325:Bool) (y326:List Int) (y327:Int) (a1:Int):Nat→Int→Int→Bool→List Int→Int→Bool→List Int→Int→Bool→List Int→Int→Bool→List Int→Int→Option (AI × Int)
 | 0,_,_,_,_,_,_,_,_,_,_,_,_,_,_=>none
 | n+1,y481,y482,y483,y484,y485,y486,y487,y488,y489,y490,y491,y492,y493,y494=>(if y481≤10 then ((zaG y481).bind fun x503=>((qI x503.1 y482 a3).bind fun x504=>((qI (i64.wrap ((i64.wrap ((i64.wrap (x503.2.1*2))*y481))*(i64.wrap ((i64.wrap (2*y481))-1)))) x504.2 a3).bind fun x505=>((ZB (⟨⟨x505.1.Lo.M,x505.1.Lo.E⟩,⟨x505.1.Hi.M,x505.1.Hi.E⟩⟩:AI) (⟨⟨⟨y489,y490⟩,y491⟩,⟨⟨y492,y493⟩,y494⟩⟩:AI) x505.2 a3).bind fun x506=>((Qq (⟨⟨x504.1.Lo.M,x504.1.Lo.E⟩,⟨x504.1.Hi.M,x504.1.Hi.E⟩⟩:AI) (⟨⟨x506.1.Lo.M,x506.1.Lo.E⟩,⟨x506.1.Hi.M,x506.1.Hi.E⟩⟩:AI) x506.2 a3).bind fun x507=>((Qb (⟨⟨⟨y483,y484⟩,y485⟩,⟨⟨y486,y487⟩,y488⟩⟩:AI) (⟨⟨x507.1.Lo.M,x507.1.Lo.E⟩,⟨x507.1.Hi.M,x507.1.Hi.E⟩⟩:AI) x507.2 a3).bind fun x508=>((ZB (⟨⟨x279.1.Lo.M,x279.1.Lo.E⟩,⟨x279.1.Hi.M,x279.1.Hi.E⟩⟩:AI) (⟨⟨x279.1.Lo.M,x279.1.Lo.E⟩,⟨x279.1.Hi.M,x279.1.Hi.E⟩⟩:AI) x508.2 a3).bind fun x509=>((ZB (⟨⟨⟨y489,y490⟩,y491⟩,⟨⟨y492,y493⟩,y494⟩⟩:AI) (⟨⟨x509.1.Lo.M,x509.1.Lo.E⟩,⟨x509.1.Hi.M,x509.1.Hi.E⟩⟩:AI) x509.2 a3).bind fun x510=>((fun z0 z1 z2 z3 z4 z5 z6 z7 z8 z9 z10 z11 z12 z13=>zfq a3 x279 x276 y322 y323 y324 y325 y326 y327 a1 n z0 z1 z2 z3 z4 z5 z6 z7 z8 z9 z10 z11 z12 z13) (i64.wrap (y481+1)) x510.2 x508.1.Lo.M.Neg x508.1.Lo.M.Mag x508.1.Lo.E x508.1.Hi.M.Neg x508.1.Hi.M.Mag x508.1.Hi.E x510.1.Lo.M.Neg x510.1.Lo.M.Mag x510.1.Lo.E x510.1.Hi.M.Neg x510.1.Hi.M.Mag x510.1.Hi.E))))))))) else (zn2 a3 x276 y322 y323 y324 y325 y326 y327 a1 y482 y483 y484 y485 y486 y487 y488))
def zn3 (a3:Int) (x279:AI × Int) (a1:Int) (x276:Int × Int) (y321:Int) (y322:Bool) (y323:List Int) (y324:Int) (y325:Bool) (y326:List Int) (y327:Int):Option (AI × Int):=
 ((Q6 (-1)).bind fun x328=>((zaC (⟨x328.M,x328.E⟩:AD) y321 a3).bind fun x329=>((zbH (⟨⟨x279.1.Lo.M,x279.1.Lo.E⟩,⟨x279.1.Hi.M,x279.1.Hi.E⟩⟩:AI) (⟨⟨x329.1.Lo.M,x329.1.Lo.E⟩,⟨x329.1.Hi.M,x329.1.Hi.E⟩⟩:AI) x329.2 a3).bind fun x330=>((zbL (⟨⟨x279.1.Lo.M,x279.1.Lo.E⟩,⟨x279.1.Hi.M,x279.1.Hi.E⟩⟩:AI) a1 x330.2 a3).bind fun x331=>(if x331.2=a1 then ((ZB (⟨⟨x330.1.Lo.M,x330.1.Lo.E⟩,⟨x330.1.Hi.M,x330.1.Hi.E⟩⟩:AI) (⟨⟨x331.1.Lo.M,x331.1.Lo.E⟩,⟨x331.1.Hi.M,x331.1.Hi.E⟩⟩:AI) x330.2 a3).bind fun x332=>((zbG (⟨⟨x279.1.Lo.M,x279.1.Lo.E⟩,⟨x279.1.Hi.M,x279.1.Hi.E⟩⟩:AI) x332.2 a3).bind fun x333=>((zhL x333.2 a3).bind fun x334=>((ZC (⟨⟨x334.1.Lo.M,x334.1.Lo.E⟩,⟨x334.1.Hi.M,x334.1.Hi.E⟩⟩:AI) 1 x334.2 a3).bind fun x335=>((zbL (⟨⟨x335.1.Lo.M,x335.1.Lo.E⟩,⟨x335.1.Hi.M,x335.1.Hi.E⟩⟩:AI) a1 x335.2 a3).bind fun x336=>(if x336.2=a1 then ((ZC (⟨⟨x336.1.Lo.M,x336.1.Lo.E⟩,⟨x336.1.Hi.M,x336.1.Hi.E⟩⟩:AI) (-1) x335.2 a3).bind fun x337=>((zhM [(⟨⟨x332.1.Lo.M,x332.1.Lo.E⟩,⟨x332.1.Hi.M,x332.1.Hi.E⟩⟩:AI),(⟨⟨x333.1.Lo.M,x333.1.Lo.E⟩,⟨x333.1.Hi.M,x333.1.Hi.E⟩⟩:AI),(⟨⟨x337.1.Lo.M,x337.1.Lo.E⟩,⟨x337.1.Hi.M,x337.1.Hi.E⟩⟩:AI)] a1 x337.2 a3).bind fun x338=>(zfq a3 x279 x276 y322 y323 y324 y325 y326 y327 a1 fuel 1 x338.2 x338.1.Lo.M.Neg x338.1.Lo.M.Mag x338.1.Lo.E x338.1.Hi.M.Neg x338.1.Hi.M.Mag x338.1.Hi.E x279.1.Lo.M.Neg x279.1.Lo.M.Mag x279.1.Lo.E x279.1.Hi.M.Neg x279.1.Hi.M.Mag x279.1.Hi.E))) else none)))))) else none)))))
def zfr (x276:Int × Int) (a0:AD) (a3:Int) (x279:AI × Int) (a1:Int):Nat→Int→Int→Bool→List Int→Int→Bool→List Int→Int→Option (AI × Int)
 | 0,_,_,_,_,_,_,_,_=>none
 | n+1,y535,y536,y537,y538,y539,y540,y541,y542=>(if y535<x276.1 then ((zaC a0 y536 a3).bind fun x547=>((qI y535 x547.2 a3).bind fun x548=>((Qb (⟨⟨x547.1.Lo.M,x547.1.Lo.E⟩,⟨x547.1.Hi.M,x547.1.Hi.E⟩⟩:AI) (⟨⟨x548.1.Lo.M,x548.1.Lo.E⟩,⟨x548.1.Hi.M,x548.1.Hi.E⟩⟩:AI) x548.2 a3).bind fun x549=>((ZB (⟨⟨⟨y537,y538⟩,y539⟩,⟨⟨y540,y541⟩,y542⟩⟩:AI) (⟨⟨x549.1.Lo.M,x549.1.Lo.E⟩,⟨x549.1.Hi.M,x549.1.Hi.E⟩⟩:AI) x549.2 a3).bind fun x550=>((fun z0 z1 z2 z3 z4 z5 z6 z7=>zfr x276 a0 a3 x279 a1 n z0 z1 z2 z3 z4 z5 z6 z7) (i64.wrap (y535+1)) x550.2 x550.1.Lo.M.Neg x550.1.Lo.M.Mag x550.1.Lo.E x550.1.Hi.M.Neg x550.1.Hi.M.Mag x550.1.Hi.E))))) else (zn3 a3 x279 a1 x276 y536 y537 y538 y539 y540 y541 y542))
def zdZ (a0:AD) (a1:Int) (a2:Int) (a3:Int):Option (AI × Int):=
 ((zaB a0).bind fun x276=>((zaC a0 a2 a3).bind fun x277=>((qI x276.1 x277.2 a3).bind fun x278=>((Qb (⟨⟨x277.1.Lo.M,x277.1.Lo.E⟩,⟨x277.1.Hi.M,x277.1.Hi.E⟩⟩:AI) (⟨⟨x278.1.Lo.M,x278.1.Lo.E⟩,⟨x278.1.Hi.M,x278.1.Hi.E⟩⟩:AI) x278.2 a3).bind fun x279=>((qI 1 x279.2 a3).bind fun x280=>(zfr x276 a0 a3 x279 a1 fuel 0 x280.2 x280.1.Lo.M.Neg x280.1.Lo.M.Mag x280.1.Lo.E x280.1.Hi.M.Neg x280.1.Hi.M.Mag x280.1.Hi.E))))))
def zaH (a0:AI) (a1:Int) (a2:Int) (a3:Int) (a4:Int):Option (AI × Int):=
 ((zdO a2 a3 a4).bind fun x7=>(if ¬x7=0 then (some ((⟨⟨⟨false,[]⟩,0⟩,⟨⟨false,[]⟩,0⟩⟩:AI),x7)) else ((Q8 a1).bind fun x8=>match x8 with | Sum.inl x9=>none | (Sum.inr x10)=>((zcz a0 x10.2.1 x10.2.2).bind fun x11=>((Qp x11.2 x10.2.2).bind fun x12=>(some ((⟨⟨x11.1.Lo.M,x11.1.Lo.E⟩,⟨x11.1.Hi.M,x11.1.Hi.E⟩⟩:AI),x12)))))))
def zkE (a0:Int) (a1:AI) (a2:Int) (a3:Int) (a4:Bool) (a5:List Int) (a6:Int) (a7:Bool) (a8:List Int) (a9:Int):Option (AI × Int):=
 ((ZB a1 (⟨⟨⟨a4,a5⟩,a6⟩,⟨⟨a7,a8⟩,a9⟩⟩:AI) a2 a3).bind fun x4=>((qI a0 x4.2 a3).bind fun x5=>((Qq (⟨⟨x4.1.Lo.M,x4.1.Lo.E⟩,⟨x4.1.Hi.M,x4.1.Hi.E⟩⟩:AI) (⟨⟨x5.1.Lo.M,x5.1.Lo.E⟩,⟨x5.1.Hi.M,x5.1.Hi.E⟩⟩:AI) x5.2 a3).bind fun x6=>(some ((⟨⟨x6.1.Lo.M,x6.1.Lo.E⟩,⟨x6.1.Hi.M,x6.1.Hi.E⟩⟩:AI),x6.2)))))
def zhN (a0:Int) (a1:AI) (a2:Int) (a3:Int) (a4:Bool) (a5:List Int) (a6:Int) (a7:Bool) (a8:List Int) (a9:Int):Option (AI × AI × Int):=
 ((zkE a0 a1 a2 a3 a4 a5 a6 a7 a8 a9).bind fun x2=>(some ((⟨⟨x2.1.Lo.M,x2.1.Lo.E⟩,⟨x2.1.Hi.M,x2.1.Hi.E⟩⟩:AI),(⟨⟨x2.1.Lo.M,x2.1.Lo.E⟩,⟨x2.1.Hi.M,x2.1.Hi.E⟩⟩:AI),x2.2)))
def zrK (a2:Int) (y135:Int) (y136:Bool) (y137:List Int) (y138:Int) (y139:Bool) (y140:List Int) (y141:Int):Option (AI × Int):=
 ((ZT y135 a2).bind fun x142=>((Q6 (i64.wrap (0-x142))).bind fun x143=>((zbK (⟨⟨⟨y136,y137⟩,y138⟩,⟨⟨y139,y140⟩,y141⟩⟩:AI) (⟨x143.M,x143.E⟩:AD) y135 a2).bind fun x144=>(some ((⟨⟨x144.1.Lo.M,x144.1.Lo.E⟩,⟨x144.1.Hi.M,x144.1.Hi.E⟩⟩:AI),x144.2)))))
def zfs (x94:Int) (a2:Int) (a3:Bool) (a4:List Int) (a5:Int) (a6:Bool) (a7:List Int) (a8:Int):Nat→Int→Int→Bool→List Int→Int→Bool→List Int→Int→Bool→List Int→Int→Bool→List Int→Int→Option (AI × Int)
 | 0,_,_,_,_,_,_,_,_,_,_,_,_,_,_=>none
 | n+1,y167,y168,y169,y170,y171,y172,y173,y174,y175,y176,y177,y178,y179,y180=>(if y167<x94 then ((zhN (i64.wrap (y167+1)) (⟨⟨⟨y175,y176⟩,y177⟩,⟨⟨y178,y179⟩,y180⟩⟩:AI) y168 a2 a3 a4 a5 a6 a7 a8).bind fun x183=>((Qb (⟨⟨⟨y169,y170⟩,y171⟩,⟨⟨y172,y173⟩,y174⟩⟩:AI) (⟨⟨x183.2.1.Lo.M,x183.2.1.Lo.E⟩,⟨x183.2.1.Hi.M,x183.2.1.Hi.E⟩⟩:AI) x183.2.2 a2).bind fun x184=>((fun z0 z1 z2 z3 z4 z5 z6 z7 z8 z9 z10 z11 z12 z13=>zfs x94 a2 a3 a4 a5 a6 a7 a8 n z0 z1 z2 z3 z4 z5 z6 z7 z8 z9 z10 z11 z12 z13) (i64.wrap (y167+1)) x184.2 x184.1.Lo.M.Neg x184.1.Lo.M.Mag x184.1.Lo.E x184.1.Hi.M.Neg x184.1.Hi.M.Mag x184.1.Hi.E x183.1.Lo.M.Neg x183.1.Lo.M.Mag x183.1.Lo.E x183.1.Hi.M.Neg x183.1.Hi.M.Mag x183.1.Hi.E))) else (zrK a2 y168 y169 y170 y171 y172 y173 y174))
def zkF (a0:AI) (a1:Int) (a2:Int) (a3:Bool) (a4:List Int) (a5:Int) (a6:Bool) (a7:List Int) (a8:Int):Option (AI × Int):=
 ((ZT a1 a2).bind fun x93=>((zdX x93).bind fun x94=>(zfs x94 a2 a3 a4 a5 a6 a7 a8 fuel 0 a1 a0.Lo.M.Neg a0.Lo.M.Mag a0.Lo.E a0.Hi.M.Neg a0.Hi.M.Mag a0.Hi.E a0.Lo.M.Neg a0.Lo.M.Mag a0.Lo.E a0.Hi.M.Neg a0.Hi.M.Mag a0.Hi.E)))
def zkG (a0:AI) (a1:Int) (a2:Int) (a3:Bool) (a4:List Int) (a5:Int) (a6:Bool) (a7:List Int) (a8:Int):Option (AI × Int):=
 ((zkF a0 a1 a2 a3 a4 a5 a6 a7 a8).bind fun x2=>(some ((⟨⟨x2.1.Lo.M,x2.1.Lo.E⟩,⟨x2.1.Hi.M,x2.1.Hi.E⟩⟩:AI),x2.2)))
def zhO (a0:AI) (a1:Int) (a2:Int):Option (AI × Int):=
 ((zdW a0 (-3) a1 a2).bind fun x4=>(if ¬x4.1=true then (some ((⟨⟨⟨false,[]⟩,0⟩,⟨⟨false,[]⟩,0⟩⟩:AI),x4.2)) else ((qI 1 x4.2 a2).bind fun x5=>((zkG (⟨⟨x5.1.Lo.M,x5.1.Lo.E⟩,⟨x5.1.Hi.M,x5.1.Hi.E⟩⟩:AI) x5.2 a2 a0.Lo.M.Neg a0.Lo.M.Mag a0.Lo.E a0.Hi.M.Neg a0.Hi.M.Mag a0.Hi.E).bind fun x6=>(some ((⟨⟨x6.1.Lo.M,x6.1.Lo.E⟩,⟨x6.1.Hi.M,x6.1.Hi.E⟩⟩:AI),x6.2))))))
def zrL (a1:Int) (x69:Int × Int × Int) (y95:Int) (y96:Bool) (y97:List Int) (y98:Int) (y99:Bool) (y100:List Int) (y101:Int):Option (AI × Int):=
 ((zfk (⟨⟨⟨y96,y97⟩,y98⟩,⟨⟨y99,y100⟩,y101⟩⟩:AI) a1 y95 x69.2.2).bind fun x102=>(some ((⟨⟨x102.1.Lo.M,x102.1.Lo.E⟩,⟨x102.1.Hi.M,x102.1.Hi.E⟩⟩:AI),x102.2)))
def zft (y66:Int) (x69:Int × Int × Int) (a1:Int):Nat→Int→Int→Bool→List Int→Int→Bool→List Int→Int→Option (AI × Int)
 | 0,_,_,_,_,_,_,_,_=>none
 | n+1,y115,y116,y117,y118,y119,y120,y121,y122=>(if y115<y66 then ((ZB (⟨⟨⟨y117,y118⟩,y119⟩,⟨⟨y120,y121⟩,y122⟩⟩:AI) (⟨⟨⟨y117,y118⟩,y119⟩,⟨⟨y120,y121⟩,y122⟩⟩:AI) y116 x69.2.2).bind fun x124=>((fun z0 z1 z2 z3 z4 z5 z6 z7=>zft y66 x69 a1 n z0 z1 z2 z3 z4 z5 z6 z7) (i64.wrap (y115+1)) x124.2 x124.1.Lo.M.Neg x124.1.Lo.M.Mag x124.1.Lo.E x124.1.Hi.M.Neg x124.1.Hi.M.Mag x124.1.Hi.E)) else (zrL a1 x69 y116 y117 y118 y119 y120 y121 y122))
def zkH (a1:Int) (a0:AD) (y66:Int):Option (AI × Int):=
 ((Q8 (i64.wrap (a1+32))).bind fun x67=>match x67 with | Sum.inl x68=>none | (Sum.inr x69)=>((zaC a0 x69.2.1 x69.2.2).bind fun x70=>((ZC (⟨⟨x70.1.Lo.M,x70.1.Lo.E⟩,⟨x70.1.Hi.M,x70.1.Hi.E⟩⟩:AI) (i64.wrap (0-y66)) x70.2 x69.2.2).bind fun x71=>((zhO (⟨⟨x71.1.Lo.M,x71.1.Lo.E⟩,⟨x71.1.Hi.M,x71.1.Hi.E⟩⟩:AI) x71.2 x69.2.2).bind fun x72=>(zft y66 x69 a1 fuel 0 x72.2 x72.1.Lo.M.Neg x72.1.Lo.M.Mag x72.1.Lo.E x72.1.Hi.M.Neg x72.1.Hi.M.Mag x72.1.Hi.E)))))
def zn4 (x64:Int × Bool) (a1:Int) (a0:AD) (y65:Bool):Option (AI × Int):=
 (if y65=true then (some ((⟨⟨⟨false,[]⟩,0⟩,⟨⟨false,[]⟩,0⟩⟩:AI),4)) else (if x64.2=true then (zkH a1 a0 (mx 0 (i64.wrap (x64.1+3)))) else (zkH a1 a0 0)))
def zfu (a0:AD) (a1:Int):Option (AI × Int):=
 ((za9 a1 [a0]).bind fun x63=>(if ¬x63=true then (some ((⟨⟨⟨false,[]⟩,0⟩,⟨⟨false,[]⟩,0⟩⟩:AI),1)) else ((zfd a0).bind fun x64=>(if x64.2=true then (zn4 x64 a1 a0 (decide (x64.1>11))) else (zn4 x64 a1 a0 false)))))
def zn5 (a0:AI) (a1:Int) (y10:Bool):Option (AI × Int):=
 (if y10=true then (some ((⟨⟨⟨false,[]⟩,0⟩,⟨⟨false,[]⟩,0⟩⟩:AI),1)) else ((zfu a0.Lo a1).bind fun x11=>(if ¬x11.2=0 then (some ((⟨⟨⟨false,[]⟩,0⟩,⟨⟨false,[]⟩,0⟩⟩:AI),x11.2)) else ((zfu a0.Hi a1).bind fun x12=>(if ¬x12.2=0 then (some ((⟨⟨⟨false,[]⟩,0⟩,⟨⟨false,[]⟩,0⟩⟩:AI),x12.2)) else (some ((⟨⟨x11.1.Lo.M,x11.1.Lo.E⟩,⟨x12.1.Hi.M,x12.1.Hi.E⟩⟩:AI),0)))))))
def zkI (a0:AI) (a1:Int):Option (AI × Int):=
 ((QJ a0).bind fun x13=>(if ¬x13=true then (zn5 a0 a1 true) else ((za9 a1 [a0.Lo,a0.Hi]).bind fun x14=>(zn5 a0 a1 (!x14)))))
def zfv (a0:AI) (a1:Int):Option (AI × Int):=
 ((zkI a0 a1).bind fun x2=>(some ((⟨⟨x2.1.Lo.M,x2.1.Lo.E⟩,⟨x2.1.Hi.M,x2.1.Hi.E⟩⟩:AI),x2.2)))
def Zr (a0:AD) (a1:Int):Option (AI × Int):=
 ((Qn a0 a1).bind fun x9=>(if ¬x9=0 then (some ((⟨⟨⟨false,[]⟩,0⟩,⟨⟨false,[]⟩,0⟩⟩:AI),x9)) else ((zbE (i64.wrap ((i64.wrap (a1+64))+32))).bind fun x10=>match x10 with | Sum.inl x11=>none | (Sum.inr x12)=>((zdZ a0 x12.2.2 x12.1 x12.2.1).bind fun x13=>((zaH (⟨⟨x13.1.Lo.M,x13.1.Lo.E⟩,⟨x13.1.Hi.M,x13.1.Hi.E⟩⟩:AI) (i64.wrap (a1+64)) x12.2.2 x13.2 x12.2.1).bind fun x14=>(if ¬x14.2=0 then (some ((⟨⟨⟨false,[]⟩,0⟩,⟨⟨false,[]⟩,0⟩⟩:AI),x14.2)) else ((zfv (⟨⟨x14.1.Lo.M,x14.1.Lo.E⟩,⟨x14.1.Hi.M,x14.1.Hi.E⟩⟩:AI) (i64.wrap (a1+32))).bind fun x15=>(if ¬x15.2=0 then (some ((⟨⟨⟨false,[]⟩,0⟩,⟨⟨false,[]⟩,0⟩⟩:AI),x15.2)) else ((zaH (⟨⟨x15.1.Lo.M,x15.1.Lo.E⟩,⟨x15.1.Hi.M,x15.1.Hi.E⟩⟩:AI) a1 x12.2.2 x13.2 x12.2.1).bind fun x16=>(some ((⟨⟨x16.1.Lo.M,x16.1.Lo.E⟩,⟨x16.1.Hi.M,x16.1.Hi.E⟩⟩:AI),x16.2)))))))))))
def zfw (y2:Bool):Option Bool:=
 (some y2)
def zhP (a0:za):Option Bool:=
 (if (a0.Mag.length:Int)=0 then (if ¬a0.Neg=true then (zfw true) else (if (a0.Mag.length:Int)>0 then (if 0≤(i64.wrap ((a0.Mag.length:Int)-1))∧(i64.wrap ((a0.Mag.length:Int)-1))<(a0.Mag.length:Int) then (zfw ((a0.Mag.getD ((i64.wrap ((a0.Mag.length:Int)-1)).toNat) (kInt .u32).z) != 0)) else none) else (zfw false))) else (if (a0.Mag.length:Int)>0 then (if 0≤(i64.wrap ((a0.Mag.length:Int)-1))∧(i64.wrap ((a0.Mag.length:Int)-1))<(a0.Mag.length:Int) then (zfw ((a0.Mag.getD ((i64.wrap ((a0.Mag.length:Int)-1)).toNat) (kInt .u32).z) != 0)) else none) else (zfw false)))
def zkJ (y4:Bool):Option Bool:=
 (some y4)
def qB (a0:AD):Option Bool:=
 ((zhP a0.M).bind fun x3=>(if ¬x3=true then (some false) else (if (a0.M.Mag.length:Int)=0 then (some (a0.E == 0)) else (if 0≤(0:Int)∧(0:Int)<(a0.M.Mag.length:Int) then (if ((a0.M.Mag.getD 0 (kInt .u32).z).tmod 2)=1 then (if a0.E≥(-131072) then (zkJ (decide (a0.E≤131072))) else (zkJ false)) else (zkJ false)) else none))))
def zxI:Option Int:=
 (some 0)
def zfx (a0:List Int) (a1:List Int):Nat→Int→Option Int
 | 0,_=>none
 | n+1,y96=>(if y96≥0 then ((ZQ a0 y96).bind fun x101=>((ZQ a1 y96).bind fun x102=>(if x101<x102 then (some (-1)) else ((ZQ a0 y96).bind fun x103=>((ZQ a1 y96).bind fun x104=>(if x103>x104 then (some 1) else ((fun z0=>zfx a0 a1 n z0) (i64.wrap (y96-1))))))))) else zxI)
def zba (a0:List Int) (a1:List Int):Option Int:=
 (zfx a0 a1 fuel (i64.wrap ((mx (a0.length:Int) (a1.length:Int))-1)))
def zn6 (x10:za) (x11:za) (y16:Bool):Option Int:=
 (if y16=true then (some 1) else (if x10.Neg=true then ((zba x11.Mag x10.Mag).bind fun x17=>(some x17)) else ((zba x10.Mag x11.Mag).bind fun x18=>(some x18))))
def zn7 (x10:za) (x11:za) (y15:Bool):Option Int:=
 (if y15=true then (some (-1)) else (if ¬x10.Neg=true then (zn6 x10 x11 x11.Neg) else (zn6 x10 x11 false)))
def zfy (a0:za) (a1:za):Option Int:=
 ((qE a0.Neg a0.Mag).bind fun x10=>((qE a1.Neg a1.Mag).bind fun x11=>(if x10.Neg=true then (zn7 x10 x11 (!x11.Neg)) else (zn7 x10 x11 false))))
def zxJ (y16:Int):Option Int:=
 (some y16)
def zfz:Nat→Int→Int→Option Int
 | 0,_,_=>none
 | n+1,y19,y20=>(if y20>0 then ((fun z0 z1=>zfz n z0 z1) (i64.wrap (y19+1)) (shrI .u32 y20 1)) else (zxJ y19))
def ZU (a0:List Int):Option Int:=
 ((Zj a0).bind fun x11=>(if (x11.length:Int)=0 then (some 0) else (if 0≤(i64.wrap ((x11.length:Int)-1))∧(i64.wrap ((x11.length:Int)-1))<(x11.length:Int) then (zfz fuel (i64.wrap (32*(i64.wrap ((x11.length:Int)-1)))) (x11.getD ((i64.wrap ((x11.length:Int)-1)).toNat) (kInt .u32).z)) else none)))
def zaI (a0:AD):Option Int:=
 ((ZU a0.M.Mag).bind fun x2=>(some (i64.wrap (a0.E+x2))))
def zkK (y24:Int) (y25:List Int):Option ((List Int) × Bool):=
 (if 0<[(u32.wrap y24)].length∧y25.length+[(u32.wrap y24)].length≤9223372036854775807∧(y25.length+[(u32.wrap y24)].length)*4≤140737488355328 then ((Zj (y25++[(u32.wrap y24)])).bind fun x26=>(some (x26,true))) else none)
def zd0 (a0:List Int) (a1:Int):Nat→Int→Int→List Int→Option ((List Int) × Bool)
 | 0,_,_,_=>none
 | n+1,y30,y31,y32=>(if y31<(a0.length:Int) then (if 0≤y31∧y31<(a0.length:Int) then (if 0≤(a1.tmod 32) then (if 0<[(u32.wrap (orI .u64 (shlI .u64 (u64.wrap (a0.getD y31.toNat (kInt .u32).z)) (a1.tmod 32)) y30))].length∧y32.length+[(u32.wrap (orI .u64 (shlI .u64 (u64.wrap (a0.getD y31.toNat (kInt .u32).z)) (a1.tmod 32)) y30))].length≤9223372036854775807∧(y32.length+[(u32.wrap (orI .u64 (shlI .u64 (u64.wrap (a0.getD y31.toNat (kInt .u32).z)) (a1.tmod 32)) y30))].length)*4≤140737488355328 then ((fun z0 z1 z2=>zd0 a0 a1 n z0 z1 z2) (shrI .u64 (orI .u64 (shlI .u64 (u64.wrap (a0.getD y31.toNat (kInt .u32).z)) (a1.tmod 32)) y30) 32) (i64.wrap (y31+1)) (y32++[(u32.wrap (orI .u64 (shlI .u64 (u64.wrap (a0.getD y31.toNat (kInt .u32).z)) (a1.tmod 32)) y30))])) else none) else none) else none) else (zkK y30 y32))
def zfA (a1:Int) (a0:List Int) (y17:Bool):Option ((List Int) × Bool):=
 (if y17=true then (some ([],false)) else (if 0≤(i64.wrap (a1.tdiv 32))∧(i64.wrap (a1.tdiv 32))*4≤281474976710656∧(i64.wrap (a1.tdiv 32))≤281474976710656 then (zd0 a0 a1 fuel 0 0 (List.replicate ((i64.wrap (a1.tdiv 32)).toNat) (kInt .u32).z)) else none))
def QK (a0:List Int) (a1:Int):Option ((List Int) × Bool):=
 (if a1<0 then (zfA a1 a0 true) else (zfA a1 a0 (decide (a1>100000))))
def zn8 (a0:za) (y33:List Int):Option za:=
 ((qE a0.Neg y33).bind fun x34=>(some x34))
def zfB (a0:za):Nat→Int→List Int→Option za
 | 0,_,_=>none
 | n+1,y41,y42=>(if y41>0 then ((QK y42 (mn y41 100000)).bind fun x44=>((fun z0 z1=>zfB a0 n z0 z1) (i64.wrap (y41-(mn y41 100000))) x44.1)) else (zn8 a0 y42))
def zcB (a0:za) (a1:Int):Option za:=
 (zfB a0 fuel a1 a0.Mag)
def zfC (a0:AD) (a1:AD):Option (za × za × Int):=
 (if (a0.M.Mag.length:Int)=0 then (some ((⟨false,[]⟩:za),a1.M,a1.E)) else (if (a1.M.Mag.length:Int)=0 then (some (a0.M,(⟨false,[]⟩:za),a0.E)) else (if a0.E>a1.E then ((zcB a0.M (i64.wrap (a0.E-a1.E))).bind fun x5=>(some (x5,a1.M,a1.E))) else ((zcB a1.M (i64.wrap (a1.E-a0.E))).bind fun x6=>(some (a0.M,x6,a0.E))))))
def zfD (a0:AD) (a1:AD) (y15:Bool):Option Int:=
 (if y15=true then ((zfy a0.M a1.M).bind fun x16=>(some x16)) else ((zaI a0).bind fun x17=>((zaI a1).bind fun x18=>(if ¬x17=x18 then ((zaI a0).bind fun x19=>((zaI a1).bind fun x20=>(if ((decide (x19<x20)) == a0.M.Neg)=true then (some 1) else (some (-1))))) else ((zfC a0 a1).bind fun x21=>((zfy x21.1 x21.2.1).bind fun x22=>(some x22)))))))
def zn9 (a0:AD) (a1:AD) (y14:Bool):Option Int:=
 (if y14=true then (some 0) else (if (a0.M.Neg != a1.M.Neg)=true then (zfD a0 a1 true) else (if (a0.M.Mag.length:Int)=0 then (zfD a0 a1 true) else (zfD a0 a1 ((a1.M.Mag.length:Int) == 0)))))
def zaa (a0:AD) (a1:AD):Option Int:=
 ((qB a0).bind fun x12=>((qB a1).bind fun x13=>(if ¬x12=true then (zn9 a0 a1 true) else (zn9 a0 a1 (!x13)))))
def zhQ (y9:Bool):Option Bool:=
 (some y9)
def Qr (a0:AI):Option Bool:=
 ((qB a0.Lo).bind fun x6=>((qB a0.Hi).bind fun x7=>(if x6=true then (if x7=true then ((zaa a0.Lo a0.Hi).bind fun x10=>(zhQ (decide (x10≤0)))) else (zhQ false)) else (zhQ false))))
def zhR (y12:Bool):Option Bool:=
 (some y12)
def zbO (a0:AI) (a1:AD):Option Bool:=
 ((Qr a0).bind fun x8=>((qB a1).bind fun x9=>(if x8=true then (if x9=true then ((zaa a0.Lo a1).bind fun x13=>(if x13≤0 then ((zaa a1 a0.Hi).bind fun x14=>(zhR (decide (x14≤0)))) else (zhR false))) else (zhR false)) else (zhR false))))
def zaJ (y20:Bool):Option Bool:=
 (some y20)
def zhS:Option Bool:=
 ((zaX 1).bind fun x12=>((zaB (⟨x12.M,x12.E⟩:AD)).bind fun x13=>((Zr (⟨⟨false,[]⟩,0⟩:AD) 30).bind fun x14=>((zaG 6).bind fun x15=>((zaX 5).bind fun x16=>((Zr (⟨x16.M,x16.E⟩:AD) 20).bind fun x17=>(if x13.1=255 then (if x13.2=0 then (if x14.2=3 then (if x15.1=(-691) then (if x15.2.1=2730 then (if x15.2.2=true then (if x17.2=0 then ((zaX 24).bind fun x21=>((zbO (⟨⟨x17.1.Lo.M,x17.1.Lo.E⟩,⟨x17.1.Hi.M,x17.1.Hi.E⟩⟩:AI) (⟨x21.M,x21.E⟩:AD)).bind fun x22=>(zaJ x22))) else (zaJ false)) else (zaJ false)) else (zaJ false)) else (zaJ false)) else (zaJ false)) else (zaJ false)) else (zaJ false))))))))
def zhT (a0:AD) (a1:Int):Option AD:=
 (if 0≤(0:Int)∧(0:Int)≤(mn (a0.M.Mag.length:Int) a1)∧(mn (a0.M.Mag.length:Int) a1)≤(a0.M.Mag.length:Int) then (some (⟨⟨a0.M.Neg,(a0.M.Mag.take ((mn (a0.M.Mag.length:Int) a1).toNat))⟩,a0.E⟩:AD)) else none)
def zfE (y7:Bool):Option Bool:=
 (some y7)
def zcC (a0:AD):Option Bool:=
 (if (a0.M.Mag.length:Int)=0 then (some true) else ((zaI a0).bind fun x5=>(if x5≥(-65536) then (if x5≤65536 then (if a0.E≥(-131072) then (if a0.E≤131072 then ((ZU a0.M.Mag).bind fun x8=>(zfE (decide (x8≤262144)))) else (zfE false)) else (zfE false)) else (zfE false)) else (zfE false))))
def zoa (a0:za) (a1:Int) (y4:Bool):Option (AD × Bool):=
 (if y4=true then (some ((⟨⟨false,[]⟩,0⟩:AD),false)) else ((zay a0 a1).bind fun x5=>((zcC (⟨x5.M,x5.E⟩:AD)).bind fun x6=>(if ¬x6=true then (some ((⟨⟨false,[]⟩,0⟩:AD),false)) else (some ((⟨x5.M,x5.E⟩:AD),true))))))
def zhU (a0:za) (a1:Int):Option (AD × Bool):=
 (if a1<(-100000) then (zoa a0 a1 true) else (zoa a0 a1 (decide (a1>100000))))
def zbb (a0:Int):Option AD:=
 ((zeS 1).bind fun x3=>((zhU x3 a0).bind fun x4=>(some (⟨x4.1.M,x4.1.E⟩:AD))))
def zob (y49:Bool):Option Int:=
 (if y49=true then (some 4) else (some 0))
def zkL (a0:AD) (y44:Bool):Option Int:=
 (if y44=true then (some 3) else ((zaX 64).bind fun x50=>((zaa a0 (⟨x50.M,x50.E⟩:AD)).bind fun x51=>(if x51>0 then (zob true) else ((zbb (-64)).bind fun x52=>((zaa a0 (⟨x52.M,x52.E⟩:AD)).bind fun x53=>(zob (decide (x53<0)))))))))
def zhV (a0:AD) (y43:Bool):Option Int:=
 (if y43=true then (some 1) else (if a0.M.Neg=true then (zkL a0 true) else (zkL a0 ((a0.M.Mag.length:Int) == 0))))
def zbc (a0:AD) (a1:Int):Option Int:=
 ((qB a0).bind fun x28=>(if ¬x28=true then (zhV a0 true) else (if a1<2 then (zhV a0 true) else (if a1>64 then (zhV a0 true) else ((ZU a0.M.Mag).bind fun x54=>(zhV a0 (decide (x54>200))))))))
def zkM (y57:List Int):Option ((List Int)):=
 ((Zj y57).bind fun x58=>(some x58))
def zd1 (a0:List Int) (a1:List Int):Nat→Int→Int→List Int→Option ((List Int))
 | 0,_,_,_=>none
 | n+1,y70,y71,y72=>(if y71<(i64.wrap ((mx (a0.length:Int) (a1.length:Int))+1)) then ((ZQ a0 y71).bind fun x75=>((ZQ a1 y71).bind fun x76=>(if 0<[(u32.wrap (u64.wrap ((u64.wrap (x75+x76))+y70)))].length∧y72.length+[(u32.wrap (u64.wrap ((u64.wrap (x75+x76))+y70)))].length≤9223372036854775807∧(y72.length+[(u32.wrap (u64.wrap ((u64.wrap (x75+x76))+y70)))].length)*4≤140737488355328 then ((fun z0 z1 z2=>zd1 a0 a1 n z0 z1 z2) (shrI .u64 (u64.wrap ((u64.wrap (x75+x76))+y70)) 32) (i64.wrap (y71+1)) (y72++[(u32.wrap (u64.wrap ((u64.wrap (x75+x76))+y70)))])) else none))) else (zkM y72))
def zcD (a0:List Int) (a1:List Int):Option ((List Int)):=
 (zd1 a0 a1 fuel 0 0 [])
def zkN (x15:za) (y23:List Int):Option (za × Bool):=
 ((qE x15.Neg y23).bind fun x24=>(some (x24,true)))
def zoc (x18:(List Int)) (x15:za) (y21:Bool):Option (za × Bool):=
 (if y21=true then ((zcD x18 [1]).bind fun x25=>(zkN x15 x25)) else (zkN x15 x18))
def zod (a0:za) (a1:Int) (y14:Bool):Option (za × Bool):=
 (if y14=true then (some ((⟨false,[]⟩:za),false)) else ((qE a0.Neg a0.Mag).bind fun x15=>(if a1≥0 then ((QK x15.Mag a1).bind fun x16=>((qE x15.Neg x16.1).bind fun x17=>(some (x17,true)))) else ((zck x15.Mag (i64.wrap (0-a1))).bind fun x18=>((QK x18 (i64.wrap (0-a1))).bind fun x19=>(if x15.Neg=true then ((zba x19.1 x15.Mag).bind fun x26=>(zoc x18 x15 (x26 != 0))) else (zoc x18 x15 false)))))))
def zfF (a0:za) (a1:Int):Option (za × Bool):=
 (if a1<(-100000) then (zod a0 a1 true) else (zod a0 a1 (decide (a1>100000))))
def zoe (y14:Bool) (y15:List Int):Option (za × Int):=
 (some ((⟨y14,y15⟩:za),0))
def zhW (a0:AD):Option (za × Int):=
 ((qB a0).bind fun x9=>(if ¬x9=true then (some ((⟨false,[]⟩:za),1)) else ((zcC a0).bind fun x10=>(if ¬x10=true then (some ((⟨false,[]⟩:za),4)) else (if a0.E≥0 then ((zcB a0.M a0.E).bind fun x11=>(some (x11,0))) else ((zfF a0.M (i64.wrap (0-(mn (i64.wrap (0-a0.E)) 100000)))).bind fun x12=>(if (i64.wrap (0-a0.E))>(mn (i64.wrap (0-a0.E)) 100000) then ((zfF x12.1 (i64.wrap (a0.E+(mn (i64.wrap (0-a0.E)) 100000)))).bind fun x16=>(zoe x16.1.Neg x16.1.Mag)) else (zoe x12.1.Neg x12.1.Mag))))))))
def zhX (a0:List Int):Option (Int × Bool):=
 ((Zj a0).bind fun x4=>(if (x4.length:Int)>2 then (some (0,false)) else ((ZQ x4 0).bind fun x5=>((ZQ x4 1).bind fun x6=>(some ((orI .u64 x5 (shlI .u64 x6 32)),true))))))
def zhY (x5:za) (x6:Int × Bool) (y8:Bool):Option (Int × Bool):=
 (if y8=true then (some (0,false)) else (if ¬x5.Neg=true then (some ((i64.wrap x6.1),true)) else (if x6.1=9223372036854775808 then (some ((-9223372036854775808),true)) else (some ((i64.wrap (0-(i64.wrap x6.1))),true)))))
def zhZ (a0:za):Option (Int × Bool):=
 ((qE a0.Neg a0.Mag).bind fun x5=>((zhX x5.Mag).bind fun x6=>(if ¬x6.2=true then (zhY x5 x6 true) else (if x6.1>9223372036854775808 then (zhY x5 x6 true) else (if x6.1=9223372036854775808 then (zhY x5 x6 (!x5.Neg)) else (zhY x5 x6 false))))))
def zbd (a0:AD):Option (Int × Int):=
 ((zbc a0 2).bind fun x4=>(if ¬x4=0 then (some (0,x4)) else ((zhW a0).bind fun x5=>((zhZ x5.1).bind fun x6=>(some ((i64.wrap (256-x6.1)),0))))))
def zkO (a0:Int) (y2:Bool):Option (Int × Int × Bool):=
 (if y2=true then (some (0,0,false)) else (if 0≤(i64.wrap (a0-1))∧(i64.wrap (a0-1))<([1,(-1),1,(-1),5,(-691),7,(-3617),43867,(-174611)].length:Int) then (if 0≤(i64.wrap (a0-1))∧(i64.wrap (a0-1))<([6,30,42,30,66,2730,6,510,798,330].length:Int) then (some (([1,(-1),1,(-1),5,(-691),7,(-3617),43867,(-174611)].getD ((i64.wrap (a0-1)).toNat) (kInt .i64).z),([6,30,42,30,66,2730,6,510,798,330].getD ((i64.wrap (a0-1)).toNat) (kInt .i64).z),true)) else none) else none))
def zfG (a0:Int):Option (Int × Int × Bool):=
 (if a0<1 then (zkO a0 true) else (zkO a0 (decide (a0>10))))
def zbe (a0:AD) (a1:Int):Option (AI × Int):=
 ((Qn a0 a1).bind fun x7=>(if ¬x7=0 then (some ((⟨⟨⟨false,[]⟩,0⟩,⟨⟨false,[]⟩,0⟩⟩:AI),x7)) else ((zbE (i64.wrap (a1+64))).bind fun x8=>match x8 with | Sum.inl x9=>none | (Sum.inr x10)=>((zdZ a0 x10.2.2 x10.1 x10.2.1).bind fun x11=>((zaH (⟨⟨x11.1.Lo.M,x11.1.Lo.E⟩,⟨x11.1.Hi.M,x11.1.Hi.E⟩⟩:AI) a1 x10.2.2 x11.2 x10.2.1).bind fun x12=>(some ((⟨⟨x12.1.Lo.M,x12.1.Lo.E⟩,⟨x12.1.Hi.M,x12.1.Hi.E⟩⟩:AI),x12.2)))))))
def zof (a0:Int) (y2:Bool):Option ((Unit ⊕ (Int × Int))):=
 (if y2=true then (some (Sum.inl ())) else (some (Sum.inr (a0,0))))
def zab (a0:Int):Option ((Unit ⊕ (Int × Int))):=
 (if a0<2 then (zof a0 true) else (zof a0 (decide (a0>400))))
def zog (y2:Int):Option (Bool × Int):=
 (some ((y2 == 0),y2))
def QL (a0:Int) (a1:Int) (a2:Int):Option (Bool × Int):=
 (if a2=0 then (zog a0) else (zog a2))
def zxK (a2:Int):Option (Bool × Int):=
 (some ((a2 == 0),a2))
def zbP (a0:List AI) (a1:Int) (a2:Int):Nat→Int→Option (Bool × Int)
 | 0,_=>none
 | n+1,y52=>(if y52<(a0.length:Int) then (if 0≤y52∧y52<(a0.length:Int) then ((Qr (⟨⟨(((a0.getD y52.toNat zAI).Lo).M),((a0.getD y52.toNat zAI).Lo).E⟩,⟨(((a0.getD y52.toNat zAI).Hi).M),((a0.getD y52.toNat zAI).Hi).E⟩⟩:AI)).bind fun x55=>(if ¬x55=true then ((QL 1 a1 a2).bind fun x56=>(some (x56.1,x56.2))) else ((fun z0=>zbP a0 a1 a2 n z0) (i64.wrap (y52+1))))) else none) else (zxK a2))
def ZD (a0:List AI) (a1:Int) (a2:Int):Option (Bool × Int):=
 (zbP a0 a1 a2 fuel 0)
def zaK (a0:AD) (a1:Int) (a2:Int):Option (AI × Int):=
 ((ZD [(⟨a0,a0⟩:AI)] a1 a2).bind fun x2=>(if ¬x2.1=true then (some ((⟨⟨⟨false,[]⟩,0⟩,⟨⟨false,[]⟩,0⟩⟩:AI),x2.2)) else (some ((⟨a0,a0⟩:AI),x2.2))))
def qN (a0:Int) (a1:Int) (a2:Int):Option (AI × Int):=
 ((zaX a0).bind fun x3=>((zaK (⟨x3.M,x3.E⟩:AD) a1 a2).bind fun x4=>(some ((⟨⟨x4.1.Lo.M,x4.1.Lo.E⟩,⟨x4.1.Hi.M,x4.1.Hi.E⟩⟩:AI),x4.2))))
def zkP (y59:List Int):Option ((List Int) × Bool):=
 ((Zj y59).bind fun x60=>(some (x60,true)))
def zd2 (a0:List Int) (a1:List Int):Nat→Int→Int→List Int→Option ((List Int) × Bool)
 | 0,_,_,_=>none
 | n+1,y72,y73,y74=>(if y73<(a0.length:Int) then ((ZQ a0 y73).bind fun x77=>((ZQ a1 y73).bind fun x78=>(if 0<[(u32.wrap (u64.wrap ((u64.wrap ((u64.wrap (x77+4294967296))-x78))-y72)))].length∧y74.length+[(u32.wrap (u64.wrap ((u64.wrap ((u64.wrap (x77+4294967296))-x78))-y72)))].length≤9223372036854775807∧(y74.length+[(u32.wrap (u64.wrap ((u64.wrap ((u64.wrap (x77+4294967296))-x78))-y72)))].length)*4≤140737488355328 then ((fun z0 z1 z2=>zd2 a0 a1 n z0 z1 z2) (u64.wrap (1-(shrI .u64 (u64.wrap ((u64.wrap ((u64.wrap (x77+4294967296))-x78))-y72)) 32))) (i64.wrap (y73+1)) (y74++[(u32.wrap (u64.wrap ((u64.wrap ((u64.wrap (x77+4294967296))-x78))-y72)))])) else none))) else (zkP y74))
def zcE (a0:List Int) (a1:List Int):Option ((List Int) × Bool):=
 ((zba a0 a1).bind fun x40=>(if x40<0 then (some ([],false)) else (zd2 a0 a1 fuel 0 0 [])))
def zh0 (a0:za) (a1:za):Option za:=
 (if (a0.Neg == a1.Neg)=true then ((zcD a0.Mag a1.Mag).bind fun x7=>((qE a0.Neg x7).bind fun x8=>(some x8))) else ((zcE a0.Mag a1.Mag).bind fun x9=>(if x9.2=true then ((qE a0.Neg x9.1).bind fun x10=>(some x10)) else ((zcE a1.Mag a0.Mag).bind fun x11=>((qE a1.Neg x11.1).bind fun x12=>(some x12))))))
def QM (a0:AD):Option (AD × Int):=
 ((zcC a0).bind fun x2=>(if ¬x2=true then (some ((⟨⟨false,[]⟩,0⟩:AD),4)) else (some (a0,0))))
def zoh (a0:AD) (a1:AD) (y10:Bool):Option (AD × Int):=
 (if y10=true then (some ((⟨⟨false,[]⟩,0⟩:AD),1)) else ((zfC a0 a1).bind fun x11=>((zh0 x11.1 x11.2.1).bind fun x12=>((zay x12 x11.2.2).bind fun x13=>((QM (⟨x13.M,x13.E⟩:AD)).bind fun x14=>(some ((⟨x14.1.M,x14.1.E⟩:AD),x14.2)))))))
def zh1 (a0:AD) (a1:AD):Option (AD × Int):=
 ((qB a0).bind fun x8=>((qB a1).bind fun x9=>(if ¬x8=true then (zoh a0 a1 true) else (zoh a0 a1 (!x9)))))
def zcF (a0:AD) (a1:AD) (a2:Int) (a3:Int):Option (AD × Int):=
 (if ¬a3=0 then (some ((⟨⟨false,[]⟩,0⟩:AD),a3)) else ((zh1 a0 a1).bind fun x3=>((QL x3.2 a2 a3).bind fun x4=>(some ((⟨x3.1.M,x3.1.E⟩:AD),x4.2)))))
def zoi (y2:Bool):Option Bool:=
 (some y2)
def zfH (a0:Int):Option Bool:=
 (if a0≥2 then (zoi (decide (a0≤400))) else (zoi false))
def zkQ (a0:Bool) (y27:Int) (y31:List Int):Option AD:=
 ((zay (⟨a0,y31⟩:za) y27).bind fun x32=>(some (⟨x32.M,x32.E⟩:AD)))
def zoj (y26:List Int) (a0:Bool) (y27:Int) (y29:Bool):Option AD:=
 (if y29=true then ((zcD y26 [1]).bind fun x33=>(zkQ a0 y27 x33)) else (zkQ a0 y27 y26))
def zkR (a0:Bool) (a5:Bool) (y26:List Int) (y27:Int) (y28:Bool):Option AD:=
 (if y28=true then (zoj y26 a0 y27 a5) else (zoj y26 a0 y27 false))
def zkS (a0:Bool) (a5:Bool) (x34:(List Int)) (a2:Int) (x20:Int) (a4:Int) (y37:Bool):Option AD:=
 (zkR a0 a5 x34 (i64.wrap (a2+(i64.wrap (x20-a4)))) y37)
def zcG (a0:Bool) (a1:List Int) (a2:Int) (a3:Bool) (a4:Int) (a5:Bool):Option AD:=
 ((ZU a1).bind fun x20=>(if (i64.wrap (x20-a4))>0 then ((zck a1 (i64.wrap (x20-a4))).bind fun x34=>((QK x34 (i64.wrap (x20-a4))).bind fun x35=>(if a3=true then (zkS a0 a5 x34 a2 x20 a4 true) else ((zba x35.1 a1).bind fun x38=>(zkS a0 a5 x34 a2 x20 a4 (x38 != 0)))))) else (zkR a0 a5 a1 a2 a3)))
def zok (a0:AD) (a1:Int) (a2:Bool) (y9:Bool):Option (AD × Int):=
 (if y9=true then (some ((⟨⟨false,[]⟩,0⟩:AD),1)) else ((zcG a0.M.Neg a0.M.Mag a0.E false a1 (a2 != a0.M.Neg)).bind fun x10=>((QM (⟨x10.M,x10.E⟩:AD)).bind fun x11=>(some ((⟨x11.1.M,x11.1.E⟩:AD),x11.2)))))
def zh2 (a0:AD) (a1:Int) (a2:Bool):Option (AD × Int):=
 ((qB a0).bind fun x7=>(if ¬x7=true then (zok a0 a1 a2 true) else ((zfH a1).bind fun x12=>(zok a0 a1 a2 (!x12)))))
def zac (a0:AD) (a1:Bool) (a2:Int) (a3:Int):Option (AD × Int):=
 (if ¬a3=0 then (some ((⟨⟨false,[]⟩,0⟩:AD),a3)) else ((zh2 a0 a2 a1).bind fun x3=>((QL x3.2 a2 a3).bind fun x4=>(some ((⟨x3.1.M,x3.1.E⟩:AD),x4.2)))))
def zbf (a0:AD) (a1:AD) (a2:Int) (a3:Int):Option AI:=
 (if ¬a3=0 then (some (⟨⟨⟨false,[]⟩,0⟩,⟨⟨false,[]⟩,0⟩⟩:AI)) else (some (⟨a0,a1⟩:AI)))
def Zs (a0:AI) (a1:AI) (a2:Int) (a3:Int):Option (AI × Int):=
 ((ZD [a0,a1] a2 a3).bind fun x7=>(if ¬x7.1=true then (some ((⟨⟨⟨false,[]⟩,0⟩,⟨⟨false,[]⟩,0⟩⟩:AI),x7.2)) else ((zcF a0.Lo a1.Lo a2 x7.2).bind fun x8=>((zac (⟨x8.1.M,x8.1.E⟩:AD) false a2 x8.2).bind fun x9=>((zcF a0.Hi a1.Hi a2 x9.2).bind fun x10=>((zac (⟨x10.1.M,x10.1.E⟩:AD) true a2 x10.2).bind fun x11=>((zbf (⟨x9.1.M,x9.1.E⟩:AD) (⟨x11.1.M,x11.1.E⟩:AD) a2 x11.2).bind fun x12=>(some ((⟨⟨x12.Lo.M,x12.Lo.E⟩,⟨x12.Hi.M,x12.Hi.E⟩⟩:AI),x11.2)))))))))
def zkT (y276:List Int):Option ((List Int)):=
 ((Zj y276).bind fun x277=>(some x277))
def zkU (ag2_r01_Mul:Int→List Int→Option ((List Int))) (y338:Int) (y354:List Int):Option ((List Int)):=
 (ag2_r01_Mul (i64.wrap (y338+1)) y354)
def zkV (y338:Int) (a1:List Int) (ag2_r01_Mul:Int→List Int→Option ((List Int))) (y361:Int) (y362:List Int):Option ((List Int)):=
 (if 0≤(i64.wrap (y338+(a1.length:Int)))∧(i64.wrap (y338+(a1.length:Int))).toNat<y362.length then (zkU ag2_r01_Mul y338 (y362.set ((i64.wrap (y338+(a1.length:Int))).toNat) (u32.wrap y361))) else none)
def zd3 (a1:List Int) (y338:Int) (a0:List Int) (ag2_r01_Mul:Int→List Int→Option ((List Int))):Nat→Int→Int→List Int→Option ((List Int))
 | 0,_,_,_=>none
 | n+1,y366,y367,y368=>(if y367<(a1.length:Int) then (if 0≤y338∧y338<(a0.length:Int) then (if 0≤y367∧y367<(a1.length:Int) then (if 0≤(i64.wrap (y338+y367))∧(i64.wrap (y338+y367)).toNat<y368.length then (if 0≤(i64.wrap (y338+y367))∧(i64.wrap (y338+y367)).toNat<y368.length then ((fun z0 z1 z2=>zd3 a1 y338 a0 ag2_r01_Mul n z0 z1 z2) (shrI .u64 (u64.wrap ((u64.wrap ((u64.wrap ((u64.wrap (a0.getD y338.toNat (kInt .u32).z))*(u64.wrap (a1.getD y367.toNat (kInt .u32).z))))+(u64.wrap (y368.getD ((i64.wrap (y338+y367)).toNat) (kInt .u32).z))))+y366)) 32) (i64.wrap (y367+1)) (y368.set ((i64.wrap (y338+y367)).toNat) (u32.wrap (u64.wrap ((u64.wrap ((u64.wrap ((u64.wrap (a0.getD y338.toNat (kInt .u32).z))*(u64.wrap (a1.getD y367.toNat (kInt .u32).z))))+(u64.wrap (y368.getD ((i64.wrap (y338+y367)).toNat) (kInt .u32).z))))+y366))))) else none) else none) else none) else none) else (zkV y338 a1 ag2_r01_Mul y366 y368))
def zad (a0:List Int) (a1:List Int):Nat→Int→List Int→Option ((List Int))
 | 0,_,_=>none
 | n+1,y338,y339=>(if y338<(a0.length:Int) then (zd3 a1 y338 a0 (fun z0 z1=>zad a0 a1 n z0 z1) fuel 0 0 y339) else (zkT y339))
def zd4 (a0:List Int) (a1:List Int):Option ((List Int)):=
 (if 0≤(i64.wrap ((a0.length:Int)+(a1.length:Int)))∧(i64.wrap ((a0.length:Int)+(a1.length:Int)))*4≤281474976710656∧(i64.wrap ((a0.length:Int)+(a1.length:Int)))≤281474976710656 then (zad a0 a1 fuel 0 (List.replicate ((i64.wrap ((a0.length:Int)+(a1.length:Int))).toNat) (kInt .u32).z)) else none)
def zh3 (a0:za) (a1:za):Option za:=
 ((zd4 a0.Mag a1.Mag).bind fun x3=>((qE (a0.Neg != a1.Neg) x3).bind fun x4=>(some x4)))
def zol (a0:AD) (a1:AD) (y9:Bool):Option (AD × Int):=
 (if y9=true then (some ((⟨⟨false,[]⟩,0⟩:AD),1)) else ((zh3 a0.M a1.M).bind fun x10=>((zay x10 (i64.wrap (a0.E+a1.E))).bind fun x11=>((QM (⟨x11.M,x11.E⟩:AD)).bind fun x12=>(some ((⟨x12.1.M,x12.1.E⟩:AD),x12.2))))))
def zh4 (a0:AD) (a1:AD):Option (AD × Int):=
 ((qB a0).bind fun x7=>((qB a1).bind fun x8=>(if ¬x7=true then (zol a0 a1 true) else (zol a0 a1 (!x8)))))
def zxL (y100:Bool) (y101:List Int) (y102:Int):Option AD:=
 (some (⟨⟨y100,y101⟩,y102⟩:AD))
def zom (ag2_r06_least:Int→Bool→List Int→Int→Option AD) (y123:Int) (y132:Bool) (y133:List Int) (y134:Int):Option AD:=
 (ag2_r06_least (i64.wrap (y123+1)) y132 y133 y134)
def zd5 (a0:List AD):Nat→Int→Bool→List Int→Int→Option AD
 | 0,_,_,_,_=>none
 | n+1,y123,y124,y125,y126=>(if y123<(a0.length:Int) then (if 0≤y123∧y123<(a0.length:Int) then ((zaa (⟨((a0.getD y123.toNat zAD).M),(a0.getD y123.toNat zAD).E⟩:AD) (⟨⟨y124,y125⟩,y126⟩:AD)).bind fun x131=>(if x131<0 then (if 0≤y123∧y123<(a0.length:Int) then (zom (fun z0 z1 z2 z3=>zd5 a0 n z0 z1 z2 z3) y123 (((a0.getD y123.toNat zAD).M).Neg) (((a0.getD y123.toNat zAD).M).Mag) ((a0.getD y123.toNat zAD).E)) else none) else (zom (fun z0 z1 z2 z3=>zd5 a0 n z0 z1 z2 z3) y123 y124 y125 y126))) else none) else (zxL y124 y125 y126))
def zfI (a0:List AD):Option AD:=
 (if 0≤(0:Int)∧(0:Int)<(a0.length:Int) then (zd5 a0 fuel 1 (((a0.getD 0 zAD).M).Neg) (((a0.getD 0 zAD).M).Mag) ((a0.getD 0 zAD).E)) else none)
def zxM (y100:Bool) (y101:List Int) (y102:Int):Option AD:=
 (some (⟨⟨y100,y101⟩,y102⟩:AD))
def zon (ag2_r06_greatest:Int→Bool→List Int→Int→Option AD) (y123:Int) (y132:Bool) (y133:List Int) (y134:Int):Option AD:=
 (ag2_r06_greatest (i64.wrap (y123+1)) y132 y133 y134)
def zd6 (a0:List AD):Nat→Int→Bool→List Int→Int→Option AD
 | 0,_,_,_,_=>none
 | n+1,y123,y124,y125,y126=>(if y123<(a0.length:Int) then (if 0≤y123∧y123<(a0.length:Int) then ((zaa (⟨((a0.getD y123.toNat zAD).M),(a0.getD y123.toNat zAD).E⟩:AD) (⟨⟨y124,y125⟩,y126⟩:AD)).bind fun x131=>(if x131>0 then (if 0≤y123∧y123<(a0.length:Int) then (zon (fun z0 z1 z2 z3=>zd6 a0 n z0 z1 z2 z3) y123 (((a0.getD y123.toNat zAD).M).Neg) (((a0.getD y123.toNat zAD).M).Mag) ((a0.getD y123.toNat zAD).E)) else none) else (zon (fun z0 z1 z2 z3=>zd6 a0 n z0 z1 z2 z3) y123 y124 y125 y126))) else none) else (zxM y124 y125 y126))
def zfJ (a0:List AD):Option AD:=
 (if 0≤(0:Int)∧(0:Int)<(a0.length:Int) then (zd6 a0 fuel 1 (((a0.getD 0 zAD).M).Neg) (((a0.getD 0 zAD).M).Mag) ((a0.getD 0 zAD).E)) else none)
def zkW (a2:Int) (y64:Int) (y65:List AD):Option (AI × Int):=
 ((zfI y65).bind fun x66=>((zac (⟨x66.M,x66.E⟩:AD) false a2 y64).bind fun x67=>((zfJ y65).bind fun x68=>((zac (⟨x68.M,x68.E⟩:AD) true a2 x67.2).bind fun x69=>((zbf (⟨x67.1.M,x67.1.E⟩:AD) (⟨x69.1.M,x69.1.E⟩:AD) a2 x69.2).bind fun x70=>(some ((⟨⟨x70.Lo.M,x70.Lo.E⟩,⟨x70.Hi.M,x70.Hi.E⟩⟩:AI),x69.2)))))))
def zcH (a0:AI) (a1:AI) (a2:Int):Nat→Int→Int→List AD→Option (AI × Int)
 | 0,_,_,_=>none
 | n+1,y82,y83,y84=>(if y82<4 then (if 0≤y82∧y82<([a0.Lo,a0.Lo,a0.Hi,a0.Hi].length:Int) then (if 0≤y82∧y82<([a1.Lo,a1.Hi,a1.Lo,a1.Hi].length:Int) then ((zh4 (⟨(([a0.Lo,a0.Lo,a0.Hi,a0.Hi].getD y82.toNat zAD).M),([a0.Lo,a0.Lo,a0.Hi,a0.Hi].getD y82.toNat zAD).E⟩:AD) (⟨(([a1.Lo,a1.Hi,a1.Lo,a1.Hi].getD y82.toNat zAD).M),([a1.Lo,a1.Hi,a1.Lo,a1.Hi].getD y82.toNat zAD).E⟩:AD)).bind fun x87=>((QL x87.2 a2 y83).bind fun x88=>(if ¬x88.1=true then (some ((⟨⟨⟨false,[]⟩,0⟩,⟨⟨false,[]⟩,0⟩⟩:AI),x88.2)) else (if 0<[(⟨x87.1.M,x87.1.E⟩:AD)].length∧y84.length+[(⟨x87.1.M,x87.1.E⟩:AD)].length≤9223372036854775807∧(y84.length+[(⟨x87.1.M,x87.1.E⟩:AD)].length)*40≤140737488355328 then ((fun z0 z1 z2=>zcH a0 a1 a2 n z0 z1 z2) (i64.wrap (y82+1)) x88.2 (y84++[(⟨x87.1.M,x87.1.E⟩:AD)])) else none)))) else none) else none) else (zkW a2 y83 y84))
def ZE (a0:AI) (a1:AI) (a2:Int) (a3:Int):Option (AI × Int):=
 ((ZD [a0,a1] a2 a3).bind fun x45=>(if ¬x45.1=true then (some ((⟨⟨⟨false,[]⟩,0⟩,⟨⟨false,[]⟩,0⟩⟩:AI),x45.2)) else (zcH a0 a1 a2 fuel 0 x45.2 [])))
def zfK (a0:za):Option za:=
 ((qE (!a0.Neg) a0.Mag).bind fun x2=>(some x2))
def zcI (a0:AD):Option AD:=
 ((qB a0).bind fun x3=>(if ¬x3=true then (some (⟨⟨false,[]⟩,0⟩:AD)) else ((zfK a0.M).bind fun x4=>(some (⟨x4,a0.E⟩:AD)))))
def zd7 (a0:AI) (a1:Int) (a2:Int):Option (AI × Int):=
 ((ZD [a0] a1 a2).bind fun x4=>(if ¬x4.1=true then (some ((⟨⟨⟨false,[]⟩,0⟩,⟨⟨false,[]⟩,0⟩⟩:AI),x4.2)) else ((zcI a0.Hi).bind fun x5=>((zcI a0.Lo).bind fun x6=>(some ((⟨⟨x5.M,x5.E⟩,⟨x6.M,x6.E⟩⟩:AI),x4.2))))))
def zbg (a0:AI) (a1:AI) (a2:Int) (a3:Int):Option (AI × Int):=
 ((ZD [a0,a1] a2 a3).bind fun x4=>(if ¬x4.1=true then (some ((⟨⟨⟨false,[]⟩,0⟩,⟨⟨false,[]⟩,0⟩⟩:AI),x4.2)) else ((zd7 a1 a2 x4.2).bind fun x5=>((Zs a0 (⟨⟨x5.1.Lo.M,x5.1.Lo.E⟩,⟨x5.1.Hi.M,x5.1.Hi.E⟩⟩:AI) a2 x5.2).bind fun x6=>(some ((⟨⟨x6.1.Lo.M,x6.1.Lo.E⟩,⟨x6.1.Hi.M,x6.1.Hi.E⟩⟩:AI),x6.2))))))
def zh5 (y7:Bool):Option Bool:=
 (some y7)
def zbh (a0:AD) (a1:Int):Option Bool:=
 ((qB a0).bind fun x5=>(if x5=true then (if a1≥2 then (if a1≤336 then ((ZU a0.M.Mag).bind fun x8=>(zh5 (decide (x8≤400)))) else (zh5 false)) else (zh5 false)) else (zh5 false)))
def zoo (a0:AD) (y5:Bool):Option (Int × Bool):=
 (if y5=true then (some (0,false)) else ((zaI a0).bind fun x6=>(some (x6,true))))
def zfL (a0:AD):Option (Int × Bool):=
 ((qB a0).bind fun x4=>(if ¬x4=true then (zoo a0 true) else (zoo a0 ((a0.M.Mag.length:Int) == 0))))
def zkX (a0:AD) (a1:Int) (y5:Bool):Option (AD × Int):=
 (if y5=true then (some ((⟨⟨false,[]⟩,0⟩:AD),4)) else (if (a0.M.Mag.length:Int)=0 then (some (a0,0)) else ((QM (⟨a0.M,(i64.wrap (a0.E+a1))⟩:AD)).bind fun x6=>(some ((⟨x6.1.M,x6.1.E⟩:AD),x6.2)))))
def zbQ (a0:AD) (a1:Int):Option (AD × Int):=
 ((qB a0).bind fun x4=>(if ¬x4=true then (some ((⟨⟨false,[]⟩,0⟩:AD),1)) else (if a1<(-100000) then (zkX a0 a1 true) else (zkX a0 a1 (decide (a1>100000))))))
def ZF (a0:AI) (a1:Int) (a2:Int) (a3:Int):Option (AI × Int):=
 ((ZD [a0] a2 a3).bind fun x7=>(if ¬x7.1=true then (some ((⟨⟨⟨false,[]⟩,0⟩,⟨⟨false,[]⟩,0⟩⟩:AI),x7.2)) else ((zbQ a0.Lo a1).bind fun x8=>((QL x8.2 a2 x7.2).bind fun x9=>(if ¬x9.1=true then (some ((⟨⟨⟨false,[]⟩,0⟩,⟨⟨false,[]⟩,0⟩⟩:AI),x9.2)) else ((zbQ a0.Hi a1).bind fun x10=>((QL x10.2 a2 x9.2).bind fun x11=>((zbf (⟨x8.1.M,x8.1.E⟩:AD) (⟨x10.1.M,x10.1.E⟩:AD) a2 x11.2).bind fun x12=>(some ((⟨⟨x12.Lo.M,x12.Lo.E⟩,⟨x12.Hi.M,x12.Hi.E⟩⟩:AI),x11.2))))))))))
def zh6 (a0:List Int) (a1:Int):Option ((List Int)):=
 ((zcB (⟨false,a0⟩:za) a1).bind fun x2=>(some x2.Mag))
def zkY (y23:Int) (y24:List Int):Option ((List Int) × (List Int)):=
 ((Zj y24).bind fun x25=>((zbB y23).bind fun x26=>(some (x25,x26))))
def zd8 (a0:List Int) (a1:Int):Nat→Int→Int→List Int→Option ((List Int) × (List Int))
 | 0,_,_,_=>none
 | n+1,y30,y31,y32=>(if y31≥0 then (if 0≤y31∧y31<(a0.length:Int) then (if a1≠0 then (if 0≤y31∧y31.toNat<y32.length then (if a1≠0 then ((fun z0 z1 z2=>zd8 a0 a1 n z0 z1 z2) ((orI .u64 (shlI .u64 y30 32) (u64.wrap (a0.getD y31.toNat (kInt .u32).z))).tmod a1) (i64.wrap (y31-1)) (y32.set y31.toNat (u32.wrap (u64.wrap ((orI .u64 (shlI .u64 y30 32) (u64.wrap (a0.getD y31.toNat (kInt .u32).z))).tdiv a1))))) else none) else none) else none) else none) else (zkY y30 y32))
def zh7 (a0:List Int) (a1:Int):Option ((List Int) × (List Int)):=
 (if 0≤(a0.length:Int)∧(a0.length:Int)*4≤281474976710656∧(a0.length:Int)≤281474976710656 then (zd8 a0 a1 fuel 0 (i64.wrap ((a0.length:Int)-1)) (List.replicate a0.length (kInt .u32).z)) else none)
def zkZ (a1:List Int) (y2:Int):Option Int:=
 (if 0≤(i64.wrap ((a1.length:Int)-1))∧(i64.wrap ((a1.length:Int)-1))<(a1.length:Int) then (if (u64.wrap (a1.getD ((i64.wrap ((a1.length:Int)-1)).toNat) (kInt .u32).z))≠0 then (some (mn (u64.wrap (y2.tdiv (u64.wrap (a1.getD ((i64.wrap ((a1.length:Int)-1)).toNat) (kInt .u32).z)))) 4294967295)) else none) else none)
def zh8 (a0:List Int) (a1:List Int):Option Int:=
 (if (a0.length:Int)<(a1.length:Int) then (some 0) else (if 0≤(i64.wrap ((a1.length:Int)-1))∧(i64.wrap ((a1.length:Int)-1))<(a0.length:Int) then (if (a0.length:Int)>(a1.length:Int) then (if 0≤(a1.length:Int)∧(a1.length:Int)<(a0.length:Int) then (zkZ a1 (orI .u64 (u64.wrap (a0.getD ((i64.wrap ((a1.length:Int)-1)).toNat) (kInt .u32).z)) (shlI .u64 (u64.wrap (a0.getD a1.length (kInt .u32).z)) 32))) else none) else (zkZ a1 (u64.wrap (a0.getD ((i64.wrap ((a1.length:Int)-1)).toNat) (kInt .u32).z)))) else none))
def zk0 (x694:(List Int)) (x696:Int) (y1041:List Int) (y1042:List Int):Option ((List Int) × (List Int) × Bool):=
 ((Zj y1042).bind fun x1043=>((zck y1041 (i64.wrap ((i64.wrap (32*(x694.length:Int)))-x696))).bind fun x1044=>(some (x1043,x1044,true))))
def zk1 (ag2_r03_DivMod:List Int→Int→List Int→Option ((List Int) × (List Int) × Bool)) (y1273:Int) (y1330:List Int) (y1331:List Int):Option ((List Int) × (List Int) × Bool):=
 (ag2_r03_DivMod y1330 (i64.wrap (y1273-1)) y1331)
def zh9 (y1273:Int) (y1274:List Int) (ag2_r03_DivMod:List Int→Int→List Int→Option ((List Int) × (List Int) × Bool)) (y1361:Int) (y1362:List Int):Option ((List Int) × (List Int) × Bool):=
 (if 0≤y1273∧y1273.toNat<y1274.length then (zk1 ag2_r03_DivMod y1273 y1362 (y1274.set y1273.toNat (u32.wrap y1361))) else none)
def zd9 (x697:(List Int) × Bool) (x1332:(List Int)) (y1273:Int) (y1274:List Int) (ag2_r03_DivMod:List Int→Int→List Int→Option ((List Int) × (List Int) × Bool)):Nat→Int→List Int→Bool→Option ((List Int) × (List Int) × Bool)
 | 0,_,_,_=>none
 | n+1,y1378,y1379,y1380=>(if ¬y1380=true then ((zbB (u64.wrap (y1378-1))).bind fun x1384=>((zd4 x697.1 x1384).bind fun x1385=>((zcE x1332 x1385).bind fun x1386=>((fun z0 z1 z2=>zd9 x697 x1332 y1273 y1274 ag2_r03_DivMod n z0 z1 z2) (u64.wrap (y1378-1)) x1386.1 x1386.2)))) else (zh9 y1273 y1274 ag2_r03_DivMod y1378 y1379))
def zaL (x698:(List Int) × Bool) (x697:(List Int) × Bool) (x694:(List Int)) (x696:Int):Nat→List Int→Int→List Int→Option ((List Int) × (List Int) × Bool)
 | 0,_,_,_=>none
 | n+1,y1272,y1273,y1274=>(if y1273≥0 then (if 0≤y1273∧y1273<(x698.1.length:Int) then (if [(x698.1.getD y1273.toNat (kInt .u32).z)].length+y1272.length≤9223372036854775807∧([(x698.1.getD y1273.toNat (kInt .u32).z)].length+y1272.length)*4≤140737488355328 then ((Zj ([(x698.1.getD y1273.toNat (kInt .u32).z)]++y1272)).bind fun x1332=>((zh8 x1332 x697.1).bind fun x1333=>((zbB x1333).bind fun x1334=>((zd4 x697.1 x1334).bind fun x1335=>((zcE x1332 x1335).bind fun x1336=>(zd9 x697 x1332 y1273 y1274 (fun z0 z1 z2=>zaL x698 x697 x694 x696 n z0 z1 z2) fuel x1333 x1336.1 x1336.2)))))) else none) else none) else (zk0 x694 x696 y1272 y1274))
def zia (a0:List Int) (a1:List Int):Option ((List Int) × (List Int) × Bool):=
 ((Zj a1).bind fun x694=>(if (x694.length:Int)=0 then (some ([],[],false)) else (if (x694.length:Int)=1 then (if 0≤(0:Int)∧(0:Int)<(x694.length:Int) then ((zh7 a0 (u64.wrap (x694.getD 0 (kInt .u32).z))).bind fun x695=>(some (x695.1,x695.2,true))) else none) else ((ZU x694).bind fun x696=>((QK x694 (i64.wrap ((i64.wrap (32*(x694.length:Int)))-x696))).bind fun x697=>((QK a0 (i64.wrap ((i64.wrap (32*(x694.length:Int)))-x696))).bind fun x698=>(if 0≤(x698.1.length:Int)∧(x698.1.length:Int)*4≤281474976710656∧(x698.1.length:Int)≤281474976710656 then (zaL x698 x697 x694 x696 fuel [] (i64.wrap ((x698.1.length:Int)-1)) (List.replicate x698.1.length (kInt .u32).z)) else none)))))))
def zk2 (a1:AD) (a0:AD) (a2:Int) (a3:Bool) (y15:Bool):Option (AD × Int):=
 (if y15=true then (some ((⟨⟨false,[]⟩,0⟩:AD),1)) else (if (a1.M.Mag.length:Int)=0 then (some ((⟨⟨false,[]⟩,0⟩:AD),3)) else (if (a0.M.Mag.length:Int)=0 then (some ((⟨⟨false,[]⟩,0⟩:AD),0)) else ((ZU a1.M.Mag).bind fun x16=>((ZU a0.M.Mag).bind fun x17=>((zh6 a0.M.Mag (mx 0 (i64.wrap ((i64.wrap ((i64.wrap (a2+2))+x16))-x17)))).bind fun x18=>((zia x18 a1.M.Mag).bind fun x19=>((zcG (a0.M.Neg != a1.M.Neg) x19.1 (i64.wrap ((i64.wrap (a0.E-a1.E))-(mx 0 (i64.wrap ((i64.wrap ((i64.wrap (a2+2))+x16))-x17))))) (decide ((x19.2.1.length:Int)>0)) a2 (a3 != (a0.M.Neg != a1.M.Neg))).bind fun x20=>((QM (⟨x20.M,x20.E⟩:AD)).bind fun x21=>(some ((⟨x21.1.M,x21.1.E⟩:AD),x21.2)))))))))))
def zfM (a0:AD) (a1:AD) (a2:Int) (a3:Bool):Option (AD × Int):=
 ((qB a0).bind fun x12=>((qB a1).bind fun x13=>(if ¬x12=true then (zk2 a1 a0 a2 a3 true) else (if ¬x13=true then (zk2 a1 a0 a2 a3 true) else ((zfH a2).bind fun x22=>(zk2 a1 a0 a2 a3 (!x22)))))))
def zk3 (a2:Int) (y181:Int) (y182:List AD) (y183:List AD):Option (AI × Int):=
 ((zfI y182).bind fun x184=>((zfJ y183).bind fun x185=>((zbf (⟨x184.M,x184.E⟩:AD) (⟨x185.M,x185.E⟩:AD) a2 y181).bind fun x186=>(some ((⟨⟨x186.Lo.M,x186.Lo.E⟩,⟨x186.Hi.M,x186.Hi.E⟩⟩:AI),y181)))))
def zib (x235:AD × Int) (y225:List AD) (x236:AD × Int) (y226:List AD) (ag2_r06_CDiv:Int→Int→List AD→List AD→Option (AI × Int)) (y223:Int) (y239:Bool) (y240:Int):Option (AI × Int):=
 (if y239=true then (some ((⟨⟨⟨false,[]⟩,0⟩,⟨⟨false,[]⟩,0⟩⟩:AI),y240)) else (if 0<[(⟨x235.1.M,x235.1.E⟩:AD)].length∧y225.length+[(⟨x235.1.M,x235.1.E⟩:AD)].length≤9223372036854775807∧(y225.length+[(⟨x235.1.M,x235.1.E⟩:AD)].length)*40≤140737488355328 then (if 0<[(⟨x236.1.M,x236.1.E⟩:AD)].length∧y226.length+[(⟨x236.1.M,x236.1.E⟩:AD)].length≤9223372036854775807∧(y226.length+[(⟨x236.1.M,x236.1.E⟩:AD)].length)*40≤140737488355328 then (ag2_r06_CDiv (i64.wrap (y223+1)) y240 (y225++[(⟨x235.1.M,x235.1.E⟩:AD)]) (y226++[(⟨x236.1.M,x236.1.E⟩:AD)])) else none) else none))
def zaM (a0:AI) (a1:AI) (a2:Int):Nat→Int→Int→List AD→List AD→Option (AI × Int)
 | 0,_,_,_,_=>none
 | n+1,y223,y224,y225,y226=>(if y223<4 then (if 0≤y223∧y223<([a0.Lo,a0.Lo,a0.Hi,a0.Hi].length:Int) then (if 0≤y223∧y223<([a1.Lo,a1.Hi,a1.Lo,a1.Hi].length:Int) then ((zfM (⟨(([a0.Lo,a0.Lo,a0.Hi,a0.Hi].getD y223.toNat zAD).M),([a0.Lo,a0.Lo,a0.Hi,a0.Hi].getD y223.toNat zAD).E⟩:AD) (⟨(([a1.Lo,a1.Hi,a1.Lo,a1.Hi].getD y223.toNat zAD).M),([a1.Lo,a1.Hi,a1.Lo,a1.Hi].getD y223.toNat zAD).E⟩:AD) a2 false).bind fun x235=>(if 0≤y223∧y223<([a0.Lo,a0.Lo,a0.Hi,a0.Hi].length:Int) then (if 0≤y223∧y223<([a1.Lo,a1.Hi,a1.Lo,a1.Hi].length:Int) then ((zfM (⟨(([a0.Lo,a0.Lo,a0.Hi,a0.Hi].getD y223.toNat zAD).M),([a0.Lo,a0.Lo,a0.Hi,a0.Hi].getD y223.toNat zAD).E⟩:AD) (⟨(([a1.Lo,a1.Hi,a1.Lo,a1.Hi].getD y223.toNat zAD).M),([a1.Lo,a1.Hi,a1.Lo,a1.Hi].getD y223.toNat zAD).E⟩:AD) a2 true).bind fun x236=>((QL x235.2 a2 y224).bind fun x241=>(if ¬x241.1=true then (zib x235 y225 x236 y226 (fun z0 z1 z2 z3=>zaM a0 a1 a2 n z0 z1 z2 z3) y223 true x241.2) else ((QL x236.2 a2 x241.2).bind fun x242=>(zib x235 y225 x236 y226 (fun z0 z1 z2 z3=>zaM a0 a1 a2 n z0 z1 z2 z3) y223 (!x242.1) x242.2))))) else none) else none)) else none) else none) else (zk3 a2 y224 y225 y226))
def QN (a0:AI) (a1:AI) (a2:Int) (a3:Int):Option (AI × Int):=
 ((ZD [a0,a1] a2 a3).bind fun x122=>(if ¬x122.1=true then (some ((⟨⟨⟨false,[]⟩,0⟩,⟨⟨false,[]⟩,0⟩⟩:AI),x122.2)) else ((zbO a1 (⟨⟨false,[]⟩,0⟩:AD)).bind fun x123=>(if x123=true then ((QL 3 a2 x122.2).bind fun x124=>(some ((⟨⟨⟨false,[]⟩,0⟩,⟨⟨false,[]⟩,0⟩⟩:AI),x124.2))) else (zaM a0 a1 a2 fuel 0 x122.2 [] [])))))
def zk4 (y10:Bool):Option Bool:=
 (some y10)
def zfN (a0:AI) (a1:AI):Option Bool:=
 ((Qr a0).bind fun x7=>(if x7=true then ((zbO a1 a0.Lo).bind fun x11=>(if x11=true then ((zbO a1 a0.Hi).bind fun x12=>(zk4 x12)) else (zk4 false))) else (zk4 false)))
def zea (a0:AI) (a1:Int) (a2:Int) (a3:Int):Option (Bool × Int):=
 (if ¬a3=0 then (some (false,a3)) else ((Qr a0).bind fun x5=>(if ¬x5=true then (some (false,1)) else ((zbb a1).bind fun x6=>((zcI (⟨x6.M,x6.E⟩:AD)).bind fun x7=>((zfN a0 (⟨⟨x7.M,x7.E⟩,⟨x6.M,x6.E⟩⟩:AI)).bind fun x8=>(if ¬x8=true then (some (false,3)) else (some (true,a3)))))))))
def zeb (a0:Int):Option Int:=
 (some (i64.wrap ((i64.wrap ((mn (mx a0 0) 400).tdiv 2))+4)))
def zec (a0:AI) (a1:AD) (a2:Int) (a3:Int):Option (AI × Int):=
 ((ZD [a0,(⟨⟨⟨false,[]⟩,0⟩,a1⟩:AI)] a2 a3).bind fun x8=>(if ¬x8.1=true then (some ((⟨⟨⟨false,[]⟩,0⟩,⟨⟨false,[]⟩,0⟩⟩:AI),x8.2)) else ((zcI a1).bind fun x9=>((zcF a0.Lo (⟨x9.M,x9.E⟩:AD) a2 x8.2).bind fun x10=>((zac (⟨x10.1.M,x10.1.E⟩:AD) false a2 x10.2).bind fun x11=>((zcF a0.Hi a1 a2 x11.2).bind fun x12=>((zac (⟨x12.1.M,x12.1.E⟩:AD) true a2 x12.2).bind fun x13=>((zbf (⟨x11.1.M,x11.1.E⟩:AD) (⟨x13.1.M,x13.1.E⟩:AD) a2 x13.2).bind fun x14=>(some ((⟨⟨x14.Lo.M,x14.Lo.E⟩,⟨x14.Hi.M,x14.Hi.E⟩⟩:AI),x13.2))))))))))
def zed (a0:AI) (a1:Int) (a2:Int):Option (AI × Int):=
 ((zbb (i64.wrap (0-a1))).bind fun x3=>((zec a0 (⟨x3.M,x3.E⟩:AD) a1 a2).bind fun x4=>(some ((⟨⟨x4.1.Lo.M,x4.1.Lo.E⟩,⟨x4.1.Hi.M,x4.1.Hi.E⟩⟩:AI),x4.2))))
def zrM (a1:Int) (y178:Int) (y179:Bool) (y180:List Int) (y181:Int) (y182:Bool) (y183:List Int) (y184:Int):Option (AI × Int):=
 ((zed (⟨⟨⟨y179,y180⟩,y181⟩,⟨⟨y182,y183⟩,y184⟩⟩:AI) a1 y178).bind fun x185=>(some ((⟨⟨x185.1.Lo.M,x185.1.Lo.E⟩,⟨x185.1.Hi.M,x185.1.Hi.E⟩⟩:AI),x185.2)))
def zfO (a1:Int) (x122:AI × Int):Nat→Int→Int→Bool→List Int→Int→Bool→List Int→Int→Bool→List Int→Int→Bool→List Int→Int→Option (AI × Int)
 | 0,_,_,_,_,_,_,_,_,_,_,_,_,_,_=>none
 | n+1,y218,y219,y220,y221,y222,y223,y224,y225,y226,y227,y228,y229,y230,y231=>((zeb a1).bind fun x232=>(if y218≤x232 then ((ZE (⟨⟨⟨y226,y227⟩,y228⟩,⟨⟨y229,y230⟩,y231⟩⟩:AI) (⟨⟨x122.1.Lo.M,x122.1.Lo.E⟩,⟨x122.1.Hi.M,x122.1.Hi.E⟩⟩:AI) a1 y219).bind fun x237=>((qN (i64.wrap ((i64.wrap (2*y218))+1)) a1 x237.2).bind fun x238=>((QN (⟨⟨x237.1.Lo.M,x237.1.Lo.E⟩,⟨x237.1.Hi.M,x237.1.Hi.E⟩⟩:AI) (⟨⟨x238.1.Lo.M,x238.1.Lo.E⟩,⟨x238.1.Hi.M,x238.1.Hi.E⟩⟩:AI) a1 x238.2).bind fun x239=>((Zs (⟨⟨⟨y220,y221⟩,y222⟩,⟨⟨y223,y224⟩,y225⟩⟩:AI) (⟨⟨x239.1.Lo.M,x239.1.Lo.E⟩,⟨x239.1.Hi.M,x239.1.Hi.E⟩⟩:AI) a1 x239.2).bind fun x240=>((fun z0 z1 z2 z3 z4 z5 z6 z7 z8 z9 z10 z11 z12 z13=>zfO a1 x122 n z0 z1 z2 z3 z4 z5 z6 z7 z8 z9 z10 z11 z12 z13) (i64.wrap (y218+1)) x240.2 x240.1.Lo.M.Neg x240.1.Lo.M.Mag x240.1.Lo.E x240.1.Hi.M.Neg x240.1.Hi.M.Mag x240.1.Hi.E x237.1.Lo.M.Neg x237.1.Lo.M.Mag x237.1.Lo.E x237.1.Hi.M.Neg x237.1.Hi.M.Mag x237.1.Hi.E))))) else (zrM a1 y219 y220 y221 y222 y223 y224 y225)))
def zee (a0:AI) (a1:Int) (a2:Int):Option (AI × Int):=
 ((zea a0 (-1) a1 a2).bind fun x121=>(if ¬x121.1=true then (some ((⟨⟨⟨false,[]⟩,0⟩,⟨⟨false,[]⟩,0⟩⟩:AI),x121.2)) else ((ZE a0 a0 a1 x121.2).bind fun x122=>(zfO a1 x122 fuel 1 x122.2 a0.Lo.M.Neg a0.Lo.M.Mag a0.Lo.E a0.Hi.M.Neg a0.Hi.M.Mag a0.Hi.E a0.Lo.M.Neg a0.Lo.M.Mag a0.Lo.E a0.Hi.M.Neg a0.Hi.M.Mag a0.Hi.E))))
def zic (a0:Int) (a1:Int):Option (AI × Int):=
 ((qN 1 a0 a1).bind fun x6=>((qN 3 a0 x6.2).bind fun x7=>((QN (⟨⟨x6.1.Lo.M,x6.1.Lo.E⟩,⟨x6.1.Hi.M,x6.1.Hi.E⟩⟩:AI) (⟨⟨x7.1.Lo.M,x7.1.Lo.E⟩,⟨x7.1.Hi.M,x7.1.Hi.E⟩⟩:AI) a0 x7.2).bind fun x8=>((zee (⟨⟨x8.1.Lo.M,x8.1.Lo.E⟩,⟨x8.1.Hi.M,x8.1.Hi.E⟩⟩:AI) a0 x8.2).bind fun x9=>((ZF (⟨⟨x9.1.Lo.M,x9.1.Lo.E⟩,⟨x9.1.Hi.M,x9.1.Hi.E⟩⟩:AI) 1 a0 x9.2).bind fun x10=>(some ((⟨⟨x10.1.Lo.M,x10.1.Lo.E⟩,⟨x10.1.Hi.M,x10.1.Hi.E⟩⟩:AI),x10.2)))))))
def zef (a0:AI) (a1:Int) (a2:Int):Option (AI × Int):=
 ((ZD [a0] a1 a2).bind fun x5=>(if ¬x5.1=true then (some ((⟨⟨⟨false,[]⟩,0⟩,⟨⟨false,[]⟩,0⟩⟩:AI),x5.2)) else ((zac a0.Lo false a1 x5.2).bind fun x6=>((zac a0.Hi true a1 x6.2).bind fun x7=>((zbf (⟨x6.1.M,x6.1.E⟩:AD) (⟨x7.1.M,x7.1.E⟩:AD) a1 x7.2).bind fun x8=>(some ((⟨⟨x8.Lo.M,x8.Lo.E⟩,⟨x8.Hi.M,x8.Hi.E⟩⟩:AI),x7.2)))))))
def QO (a0:AI) (a1:Int) (a2:Int) (a3:Int):Option (AI × Int):=
 (if ¬a3=0 then (some ((⟨⟨⟨false,[]⟩,0⟩,⟨⟨false,[]⟩,0⟩⟩:AI),a3)) else ((zab a1).bind fun x5=>match x5 with | Sum.inl x6=>none | (Sum.inr x7)=>((zef a0 x7.1 x7.2).bind fun x8=>(some ((⟨⟨x8.1.Lo.M,x8.1.Lo.E⟩,⟨x8.1.Hi.M,x8.1.Hi.E⟩⟩:AI),x8.2)))))
def zk5 (x41:Int × Int) (a1:Int) (y49:Int) (y50:Int) (y51:Bool) (y52:List Int) (y53:Int) (y54:Bool) (y55:List Int) (y56:Int):Option (AI × Int):=
 ((qN 1 x41.1 y50).bind fun x57=>((zbg (⟨⟨⟨y51,y52⟩,y53⟩,⟨⟨y54,y55⟩,y56⟩⟩:AI) (⟨⟨x57.1.Lo.M,x57.1.Lo.E⟩,⟨x57.1.Hi.M,x57.1.Hi.E⟩⟩:AI) x41.1 x57.2).bind fun x58=>((qN 1 x41.1 x58.2).bind fun x59=>((Zs (⟨⟨⟨y51,y52⟩,y53⟩,⟨⟨y54,y55⟩,y56⟩⟩:AI) (⟨⟨x59.1.Lo.M,x59.1.Lo.E⟩,⟨x59.1.Hi.M,x59.1.Hi.E⟩⟩:AI) x41.1 x59.2).bind fun x60=>((QN (⟨⟨x58.1.Lo.M,x58.1.Lo.E⟩,⟨x58.1.Hi.M,x58.1.Hi.E⟩⟩:AI) (⟨⟨x60.1.Lo.M,x60.1.Lo.E⟩,⟨x60.1.Hi.M,x60.1.Hi.E⟩⟩:AI) x41.1 x60.2).bind fun x61=>((zee (⟨⟨x61.1.Lo.M,x61.1.Lo.E⟩,⟨x61.1.Hi.M,x61.1.Hi.E⟩⟩:AI) x41.1 x61.2).bind fun x62=>((ZF (⟨⟨x62.1.Lo.M,x62.1.Lo.E⟩,⟨x62.1.Hi.M,x62.1.Hi.E⟩⟩:AI) 1 x41.1 x62.2).bind fun x63=>((qN y49 x41.1 x63.2).bind fun x64=>((zic x41.1 x64.2).bind fun x65=>((ZE (⟨⟨x64.1.Lo.M,x64.1.Lo.E⟩,⟨x64.1.Hi.M,x64.1.Hi.E⟩⟩:AI) (⟨⟨x65.1.Lo.M,x65.1.Lo.E⟩,⟨x65.1.Hi.M,x65.1.Hi.E⟩⟩:AI) x41.1 x65.2).bind fun x66=>((Zs (⟨⟨x63.1.Lo.M,x63.1.Lo.E⟩,⟨x63.1.Hi.M,x63.1.Hi.E⟩⟩:AI) (⟨⟨x66.1.Lo.M,x66.1.Lo.E⟩,⟨x66.1.Hi.M,x66.1.Hi.E⟩⟩:AI) x41.1 x66.2).bind fun x67=>((QO (⟨⟨x67.1.Lo.M,x67.1.Lo.E⟩,⟨x67.1.Hi.M,x67.1.Hi.E⟩⟩:AI) a1 x41.1 x67.2).bind fun x68=>(some ((⟨⟨x68.1.Lo.M,x68.1.Lo.E⟩,⟨x68.1.Hi.M,x68.1.Hi.E⟩⟩:AI),x68.2))))))))))))))
def zk6 (x43:AI × Int) (x41:Int × Int) (a1:Int) (x37:Int × Bool) (y47:Bool):Option (AI × Int):=
 (if y47=true then ((ZF (⟨⟨x43.1.Lo.M,x43.1.Lo.E⟩,⟨x43.1.Hi.M,x43.1.Hi.E⟩⟩:AI) (-1) x41.1 x43.2).bind fun x69=>(zk5 x41 a1 (i64.wrap ((i64.wrap (x37.1-1))+1)) x69.2 x69.1.Lo.M.Neg x69.1.Lo.M.Mag x69.1.Lo.E x69.1.Hi.M.Neg x69.1.Hi.M.Mag x69.1.Hi.E)) else (zk5 x41 a1 (i64.wrap (x37.1-1)) x43.2 x43.1.Lo.M.Neg x43.1.Lo.M.Mag x43.1.Lo.E x43.1.Hi.M.Neg x43.1.Hi.M.Mag x43.1.Hi.E))
def zop (a1:Int) (a0:AD) (x37:Int × Bool) (y38:Bool):Option (AI × Int):=
 (if y38=true then (some ((⟨⟨⟨false,[]⟩,0⟩,⟨⟨false,[]⟩,0⟩⟩:AI),3)) else ((zab (i64.wrap (a1+32))).bind fun x39=>match x39 with | Sum.inl x40=>none | (Sum.inr x41)=>((zaK a0 x41.1 x41.2).bind fun x42=>((ZF (⟨⟨x42.1.Lo.M,x42.1.Lo.E⟩,⟨x42.1.Hi.M,x42.1.Hi.E⟩⟩:AI) (i64.wrap (0-(i64.wrap (x37.1-1)))) x41.1 x42.2).bind fun x43=>((zaX 3).bind fun x44=>((zbQ (⟨x44.M,x44.E⟩:AD) (-1)).bind fun x45=>(if x43.2=0 then ((zaa (⟨x43.1.Lo.M,x43.1.Lo.E⟩:AD) (⟨x45.1.M,x45.1.E⟩:AD)).bind fun x70=>(zk6 x43 x41 a1 x37 (decide (x70≥0)))) else (zk6 x43 x41 a1 x37 false))))))))
def zfP (a0:AD) (a1:Int):Option (AI × Int):=
 ((zbh a0 a1).bind fun x36=>(if ¬x36=true then (some ((⟨⟨⟨false,[]⟩,0⟩,⟨⟨false,[]⟩,0⟩⟩:AI),1)) else ((zfL a0).bind fun x37=>(if ¬x37.2=true then (zop a1 a0 x37 true) else (zop a1 a0 x37 a0.M.Neg)))))
def zk7 (a0:AI) (a1:Int) (y12:Bool):Option (AI × Int):=
 (if y12=true then (some ((⟨⟨⟨false,[]⟩,0⟩,⟨⟨false,[]⟩,0⟩⟩:AI),1)) else ((zfP a0.Lo a1).bind fun x13=>(if ¬x13.2=0 then (some ((⟨⟨⟨false,[]⟩,0⟩,⟨⟨false,[]⟩,0⟩⟩:AI),x13.2)) else ((zfP a0.Hi a1).bind fun x14=>(if ¬x14.2=0 then (some ((⟨⟨⟨false,[]⟩,0⟩,⟨⟨false,[]⟩,0⟩⟩:AI),x14.2)) else (some ((⟨⟨x13.1.Lo.M,x13.1.Lo.E⟩,⟨x14.1.Hi.M,x14.1.Hi.E⟩⟩:AI),0)))))))
def zid (a0:AI) (a1:Int):Option (AI × Int):=
 ((Qr a0).bind fun x9=>(if ¬x9=true then (zk7 a0 a1 true) else ((zbh a0.Lo a1).bind fun x15=>(if ¬x15=true then (zk7 a0 a1 true) else ((zbh a0.Hi a1).bind fun x16=>(zk7 a0 a1 (!x16)))))))
def zeg (a0:AI) (a1:Int) (a2:Int):Option (AI × Int):=
 (if ¬a2=0 then (some ((⟨⟨⟨false,[]⟩,0⟩,⟨⟨false,[]⟩,0⟩⟩:AI),a2)) else ((zid a0 a1).bind fun x2=>(if ¬x2.2=0 then (some ((⟨⟨⟨false,[]⟩,0⟩,⟨⟨false,[]⟩,0⟩⟩:AI),x2.2)) else (some ((⟨⟨x2.1.Lo.M,x2.1.Lo.E⟩,⟨x2.1.Hi.M,x2.1.Hi.E⟩⟩:AI),a2)))))
def zrN (a1:Int) (y196:Int) (y197:Bool) (y198:List Int) (y199:Int) (y200:Bool) (y201:List Int) (y202:Int):Option (AI × Int):=
 ((zed (⟨⟨⟨y197,y198⟩,y199⟩,⟨⟨y200,y201⟩,y202⟩⟩:AI) a1 y196).bind fun x203=>(some ((⟨⟨x203.1.Lo.M,x203.1.Lo.E⟩,⟨x203.1.Hi.M,x203.1.Hi.E⟩⟩:AI),x203.2)))
def zfQ (a1:Int) (x134:AI × Int):Nat→Int→Int→Bool→List Int→Int→Bool→List Int→Int→Bool→List Int→Int→Bool→List Int→Int→Option (AI × Int)
 | 0,_,_,_,_,_,_,_,_,_,_,_,_,_,_=>none
 | n+1,y240,y241,y242,y243,y244,y245,y246,y247,y248,y249,y250,y251,y252,y253=>((zeb a1).bind fun x254=>(if y240≤x254 then ((ZE (⟨⟨⟨y248,y249⟩,y250⟩,⟨⟨y251,y252⟩,y253⟩⟩:AI) (⟨⟨x134.1.Lo.M,x134.1.Lo.E⟩,⟨x134.1.Hi.M,x134.1.Hi.E⟩⟩:AI) a1 y241).bind fun x260=>((zd7 (⟨⟨x260.1.Lo.M,x260.1.Lo.E⟩,⟨x260.1.Hi.M,x260.1.Hi.E⟩⟩:AI) a1 x260.2).bind fun x261=>((qN (i64.wrap ((i64.wrap (2*y240))+1)) a1 x261.2).bind fun x262=>((QN (⟨⟨x261.1.Lo.M,x261.1.Lo.E⟩,⟨x261.1.Hi.M,x261.1.Hi.E⟩⟩:AI) (⟨⟨x262.1.Lo.M,x262.1.Lo.E⟩,⟨x262.1.Hi.M,x262.1.Hi.E⟩⟩:AI) a1 x262.2).bind fun x263=>((Zs (⟨⟨⟨y242,y243⟩,y244⟩,⟨⟨y245,y246⟩,y247⟩⟩:AI) (⟨⟨x263.1.Lo.M,x263.1.Lo.E⟩,⟨x263.1.Hi.M,x263.1.Hi.E⟩⟩:AI) a1 x263.2).bind fun x264=>((fun z0 z1 z2 z3 z4 z5 z6 z7 z8 z9 z10 z11 z12 z13=>zfQ a1 x134 n z0 z1 z2 z3 z4 z5 z6 z7 z8 z9 z10 z11 z12 z13) (i64.wrap (y240+1)) x264.2 x264.1.Lo.M.Neg x264.1.Lo.M.Mag x264.1.Lo.E x264.1.Hi.M.Neg x264.1.Hi.M.Mag x264.1.Hi.E x261.1.Lo.M.Neg x261.1.Lo.M.Mag x261.1.Lo.E x261.1.Hi.M.Neg x261.1.Hi.M.Mag x261.1.Hi.E)))))) else (zrN a1 y241 y242 y243 y244 y245 y246 y247)))
def zeh (a0:AI) (a1:Int) (a2:Int):Option (AI × Int):=
 ((zea a0 (-1) a1 a2).bind fun x133=>(if ¬x133.1=true then (some ((⟨⟨⟨false,[]⟩,0⟩,⟨⟨false,[]⟩,0⟩⟩:AI),x133.2)) else ((ZE a0 a0 a1 x133.2).bind fun x134=>(zfQ a1 x134 fuel 1 x134.2 a0.Lo.M.Neg a0.Lo.M.Mag a0.Lo.E a0.Hi.M.Neg a0.Hi.M.Mag a0.Hi.E a0.Lo.M.Neg a0.Lo.M.Mag a0.Lo.E a0.Hi.M.Neg a0.Hi.M.Mag a0.Hi.E))))
def zie (a0:Int) (a1:Int):Option (AI × Int):=
 ((qN 1 a0 a1).bind fun x12=>((qN 5 a0 x12.2).bind fun x13=>((QN (⟨⟨x12.1.Lo.M,x12.1.Lo.E⟩,⟨x12.1.Hi.M,x12.1.Hi.E⟩⟩:AI) (⟨⟨x13.1.Lo.M,x13.1.Lo.E⟩,⟨x13.1.Hi.M,x13.1.Hi.E⟩⟩:AI) a0 x13.2).bind fun x14=>((zeh (⟨⟨x14.1.Lo.M,x14.1.Lo.E⟩,⟨x14.1.Hi.M,x14.1.Hi.E⟩⟩:AI) a0 x14.2).bind fun x15=>((qN 1 a0 x15.2).bind fun x16=>((qN 239 a0 x16.2).bind fun x17=>((QN (⟨⟨x16.1.Lo.M,x16.1.Lo.E⟩,⟨x16.1.Hi.M,x16.1.Hi.E⟩⟩:AI) (⟨⟨x17.1.Lo.M,x17.1.Lo.E⟩,⟨x17.1.Hi.M,x17.1.Hi.E⟩⟩:AI) a0 x17.2).bind fun x18=>((zeh (⟨⟨x18.1.Lo.M,x18.1.Lo.E⟩,⟨x18.1.Hi.M,x18.1.Hi.E⟩⟩:AI) a0 x18.2).bind fun x19=>((ZF (⟨⟨x15.1.Lo.M,x15.1.Lo.E⟩,⟨x15.1.Hi.M,x15.1.Hi.E⟩⟩:AI) 4 a0 x19.2).bind fun x20=>((ZF (⟨⟨x19.1.Lo.M,x19.1.Lo.E⟩,⟨x19.1.Hi.M,x19.1.Hi.E⟩⟩:AI) 2 a0 x20.2).bind fun x21=>((zbg (⟨⟨x20.1.Lo.M,x20.1.Lo.E⟩,⟨x20.1.Hi.M,x20.1.Hi.E⟩⟩:AI) (⟨⟨x21.1.Lo.M,x21.1.Lo.E⟩,⟨x21.1.Hi.M,x21.1.Hi.E⟩⟩:AI) a0 x21.2).bind fun x22=>(some ((⟨⟨x22.1.Lo.M,x22.1.Lo.E⟩,⟨x22.1.Hi.M,x22.1.Hi.E⟩⟩:AI),x22.2)))))))))))))
def zrO (y426:Int) (y427:Bool) (y428:List Int) (y429:Int) (y430:Bool) (y431:List Int) (y432:Int):Option (AI × Int):=
 (some ((⟨⟨⟨y427,y428⟩,y429⟩,⟨⟨y430,y431⟩,y432⟩⟩:AI),y426))
def zoq (a1:Int) (x276:Int × Int) (y322:Bool) (y323:List Int) (y324:Int) (y325:Bool) (y326:List Int) (y327:Int) (y415:Int) (y416:Bool) (y417:List Int) (y418:Int) (y419:Bool) (y420:List Int) (y421:Int):Option (AI × Int):=
 ((zbb (-160)).bind fun x422=>((zec (⟨⟨⟨y416,y417⟩,y418⟩,⟨⟨y419,y420⟩,y421⟩⟩:AI) (⟨x422.M,x422.E⟩:AD) a1 y415).bind fun x423=>(if x276.1>0 then ((zeg (⟨⟨⟨y322,y323⟩,y324⟩,⟨⟨y325,y326⟩,y327⟩⟩:AI) a1 x423.2).bind fun x433=>((zbg (⟨⟨x423.1.Lo.M,x423.1.Lo.E⟩,⟨x423.1.Hi.M,x423.1.Hi.E⟩⟩:AI) (⟨⟨x433.1.Lo.M,x433.1.Lo.E⟩,⟨x433.1.Hi.M,x433.1.Hi.E⟩⟩:AI) a1 x433.2).bind fun x434=>(zrO x434.2 x434.1.Lo.M.Neg x434.1.Lo.M.Mag x434.1.Lo.E x434.1.Hi.M.Neg x434.1.Hi.M.Mag x434.1.Hi.E))) else (zrO x423.2 x423.1.Lo.M.Neg x423.1.Lo.M.Mag x423.1.Lo.E x423.1.Hi.M.Neg x423.1.Hi.M.Mag x423.1.Hi.E))))
def zfR (a1:Int) (x279:AI × Int) (x276:Int × Int) (y322:Bool) (y323:List Int) (y324:Int) (y325:Bool) (y326:List Int) (y327:Int):Nat→Int→Int→Bool→List Int→Int→Bool→List Int→Int→Bool→List Int→Int→Bool→List Int→Int→Option (AI × Int)
 | 0,_,_,_,_,_,_,_,_,_,_,_,_,_,_=>none
 | n+1,y481,y482,y483,y484,y485,y486,y487,y488,y489,y490,y491,y492,y493,y494=>(if y481≤10 then ((zfG y481).bind fun x503=>((qN x503.1 a1 y482).bind fun x504=>((qN (i64.wrap ((i64.wrap ((i64.wrap (x503.2.1*2))*y481))*(i64.wrap ((i64.wrap (2*y481))-1)))) a1 x504.2).bind fun x505=>((ZE (⟨⟨x505.1.Lo.M,x505.1.Lo.E⟩,⟨x505.1.Hi.M,x505.1.Hi.E⟩⟩:AI) (⟨⟨⟨y489,y490⟩,y491⟩,⟨⟨y492,y493⟩,y494⟩⟩:AI) a1 x505.2).bind fun x506=>((QN (⟨⟨x504.1.Lo.M,x504.1.Lo.E⟩,⟨x504.1.Hi.M,x504.1.Hi.E⟩⟩:AI) (⟨⟨x506.1.Lo.M,x506.1.Lo.E⟩,⟨x506.1.Hi.M,x506.1.Hi.E⟩⟩:AI) a1 x506.2).bind fun x507=>((Zs (⟨⟨⟨y483,y484⟩,y485⟩,⟨⟨y486,y487⟩,y488⟩⟩:AI) (⟨⟨x507.1.Lo.M,x507.1.Lo.E⟩,⟨x507.1.Hi.M,x507.1.Hi.E⟩⟩:AI) a1 x507.2).bind fun x508=>((ZE (⟨⟨x279.1.Lo.M,x279.1.Lo.E⟩,⟨x279.1.Hi.M,x279.1.Hi.E⟩⟩:AI) (⟨⟨x279.1.Lo.M,x279.1.Lo.E⟩,⟨x279.1.Hi.M,x279.1.Hi.E⟩⟩:AI) a1 x508.2).bind fun x509=>((ZE (⟨⟨⟨y489,y490⟩,y491⟩,⟨⟨y492,y493⟩,y494⟩⟩:AI) (⟨⟨x509.1.Lo.M,x509.1.Lo.E⟩,⟨x509.1.Hi.M,x509.1.Hi.E⟩⟩:AI) a1 x509.2).bind fun x510=>((fun z0 z1 z2 z3 z4 z5 z6 z7 z8 z9 z10 z11 z12 z13=>zfR a1 x279 x276 y322 y323 y324 y325 y326 y327 n z0 z1 z2 z3 z4 z5 z6 z7 z8 z9 z10 z11 z12 z13) (i64.wrap (y481+1)) x510.2 x508.1.Lo.M.Neg x508.1.Lo.M.Mag x508.1.Lo.E x508.1.Hi.M.Neg x508.1.Hi.M.Mag x508.1.Hi.E x510.1.Lo.M.Neg x510.1.Lo.M.Mag x510.1.Lo.E x510.1.Hi.M.Neg x510.1.Hi.M.Mag x510.1.Hi.E))))))))) else (zoq a1 x276 y322 y323 y324 y325 y326 y327 y482 y483 y484 y485 y486 y487 y488))
def zor (a1:Int) (x279:AI × Int) (x276:Int × Int) (y321:Int) (y322:Bool) (y323:List Int) (y324:Int) (y325:Bool) (y326:List Int) (y327:Int):Option (AI × Int):=
 ((zbb (-1)).bind fun x328=>((zaK (⟨x328.M,x328.E⟩:AD) a1 y321).bind fun x329=>((zbg (⟨⟨x279.1.Lo.M,x279.1.Lo.E⟩,⟨x279.1.Hi.M,x279.1.Hi.E⟩⟩:AI) (⟨⟨x329.1.Lo.M,x329.1.Lo.E⟩,⟨x329.1.Hi.M,x329.1.Hi.E⟩⟩:AI) a1 x329.2).bind fun x330=>((zeg (⟨⟨x279.1.Lo.M,x279.1.Lo.E⟩,⟨x279.1.Hi.M,x279.1.Hi.E⟩⟩:AI) a1 x330.2).bind fun x331=>((ZE (⟨⟨x330.1.Lo.M,x330.1.Lo.E⟩,⟨x330.1.Hi.M,x330.1.Hi.E⟩⟩:AI) (⟨⟨x331.1.Lo.M,x331.1.Lo.E⟩,⟨x331.1.Hi.M,x331.1.Hi.E⟩⟩:AI) a1 x331.2).bind fun x332=>((zbg (⟨⟨x332.1.Lo.M,x332.1.Lo.E⟩,⟨x332.1.Hi.M,x332.1.Hi.E⟩⟩:AI) (⟨⟨x279.1.Lo.M,x279.1.Lo.E⟩,⟨x279.1.Hi.M,x279.1.Hi.E⟩⟩:AI) a1 x332.2).bind fun x333=>((zie a1 x333.2).bind fun x334=>((ZF (⟨⟨x334.1.Lo.M,x334.1.Lo.E⟩,⟨x334.1.Hi.M,x334.1.Hi.E⟩⟩:AI) 1 a1 x334.2).bind fun x335=>((zeg (⟨⟨x335.1.Lo.M,x335.1.Lo.E⟩,⟨x335.1.Hi.M,x335.1.Hi.E⟩⟩:AI) a1 x335.2).bind fun x336=>((ZF (⟨⟨x336.1.Lo.M,x336.1.Lo.E⟩,⟨x336.1.Hi.M,x336.1.Hi.E⟩⟩:AI) (-1) a1 x336.2).bind fun x337=>((Zs (⟨⟨x333.1.Lo.M,x333.1.Lo.E⟩,⟨x333.1.Hi.M,x333.1.Hi.E⟩⟩:AI) (⟨⟨x337.1.Lo.M,x337.1.Lo.E⟩,⟨x337.1.Hi.M,x337.1.Hi.E⟩⟩:AI) a1 x337.2).bind fun x338=>(zfR a1 x279 x276 y322 y323 y324 y325 y326 y327 fuel 1 x338.2 x338.1.Lo.M.Neg x338.1.Lo.M.Mag x338.1.Lo.E x338.1.Hi.M.Neg x338.1.Hi.M.Mag x338.1.Hi.E x279.1.Lo.M.Neg x279.1.Lo.M.Mag x279.1.Lo.E x279.1.Hi.M.Neg x279.1.Hi.M.Mag x279.1.Hi.E))))))))))))
def zfS (x276:Int × Int) (a0:AD) (a1:Int) (x279:AI × Int):Nat→Int→Int→Bool→List Int→Int→Bool→List Int→Int→Option (AI × Int)
 | 0,_,_,_,_,_,_,_,_=>none
 | n+1,y535,y536,y537,y538,y539,y540,y541,y542=>(if y535<x276.1 then ((zaK a0 a1 y536).bind fun x547=>((qN y535 a1 x547.2).bind fun x548=>((Zs (⟨⟨x547.1.Lo.M,x547.1.Lo.E⟩,⟨x547.1.Hi.M,x547.1.Hi.E⟩⟩:AI) (⟨⟨x548.1.Lo.M,x548.1.Lo.E⟩,⟨x548.1.Hi.M,x548.1.Hi.E⟩⟩:AI) a1 x548.2).bind fun x549=>((ZE (⟨⟨⟨y537,y538⟩,y539⟩,⟨⟨y540,y541⟩,y542⟩⟩:AI) (⟨⟨x549.1.Lo.M,x549.1.Lo.E⟩,⟨x549.1.Hi.M,x549.1.Hi.E⟩⟩:AI) a1 x549.2).bind fun x550=>((fun z0 z1 z2 z3 z4 z5 z6 z7=>zfS x276 a0 a1 x279 n z0 z1 z2 z3 z4 z5 z6 z7) (i64.wrap (y535+1)) x550.2 x550.1.Lo.M.Neg x550.1.Lo.M.Mag x550.1.Lo.E x550.1.Hi.M.Neg x550.1.Hi.M.Mag x550.1.Hi.E))))) else (zor a1 x279 x276 y536 y537 y538 y539 y540 y541 y542))
def zei (a0:AD) (a1:Int) (a2:Int):Option (AI × Int):=
 ((zbd a0).bind fun x276=>((zaK a0 a1 a2).bind fun x277=>((qN x276.1 a1 x277.2).bind fun x278=>((Zs (⟨⟨x277.1.Lo.M,x277.1.Lo.E⟩,⟨x277.1.Hi.M,x277.1.Hi.E⟩⟩:AI) (⟨⟨x278.1.Lo.M,x278.1.Lo.E⟩,⟨x278.1.Hi.M,x278.1.Hi.E⟩⟩:AI) a1 x278.2).bind fun x279=>((qN 1 a1 x279.2).bind fun x280=>(zfS x276 a0 a1 x279 fuel 0 x280.2 x280.1.Lo.M.Neg x280.1.Lo.M.Mag x280.1.Lo.E x280.1.Hi.M.Neg x280.1.Hi.M.Mag x280.1.Hi.E))))))
def zbR (a0:AD) (a1:Int):Option (AI × Int):=
 ((zbc a0 a1).bind fun x7=>(if ¬x7=0 then (some ((⟨⟨⟨false,[]⟩,0⟩,⟨⟨false,[]⟩,0⟩⟩:AI),x7)) else ((zab (i64.wrap (a1+64))).bind fun x8=>match x8 with | Sum.inl x9=>none | (Sum.inr x10)=>((zei a0 x10.1 x10.2).bind fun x11=>((QO (⟨⟨x11.1.Lo.M,x11.1.Lo.E⟩,⟨x11.1.Hi.M,x11.1.Hi.E⟩⟩:AI) a1 x10.1 x11.2).bind fun x12=>(some ((⟨⟨x12.1.Lo.M,x12.1.Lo.E⟩,⟨x12.1.Hi.M,x12.1.Hi.E⟩⟩:AI),x12.2)))))))
def zrP:Option Bool:=
 (some true)
def zfT (a0:za) (a1:za):Nat→Int→Option Bool
 | 0,_=>none
 | n+1,y10=>(if y10<(a0.Mag.length:Int) then (if 0≤y10∧y10<(a0.Mag.length:Int) then (if 0≤y10∧y10<(a1.Mag.length:Int) then (if ¬(a0.Mag.getD y10.toNat (kInt .u32).z)=(a1.Mag.getD y10.toNat (kInt .u32).z) then (some false) else ((fun z0=>zfT a0 a1 n z0) (i64.wrap (y10+1)))) else none) else none) else zrP)
def zos (a0:za) (a1:za) (y6:Bool):Option Bool:=
 (if y6=true then (some false) else (zfT a0 a1 fuel 0))
def zif (a0:za) (a1:za):Option Bool:=
 (if (a0.Neg != a1.Neg)=true then (zos a0 a1 true) else (zos a0 a1 ((a0.Mag.length:Int) != (a1.Mag.length:Int))))
def zot (y5:Bool):Option Bool:=
 (some y5)
def zfU (a0:AD) (a1:AD):Option Bool:=
 (if a0.E=a1.E then ((zif a0.M a1.M).bind fun x6=>(zot x6)) else (zot false))
def zou (y8:Bool):Option Bool:=
 (some y8)
def zig (a0:AI) (a1:AI):Option Bool:=
 ((zfU a0.Lo a1.Lo).bind fun x9=>(if x9=true then ((zfU a0.Hi a1.Hi).bind fun x10=>(zou x10)) else (zou false)))
def zfV (a0:AI) (a1:AI):Option Bool:=
 ((zig a0 a1).bind fun x2=>(some x2))
def zrQ (a1:Int) (y180:Int) (y181:Bool) (y182:List Int) (y183:Int) (y184:Bool) (y185:List Int) (y186:Int):Option (AI × Int):=
 ((zed (⟨⟨⟨y181,y182⟩,y183⟩,⟨⟨y184,y185⟩,y186⟩⟩:AI) a1 y180).bind fun x187=>(some ((⟨⟨x187.1.Lo.M,x187.1.Lo.E⟩,⟨x187.1.Hi.M,x187.1.Hi.E⟩⟩:AI),x187.2)))
def zfW (a1:Int) (a0:AI):Nat→Int→Int→Bool→List Int→Int→Bool→List Int→Int→Bool→List Int→Int→Bool→List Int→Int→Option (AI × Int)
 | 0,_,_,_,_,_,_,_,_,_,_,_,_,_,_=>none
 | n+1,y220,y221,y222,y223,y224,y225,y226,y227,y228,y229,y230,y231,y232,y233=>((zeb a1).bind fun x234=>(if y220≤x234 then ((ZE (⟨⟨⟨y228,y229⟩,y230⟩,⟨⟨y231,y232⟩,y233⟩⟩:AI) a0 a1 y221).bind fun x239=>((qN y220 a1 x239.2).bind fun x240=>((QN (⟨⟨x239.1.Lo.M,x239.1.Lo.E⟩,⟨x239.1.Hi.M,x239.1.Hi.E⟩⟩:AI) (⟨⟨x240.1.Lo.M,x240.1.Lo.E⟩,⟨x240.1.Hi.M,x240.1.Hi.E⟩⟩:AI) a1 x240.2).bind fun x241=>((Zs (⟨⟨⟨y222,y223⟩,y224⟩,⟨⟨y225,y226⟩,y227⟩⟩:AI) (⟨⟨x241.1.Lo.M,x241.1.Lo.E⟩,⟨x241.1.Hi.M,x241.1.Hi.E⟩⟩:AI) a1 x241.2).bind fun x242=>((fun z0 z1 z2 z3 z4 z5 z6 z7 z8 z9 z10 z11 z12 z13=>zfW a1 a0 n z0 z1 z2 z3 z4 z5 z6 z7 z8 z9 z10 z11 z12 z13) (i64.wrap (y220+1)) x242.2 x242.1.Lo.M.Neg x242.1.Lo.M.Mag x242.1.Lo.E x242.1.Hi.M.Neg x242.1.Hi.M.Mag x242.1.Hi.E x241.1.Lo.M.Neg x241.1.Lo.M.Mag x241.1.Lo.E x241.1.Hi.M.Neg x241.1.Hi.M.Mag x241.1.Hi.E))))) else (zrQ a1 y221 y222 y223 y224 y225 y226 y227)))
def zih (a0:AI) (a1:Int) (a2:Int):Option (AI × Int):=
 ((zea a0 (-3) a1 a2).bind fun x122=>(if ¬x122.1=true then (some ((⟨⟨⟨false,[]⟩,0⟩,⟨⟨false,[]⟩,0⟩⟩:AI),x122.2)) else ((qN 1 a1 x122.2).bind fun x123=>((qN 1 a1 x123.2).bind fun x124=>(zfW a1 a0 fuel 1 x124.2 x123.1.Lo.M.Neg x123.1.Lo.M.Mag x123.1.Lo.E x123.1.Hi.M.Neg x123.1.Hi.M.Mag x123.1.Hi.E x124.1.Lo.M.Neg x124.1.Lo.M.Mag x124.1.Lo.E x124.1.Hi.M.Neg x124.1.Hi.M.Mag x124.1.Hi.E)))))
def zrR (a1:Int) (x69:Int × Int) (y95:Int) (y96:Bool) (y97:List Int) (y98:Int) (y99:Bool) (y100:List Int) (y101:Int):Option (AI × Int):=
 ((QO (⟨⟨⟨y96,y97⟩,y98⟩,⟨⟨y99,y100⟩,y101⟩⟩:AI) a1 x69.1 y95).bind fun x102=>(some ((⟨⟨x102.1.Lo.M,x102.1.Lo.E⟩,⟨x102.1.Hi.M,x102.1.Hi.E⟩⟩:AI),x102.2)))
def zfX (y66:Int) (x69:Int × Int) (a1:Int):Nat→Int→Int→Bool→List Int→Int→Bool→List Int→Int→Option (AI × Int)
 | 0,_,_,_,_,_,_,_,_=>none
 | n+1,y115,y116,y117,y118,y119,y120,y121,y122=>(if y115<y66 then ((ZE (⟨⟨⟨y117,y118⟩,y119⟩,⟨⟨y120,y121⟩,y122⟩⟩:AI) (⟨⟨⟨y117,y118⟩,y119⟩,⟨⟨y120,y121⟩,y122⟩⟩:AI) x69.1 y116).bind fun x124=>((fun z0 z1 z2 z3 z4 z5 z6 z7=>zfX y66 x69 a1 n z0 z1 z2 z3 z4 z5 z6 z7) (i64.wrap (y115+1)) x124.2 x124.1.Lo.M.Neg x124.1.Lo.M.Mag x124.1.Lo.E x124.1.Hi.M.Neg x124.1.Hi.M.Mag x124.1.Hi.E)) else (zrR a1 x69 y116 y117 y118 y119 y120 y121 y122))
def zk8 (a1:Int) (a0:AD) (y66:Int):Option (AI × Int):=
 ((zab (i64.wrap (a1+32))).bind fun x67=>match x67 with | Sum.inl x68=>none | (Sum.inr x69)=>((zaK a0 x69.1 x69.2).bind fun x70=>((ZF (⟨⟨x70.1.Lo.M,x70.1.Lo.E⟩,⟨x70.1.Hi.M,x70.1.Hi.E⟩⟩:AI) (i64.wrap (0-y66)) x69.1 x70.2).bind fun x71=>((zih (⟨⟨x71.1.Lo.M,x71.1.Lo.E⟩,⟨x71.1.Hi.M,x71.1.Hi.E⟩⟩:AI) x69.1 x71.2).bind fun x72=>(zfX y66 x69 a1 fuel 0 x72.2 x72.1.Lo.M.Neg x72.1.Lo.M.Mag x72.1.Lo.E x72.1.Hi.M.Neg x72.1.Hi.M.Mag x72.1.Hi.E)))))
def zov (x64:Int × Bool) (a1:Int) (a0:AD) (y65:Bool):Option (AI × Int):=
 (if y65=true then (some ((⟨⟨⟨false,[]⟩,0⟩,⟨⟨false,[]⟩,0⟩⟩:AI),4)) else (if x64.2=true then (zk8 a1 a0 (mx (i64.wrap (x64.1+3)) 0)) else (zk8 a1 a0 0)))
def zfY (a0:AD) (a1:Int):Option (AI × Int):=
 ((zbh a0 a1).bind fun x63=>(if ¬x63=true then (some ((⟨⟨⟨false,[]⟩,0⟩,⟨⟨false,[]⟩,0⟩⟩:AI),1)) else ((zfL a0).bind fun x64=>(if x64.2=true then (zov x64 a1 a0 (decide (x64.1>11))) else (zov x64 a1 a0 false)))))
def zk9 (a0:AI) (a1:Int) (y12:Bool):Option (AI × Int):=
 (if y12=true then (some ((⟨⟨⟨false,[]⟩,0⟩,⟨⟨false,[]⟩,0⟩⟩:AI),1)) else ((zfY a0.Lo a1).bind fun x13=>(if ¬x13.2=0 then (some ((⟨⟨⟨false,[]⟩,0⟩,⟨⟨false,[]⟩,0⟩⟩:AI),x13.2)) else ((zfY a0.Hi a1).bind fun x14=>(if ¬x14.2=0 then (some ((⟨⟨⟨false,[]⟩,0⟩,⟨⟨false,[]⟩,0⟩⟩:AI),x14.2)) else (some ((⟨⟨x13.1.Lo.M,x13.1.Lo.E⟩,⟨x14.1.Hi.M,x14.1.Hi.E⟩⟩:AI),0)))))))
def zfZ (a0:AI) (a1:Int):Option (AI × Int):=
 ((Qr a0).bind fun x9=>(if ¬x9=true then (zk9 a0 a1 true) else ((zbh a0.Lo a1).bind fun x15=>(if ¬x15=true then (zk9 a0 a1 true) else ((zbh a0.Hi a1).bind fun x16=>(zk9 a0 a1 (!x16)))))))
def zaN (a0:AD) (a1:Int):Option (AI × Int):=
 ((zbc a0 a1).bind fun x9=>(if ¬x9=0 then (some ((⟨⟨⟨false,[]⟩,0⟩,⟨⟨false,[]⟩,0⟩⟩:AI),x9)) else ((zab (i64.wrap (a1+96))).bind fun x10=>match x10 with | Sum.inl x11=>none | (Sum.inr x12)=>((zei a0 x12.1 x12.2).bind fun x13=>((QO (⟨⟨x13.1.Lo.M,x13.1.Lo.E⟩,⟨x13.1.Hi.M,x13.1.Hi.E⟩⟩:AI) (i64.wrap (a1+64)) x12.1 x13.2).bind fun x14=>(if ¬x14.2=0 then (some ((⟨⟨⟨false,[]⟩,0⟩,⟨⟨false,[]⟩,0⟩⟩:AI),x14.2)) else ((zfZ (⟨⟨x14.1.Lo.M,x14.1.Lo.E⟩,⟨x14.1.Hi.M,x14.1.Hi.E⟩⟩:AI) (i64.wrap (a1+32))).bind fun x15=>(if ¬x15.2=0 then (some ((⟨⟨⟨false,[]⟩,0⟩,⟨⟨false,[]⟩,0⟩⟩:AI),x15.2)) else ((QO (⟨⟨x15.1.Lo.M,x15.1.Lo.E⟩,⟨x15.1.Hi.M,x15.1.Hi.E⟩⟩:AI) a1 x12.1 x13.2).bind fun x16=>(some ((⟨⟨x16.1.Lo.M,x16.1.Lo.E⟩,⟨x16.1.Hi.M,x16.1.Hi.E⟩⟩:AI),x16.2)))))))))))
def zf0 (y26:Bool):Option Bool:=
 (some y26)
def zf1 (y30:Bool):Option Bool:=
 (some y30)
def zbS (a3:Bool) (x17:AD) (a1:Int) (x16:Bool) (y22:Bool):Option Bool:=
 (if y22=true then (some false) else (if a3=true then ((zbe (⟨x17.M,x17.E⟩:AD) a1).bind fun x23=>((zbR (⟨x17.M,x17.E⟩:AD) a1).bind fun x24=>((zfV (⟨⟨x23.1.Lo.M,x23.1.Lo.E⟩,⟨x23.1.Hi.M,x23.1.Hi.E⟩⟩:AI) (⟨⟨x24.1.Lo.M,x24.1.Lo.E⟩,⟨x24.1.Hi.M,x24.1.Hi.E⟩⟩:AI)).bind fun x25=>(if x16=true then (if x25=true then (zf0 (x23.2 == x24.2)) else (zf0 false)) else (zf0 false))))) else ((Zr (⟨x17.M,x17.E⟩:AD) a1).bind fun x27=>((zaN (⟨x17.M,x17.E⟩:AD) a1).bind fun x28=>((zfV (⟨⟨x27.1.Lo.M,x27.1.Lo.E⟩,⟨x27.1.Hi.M,x27.1.Hi.E⟩⟩:AI) (⟨⟨x28.1.Lo.M,x28.1.Lo.E⟩,⟨x28.1.Hi.M,x28.1.Hi.E⟩⟩:AI)).bind fun x29=>(if x16=true then (if x29=true then (zf1 (x27.2 == x28.2)) else (zf1 false)) else (zf1 false)))))))
def zla (a0:AD) (a1:Int) (a2:Int) (a3:Bool):Option Bool:=
 (zhS.bind fun x16=>(if ¬x16=true then (some false) else ((zhT a0 8).bind fun x17=>((zaB (⟨x17.M,x17.E⟩:AD)).bind fun x18=>((zbd (⟨x17.M,x17.E⟩:AD)).bind fun x19=>((zaG a2).bind fun x20=>((zfG a2).bind fun x21=>(if ¬x18.1=x19.1 then (zbS a3 x17 a1 x16 true) else (if ¬x18.2=x19.2 then (zbS a3 x17 a1 x16 true) else (if ¬x20.1=x21.1 then (zbS a3 x17 a1 x16 true) else (if ¬x20.2.1=x21.2.1 then (zbS a3 x17 a1 x16 true) else (zbS a3 x17 a1 x16 (x20.2.2 != x21.2.2)))))))))))))
end Go.Proofs.YtjffljhmjdljeaaGreat.Gen
