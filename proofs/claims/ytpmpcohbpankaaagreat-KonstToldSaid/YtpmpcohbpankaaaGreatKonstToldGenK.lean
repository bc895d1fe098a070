/- Printed by gen.py: kinds, and facts on types. -/
import Derived.Test.YtpmpcohbpankaaaGreatKonstToldGenD
import Derived.Test.YtpmpcohbpankaaaGreatProg
import Derived.KernelRfl
namespace Go.Proofs.YtpmpcohbpankaaaGreat.Gen
open Go Go.Abs Go.Proofs Go.Proofs.Tryz
def kN:Kd ApiInt:=⟨fun x=>[(.bool x.Neg),(slK (kInt .u32) x.Mag)],2,zAN,fun _=>rfl,fun _=>rfl,fun x=>(Abs.Data.cons (.bool _) (Abs.Data.cons (fun _=>ren_sl _) Abs.Data.nil))⟩
def kZintSize:Kd ZintSize:=⟨fun x=>[(slK (kInt .u32) x.mag)],1,zZintSize,fun _=>rfl,fun _=>rfl,fun x=>(Abs.Data.cons (fun _=>ren_sl _) Abs.Data.nil)⟩
def kZintSigned:Kd ZintSigned:=⟨fun x=>[(slK (kInt .u32) x.size.mag),(.bool x.neg)],2,zZintSigned,fun _=>rfl,fun _=>rfl,fun x=>(Abs.Data.cons (fun _=>ren_sl _) (Abs.Data.cons (.bool _) Abs.Data.nil))⟩
def kD:Kd AD:=⟨fun x=>[(.bool x.M.Neg),(slK (kInt .u32) x.M.Mag),(.int .i64 x.E)],3,zAD,fun _=>rfl,fun _=>rfl,fun x=>(Abs.Data.cons (.bool _) (Abs.Data.cons (fun _=>ren_sl _) (Abs.Data.cons (.int _ _) Abs.Data.nil)))⟩
def kI:Kd AI:=⟨fun x=>[(.bool x.Lo.M.Neg),(slK (kInt .u32) x.Lo.M.Mag),(.int .i64 x.Lo.E),(.bool x.Hi.M.Neg),(slK (kInt .u32) x.Hi.M.Mag),(.int .i64 x.Hi.E)],6,zAI,fun _=>rfl,fun _=>rfl,fun x=>(Abs.Data.cons (.bool _) (Abs.Data.cons (fun _=>ren_sl _) (Abs.Data.cons (.int _ _) (Abs.Data.cons (.bool _) (Abs.Data.cons (fun _=>ren_sl _) (Abs.Data.cons (.int _ _) Abs.Data.nil))))))⟩
theorem ze45:Zero Tryz.prog 45 [(.int .i64 0),(.int .i64 0)]:=zero_of (by kernel_rfl)
theorem pl45:Places Tryz.prog 45 [(0,1),(1,1)]:=⟨_,underlying45,fun w=>by kernel_rfl⟩
theorem nm15:(Tryz.f15.name == "runtime.NumGoroutine")=false:=by kernel_rfl
theorem ze34:Zero Tryz.prog 34 [(.bool false),(slK (kInt .u32) []),(.int .i64 0),(.bool false),(slK (kInt .u32) []),(.int .i64 0)]:=zero_of (by kernel_rfl)
theorem ze126:Zero Tryz.prog 126 [.nilfn,(.int .i64 0),(.int .i64 0)]:=zero_of (by kernel_rfl)
theorem pl126:Places Tryz.prog 126 [(0,1),(1,1),(2,1)]:=⟨_,underlying126,fun w=>by kernel_rfl⟩
theorem si126:(Tryz.prog.info? 126).map (·.size)=some 3:=by kernel_rfl
theorem ag126:Agg Tryz.prog 126 3:=⟨_,underlying126,rfl,by kernel_rfl⟩
theorem fl126_0:Fld Tryz.prog 126 0 0:=fld_of (by kernel_rfl)
theorem sc58:Sca Tryz.prog 58:=⟨_,underlying58,rfl,by kernel_rfl⟩
theorem ze26:Zero Tryz.prog 26 [(.bool false),(slK (kInt .u32) []),(.int .i64 0)]:=zero_of (by kernel_rfl)
theorem ze24:Zero Tryz.prog 24 [(.bool false),(slK (kInt .u32) [])]:=zero_of (by kernel_rfl)
theorem ze77:Zero Tryz.prog 77 [(.int .u32 0)]:=zero_of (by kernel_rfl)
theorem si77:(Tryz.prog.info? 77).map (·.size)=some 1:=by kernel_rfl
theorem sc77:Sca Tryz.prog 77:=⟨_,underlying77,rfl,by kernel_rfl⟩
theorem nm142:(Tryz.f142.name == "runtime.NumGoroutine")=false:=by kernel_rfl
theorem nm122:(Tryz.f122.name == "runtime.NumGoroutine")=false:=by kernel_rfl
theorem pl24:Places Tryz.prog 24 [(0,1),(1,1)]:=⟨_,underlying24,fun w=>by kernel_rfl⟩
theorem ze122:Zero Tryz.prog 122 [(slK (kInt .u32) []),(.bool false)]:=zero_of (by kernel_rfl)
theorem fl24_1:Fld Tryz.prog 24 1 1:=fld_of (by kernel_rfl)
theorem sc22:Sca Tryz.prog 22:=⟨_,underlying22,rfl,by kernel_rfl⟩
theorem sb77:(Tryz.prog.info? 77).map (fun i=>(i.size,i.bytes))=some (1,4):=by kernel_rfl
theorem nm186:(Tryz.f186.name == "runtime.NumGoroutine")=false:=by kernel_rfl
theorem nm139:(Tryz.f139.name == "runtime.NumGoroutine")=false:=by kernel_rfl
theorem ze120:Zero Tryz.prog 120 [(slK (kInt .u32) [])]:=zero_of (by kernel_rfl)
theorem pl120:Places Tryz.prog 120 [(0,1)]:=⟨_,underlying120,fun w=>by kernel_rfl⟩
theorem fl24_0:Fld Tryz.prog 24 0 0:=fld_of (by kernel_rfl)
theorem sc4:Sca Tryz.prog 4:=⟨_,underlying4,rfl,by kernel_rfl⟩
theorem pl122:Places Tryz.prog 122 [(0,1),(1,1)]:=⟨_,underlying122,fun w=>by kernel_rfl⟩
theorem ag122:Agg Tryz.prog 122 2:=⟨_,underlying122,rfl,by kernel_rfl⟩
theorem nm123:(Tryz.f123.name == "runtime.NumGoroutine")=false:=by kernel_rfl
theorem fl122_1:Fld Tryz.prog 122 1 1:=fld_of (by kernel_rfl)
theorem fl122_0:Fld Tryz.prog 122 0 0:=fld_of (by kernel_rfl)
theorem ag120:Agg Tryz.prog 120 1:=⟨_,underlying120,rfl,by kernel_rfl⟩
theorem fl120_0:Fld Tryz.prog 120 0 0:=fld_of (by kernel_rfl)
theorem nm201:(Tryz.f201.name == "runtime.NumGoroutine")=false:=by kernel_rfl
theorem ag24:Agg Tryz.prog 24 2:=⟨_,underlying24,rfl,by kernel_rfl⟩
theorem nm176:(Tryz.f176.name == "runtime.NumGoroutine")=false:=by kernel_rfl
theorem nm121:(Tryz.f121.name == "runtime.NumGoroutine")=false:=by kernel_rfl
theorem nm60:(Tryz.f60.name == "runtime.NumGoroutine")=false:=by kernel_rfl
theorem pl26:Places Tryz.prog 26 [(0,2),(2,1)]:=⟨_,underlying26,fun w=>by kernel_rfl⟩
theorem ag26:Agg Tryz.prog 26 3:=⟨_,underlying26,rfl,by kernel_rfl⟩
theorem nm140:(Tryz.f140.name == "runtime.NumGoroutine")=false:=by kernel_rfl
theorem nm141:(Tryz.f141.name == "runtime.NumGoroutine")=false:=by kernel_rfl
theorem nm80:(Tryz.f80.name == "runtime.NumGoroutine")=false:=by kernel_rfl
theorem nm101:(Tryz.f101.name == "runtime.NumGoroutine")=false:=by kernel_rfl
theorem pl34:Places Tryz.prog 34 [(0,3),(3,3)]:=⟨_,underlying34,fun w=>by kernel_rfl⟩
theorem ag34:Agg Tryz.prog 34 6:=⟨_,underlying34,rfl,by kernel_rfl⟩
theorem si34:(Tryz.prog.info? 34).map (·.size)=some 6:=by kernel_rfl
theorem fl34_0:Fld Tryz.prog 34 0 0:=fld_of (by kernel_rfl)
theorem fl26_0:Fld Tryz.prog 26 0 0:=fld_of (by kernel_rfl)
theorem nm143:(Tryz.f143.name == "runtime.NumGoroutine")=false:=by kernel_rfl
theorem nm98:(Tryz.f98.name == "runtime.NumGoroutine")=false:=by kernel_rfl
theorem fl26_1:Fld Tryz.prog 26 1 2:=fld_of (by kernel_rfl)
theorem sc3:Sca Tryz.prog 3:=⟨_,underlying3,rfl,by kernel_rfl⟩
theorem nm135:(Tryz.f135.name == "runtime.NumGoroutine")=false:=by kernel_rfl
theorem nm83:(Tryz.f83.name == "runtime.NumGoroutine")=false:=by kernel_rfl
theorem fl34_1:Fld Tryz.prog 34 1 3:=fld_of (by kernel_rfl)
theorem nm151:(Tryz.f151.name == "runtime.NumGoroutine")=false:=by kernel_rfl
theorem nm99:(Tryz.f99.name == "runtime.NumGoroutine")=false:=by kernel_rfl
theorem nm187:(Tryz.f187.name == "runtime.NumGoroutine")=false:=by kernel_rfl
theorem nm146:(Tryz.f146.name == "runtime.NumGoroutine")=false:=by kernel_rfl
theorem nm100:(Tryz.f100.name == "runtime.NumGoroutine")=false:=by kernel_rfl
theorem nm138:(Tryz.f138.name == "runtime.NumGoroutine")=false:=by kernel_rfl
theorem nm79:(Tryz.f79.name == "runtime.NumGoroutine")=false:=by kernel_rfl
theorem nm185:(Tryz.f185.name == "runtime.NumGoroutine")=false:=by kernel_rfl
theorem nm136:(Tryz.f136.name == "runtime.NumGoroutine")=false:=by kernel_rfl
theorem nm202:(Tryz.f202.name == "runtime.NumGoroutine")=false:=by kernel_rfl
theorem nm177:(Tryz.f177.name == "runtime.NumGoroutine")=false:=by kernel_rfl
theorem nm203:(Tryz.f203.name == "runtime.NumGoroutine")=false:=by kernel_rfl
theorem nm178:(Tryz.f178.name == "runtime.NumGoroutine")=false:=by kernel_rfl
theorem nm126:(Tryz.f126.name == "runtime.NumGoroutine")=false:=by kernel_rfl
theorem nm77:(Tryz.f77.name == "runtime.NumGoroutine")=false:=by kernel_rfl
theorem nm37:(Tryz.f37.name == "runtime.NumGoroutine")=false:=by kernel_rfl
theorem nm82:(Tryz.f82.name == "runtime.NumGoroutine")=false:=by kernel_rfl
theorem fl45_0:Fld Tryz.prog 45 0 0:=fld_of (by kernel_rfl)
theorem fl43_0:Fld Tryz.prog 43 0 0:=fld_of (by kernel_rfl)
theorem sc29:Sca Tryz.prog 29:=⟨_,underlying29,rfl,by kernel_rfl⟩
theorem nm94:(Tryz.f94.name == "runtime.NumGoroutine")=false:=by kernel_rfl
theorem nm84:(Tryz.f84.name == "runtime.NumGoroutine")=false:=by kernel_rfl
theorem nm30:(Tryz.f30.name == "runtime.NumGoroutine")=false:=by kernel_rfl
theorem nm38:(Tryz.f38.name == "runtime.NumGoroutine")=false:=by kernel_rfl
theorem fl126_1:Fld Tryz.prog 126 1 1:=fld_of (by kernel_rfl)
theorem sc28:Sca Tryz.prog 28:=⟨_,underlying28,rfl,by kernel_rfl⟩
theorem nm22:(Tryz.f22.name == "runtime.NumGoroutine")=false:=by kernel_rfl
theorem nm95:(Tryz.f95.name == "runtime.NumGoroutine")=false:=by kernel_rfl
theorem si26:(Tryz.prog.info? 26).map (·.size)=some 3:=by kernel_rfl
theorem fl45_1:Fld Tryz.prog 45 1 1:=fld_of (by kernel_rfl)
theorem ze85:Zero Tryz.prog 85 [(.int .i64 0),(.bool false),(slK (kInt .u32) []),(.int .i64 0)]:=zero_of (by kernel_rfl)
theorem pl85:Places Tryz.prog 85 [(0,1),(1,3)]:=⟨_,underlying85,fun w=>by kernel_rfl⟩
theorem fl85_0:Fld Tryz.prog 85 0 0:=fld_of (by kernel_rfl)
theorem fl83_0:Fld Tryz.prog 83 0 0:=fld_of (by kernel_rfl)
theorem nm134:(Tryz.f134.name == "runtime.NumGoroutine")=false:=by kernel_rfl
theorem nm76:(Tryz.f76.name == "runtime.NumGoroutine")=false:=by kernel_rfl
theorem nm145:(Tryz.f145.name == "runtime.NumGoroutine")=false:=by kernel_rfl
theorem nm206:(Tryz.f206.name == "runtime.NumGoroutine")=false:=by kernel_rfl
theorem nm189:(Tryz.f189.name == "runtime.NumGoroutine")=false:=by kernel_rfl
theorem nm207:(Tryz.f207.name == "runtime.NumGoroutine")=false:=by kernel_rfl
theorem nm208:(Tryz.f208.name == "runtime.NumGoroutine")=false:=by kernel_rfl
theorem nm209:(Tryz.f209.name == "runtime.NumGoroutine")=false:=by kernel_rfl
theorem nm190:(Tryz.f190.name == "runtime.NumGoroutine")=false:=by kernel_rfl
theorem nm150:(Tryz.f150.name == "runtime.NumGoroutine")=false:=by kernel_rfl
theorem fl85_1:Fld Tryz.prog 85 1 1:=fld_of (by kernel_rfl)
theorem nm148:(Tryz.f148.name == "runtime.NumGoroutine")=false:=by kernel_rfl
theorem nm137:(Tryz.f137.name == "runtime.NumGoroutine")=false:=by kernel_rfl
theorem nm78:(Tryz.f78.name == "runtime.NumGoroutine")=false:=by kernel_rfl
theorem nm97:(Tryz.f97.name == "runtime.NumGoroutine")=false:=by kernel_rfl
theorem nm96:(Tryz.f96.name == "runtime.NumGoroutine")=false:=by kernel_rfl
theorem nm91:(Tryz.f91.name == "runtime.NumGoroutine")=false:=by kernel_rfl
theorem sb26:(Tryz.prog.info? 26).map (fun i=>(i.size,i.bytes))=some (3,40):=by kernel_rfl
theorem nm90:(Tryz.f90.name == "runtime.NumGoroutine")=false:=by kernel_rfl
theorem nm89:(Tryz.f89.name == "runtime.NumGoroutine")=false:=by kernel_rfl
theorem nm87:(Tryz.f87.name == "runtime.NumGoroutine")=false:=by kernel_rfl
theorem nm29:(Tryz.f29.name == "runtime.NumGoroutine")=false:=by kernel_rfl
theorem nm125:(Tryz.f125.name == "runtime.NumGoroutine")=false:=by kernel_rfl
theorem nm71:(Tryz.f71.name == "runtime.NumGoroutine")=false:=by kernel_rfl
theorem nm33:(Tryz.f33.name == "runtime.NumGoroutine")=false:=by kernel_rfl
theorem nm26:(Tryz.f26.name == "runtime.NumGoroutine")=false:=by kernel_rfl
theorem nm32:(Tryz.f32.name == "runtime.NumGoroutine")=false:=by kernel_rfl
theorem nm104:(Tryz.f104.name == "runtime.NumGoroutine")=false:=by kernel_rfl
theorem nm81:(Tryz.f81.name == "runtime.NumGoroutine")=false:=by kernel_rfl
theorem nm21:(Tryz.f21.name == "runtime.NumGoroutine")=false:=by kernel_rfl
theorem nm144:(Tryz.f144.name == "runtime.NumGoroutine")=false:=by kernel_rfl
theorem nm85:(Tryz.f85.name == "runtime.NumGoroutine")=false:=by kernel_rfl
theorem nm88:(Tryz.f88.name == "runtime.NumGoroutine")=false:=by kernel_rfl
theorem nm25:(Tryz.f25.name == "runtime.NumGoroutine")=false:=by kernel_rfl
theorem nm72:(Tryz.f72.name == "runtime.NumGoroutine")=false:=by kernel_rfl
theorem nm56:(Tryz.f56.name == "runtime.NumGoroutine")=false:=by kernel_rfl
theorem sc47:Sca Tryz.prog 47:=⟨_,underlying47,rfl,by kernel_rfl⟩
theorem nm175:(Tryz.f175.name == "runtime.NumGoroutine")=false:=by kernel_rfl
theorem nm19:(Tryz.f19.name == "runtime.NumGoroutine")=false:=by kernel_rfl
theorem nm86:(Tryz.f86.name == "runtime.NumGoroutine")=false:=by kernel_rfl
theorem nm23:(Tryz.f23.name == "runtime.NumGoroutine")=false:=by kernel_rfl
theorem nm35:(Tryz.f35.name == "runtime.NumGoroutine")=false:=by kernel_rfl
theorem nm154:(Tryz.f154.name == "runtime.NumGoroutine")=false:=by kernel_rfl
theorem nm119:(Tryz.f119.name == "runtime.NumGoroutine")=false:=by kernel_rfl
theorem nm52:(Tryz.f52.name == "runtime.NumGoroutine")=false:=by kernel_rfl
theorem sb34:(Tryz.prog.info? 34).map (fun i=>(i.size,i.bytes))=some (6,80):=by kernel_rfl
theorem fl126_2:Fld Tryz.prog 126 2 2:=fld_of (by kernel_rfl)
theorem nm75:(Tryz.f75.name == "runtime.NumGoroutine")=false:=by kernel_rfl
theorem nm58:(Tryz.f58.name == "runtime.NumGoroutine")=false:=by kernel_rfl
theorem nm124:(Tryz.f124.name == "runtime.NumGoroutine")=false:=by kernel_rfl
theorem nm24:(Tryz.f24.name == "runtime.NumGoroutine")=false:=by kernel_rfl
theorem nm62:(Tryz.f62.name == "runtime.NumGoroutine")=false:=by kernel_rfl
theorem nm153:(Tryz.f153.name == "runtime.NumGoroutine")=false:=by kernel_rfl
theorem nm158:(Tryz.f158.name == "runtime.NumGoroutine")=false:=by kernel_rfl
theorem nm103:(Tryz.f103.name == "runtime.NumGoroutine")=false:=by kernel_rfl
theorem nm108:(Tryz.f108.name == "runtime.NumGoroutine")=false:=by kernel_rfl
theorem nm156:(Tryz.f156.name == "runtime.NumGoroutine")=false:=by kernel_rfl
theorem nm191:(Tryz.f191.name == "runtime.NumGoroutine")=false:=by kernel_rfl
theorem nm157:(Tryz.f157.name == "runtime.NumGoroutine")=false:=by kernel_rfl
theorem nm107:(Tryz.f107.name == "runtime.NumGoroutine")=false:=by kernel_rfl
theorem nm44:(Tryz.f44.name == "runtime.NumGoroutine")=false:=by kernel_rfl
theorem nm181:(Tryz.f181.name == "runtime.NumGoroutine")=false:=by kernel_rfl
theorem nm130:(Tryz.f130.name == "runtime.NumGoroutine")=false:=by kernel_rfl
theorem nm182:(Tryz.f182.name == "runtime.NumGoroutine")=false:=by kernel_rfl
theorem nm131:(Tryz.f131.name == "runtime.NumGoroutine")=false:=by kernel_rfl
theorem nm183:(Tryz.f183.name == "runtime.NumGoroutine")=false:=by kernel_rfl
theorem nm132:(Tryz.f132.name == "runtime.NumGoroutine")=false:=by kernel_rfl
theorem nm205:(Tryz.f205.name == "runtime.NumGoroutine")=false:=by kernel_rfl
theorem nm184:(Tryz.f184.name == "runtime.NumGoroutine")=false:=by kernel_rfl
theorem nm133:(Tryz.f133.name == "runtime.NumGoroutine")=false:=by kernel_rfl
theorem nm74:(Tryz.f74.name == "runtime.NumGoroutine")=false:=by kernel_rfl
theorem nm59:(Tryz.f59.name == "runtime.NumGoroutine")=false:=by kernel_rfl
theorem ze65:Zero Tryz.prog 65 [(.int .i64 0),(.int .i64 0)]:=zero_of (by kernel_rfl)
theorem pl65:Places Tryz.prog 65 [(0,1),(1,1)]:=⟨_,underlying65,fun w=>by kernel_rfl⟩
theorem nm48:(Tryz.f48.name == "runtime.NumGoroutine")=false:=by kernel_rfl
theorem nm159:(Tryz.f159.name == "runtime.NumGoroutine")=false:=by kernel_rfl
theorem fl65_1:Fld Tryz.prog 65 1 1:=fld_of (by kernel_rfl)
theorem nm166:(Tryz.f166.name == "runtime.NumGoroutine")=false:=by kernel_rfl
theorem nm164:(Tryz.f164.name == "runtime.NumGoroutine")=false:=by kernel_rfl
theorem nm163:(Tryz.f163.name == "runtime.NumGoroutine")=false:=by kernel_rfl
theorem nm113:(Tryz.f113.name == "runtime.NumGoroutine")=false:=by kernel_rfl
theorem nm165:(Tryz.f165.name == "runtime.NumGoroutine")=false:=by kernel_rfl
theorem fl65_0:Fld Tryz.prog 65 0 0:=fld_of (by kernel_rfl)
theorem nm193:(Tryz.f193.name == "runtime.NumGoroutine")=false:=by kernel_rfl
theorem nm194:(Tryz.f194.name == "runtime.NumGoroutine")=false:=by kernel_rfl
theorem nm210:(Tryz.f210.name == "runtime.NumGoroutine")=false:=by kernel_rfl
theorem nm211:(Tryz.f211.name == "runtime.NumGoroutine")=false:=by kernel_rfl
theorem nm213:(Tryz.f213.name == "runtime.NumGoroutine")=false:=by kernel_rfl
theorem nm212:(Tryz.f212.name == "runtime.NumGoroutine")=false:=by kernel_rfl
theorem nm195:(Tryz.f195.name == "runtime.NumGoroutine")=false:=by kernel_rfl
theorem nm214:(Tryz.f214.name == "runtime.NumGoroutine")=false:=by kernel_rfl
theorem nm197:(Tryz.f197.name == "runtime.NumGoroutine")=false:=by kernel_rfl
theorem nm152:(Tryz.f152.name == "runtime.NumGoroutine")=false:=by kernel_rfl
theorem nm196:(Tryz.f196.name == "runtime.NumGoroutine")=false:=by kernel_rfl
theorem nm167:(Tryz.f167.name == "runtime.NumGoroutine")=false:=by kernel_rfl
theorem nm169:(Tryz.f169.name == "runtime.NumGoroutine")=false:=by kernel_rfl
theorem nm170:(Tryz.f170.name == "runtime.NumGoroutine")=false:=by kernel_rfl
theorem nm168:(Tryz.f168.name == "runtime.NumGoroutine")=false:=by kernel_rfl
theorem nm114:(Tryz.f114.name == "runtime.NumGoroutine")=false:=by kernel_rfl
theorem nm102:(Tryz.f102.name == "runtime.NumGoroutine")=false:=by kernel_rfl
theorem nm160:(Tryz.f160.name == "runtime.NumGoroutine")=false:=by kernel_rfl
theorem nm192:(Tryz.f192.name == "runtime.NumGoroutine")=false:=by kernel_rfl
theorem nm162:(Tryz.f162.name == "runtime.NumGoroutine")=false:=by kernel_rfl
theorem nm161:(Tryz.f161.name == "runtime.NumGoroutine")=false:=by kernel_rfl
theorem nm112:(Tryz.f112.name == "runtime.NumGoroutine")=false:=by kernel_rfl
theorem nm198:(Tryz.f198.name == "runtime.NumGoroutine")=false:=by kernel_rfl
theorem nm171:(Tryz.f171.name == "runtime.NumGoroutine")=false:=by kernel_rfl
theorem nm199:(Tryz.f199.name == "runtime.NumGoroutine")=false:=by kernel_rfl
theorem nm172:(Tryz.f172.name == "runtime.NumGoroutine")=false:=by kernel_rfl
theorem nm115:(Tryz.f115.name == "runtime.NumGoroutine")=false:=by kernel_rfl
theorem nm57:(Tryz.f57.name == "runtime.NumGoroutine")=false:=by kernel_rfl
theorem nm118:(Tryz.f118.name == "runtime.NumGoroutine")=false:=by kernel_rfl
theorem nm215:(Tryz.f215.name == "runtime.NumGoroutine")=false:=by kernel_rfl
theorem nm200:(Tryz.f200.name == "runtime.NumGoroutine")=false:=by kernel_rfl
theorem nm173:(Tryz.f173.name == "runtime.NumGoroutine")=false:=by kernel_rfl
theorem nm116:(Tryz.f116.name == "runtime.NumGoroutine")=false:=by kernel_rfl
theorem nm174:(Tryz.f174.name == "runtime.NumGoroutine")=false:=by kernel_rfl
theorem nm117:(Tryz.f117.name == "runtime.NumGoroutine")=false:=by kernel_rfl
theorem nm53:(Tryz.f53.name == "runtime.NumGoroutine")=false:=by kernel_rfl
theorem nm179:(Tryz.f179.name == "runtime.NumGoroutine")=false:=by kernel_rfl
theorem nm128:(Tryz.f128.name == "runtime.NumGoroutine")=false:=by kernel_rfl
theorem nm127:(Tryz.f127.name == "runtime.NumGoroutine")=false:=by kernel_rfl
theorem nm67:(Tryz.f67.name == "runtime.NumGoroutine")=false:=by kernel_rfl
theorem nm188:(Tryz.f188.name == "runtime.NumGoroutine")=false:=by kernel_rfl
theorem nm149:(Tryz.f149.name == "runtime.NumGoroutine")=false:=by kernel_rfl
theorem nm93:(Tryz.f93.name == "runtime.NumGoroutine")=false:=by kernel_rfl
theorem nm66:(Tryz.f66.name == "runtime.NumGoroutine")=false:=by kernel_rfl
theorem nm120:(Tryz.f120.name == "runtime.NumGoroutine")=false:=by kernel_rfl
theorem nm54:(Tryz.f54.name == "runtime.NumGoroutine")=false:=by kernel_rfl
theorem nm63:(Tryz.f63.name == "runtime.NumGoroutine")=false:=by kernel_rfl
theorem nm55:(Tryz.f55.name == "runtime.NumGoroutine")=false:=by kernel_rfl
theorem nm68:(Tryz.f68.name == "runtime.NumGoroutine")=false:=by kernel_rfl
theorem nm147:(Tryz.f147.name == "runtime.NumGoroutine")=false:=by kernel_rfl
theorem nm92:(Tryz.f92.name == "runtime.NumGoroutine")=false:=by kernel_rfl
theorem nm27:(Tryz.f27.name == "runtime.NumGoroutine")=false:=by kernel_rfl
theorem nm69:(Tryz.f69.name == "runtime.NumGoroutine")=false:=by kernel_rfl
theorem nm204:(Tryz.f204.name == "runtime.NumGoroutine")=false:=by kernel_rfl
theorem nm180:(Tryz.f180.name == "runtime.NumGoroutine")=false:=by kernel_rfl
theorem nm129:(Tryz.f129.name == "runtime.NumGoroutine")=false:=by kernel_rfl
theorem nm70:(Tryz.f70.name == "runtime.NumGoroutine")=false:=by kernel_rfl
theorem nm12:(Tryz.f12.name == "runtime.NumGoroutine")=false:=by kernel_rfl
theorem mixed:Tryz.prog.follows .mixedOrders=true:=by kernel_rfl
end Go.Proofs.YtpmpcohbpankaaaGreat.Gen
