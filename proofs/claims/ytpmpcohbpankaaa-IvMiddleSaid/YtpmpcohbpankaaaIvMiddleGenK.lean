/- Printed by gen.py: kinds, and facts on types. -/
import Derived.Test.YtpmpcohbpankaaaIvMiddleGenD
import Derived.Test.YtpmpcohbpankaaaProg
import Derived.KernelRfl
namespace Go.Proofs.Ytpmpcohbpankaaa.Gen
open Go Go.Abs Go.Proofs

def kApiInt : Kd ApiInt := ⟨fun x => [(.bool x.Neg), (slK (kInt .u32) x.Mag)], 2, zApiInt, fun _ => rfl, fun _ => rfl, fun x => (Abs.Data.cons (.bool _) (Abs.Data.cons (fun _ => ren_sl _) Abs.Data.nil))⟩
def kApiDy : Kd ApiDy := ⟨fun x => [(.bool x.M.Neg), (slK (kInt .u32) x.M.Mag), (.int .i64 x.E)], 3, zApiDy, fun _ => rfl, fun _ => rfl, fun x => (Abs.Data.cons (.bool _) (Abs.Data.cons (fun _ => ren_sl _) (Abs.Data.cons (.int _ _) Abs.Data.nil)))⟩
def kZintSize : Kd ZintSize := ⟨fun x => [(slK (kInt .u32) x.mag)], 1, zZintSize, fun _ => rfl, fun _ => rfl, fun x => (Abs.Data.cons (fun _ => ren_sl _) Abs.Data.nil)⟩
def kZintSigned : Kd ZintSigned := ⟨fun x => [(slK (kInt .u32) x.size.mag), (.bool x.neg)], 2, zZintSigned, fun _ => rfl, fun _ => rfl, fun x => (Abs.Data.cons (fun _ => ren_sl _) (Abs.Data.cons (.bool _) Abs.Data.nil))⟩
def kApiIv : Kd ApiIv := ⟨fun x => [(.bool x.Lo.M.Neg), (slK (kInt .u32) x.Lo.M.Mag), (.int .i64 x.Lo.E), (.bool x.Hi.M.Neg), (slK (kInt .u32) x.Hi.M.Mag), (.int .i64 x.Hi.E)], 6, zApiIv, fun _ => rfl, fun _ => rfl, fun x => (Abs.Data.cons (.bool _) (Abs.Data.cons (fun _ => ren_sl _) (Abs.Data.cons (.int _ _) (Abs.Data.cons (.bool _) (Abs.Data.cons (fun _ => ren_sl _) (Abs.Data.cons (.int _ _) Abs.Data.nil))))))⟩

theorem ze47 : Zero Try.prog 47 [(.int .i64 0), (.int .i64 0)] := zero_of (by kernel_rfl)
theorem pl47 : Places Try.prog 47 [(0, 1), (1, 1)] := ⟨_, Try.underlying47, fun w => by kernel_rfl⟩
theorem nm6 : (Try.f6.name == "runtime.NumGoroutine") = false := by kernel_rfl
theorem ze34 : Zero Try.prog 34 [(.bool false), (slK (kInt .u32) []), (.int .i64 0), (.bool false), (slK (kInt .u32) []), (.int .i64 0)] := zero_of (by kernel_rfl)
theorem ze26 : Zero Try.prog 26 [(.bool false), (slK (kInt .u32) []), (.int .i64 0)] := zero_of (by kernel_rfl)
theorem ze24 : Zero Try.prog 24 [(.bool false), (slK (kInt .u32) [])] := zero_of (by kernel_rfl)
theorem ze55 : Zero Try.prog 55 [(.int .u32 0)] := zero_of (by kernel_rfl)
theorem si55 : (Try.prog.info? 55).map (·.size) = some 1 := by kernel_rfl
theorem sc55 : Sca Try.prog 55 := ⟨_, Try.underlying55, rfl, by kernel_rfl⟩
theorem nm85 : (Try.f85.name == "runtime.NumGoroutine") = false := by kernel_rfl
theorem nm94 : (Try.f94.name == "runtime.NumGoroutine") = false := by kernel_rfl
theorem pl24 : Places Try.prog 24 [(0, 1), (1, 1)] := ⟨_, Try.underlying24, fun w => by kernel_rfl⟩
theorem ze96 : Zero Try.prog 96 [(slK (kInt .u32) []), (.bool false)] := zero_of (by kernel_rfl)
theorem fl24_1 : Fld Try.prog 24 1 1 := fld_of (by kernel_rfl)
theorem sc22 : Sca Try.prog 22 := ⟨_, Try.underlying22, rfl, by kernel_rfl⟩
theorem sb55 : (Try.prog.info? 55).map (fun i => (i.size, i.bytes)) = some (1, 4) := by kernel_rfl
theorem nm100 : (Try.f100.name == "runtime.NumGoroutine") = false := by kernel_rfl
theorem nm84 : (Try.f84.name == "runtime.NumGoroutine") = false := by kernel_rfl
theorem ze94 : Zero Try.prog 94 [(slK (kInt .u32) [])] := zero_of (by kernel_rfl)
theorem pl94 : Places Try.prog 94 [(0, 1)] := ⟨_, Try.underlying94, fun w => by kernel_rfl⟩
theorem fl24_0 : Fld Try.prog 24 0 0 := fld_of (by kernel_rfl)
theorem sc4 : Sca Try.prog 4 := ⟨_, Try.underlying4, rfl, by kernel_rfl⟩
theorem pl96 : Places Try.prog 96 [(0, 1), (1, 1)] := ⟨_, Try.underlying96, fun w => by kernel_rfl⟩
theorem ag96 : Agg Try.prog 96 2 := ⟨_, Try.underlying96, rfl, by kernel_rfl⟩
theorem nm63 : (Try.f63.name == "runtime.NumGoroutine") = false := by kernel_rfl
theorem fl96_1 : Fld Try.prog 96 1 1 := fld_of (by kernel_rfl)
theorem fl96_0 : Fld Try.prog 96 0 0 := fld_of (by kernel_rfl)
theorem ag94 : Agg Try.prog 94 1 := ⟨_, Try.underlying94, rfl, by kernel_rfl⟩
theorem fl94_0 : Fld Try.prog 94 0 0 := fld_of (by kernel_rfl)
theorem nm107 : (Try.f107.name == "runtime.NumGoroutine") = false := by kernel_rfl
theorem ag24 : Agg Try.prog 24 2 := ⟨_, Try.underlying24, rfl, by kernel_rfl⟩
theorem nm99 : (Try.f99.name == "runtime.NumGoroutine") = false := by kernel_rfl
theorem nm83 : (Try.f83.name == "runtime.NumGoroutine") = false := by kernel_rfl
theorem nm74 : (Try.f74.name == "runtime.NumGoroutine") = false := by kernel_rfl
theorem pl26 : Places Try.prog 26 [(0, 2), (2, 1)] := ⟨_, Try.underlying26, fun w => by kernel_rfl⟩
theorem ag26 : Agg Try.prog 26 3 := ⟨_, Try.underlying26, rfl, by kernel_rfl⟩
theorem nm90 : (Try.f90.name == "runtime.NumGoroutine") = false := by kernel_rfl
theorem nm91 : (Try.f91.name == "runtime.NumGoroutine") = false := by kernel_rfl
theorem nm68 : (Try.f68.name == "runtime.NumGoroutine") = false := by kernel_rfl
theorem nm51 : (Try.f51.name == "runtime.NumGoroutine") = false := by kernel_rfl
theorem pl34 : Places Try.prog 34 [(0, 3), (3, 3)] := ⟨_, Try.underlying34, fun w => by kernel_rfl⟩
theorem ag34 : Agg Try.prog 34 6 := ⟨_, Try.underlying34, rfl, by kernel_rfl⟩
theorem si34 : (Try.prog.info? 34).map (·.size) = some 6 := by kernel_rfl
theorem fl34_0 : Fld Try.prog 34 0 0 := fld_of (by kernel_rfl)
theorem fl26_0 : Fld Try.prog 26 0 0 := fld_of (by kernel_rfl)
theorem nm62 : (Try.f62.name == "runtime.NumGoroutine") = false := by kernel_rfl
theorem nm35 : (Try.f35.name == "runtime.NumGoroutine") = false := by kernel_rfl
theorem fl26_1 : Fld Try.prog 26 1 2 := fld_of (by kernel_rfl)
theorem sc3 : Sca Try.prog 3 := ⟨_, Try.underlying3, rfl, by kernel_rfl⟩
theorem nm60 : (Try.f60.name == "runtime.NumGoroutine") = false := by kernel_rfl
theorem nm34 : (Try.f34.name == "runtime.NumGoroutine") = false := by kernel_rfl
theorem fl34_1 : Fld Try.prog 34 1 3 := fld_of (by kernel_rfl)
theorem nm64 : (Try.f64.name == "runtime.NumGoroutine") = false := by kernel_rfl
theorem nm36 : (Try.f36.name == "runtime.NumGoroutine") = false := by kernel_rfl
theorem nm86 : (Try.f86.name == "runtime.NumGoroutine") = false := by kernel_rfl
theorem nm65 : (Try.f65.name == "runtime.NumGoroutine") = false := by kernel_rfl
theorem nm37 : (Try.f37.name == "runtime.NumGoroutine") = false := by kernel_rfl
theorem nm61 : (Try.f61.name == "runtime.NumGoroutine") = false := by kernel_rfl
theorem nm33 : (Try.f33.name == "runtime.NumGoroutine") = false := by kernel_rfl
theorem nm89 : (Try.f89.name == "runtime.NumGoroutine") = false := by kernel_rfl
theorem nm67 : (Try.f67.name == "runtime.NumGoroutine") = false := by kernel_rfl
theorem nm101 : (Try.f101.name == "runtime.NumGoroutine") = false := by kernel_rfl
theorem nm87 : (Try.f87.name == "runtime.NumGoroutine") = false := by kernel_rfl
theorem nm102 : (Try.f102.name == "runtime.NumGoroutine") = false := by kernel_rfl
theorem nm88 : (Try.f88.name == "runtime.NumGoroutine") = false := by kernel_rfl
theorem nm66 : (Try.f66.name == "runtime.NumGoroutine") = false := by kernel_rfl
theorem nm38 : (Try.f38.name == "runtime.NumGoroutine") = false := by kernel_rfl
theorem nm14 : (Try.f14.name == "runtime.NumGoroutine") = false := by kernel_rfl
theorem nm39 : (Try.f39.name == "runtime.NumGoroutine") = false := by kernel_rfl
theorem fl47_0 : Fld Try.prog 47 0 0 := fld_of (by kernel_rfl)
theorem fl45_0 : Fld Try.prog 45 0 0 := fld_of (by kernel_rfl)
theorem sc29 : Sca Try.prog 29 := ⟨_, Try.underlying29, rfl, by kernel_rfl⟩
theorem nm45 : (Try.f45.name == "runtime.NumGoroutine") = false := by kernel_rfl
theorem nm28 : (Try.f28.name == "runtime.NumGoroutine") = false := by kernel_rfl
theorem nm13 : (Try.f13.name == "runtime.NumGoroutine") = false := by kernel_rfl
theorem nm23 : (Try.f23.name == "runtime.NumGoroutine") = false := by kernel_rfl
theorem sc28 : Sca Try.prog 28 := ⟨_, Try.underlying28, rfl, by kernel_rfl⟩
theorem nm15 : (Try.f15.name == "runtime.NumGoroutine") = false := by kernel_rfl
theorem nm46 : (Try.f46.name == "runtime.NumGoroutine") = false := by kernel_rfl
theorem si26 : (Try.prog.info? 26).map (·.size) = some 3 := by kernel_rfl
theorem fl47_1 : Fld Try.prog 47 1 1 := fld_of (by kernel_rfl)
theorem ze71 : Zero Try.prog 71 [(.int .i64 0), (.bool false), (slK (kInt .u32) []), (.int .i64 0)] := zero_of (by kernel_rfl)
theorem pl71 : Places Try.prog 71 [(0, 1), (1, 3)] := ⟨_, Try.underlying71, fun w => by kernel_rfl⟩
theorem fl71_0 : Fld Try.prog 71 0 0 := fld_of (by kernel_rfl)
theorem fl69_0 : Fld Try.prog 69 0 0 := fld_of (by kernel_rfl)
theorem nm59 : (Try.f59.name == "runtime.NumGoroutine") = false := by kernel_rfl
theorem nm43 : (Try.f43.name == "runtime.NumGoroutine") = false := by kernel_rfl
theorem nm71 : (Try.f71.name == "runtime.NumGoroutine") = false := by kernel_rfl
theorem nm103 : (Try.f103.name == "runtime.NumGoroutine") = false := by kernel_rfl
theorem nm92 : (Try.f92.name == "runtime.NumGoroutine") = false := by kernel_rfl
theorem nm104 : (Try.f104.name == "runtime.NumGoroutine") = false := by kernel_rfl
theorem nm105 : (Try.f105.name == "runtime.NumGoroutine") = false := by kernel_rfl
theorem nm106 : (Try.f106.name == "runtime.NumGoroutine") = false := by kernel_rfl
theorem nm93 : (Try.f93.name == "runtime.NumGoroutine") = false := by kernel_rfl
theorem nm72 : (Try.f72.name == "runtime.NumGoroutine") = false := by kernel_rfl
theorem fl71_1 : Fld Try.prog 71 1 1 := fld_of (by kernel_rfl)
theorem nm73 : (Try.f73.name == "runtime.NumGoroutine") = false := by kernel_rfl
theorem nm70 : (Try.f70.name == "runtime.NumGoroutine") = false := by kernel_rfl
theorem nm44 : (Try.f44.name == "runtime.NumGoroutine") = false := by kernel_rfl
theorem nm48 : (Try.f48.name == "runtime.NumGoroutine") = false := by kernel_rfl
theorem nm47 : (Try.f47.name == "runtime.NumGoroutine") = false := by kernel_rfl
theorem nm29 : (Try.f29.name == "runtime.NumGoroutine") = false := by kernel_rfl
theorem sb26 : (Try.prog.info? 26).map (fun i => (i.size, i.bytes)) = some (3, 40) := by kernel_rfl
theorem nm50 : (Try.f50.name == "runtime.NumGoroutine") = false := by kernel_rfl
theorem nm49 : (Try.f49.name == "runtime.NumGoroutine") = false := by kernel_rfl
theorem nm31 : (Try.f31.name == "runtime.NumGoroutine") = false := by kernel_rfl
theorem nm22 : (Try.f22.name == "runtime.NumGoroutine") = false := by kernel_rfl
theorem nm82 : (Try.f82.name == "runtime.NumGoroutine") = false := by kernel_rfl
theorem nm58 : (Try.f58.name == "runtime.NumGoroutine") = false := by kernel_rfl
theorem nm27 : (Try.f27.name == "runtime.NumGoroutine") = false := by kernel_rfl
theorem nm9 : (Try.f9.name == "runtime.NumGoroutine") = false := by kernel_rfl
theorem nm16 : (Try.f16.name == "runtime.NumGoroutine") = false := by kernel_rfl
theorem nm24 : (Try.f24.name == "runtime.NumGoroutine") = false := by kernel_rfl
theorem nm5 : (Try.f5.name == "runtime.NumGoroutine") = false := by kernel_rfl
theorem nm7 : (Try.f7.name == "runtime.NumGoroutine") = false := by kernel_rfl
theorem nm77 : (Try.f77.name == "runtime.NumGoroutine") = false := by kernel_rfl
theorem nm53 : (Try.f53.name == "runtime.NumGoroutine") = false := by kernel_rfl
theorem nm95 : (Try.f95.name == "runtime.NumGoroutine") = false := by kernel_rfl
theorem nm97 : (Try.f97.name == "runtime.NumGoroutine") = false := by kernel_rfl
theorem nm96 : (Try.f96.name == "runtime.NumGoroutine") = false := by kernel_rfl
theorem nm75 : (Try.f75.name == "runtime.NumGoroutine") = false := by kernel_rfl
theorem nm80 : (Try.f80.name == "runtime.NumGoroutine") = false := by kernel_rfl
theorem nm56 : (Try.f56.name == "runtime.NumGoroutine") = false := by kernel_rfl
theorem nm76 : (Try.f76.name == "runtime.NumGoroutine") = false := by kernel_rfl
theorem nm52 : (Try.f52.name == "runtime.NumGoroutine") = false := by kernel_rfl
theorem nm25 : (Try.f25.name == "runtime.NumGoroutine") = false := by kernel_rfl
theorem nm78 : (Try.f78.name == "runtime.NumGoroutine") = false := by kernel_rfl
theorem nm54 : (Try.f54.name == "runtime.NumGoroutine") = false := by kernel_rfl
theorem nm79 : (Try.f79.name == "runtime.NumGoroutine") = false := by kernel_rfl
theorem nm55 : (Try.f55.name == "runtime.NumGoroutine") = false := by kernel_rfl
theorem nm98 : (Try.f98.name == "runtime.NumGoroutine") = false := by kernel_rfl
theorem nm81 : (Try.f81.name == "runtime.NumGoroutine") = false := by kernel_rfl
theorem nm57 : (Try.f57.name == "runtime.NumGoroutine") = false := by kernel_rfl
theorem nm26 : (Try.f26.name == "runtime.NumGoroutine") = false := by kernel_rfl
theorem nm8 : (Try.f8.name == "runtime.NumGoroutine") = false := by kernel_rfl
theorem nm20 : (Try.f20.name == "runtime.NumGoroutine") = false := by kernel_rfl
theorem nm40 : (Try.f40.name == "runtime.NumGoroutine") = false := by kernel_rfl
theorem nm30 : (Try.f30.name == "runtime.NumGoroutine") = false := by kernel_rfl
theorem nm69 : (Try.f69.name == "runtime.NumGoroutine") = false := by kernel_rfl
theorem nm41 : (Try.f41.name == "runtime.NumGoroutine") = false := by kernel_rfl
theorem nm17 : (Try.f17.name == "runtime.NumGoroutine") = false := by kernel_rfl
theorem nm42 : (Try.f42.name == "runtime.NumGoroutine") = false := by kernel_rfl
theorem nm18 : (Try.f18.name == "runtime.NumGoroutine") = false := by kernel_rfl
theorem nm19 : (Try.f19.name == "runtime.NumGoroutine") = false := by kernel_rfl
theorem nm21 : (Try.f21.name == "runtime.NumGoroutine") = false := by kernel_rfl
theorem nm4 : (Try.f4.name == "runtime.NumGoroutine") = false := by kernel_rfl
theorem mixed : Try.prog.follows .mixedOrders = true := by kernel_rfl

end Go.Proofs.Ytpmpcohbpankaaa.Gen
