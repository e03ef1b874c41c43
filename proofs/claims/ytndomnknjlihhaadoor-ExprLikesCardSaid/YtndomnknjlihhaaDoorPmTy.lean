/- PM: facts on the program's types (printed by a program of mine). -/
import Derived.Test.YtndomnknjlihhaaDoorPmC
import Derived.Test.YtndomnknjlihhaaDoorProg
set_option linter.unusedVariables false
set_option linter.unusedSimpArgs false
namespace Go.Proofs.YtndomnknjlihhaaDoor.PM
theorem sz2 : szOf Tryd.prog 2 = some (false, 1) := by kernel_rfl
theorem ze2 : zeroA Tryd.prog 2 = some [.d (.int .i64 0)] := by kernel_rfl
theorem by2 : bytesOf Tryd.prog 2 = some 8 := by kernel_rfl
theorem zv2 : zeroV Tryd.prog 2 = some (.d (.int .i64 0)) := by kernel_rfl
theorem cl2 : clsOf Tryd.prog 2 = some 0 := by kernel_rfl
theorem ps2 : plainSt Tryd.prog 2 = none := by kernel_rfl
theorem st2 : isStr Tryd.prog 2 = false := by kernel_rfl
theorem sz3 : szOf Tryd.prog 3 = some (false, 1) := by kernel_rfl
theorem ze3 : zeroA Tryd.prog 3 = some [.d (.int .i64 0)] := by kernel_rfl
theorem by3 : bytesOf Tryd.prog 3 = some 8 := by kernel_rfl
theorem zv3 : zeroV Tryd.prog 3 = some (.d (.int .i64 0)) := by kernel_rfl
theorem cl3 : clsOf Tryd.prog 3 = some 0 := by kernel_rfl
theorem ps3 : plainSt Tryd.prog 3 = none := by kernel_rfl
theorem st3 : isStr Tryd.prog 3 = false := by kernel_rfl
theorem sz4 : szOf Tryd.prog 4 = some (false, 1) := by kernel_rfl
theorem ze4 : zeroA Tryd.prog 4 = some [.d (.bool false)] := by kernel_rfl
theorem by4 : bytesOf Tryd.prog 4 = some 1 := by kernel_rfl
theorem zv4 : zeroV Tryd.prog 4 = some (.d (.bool false)) := by kernel_rfl
theorem cl4 : clsOf Tryd.prog 4 = some 2 := by kernel_rfl
theorem ps4 : plainSt Tryd.prog 4 = none := by kernel_rfl
theorem st4 : isStr Tryd.prog 4 = false := by kernel_rfl
theorem sz5 : szOf Tryd.prog 5 = some (false, 1) := by kernel_rfl
theorem ze5 : zeroA Tryd.prog 5 = some [.d (.int .u8 0)] := by kernel_rfl
theorem by5 : bytesOf Tryd.prog 5 = some 1 := by kernel_rfl
theorem zv5 : zeroV Tryd.prog 5 = some (.d (.int .u8 0)) := by kernel_rfl
theorem cl5 : clsOf Tryd.prog 5 = some 0 := by kernel_rfl
theorem ps5 : plainSt Tryd.prog 5 = none := by kernel_rfl
theorem st5 : isStr Tryd.prog 5 = false := by kernel_rfl
theorem sz9 : szOf Tryd.prog 9 = some (false, 1) := by kernel_rfl
theorem ze9 : zeroA Tryd.prog 9 = some [.d (.str [])] := by kernel_rfl
theorem by9 : bytesOf Tryd.prog 9 = some 16 := by kernel_rfl
theorem zv9 : zeroV Tryd.prog 9 = some (.d (.str [])) := by kernel_rfl
theorem cl9 : clsOf Tryd.prog 9 = some 1 := by kernel_rfl
theorem ps9 : plainSt Tryd.prog 9 = none := by kernel_rfl
theorem st9 : isStr Tryd.prog 9 = true := by kernel_rfl
theorem sz12 : szOf Tryd.prog 12 = some (false, 1) := by kernel_rfl
theorem ze12 : zeroA Tryd.prog 12 = some [.d (.int .u64 0)] := by kernel_rfl
theorem by12 : bytesOf Tryd.prog 12 = some 8 := by kernel_rfl
theorem zv12 : zeroV Tryd.prog 12 = some (.d (.int .u64 0)) := by kernel_rfl
theorem cl12 : clsOf Tryd.prog 12 = some 0 := by kernel_rfl
theorem ps12 : plainSt Tryd.prog 12 = none := by kernel_rfl
theorem st12 : isStr Tryd.prog 12 = false := by kernel_rfl
theorem sz13 : szOf Tryd.prog 13 = some (true, 2) := by kernel_rfl
theorem ze13 : zeroA Tryd.prog 13 = some [.d (.str []), .d (.int .u64 0)] := by kernel_rfl
theorem by13 : bytesOf Tryd.prog 13 = some 24 := by kernel_rfl
theorem pl13 : placesOf Tryd.prog 13 = some [(0, 1), (1, 1)] := by kernel_rfl
theorem fi13_0 : fieldOf Tryd.prog 13 0 = some (9, 0) := by kernel_rfl
theorem fi13_1 : fieldOf Tryd.prog 13 1 = some (12, 1) := by kernel_rfl
theorem zv13 : zeroV Tryd.prog 13 = some (.agg [.d (.str []), .d (.int .u64 0)]) := by kernel_rfl
theorem cl13 : clsOf Tryd.prog 13 = none := by kernel_rfl
theorem st13 : isStr Tryd.prog 13 = false := by kernel_rfl
theorem sz21 : szOf Tryd.prog 21 = some (false, 1) := by kernel_rfl
theorem ze21 : zeroA Tryd.prog 21 = some [.d (.int .i32 0)] := by kernel_rfl
theorem by21 : bytesOf Tryd.prog 21 = some 4 := by kernel_rfl
theorem zv21 : zeroV Tryd.prog 21 = some (.d (.int .i32 0)) := by kernel_rfl
theorem cl21 : clsOf Tryd.prog 21 = some 0 := by kernel_rfl
theorem ps21 : plainSt Tryd.prog 21 = none := by kernel_rfl
theorem st21 : isStr Tryd.prog 21 = false := by kernel_rfl
theorem sz22 : szOf Tryd.prog 22 = some (true, 4) := by kernel_rfl
theorem ze22 : zeroA Tryd.prog 22 = some [.d (.int .i64 0), .d (.bool false), .d (.int .i64 0), .d (.str [])] := by kernel_rfl
theorem by22 : bytesOf Tryd.prog 22 = some 40 := by kernel_rfl
theorem pl22 : placesOf Tryd.prog 22 = some [(0, 1), (1, 1), (2, 1), (3, 1)] := by kernel_rfl
theorem fi22_0 : fieldOf Tryd.prog 22 0 = some (3, 0) := by kernel_rfl
theorem fi22_1 : fieldOf Tryd.prog 22 1 = some (4, 1) := by kernel_rfl
theorem fi22_2 : fieldOf Tryd.prog 22 2 = some (2, 2) := by kernel_rfl
theorem fi22_3 : fieldOf Tryd.prog 22 3 = some (9, 3) := by kernel_rfl
theorem zv22 : zeroV Tryd.prog 22 = some (.agg [.d (.int .i64 0), .d (.bool false), .d (.int .i64 0), .d (.str [])]) := by kernel_rfl
theorem cl22 : clsOf Tryd.prog 22 = none := by kernel_rfl
theorem st22 : isStr Tryd.prog 22 = false := by kernel_rfl
theorem sz23 : szOf Tryd.prog 23 = some (true, 4) := by kernel_rfl
theorem ze23 : zeroA Tryd.prog 23 = some [.d (.int .i64 0), .d (.bool false), .d (.int .i64 0), .d (.str [])] := by kernel_rfl
theorem by23 : bytesOf Tryd.prog 23 = some 40 := by kernel_rfl
theorem pl23 : placesOf Tryd.prog 23 = some [(0, 1), (1, 1), (2, 1), (3, 1)] := by kernel_rfl
theorem fi23_0 : fieldOf Tryd.prog 23 0 = some (3, 0) := by kernel_rfl
theorem fi23_1 : fieldOf Tryd.prog 23 1 = some (4, 1) := by kernel_rfl
theorem fi23_2 : fieldOf Tryd.prog 23 2 = some (2, 2) := by kernel_rfl
theorem fi23_3 : fieldOf Tryd.prog 23 3 = some (9, 3) := by kernel_rfl
theorem zv23 : zeroV Tryd.prog 23 = some (.agg [.d (.int .i64 0), .d (.bool false), .d (.int .i64 0), .d (.str [])]) := by kernel_rfl
theorem cl23 : clsOf Tryd.prog 23 = none := by kernel_rfl
theorem ps23 : plainSt Tryd.prog 23 = some [(0, 0), (1, 2), (2, 0), (3, 1)] := by kernel_rfl
theorem st23 : isStr Tryd.prog 23 = false := by kernel_rfl
theorem sz28 : szOf Tryd.prog 28 = some (false, 1) := by kernel_rfl
theorem ze28 : zeroA Tryd.prog 28 = some [.nils] := by kernel_rfl
theorem by28 : bytesOf Tryd.prog 28 = some 24 := by kernel_rfl
theorem el28 : elOf Tryd.prog 28 = some (30, 11) := by kernel_rfl
theorem is28 : isSl Tryd.prog 28 = true := by kernel_rfl
theorem zv28 : zeroV Tryd.prog 28 = some (.nils) := by kernel_rfl
theorem cl28 : clsOf Tryd.prog 28 = none := by kernel_rfl
theorem st28 : isStr Tryd.prog 28 = false := by kernel_rfl
theorem sz29 : szOf Tryd.prog 29 = some (true, 11) := by kernel_rfl
theorem ze29 : zeroA Tryd.prog 29 = some [.d (.int .i64 0), .d (.int .i64 0), .d (.bool false), .d (.int .i64 0), .d (.str []), .d (.str []), .d (.str []), .d (.int .i64 0), .d (.int .i64 0), .d (.bool false), .nils] := by kernel_rfl
theorem by29 : bytesOf Tryd.prog 29 = some 128 := by kernel_rfl
theorem pl29 : placesOf Tryd.prog 29 = some [(0, 1), (1, 4), (5, 1), (6, 1), (7, 1), (8, 1), (9, 1), (10, 1)] := by kernel_rfl
theorem fi29_0 : fieldOf Tryd.prog 29 0 = some (3, 0) := by kernel_rfl
theorem fi29_1 : fieldOf Tryd.prog 29 1 = some (23, 1) := by kernel_rfl
theorem fi29_2 : fieldOf Tryd.prog 29 2 = some (9, 5) := by kernel_rfl
theorem fi29_3 : fieldOf Tryd.prog 29 3 = some (9, 6) := by kernel_rfl
theorem fi29_4 : fieldOf Tryd.prog 29 4 = some (3, 7) := by kernel_rfl
theorem fi29_5 : fieldOf Tryd.prog 29 5 = some (3, 8) := by kernel_rfl
theorem fi29_6 : fieldOf Tryd.prog 29 6 = some (4, 9) := by kernel_rfl
theorem fi29_7 : fieldOf Tryd.prog 29 7 = some (28, 10) := by kernel_rfl
theorem zv29 : zeroV Tryd.prog 29 = some (.agg [.d (.int .i64 0), .d (.int .i64 0), .d (.bool false), .d (.int .i64 0), .d (.str []), .d (.str []), .d (.str []), .d (.int .i64 0), .d (.int .i64 0), .d (.bool false), .nils]) := by kernel_rfl
theorem cl29 : clsOf Tryd.prog 29 = none := by kernel_rfl
theorem st29 : isStr Tryd.prog 29 = false := by kernel_rfl
theorem sz30 : szOf Tryd.prog 30 = some (true, 11) := by kernel_rfl
theorem ze30 : zeroA Tryd.prog 30 = some [.d (.int .i64 0), .d (.int .i64 0), .d (.bool false), .d (.int .i64 0), .d (.str []), .d (.str []), .d (.str []), .d (.int .i64 0), .d (.int .i64 0), .d (.bool false), .nils] := by kernel_rfl
theorem by30 : bytesOf Tryd.prog 30 = some 128 := by kernel_rfl
theorem pl30 : placesOf Tryd.prog 30 = some [(0, 1), (1, 4), (5, 1), (6, 1), (7, 1), (8, 1), (9, 1), (10, 1)] := by kernel_rfl
theorem fi30_0 : fieldOf Tryd.prog 30 0 = some (3, 0) := by kernel_rfl
theorem fi30_1 : fieldOf Tryd.prog 30 1 = some (23, 1) := by kernel_rfl
theorem fi30_2 : fieldOf Tryd.prog 30 2 = some (9, 5) := by kernel_rfl
theorem fi30_3 : fieldOf Tryd.prog 30 3 = some (9, 6) := by kernel_rfl
theorem fi30_4 : fieldOf Tryd.prog 30 4 = some (3, 7) := by kernel_rfl
theorem fi30_5 : fieldOf Tryd.prog 30 5 = some (3, 8) := by kernel_rfl
theorem fi30_6 : fieldOf Tryd.prog 30 6 = some (4, 9) := by kernel_rfl
theorem fi30_7 : fieldOf Tryd.prog 30 7 = some (28, 10) := by kernel_rfl
theorem zv30 : zeroV Tryd.prog 30 = some (.agg [.d (.int .i64 0), .d (.int .i64 0), .d (.bool false), .d (.int .i64 0), .d (.str []), .d (.str []), .d (.str []), .d (.int .i64 0), .d (.int .i64 0), .d (.bool false), .nils]) := by kernel_rfl
theorem cl30 : clsOf Tryd.prog 30 = none := by kernel_rfl
theorem st30 : isStr Tryd.prog 30 = false := by kernel_rfl
theorem sz31 : szOf Tryd.prog 31 = some (false, 1) := by kernel_rfl
theorem ze31 : zeroA Tryd.prog 31 = some [.nils] := by kernel_rfl
theorem by31 : bytesOf Tryd.prog 31 = some 24 := by kernel_rfl
theorem el31 : elOf Tryd.prog 31 = some (23, 4) := by kernel_rfl
theorem is31 : isSl Tryd.prog 31 = true := by kernel_rfl
theorem zv31 : zeroV Tryd.prog 31 = some (.nils) := by kernel_rfl
theorem cl31 : clsOf Tryd.prog 31 = none := by kernel_rfl
theorem st31 : isStr Tryd.prog 31 = false := by kernel_rfl
theorem sz32 : szOf Tryd.prog 32 = some (false, 1) := by kernel_rfl
theorem ze32 : zeroA Tryd.prog 32 = some [.d (.int .i64 0)] := by kernel_rfl
theorem by32 : bytesOf Tryd.prog 32 = some 8 := by kernel_rfl
theorem zv32 : zeroV Tryd.prog 32 = some (.d (.int .i64 0)) := by kernel_rfl
theorem cl32 : clsOf Tryd.prog 32 = some 0 := by kernel_rfl
theorem ps32 : plainSt Tryd.prog 32 = none := by kernel_rfl
theorem st32 : isStr Tryd.prog 32 = false := by kernel_rfl
theorem sz38 : szOf Tryd.prog 38 = some (false, 1) := by kernel_rfl
theorem ze38 : zeroA Tryd.prog 38 = some [.d .nilp] := by kernel_rfl
theorem by38 : bytesOf Tryd.prog 38 = some 8 := by kernel_rfl
theorem zv38 : zeroV Tryd.prog 38 = some (.d .nilp) := by kernel_rfl
theorem cl38 : clsOf Tryd.prog 38 = none := by kernel_rfl
theorem st38 : isStr Tryd.prog 38 = false := by kernel_rfl
theorem ip38 : isPtr Tryd.prog 38 = true := by kernel_rfl
theorem sz46 : szOf Tryd.prog 46 = some (false, 1) := by kernel_rfl
theorem ze46 : zeroA Tryd.prog 46 = some [.nils] := by kernel_rfl
theorem by46 : bytesOf Tryd.prog 46 = some 24 := by kernel_rfl
theorem el46 : elOf Tryd.prog 46 = some (5, 1) := by kernel_rfl
theorem is46 : isSl Tryd.prog 46 = true := by kernel_rfl
theorem zv46 : zeroV Tryd.prog 46 = some (.nils) := by kernel_rfl
theorem cl46 : clsOf Tryd.prog 46 = none := by kernel_rfl
theorem st46 : isStr Tryd.prog 46 = false := by kernel_rfl
theorem sz51 : szOf Tryd.prog 51 = some (false, 1) := by kernel_rfl
theorem ze51 : zeroA Tryd.prog 51 = some [.nils] := by kernel_rfl
theorem by51 : bytesOf Tryd.prog 51 = some 24 := by kernel_rfl
theorem el51 : elOf Tryd.prog 51 = some (3, 1) := by kernel_rfl
theorem is51 : isSl Tryd.prog 51 = true := by kernel_rfl
theorem zv51 : zeroV Tryd.prog 51 = some (.nils) := by kernel_rfl
theorem cl51 : clsOf Tryd.prog 51 = none := by kernel_rfl
theorem st51 : isStr Tryd.prog 51 = false := by kernel_rfl
theorem sz52 : szOf Tryd.prog 52 = some (false, 1) := by kernel_rfl
theorem ze52 : zeroA Tryd.prog 52 = some [.nils] := by kernel_rfl
theorem by52 : bytesOf Tryd.prog 52 = some 24 := by kernel_rfl
theorem el52 : elOf Tryd.prog 52 = some (4, 1) := by kernel_rfl
theorem is52 : isSl Tryd.prog 52 = true := by kernel_rfl
theorem zv52 : zeroV Tryd.prog 52 = some (.nils) := by kernel_rfl
theorem cl52 : clsOf Tryd.prog 52 = none := by kernel_rfl
theorem st52 : isStr Tryd.prog 52 = false := by kernel_rfl
theorem sz60 : szOf Tryd.prog 60 = some (false, 1) := by kernel_rfl
theorem ze60 : zeroA Tryd.prog 60 = some [.d .nilp] := by kernel_rfl
theorem by60 : bytesOf Tryd.prog 60 = some 8 := by kernel_rfl
theorem zv60 : zeroV Tryd.prog 60 = some (.d .nilp) := by kernel_rfl
theorem cl60 : clsOf Tryd.prog 60 = none := by kernel_rfl
theorem st60 : isStr Tryd.prog 60 = false := by kernel_rfl
theorem ip60 : isPtr Tryd.prog 60 = true := by kernel_rfl
theorem sz61 : szOf Tryd.prog 61 = some (false, 1) := by kernel_rfl
theorem ze61 : zeroA Tryd.prog 61 = some [.d .nilm] := by kernel_rfl
theorem by61 : bytesOf Tryd.prog 61 = some 8 := by kernel_rfl
theorem zv61 : zeroV Tryd.prog 61 = some (.d .nilm) := by kernel_rfl
theorem cl61 : clsOf Tryd.prog 61 = none := by kernel_rfl
theorem mo61 : mapOf Tryd.prog 61 = some (3, 94) := by kernel_rfl
theorem im61 : isMp Tryd.prog 61 = true := by kernel_rfl
theorem st61 : isStr Tryd.prog 61 = false := by kernel_rfl
theorem sz63 : szOf Tryd.prog 63 = some (true, 3) := by kernel_rfl
theorem ze63 : zeroA Tryd.prog 63 = some [.nils, .nils, .d .nilm] := by kernel_rfl
theorem by63 : bytesOf Tryd.prog 63 = some 56 := by kernel_rfl
theorem pl63 : placesOf Tryd.prog 63 = some [(0, 1), (1, 1), (2, 1)] := by kernel_rfl
theorem fi63_0 : fieldOf Tryd.prog 63 0 = some (31, 0) := by kernel_rfl
theorem fi63_1 : fieldOf Tryd.prog 63 1 = some (31, 1) := by kernel_rfl
theorem fi63_2 : fieldOf Tryd.prog 63 2 = some (61, 2) := by kernel_rfl
theorem zv63 : zeroV Tryd.prog 63 = some (.agg [.nils, .nils, .d .nilm]) := by kernel_rfl
theorem cl63 : clsOf Tryd.prog 63 = none := by kernel_rfl
theorem st63 : isStr Tryd.prog 63 = false := by kernel_rfl
theorem sz64 : szOf Tryd.prog 64 = some (true, 3) := by kernel_rfl
theorem ze64 : zeroA Tryd.prog 64 = some [.nils, .nils, .d .nilm] := by kernel_rfl
theorem by64 : bytesOf Tryd.prog 64 = some 56 := by kernel_rfl
theorem pl64 : placesOf Tryd.prog 64 = some [(0, 1), (1, 1), (2, 1)] := by kernel_rfl
theorem fi64_0 : fieldOf Tryd.prog 64 0 = some (31, 0) := by kernel_rfl
theorem fi64_1 : fieldOf Tryd.prog 64 1 = some (31, 1) := by kernel_rfl
theorem fi64_2 : fieldOf Tryd.prog 64 2 = some (61, 2) := by kernel_rfl
theorem zv64 : zeroV Tryd.prog 64 = some (.agg [.nils, .nils, .d .nilm]) := by kernel_rfl
theorem cl64 : clsOf Tryd.prog 64 = none := by kernel_rfl
theorem st64 : isStr Tryd.prog 64 = false := by kernel_rfl
theorem sz65 : szOf Tryd.prog 65 = some (true, 5) := by kernel_rfl
theorem ze65 : zeroA Tryd.prog 65 = some [.d (.int .i64 0), .d (.bool false), .d (.int .i64 0), .d (.str []), .d (.int .i64 0)] := by kernel_rfl
theorem by65 : bytesOf Tryd.prog 65 = some 48 := by kernel_rfl
theorem pl65 : placesOf Tryd.prog 65 = some [(0, 4), (4, 1)] := by kernel_rfl
theorem fi65_0 : fieldOf Tryd.prog 65 0 = some (23, 0) := by kernel_rfl
theorem fi65_1 : fieldOf Tryd.prog 65 1 = some (32, 4) := by kernel_rfl
theorem zv65 : zeroV Tryd.prog 65 = some (.agg [.d (.int .i64 0), .d (.bool false), .d (.int .i64 0), .d (.str []), .d (.int .i64 0)]) := by kernel_rfl
theorem cl65 : clsOf Tryd.prog 65 = none := by kernel_rfl
theorem st65 : isStr Tryd.prog 65 = false := by kernel_rfl
theorem sz66 : szOf Tryd.prog 66 = some (true, 5) := by kernel_rfl
theorem ze66 : zeroA Tryd.prog 66 = some [.d (.int .i64 0), .d (.bool false), .d (.int .i64 0), .d (.str []), .d (.int .i64 0)] := by kernel_rfl
theorem by66 : bytesOf Tryd.prog 66 = some 48 := by kernel_rfl
theorem pl66 : placesOf Tryd.prog 66 = some [(0, 4), (4, 1)] := by kernel_rfl
theorem fi66_0 : fieldOf Tryd.prog 66 0 = some (23, 0) := by kernel_rfl
theorem fi66_1 : fieldOf Tryd.prog 66 1 = some (32, 4) := by kernel_rfl
theorem zv66 : zeroV Tryd.prog 66 = some (.agg [.d (.int .i64 0), .d (.bool false), .d (.int .i64 0), .d (.str []), .d (.int .i64 0)]) := by kernel_rfl
theorem cl66 : clsOf Tryd.prog 66 = none := by kernel_rfl
theorem st66 : isStr Tryd.prog 66 = false := by kernel_rfl
theorem sz69 : szOf Tryd.prog 69 = some (false, 1) := by kernel_rfl
theorem ze69 : zeroA Tryd.prog 69 = some [.d .nilm] := by kernel_rfl
theorem by69 : bytesOf Tryd.prog 69 = some 8 := by kernel_rfl
theorem zv69 : zeroV Tryd.prog 69 = some (.d .nilm) := by kernel_rfl
theorem cl69 : clsOf Tryd.prog 69 = none := by kernel_rfl
theorem mo69 : mapOf Tryd.prog 69 = some (23, 73) := by kernel_rfl
theorem im69 : isMp Tryd.prog 69 = true := by kernel_rfl
theorem st69 : isStr Tryd.prog 69 = false := by kernel_rfl
theorem sz70 : szOf Tryd.prog 70 = some (false, 1) := by kernel_rfl
theorem ze70 : zeroA Tryd.prog 70 = some [.d (.int .u64 0)] := by kernel_rfl
theorem by70 : bytesOf Tryd.prog 70 = some 8 := by kernel_rfl
theorem zv70 : zeroV Tryd.prog 70 = some (.d (.int .u64 0)) := by kernel_rfl
theorem cl70 : clsOf Tryd.prog 70 = some 0 := by kernel_rfl
theorem ps70 : plainSt Tryd.prog 70 = none := by kernel_rfl
theorem st70 : isStr Tryd.prog 70 = false := by kernel_rfl
theorem sz71 : szOf Tryd.prog 71 = some (true, 20) := by kernel_rfl
theorem ze71 : zeroA Tryd.prog 71 = some [.d (.int .i64 0), .d (.int .i64 0), .d (.bool false), .d (.int .i64 0), .d (.str []), .d (.str []), .d (.str []), .d (.int .i64 0), .d (.int .i64 0), .d (.bool false), .nils, .d (.bool false), .d (.int .i64 0), .d (.int .i64 0), .d (.int .u64 0), .d (.int .i64 0), .d (.bool false), .d (.int .i64 0), .d (.str []), .d .nilm] := by kernel_rfl
theorem by71 : bytesOf Tryd.prog 71 = some 208 := by kernel_rfl
theorem pl71 : placesOf Tryd.prog 71 = some [(0, 11), (11, 1), (12, 1), (13, 1), (14, 1), (15, 4), (19, 1)] := by kernel_rfl
theorem fi71_0 : fieldOf Tryd.prog 71 0 = some (30, 0) := by kernel_rfl
theorem fi71_1 : fieldOf Tryd.prog 71 1 = some (4, 11) := by kernel_rfl
theorem fi71_2 : fieldOf Tryd.prog 71 2 = some (2, 12) := by kernel_rfl
theorem fi71_3 : fieldOf Tryd.prog 71 3 = some (2, 13) := by kernel_rfl
theorem fi71_4 : fieldOf Tryd.prog 71 4 = some (70, 14) := by kernel_rfl
theorem fi71_5 : fieldOf Tryd.prog 71 5 = some (23, 15) := by kernel_rfl
theorem fi71_6 : fieldOf Tryd.prog 71 6 = some (69, 19) := by kernel_rfl
theorem zv71 : zeroV Tryd.prog 71 = some (.agg [.d (.int .i64 0), .d (.int .i64 0), .d (.bool false), .d (.int .i64 0), .d (.str []), .d (.str []), .d (.str []), .d (.int .i64 0), .d (.int .i64 0), .d (.bool false), .nils, .d (.bool false), .d (.int .i64 0), .d (.int .i64 0), .d (.int .u64 0), .d (.int .i64 0), .d (.bool false), .d (.int .i64 0), .d (.str []), .d .nilm]) := by kernel_rfl
theorem cl71 : clsOf Tryd.prog 71 = none := by kernel_rfl
theorem st71 : isStr Tryd.prog 71 = false := by kernel_rfl
theorem sz72 : szOf Tryd.prog 72 = some (true, 20) := by kernel_rfl
theorem ze72 : zeroA Tryd.prog 72 = some [.d (.int .i64 0), .d (.int .i64 0), .d (.bool false), .d (.int .i64 0), .d (.str []), .d (.str []), .d (.str []), .d (.int .i64 0), .d (.int .i64 0), .d (.bool false), .nils, .d (.bool false), .d (.int .i64 0), .d (.int .i64 0), .d (.int .u64 0), .d (.int .i64 0), .d (.bool false), .d (.int .i64 0), .d (.str []), .d .nilm] := by kernel_rfl
theorem by72 : bytesOf Tryd.prog 72 = some 208 := by kernel_rfl
theorem pl72 : placesOf Tryd.prog 72 = some [(0, 11), (11, 1), (12, 1), (13, 1), (14, 1), (15, 4), (19, 1)] := by kernel_rfl
theorem fi72_0 : fieldOf Tryd.prog 72 0 = some (30, 0) := by kernel_rfl
theorem fi72_1 : fieldOf Tryd.prog 72 1 = some (4, 11) := by kernel_rfl
theorem fi72_2 : fieldOf Tryd.prog 72 2 = some (2, 12) := by kernel_rfl
theorem fi72_3 : fieldOf Tryd.prog 72 3 = some (2, 13) := by kernel_rfl
theorem fi72_4 : fieldOf Tryd.prog 72 4 = some (70, 14) := by kernel_rfl
theorem fi72_5 : fieldOf Tryd.prog 72 5 = some (23, 15) := by kernel_rfl
theorem fi72_6 : fieldOf Tryd.prog 72 6 = some (69, 19) := by kernel_rfl
theorem zv72 : zeroV Tryd.prog 72 = some (.agg [.d (.int .i64 0), .d (.int .i64 0), .d (.bool false), .d (.int .i64 0), .d (.str []), .d (.str []), .d (.str []), .d (.int .i64 0), .d (.int .i64 0), .d (.bool false), .nils, .d (.bool false), .d (.int .i64 0), .d (.int .i64 0), .d (.int .u64 0), .d (.int .i64 0), .d (.bool false), .d (.int .i64 0), .d (.str []), .d .nilm]) := by kernel_rfl
theorem cl72 : clsOf Tryd.prog 72 = none := by kernel_rfl
theorem st72 : isStr Tryd.prog 72 = false := by kernel_rfl
theorem sz73 : szOf Tryd.prog 73 = some (true, 0) := by kernel_rfl
theorem ze73 : zeroA Tryd.prog 73 = some [] := by kernel_rfl
theorem by73 : bytesOf Tryd.prog 73 = some 0 := by kernel_rfl
theorem pl73 : placesOf Tryd.prog 73 = some [] := by kernel_rfl
theorem zv73 : zeroV Tryd.prog 73 = some (.agg []) := by kernel_rfl
theorem cl73 : clsOf Tryd.prog 73 = none := by kernel_rfl
theorem st73 : isStr Tryd.prog 73 = false := by kernel_rfl
theorem sz77 : szOf Tryd.prog 77 = some (false, 1) := by kernel_rfl
theorem ze77 : zeroA Tryd.prog 77 = some [.d (.int .u64 0)] := by kernel_rfl
theorem by77 : bytesOf Tryd.prog 77 = some 8 := by kernel_rfl
theorem zv77 : zeroV Tryd.prog 77 = some (.d (.int .u64 0)) := by kernel_rfl
theorem cl77 : clsOf Tryd.prog 77 = some 0 := by kernel_rfl
theorem ps77 : plainSt Tryd.prog 77 = none := by kernel_rfl
theorem st77 : isStr Tryd.prog 77 = false := by kernel_rfl
theorem sz83 : szOf Tryd.prog 83 = some (true, 256) := by kernel_rfl
theorem by83 : bytesOf Tryd.prog 83 = some 256 := by kernel_rfl
theorem el83 : elOf Tryd.prog 83 = none := by kernel_rfl
theorem ar83 : arOf Tryd.prog 83 = some (4, 256, 1) := by kernel_rfl
theorem cl83 : clsOf Tryd.prog 83 = none := by kernel_rfl
theorem st83 : isStr Tryd.prog 83 = false := by kernel_rfl
theorem sz84 : szOf Tryd.prog 84 = some (true, 256) := by kernel_rfl
theorem by84 : bytesOf Tryd.prog 84 = some 256 := by kernel_rfl
theorem el84 : elOf Tryd.prog 84 = none := by kernel_rfl
theorem ar84 : arOf Tryd.prog 84 = some (4, 256, 1) := by kernel_rfl
theorem cl84 : clsOf Tryd.prog 84 = none := by kernel_rfl
theorem st84 : isStr Tryd.prog 84 = false := by kernel_rfl
theorem sz88 : szOf Tryd.prog 88 = some (false, 1) := by kernel_rfl
theorem ze88 : zeroA Tryd.prog 88 = some [.d .nilp] := by kernel_rfl
theorem by88 : bytesOf Tryd.prog 88 = some 8 := by kernel_rfl
theorem zv88 : zeroV Tryd.prog 88 = some (.d .nilp) := by kernel_rfl
theorem cl88 : clsOf Tryd.prog 88 = none := by kernel_rfl
theorem st88 : isStr Tryd.prog 88 = false := by kernel_rfl
theorem ip88 : isPtr Tryd.prog 88 = true := by kernel_rfl
theorem sz92 : szOf Tryd.prog 92 = some (false, 1) := by kernel_rfl
theorem ze92 : zeroA Tryd.prog 92 = some [.d .nilm] := by kernel_rfl
theorem by92 : bytesOf Tryd.prog 92 = some 8 := by kernel_rfl
theorem zv92 : zeroV Tryd.prog 92 = some (.d .nilm) := by kernel_rfl
theorem cl92 : clsOf Tryd.prog 92 = none := by kernel_rfl
theorem mo92 : mapOf Tryd.prog 92 = some (3, 107) := by kernel_rfl
theorem im92 : isMp Tryd.prog 92 = true := by kernel_rfl
theorem st92 : isStr Tryd.prog 92 = false := by kernel_rfl
theorem sz99 : szOf Tryd.prog 99 = some (false, 1) := by kernel_rfl
theorem ze99 : zeroA Tryd.prog 99 = some [.nils] := by kernel_rfl
theorem by99 : bytesOf Tryd.prog 99 = some 24 := by kernel_rfl
theorem el99 : elOf Tryd.prog 99 = some (9, 1) := by kernel_rfl
theorem is99 : isSl Tryd.prog 99 = true := by kernel_rfl
theorem zv99 : zeroV Tryd.prog 99 = some (.nils) := by kernel_rfl
theorem cl99 : clsOf Tryd.prog 99 = none := by kernel_rfl
theorem st99 : isStr Tryd.prog 99 = false := by kernel_rfl
theorem sz106 : szOf Tryd.prog 106 = some (true, 3) := by kernel_rfl
theorem ze106 : zeroA Tryd.prog 106 = some [.d (.int .i64 0), .d (.int .i64 0), .d (.int .i64 0)] := by kernel_rfl
theorem by106 : bytesOf Tryd.prog 106 = some 24 := by kernel_rfl
theorem pl106 : placesOf Tryd.prog 106 = some [(0, 1), (1, 1), (2, 1)] := by kernel_rfl
theorem fi106_0 : fieldOf Tryd.prog 106 0 = some (3, 0) := by kernel_rfl
theorem fi106_1 : fieldOf Tryd.prog 106 1 = some (3, 1) := by kernel_rfl
theorem fi106_2 : fieldOf Tryd.prog 106 2 = some (3, 2) := by kernel_rfl
theorem zv106 : zeroV Tryd.prog 106 = some (.agg [.d (.int .i64 0), .d (.int .i64 0), .d (.int .i64 0)]) := by kernel_rfl
theorem cl106 : clsOf Tryd.prog 106 = none := by kernel_rfl
theorem st106 : isStr Tryd.prog 106 = false := by kernel_rfl
theorem sz107 : szOf Tryd.prog 107 = some (true, 3) := by kernel_rfl
theorem ze107 : zeroA Tryd.prog 107 = some [.d (.int .i64 0), .d (.int .i64 0), .d (.int .i64 0)] := by kernel_rfl
theorem by107 : bytesOf Tryd.prog 107 = some 24 := by kernel_rfl
theorem pl107 : placesOf Tryd.prog 107 = some [(0, 1), (1, 1), (2, 1)] := by kernel_rfl
theorem fi107_0 : fieldOf Tryd.prog 107 0 = some (3, 0) := by kernel_rfl
theorem fi107_1 : fieldOf Tryd.prog 107 1 = some (3, 1) := by kernel_rfl
theorem fi107_2 : fieldOf Tryd.prog 107 2 = some (3, 2) := by kernel_rfl
theorem zv107 : zeroV Tryd.prog 107 = some (.agg [.d (.int .i64 0), .d (.int .i64 0), .d (.int .i64 0)]) := by kernel_rfl
theorem cl107 : clsOf Tryd.prog 107 = none := by kernel_rfl
theorem ps107 : plainSt Tryd.prog 107 = some [(0, 0), (1, 0), (2, 0)] := by kernel_rfl
theorem st107 : isStr Tryd.prog 107 = false := by kernel_rfl
theorem sz121 : szOf Tryd.prog 121 = some (false, 1) := by kernel_rfl
theorem ze121 : zeroA Tryd.prog 121 = some [.d .nilm] := by kernel_rfl
theorem by121 : bytesOf Tryd.prog 121 = some 8 := by kernel_rfl
theorem zv121 : zeroV Tryd.prog 121 = some (.d .nilm) := by kernel_rfl
theorem cl121 : clsOf Tryd.prog 121 = none := by kernel_rfl
theorem mo121 : mapOf Tryd.prog 121 = some (3, 4) := by kernel_rfl
theorem im121 : isMp Tryd.prog 121 = true := by kernel_rfl
theorem st121 : isStr Tryd.prog 121 = false := by kernel_rfl
theorem sz123 : szOf Tryd.prog 123 = some (true, 256) := by kernel_rfl
theorem by123 : bytesOf Tryd.prog 123 = some 256 := by kernel_rfl
theorem el123 : elOf Tryd.prog 123 = none := by kernel_rfl
theorem ar123 : arOf Tryd.prog 123 = some (5, 256, 1) := by kernel_rfl
theorem cl123 : clsOf Tryd.prog 123 = none := by kernel_rfl
theorem st123 : isStr Tryd.prog 123 = false := by kernel_rfl
theorem sz124 : szOf Tryd.prog 124 = some (true, 2) := by kernel_rfl
theorem ze124 : zeroA Tryd.prog 124 = some [.d (.int .u8 0), .d (.int .u8 0)] := by kernel_rfl
theorem by124 : bytesOf Tryd.prog 124 = some 2 := by kernel_rfl
theorem pl124 : placesOf Tryd.prog 124 = some [(0, 1), (1, 1)] := by kernel_rfl
theorem fi124_0 : fieldOf Tryd.prog 124 0 = some (5, 0) := by kernel_rfl
theorem fi124_1 : fieldOf Tryd.prog 124 1 = some (5, 1) := by kernel_rfl
theorem zv124 : zeroV Tryd.prog 124 = some (.agg [.d (.int .u8 0), .d (.int .u8 0)]) := by kernel_rfl
theorem cl124 : clsOf Tryd.prog 124 = none := by kernel_rfl
theorem st124 : isStr Tryd.prog 124 = false := by kernel_rfl
theorem sz125 : szOf Tryd.prog 125 = some (true, 2) := by kernel_rfl
theorem ze125 : zeroA Tryd.prog 125 = some [.d (.int .u8 0), .d (.int .u8 0)] := by kernel_rfl
theorem by125 : bytesOf Tryd.prog 125 = some 2 := by kernel_rfl
theorem pl125 : placesOf Tryd.prog 125 = some [(0, 1), (1, 1)] := by kernel_rfl
theorem fi125_0 : fieldOf Tryd.prog 125 0 = some (5, 0) := by kernel_rfl
theorem fi125_1 : fieldOf Tryd.prog 125 1 = some (5, 1) := by kernel_rfl
theorem zv125 : zeroV Tryd.prog 125 = some (.agg [.d (.int .u8 0), .d (.int .u8 0)]) := by kernel_rfl
theorem cl125 : clsOf Tryd.prog 125 = none := by kernel_rfl
theorem ps125 : plainSt Tryd.prog 125 = some [(0, 0), (1, 0)] := by kernel_rfl
theorem st125 : isStr Tryd.prog 125 = false := by kernel_rfl
theorem sz126 : szOf Tryd.prog 126 = some (true, 32) := by kernel_rfl
theorem ze126 : zeroA Tryd.prog 126 = some [.d (.int .u8 0), .d (.int .u8 0), .d (.int .u8 0), .d (.int .u8 0), .d (.int .u8 0), .d (.int .u8 0), .d (.int .u8 0), .d (.int .u8 0), .d (.int .u8 0), .d (.int .u8 0), .d (.int .u8 0), .d (.int .u8 0), .d (.int .u8 0), .d (.int .u8 0), .d (.int .u8 0), .d (.int .u8 0), .d (.int .u8 0), .d (.int .u8 0), .d (.int .u8 0), .d (.int .u8 0), .d (.int .u8 0), .d (.int .u8 0), .d (.int .u8 0), .d (.int .u8 0), .d (.int .u8 0), .d (.int .u8 0), .d (.int .u8 0), .d (.int .u8 0), .d (.int .u8 0), .d (.int .u8 0), .d (.int .u8 0), .d (.int .u8 0)] := by kernel_rfl
theorem by126 : bytesOf Tryd.prog 126 = some 32 := by kernel_rfl
theorem el126 : elOf Tryd.prog 126 = none := by kernel_rfl
theorem pl126 : placesOf Tryd.prog 126 = some [(0, 2), (2, 2), (4, 2), (6, 2), (8, 2), (10, 2), (12, 2), (14, 2), (16, 2), (18, 2), (20, 2), (22, 2), (24, 2), (26, 2), (28, 2), (30, 2)] := by kernel_rfl
theorem ar126 : arOf Tryd.prog 126 = some (125, 16, 2) := by kernel_rfl
theorem zv126 : zeroV Tryd.prog 126 = some (.agg [.d (.int .u8 0), .d (.int .u8 0), .d (.int .u8 0), .d (.int .u8 0), .d (.int .u8 0), .d (.int .u8 0), .d (.int .u8 0), .d (.int .u8 0), .d (.int .u8 0), .d (.int .u8 0), .d (.int .u8 0), .d (.int .u8 0), .d (.int .u8 0), .d (.int .u8 0), .d (.int .u8 0), .d (.int .u8 0), .d (.int .u8 0), .d (.int .u8 0), .d (.int .u8 0), .d (.int .u8 0), .d (.int .u8 0), .d (.int .u8 0), .d (.int .u8 0), .d (.int .u8 0), .d (.int .u8 0), .d (.int .u8 0), .d (.int .u8 0), .d (.int .u8 0), .d (.int .u8 0), .d (.int .u8 0), .d (.int .u8 0), .d (.int .u8 0)]) := by kernel_rfl
theorem cl126 : clsOf Tryd.prog 126 = none := by kernel_rfl
theorem st126 : isStr Tryd.prog 126 = false := by kernel_rfl
theorem sz132 : szOf Tryd.prog 132 = some (false, 1) := by kernel_rfl
theorem ze132 : zeroA Tryd.prog 132 = some [.d .nilp] := by kernel_rfl
theorem by132 : bytesOf Tryd.prog 132 = some 8 := by kernel_rfl
theorem zv132 : zeroV Tryd.prog 132 = some (.d .nilp) := by kernel_rfl
theorem cl132 : clsOf Tryd.prog 132 = none := by kernel_rfl
theorem st132 : isStr Tryd.prog 132 = false := by kernel_rfl
theorem ip132 : isPtr Tryd.prog 132 = true := by kernel_rfl
theorem sz140 : szOf Tryd.prog 140 = some (false, 1) := by kernel_rfl
theorem ze140 : zeroA Tryd.prog 140 = some [.d (.int .u32 0)] := by kernel_rfl
theorem by140 : bytesOf Tryd.prog 140 = some 4 := by kernel_rfl
theorem zv140 : zeroV Tryd.prog 140 = some (.d (.int .u32 0)) := by kernel_rfl
theorem cl140 : clsOf Tryd.prog 140 = some 0 := by kernel_rfl
theorem ps140 : plainSt Tryd.prog 140 = none := by kernel_rfl
theorem st140 : isStr Tryd.prog 140 = false := by kernel_rfl
theorem sz144 : szOf Tryd.prog 144 = some (false, 1) := by kernel_rfl
theorem ze144 : zeroA Tryd.prog 144 = some [.d .nilp] := by kernel_rfl
theorem by144 : bytesOf Tryd.prog 144 = some 8 := by kernel_rfl
theorem zv144 : zeroV Tryd.prog 144 = some (.d .nilp) := by kernel_rfl
theorem cl144 : clsOf Tryd.prog 144 = none := by kernel_rfl
theorem st144 : isStr Tryd.prog 144 = false := by kernel_rfl
theorem ip144 : isPtr Tryd.prog 144 = true := by kernel_rfl
theorem sz149 : szOf Tryd.prog 149 = some (true, 1) := by kernel_rfl
theorem ze149 : zeroA Tryd.prog 149 = some [.d (.str [])] := by kernel_rfl
theorem by149 : bytesOf Tryd.prog 149 = some 16 := by kernel_rfl
theorem pl149 : placesOf Tryd.prog 149 = some [(0, 1)] := by kernel_rfl
theorem fi149_0 : fieldOf Tryd.prog 149 0 = some (9, 0) := by kernel_rfl
theorem zv149 : zeroV Tryd.prog 149 = some (.agg [.d (.str [])]) := by kernel_rfl
theorem cl149 : clsOf Tryd.prog 149 = none := by kernel_rfl
theorem st149 : isStr Tryd.prog 149 = false := by kernel_rfl
theorem sz150 : szOf Tryd.prog 150 = some (true, 1) := by kernel_rfl
theorem ze150 : zeroA Tryd.prog 150 = some [.d (.str [])] := by kernel_rfl
theorem by150 : bytesOf Tryd.prog 150 = some 16 := by kernel_rfl
theorem pl150 : placesOf Tryd.prog 150 = some [(0, 1)] := by kernel_rfl
theorem fi150_0 : fieldOf Tryd.prog 150 0 = some (9, 0) := by kernel_rfl
theorem zv150 : zeroV Tryd.prog 150 = some (.agg [.d (.str [])]) := by kernel_rfl
theorem cl150 : clsOf Tryd.prog 150 = none := by kernel_rfl
theorem ps150 : plainSt Tryd.prog 150 = some [(0, 1)] := by kernel_rfl
theorem st150 : isStr Tryd.prog 150 = false := by kernel_rfl
set_option linter.defProp false in
/-- the facts that the walks want, in one -/
def PmT := (And.intro (And.intro (And.intro (And.intro (And.intro (And.intro (And.intro (And.intro @ar123 (And.intro @ar126 @ar83)) (And.intro @ar84 (And.intro @by106 @by107))) (And.intro (And.intro @by12 (And.intro @by121 @by123)) (And.intro (And.intro @by124 @by125) (And.intro @by126 @by13)))) (And.intro (And.intro (And.intro @by132 (And.intro @by140 @by144)) (And.intro (And.intro @by149 @by150) (And.intro @by2 @by21))) (And.intro (And.intro @by22 (And.intro @by23 @by28)) (And.intro (And.intro @by29 @by3) (And.intro @by30 @by31))))) (And.intro (And.intro (And.intro (And.intro @by32 (And.intro @by38 @by4)) (And.intro @by46 (And.intro @by5 @by51))) (And.intro (And.intro @by52 (And.intro @by60 @by61)) (And.intro (And.intro @by63 @by64) (And.intro @by65 @by66)))) (And.intro (And.intro (And.intro @by69 (And.intro @by70 @by71)) (And.intro (And.intro @by72 @by73) (And.intro @by77 @by83))) (And.intro (And.intro @by84 (And.intro @by88 @by9)) (And.intro (And.intro @by92 @by99) (And.intro @cl106 @cl107)))))) (And.intro (And.intro (And.intro (And.intro (And.intro @cl12 (And.intro @cl121 @cl123)) (And.intro @cl124 (And.intro @cl125 @cl126))) (And.intro (And.intro @cl13 (And.intro @cl132 @cl140)) (And.intro (And.intro @cl144 @cl149) (And.intro @cl150 @cl2)))) (And.intro (And.intro (And.intro @cl21 (And.intro @cl22 @cl23)) (And.intro (And.intro @cl28 @cl29) (And.intro @cl3 @cl30))) (And.intro (And.intro @cl31 (And.intro @cl32 @cl38)) (And.intro (And.intro @cl4 @cl46) (And.intro @cl5 @cl51))))) (And.intro (And.intro (And.intro (And.intro @cl52 (And.intro @cl60 @cl61)) (And.intro @cl63 (And.intro @cl64 @cl65))) (And.intro (And.intro @cl66 (And.intro @cl69 @cl70)) (And.intro (And.intro @cl71 @cl72) (And.intro @cl73 @cl77)))) (And.intro (And.intro (And.intro @cl83 (And.intro @cl84 @cl88)) (And.intro (And.intro @cl9 @cl92) (And.intro @cl99 @el123))) (And.intro (And.intro @el126 (And.intro @el28 @el31)) (And.intro (And.intro @el46 @el51) (And.intro @el52 @el83))))))) (And.intro (And.intro (And.intro (And.intro (And.intro (And.intro @el84 (And.intro @el99 @fi106_0)) (And.intro @fi106_1 (And.intro @fi106_2 @fi107_0))) (And.intro (And.intro @fi107_1 (And.intro @fi107_2 @fi124_0)) (And.intro (And.intro @fi124_1 @fi125_0) (And.intro @fi125_1 @fi13_0)))) (And.intro (And.intro (And.intro @fi13_1 (And.intro @fi149_0 @fi150_0)) (And.intro (And.intro @fi22_0 @fi22_1) (And.intro @fi22_2 @fi22_3))) (And.intro (And.intro @fi23_0 (And.intro @fi23_1 @fi23_2)) (And.intro (And.intro @fi23_3 @fi29_0) (And.intro @fi29_1 @fi29_2))))) (And.intro (And.intro (And.intro (And.intro @fi29_3 (And.intro @fi29_4 @fi29_5)) (And.intro @fi29_6 (And.intro @fi29_7 @fi30_0))) (And.intro (And.intro @fi30_1 (And.intro @fi30_2 @fi30_3)) (And.intro (And.intro @fi30_4 @fi30_5) (And.intro @fi30_6 @fi30_7)))) (And.intro (And.intro (And.intro @fi63_0 (And.intro @fi63_1 @fi63_2)) (And.intro (And.intro @fi64_0 @fi64_1) (And.intro @fi64_2 @fi65_0))) (And.intro (And.intro @fi65_1 (And.intro @fi66_0 @fi66_1)) (And.intro (And.intro @fi71_0 @fi71_1) (And.intro @fi71_2 @fi71_3)))))) (And.intro (And.intro (And.intro (And.intro (And.intro @fi71_4 (And.intro @fi71_5 @fi71_6)) (And.intro @fi72_0 (And.intro @fi72_1 @fi72_2))) (And.intro (And.intro @fi72_3 (And.intro @fi72_4 @fi72_5)) (And.intro (And.intro @fi72_6 @im121) (And.intro @im61 @im69)))) (And.intro (And.intro (And.intro @im92 (And.intro @ip132 @ip144)) (And.intro (And.intro @ip38 @ip60) (And.intro @ip88 @is28))) (And.intro (And.intro @is31 (And.intro @is46 @is51)) (And.intro (And.intro @is52 @is99) (And.intro @mo121 @mo61))))) (And.intro (And.intro (And.intro (And.intro @mo69 (And.intro @mo92 @pl106)) (And.intro @pl107 (And.intro @pl124 @pl125))) (And.intro (And.intro @pl126 (And.intro @pl13 @pl149)) (And.intro (And.intro @pl150 @pl22) (And.intro @pl23 @pl29)))) (And.intro (And.intro (And.intro @pl30 (And.intro @pl63 @pl64)) (And.intro (And.intro @pl65 @pl66) (And.intro @pl71 @pl72))) (And.intro (And.intro @pl73 (And.intro @ps107 @ps12)) (And.intro (And.intro @ps125 @ps140) (And.intro @ps150 @ps2)))))))) (And.intro (And.intro (And.intro (And.intro (And.intro (And.intro (And.intro @ps21 (And.intro @ps23 @ps3)) (And.intro @ps32 (And.intro @ps4 @ps5))) (And.intro (And.intro @ps70 (And.intro @ps77 @ps9)) (And.intro (And.intro @st106 @st107) (And.intro @st12 @st121)))) (And.intro (And.intro (And.intro @st123 (And.intro @st124 @st125)) (And.intro (And.intro @st126 @st13) (And.intro @st132 @st140))) (And.intro (And.intro @st144 (And.intro @st149 @st150)) (And.intro (And.intro @st2 @st21) (And.intro @st22 @st23))))) (And.intro (And.intro (And.intro (And.intro @st28 (And.intro @st29 @st3)) (And.intro @st30 (And.intro @st31 @st32))) (And.intro (And.intro @st38 (And.intro @st4 @st46)) (And.intro (And.intro @st5 @st51) (And.intro @st52 @st60)))) (And.intro (And.intro (And.intro @st61 (And.intro @st63 @st64)) (And.intro (And.intro @st65 @st66) (And.intro @st69 @st70))) (And.intro (And.intro @st71 (And.intro @st72 @st73)) (And.intro (And.intro @st77 @st83) (And.intro @st84 @st88)))))) (And.intro (And.intro (And.intro (And.intro (And.intro @st9 (And.intro @st92 @st99)) (And.intro @sz106 (And.intro @sz107 @sz12))) (And.intro (And.intro @sz121 (And.intro @sz123 @sz124)) (And.intro (And.intro @sz125 @sz126) (And.intro @sz13 @sz132)))) (And.intro (And.intro (And.intro @sz140 (And.intro @sz144 @sz149)) (And.intro (And.intro @sz150 @sz2) (And.intro @sz21 @sz22))) (And.intro (And.intro @sz23 (And.intro @sz28 @sz29)) (And.intro (And.intro @sz3 @sz30) (And.intro @sz31 @sz32))))) (And.intro (And.intro (And.intro (And.intro @sz38 (And.intro @sz4 @sz46)) (And.intro @sz5 (And.intro @sz51 @sz52))) (And.intro (And.intro @sz60 (And.intro @sz61 @sz63)) (And.intro (And.intro @sz64 @sz65) (And.intro @sz66 @sz69)))) (And.intro (And.intro (And.intro @sz70 (And.intro @sz71 @sz72)) (And.intro (And.intro @sz73 @sz77) (And.intro @sz83 @sz84))) (And.intro (And.intro @sz88 (And.intro @sz9 @sz92)) (And.intro (And.intro @sz99 @ze106) (And.intro @ze107 @ze12))))))) (And.intro (And.intro (And.intro (And.intro (And.intro (And.intro @ze121 (And.intro @ze124 @ze125)) (And.intro @ze126 (And.intro @ze13 @ze132))) (And.intro (And.intro @ze140 (And.intro @ze144 @ze149)) (And.intro (And.intro @ze150 @ze2) (And.intro @ze21 @ze22)))) (And.intro (And.intro (And.intro @ze23 (And.intro @ze28 @ze29)) (And.intro (And.intro @ze3 @ze30) (And.intro @ze31 @ze32))) (And.intro (And.intro @ze38 (And.intro @ze4 @ze46)) (And.intro (And.intro @ze5 @ze51) (And.intro @ze52 @ze60))))) (And.intro (And.intro (And.intro (And.intro @ze61 (And.intro @ze63 @ze64)) (And.intro @ze65 (And.intro @ze66 @ze69))) (And.intro (And.intro @ze70 (And.intro @ze71 @ze72)) (And.intro (And.intro @ze73 @ze77) (And.intro @ze88 @ze9)))) (And.intro (And.intro (And.intro @ze92 (And.intro @ze99 @zv106)) (And.intro (And.intro @zv107 @zv12) (And.intro @zv121 @zv124))) (And.intro (And.intro @zv125 (And.intro @zv126 @zv13)) (And.intro (And.intro @zv132 @zv140) (And.intro @zv144 @zv149)))))) (And.intro (And.intro (And.intro (And.intro (And.intro @zv150 (And.intro @zv2 @zv21)) (And.intro @zv22 (And.intro @zv23 @zv28))) (And.intro (And.intro @zv29 (And.intro @zv3 @zv30)) (And.intro (And.intro @zv31 @zv32) (And.intro @zv38 @zv4)))) (And.intro (And.intro (And.intro @zv46 (And.intro @zv5 @zv51)) (And.intro (And.intro @zv52 @zv60) (And.intro @zv61 @zv63))) (And.intro (And.intro @zv64 (And.intro @zv65 @zv66)) (And.intro (And.intro @zv69 @zv70) (And.intro @zv71 @zv72))))) (And.intro (And.intro (And.intro (And.intro @zv73 (And.intro @zv77 @zv88)) (And.intro @zv9 (And.intro @zv92 @zv99))) (And.intro (And.intro Tryd.underlying2 (And.intro Tryd.underlying3 Tryd.underlying4)) (And.intro (And.intro Tryd.underlying5 Tryd.underlying9) (And.intro Tryd.underlying12 Tryd.underlying21)))) (And.intro (And.intro (And.intro Tryd.underlying28 (And.intro Tryd.underlying31 Tryd.underlying32)) (And.intro (And.intro Tryd.underlying46 Tryd.underlying51) (And.intro Tryd.underlying52 Tryd.underlying70))) (And.intro (And.intro Tryd.underlying77 (And.intro Tryd.underlying83 Tryd.underlying84)) (And.intro (And.intro Tryd.underlying99 Tryd.underlying123) (And.intro Tryd.underlying126 Tryd.underlying140)))))))))
end Go.Proofs.YtndomnknjlihhaaDoor.PM
