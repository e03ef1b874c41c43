/- PM: facts on the program's types (printed by a program of mine). -/
import Derived.Test.YtfkemeamimcnjaaDoorPmC
import Derived.Test.YtfkemeamimcnjaaDoorProg
set_option linter.unusedVariables false
set_option linter.unusedSimpArgs false
namespace Go.Proofs.YtfkemeamimcnjaaDoor.PM
theorem sz2 : szOf Tryd.prog 2 = some (false, 1) := by kernel_rfl
theorem ze2 : zeroA Tryd.prog 2 = some [.d (.int .i64 0)] := by kernel_rfl
theorem by2 : bytesOf Tryd.prog 2 = some 8 := by kernel_rfl
theorem zv2 : zeroV Tryd.prog 2 = some (.d (.int .i64 0)) := by kernel_rfl
theorem cl2 : clsOf Tryd.prog 2 = some 0 := by kernel_rfl
theorem ps2 : plainSt Tryd.prog 2 = none := by kernel_rfl
theorem st2 : isStr Tryd.prog 2 = false := by kernel_rfl
theorem sz3 : szOf Tryd.prog 3 = some (false, 1) := by kernel_rfl
theorem ze3 : zeroA Tryd.prog 3 = some [.d (.int .i64 0)] := by kernel_rfl
theorem by3 : bytesOf Tryd.prog 3 = some 8 := by kernel_rfl
theorem zv3 : zeroV Tryd.prog 3 = some (.d (.int .i64 0)) := by kernel_rfl
theorem cl3 : clsOf Tryd.prog 3 = some 0 := by kernel_rfl
theorem ps3 : plainSt Tryd.prog 3 = none := by kernel_rfl
theorem st3 : isStr Tryd.prog 3 = false := by kernel_rfl
theorem sz4 : szOf Tryd.prog 4 = some (false, 1) := by kernel_rfl
theorem ze4 : zeroA Tryd.prog 4 = some [.d (.bool false)] := by kernel_rfl
theorem by4 : bytesOf Tryd.prog 4 = some 1 := by kernel_rfl
theorem zv4 : zeroV Tryd.prog 4 = some (.d (.bool false)) := by kernel_rfl
theorem cl4 : clsOf Tryd.prog 4 = some 2 := by kernel_rfl
theorem ps4 : plainSt Tryd.prog 4 = none := by kernel_rfl
theorem st4 : isStr Tryd.prog 4 = false := by kernel_rfl
theorem sz5 : szOf Tryd.prog 5 = some (false, 1) := by kernel_rfl
theorem ze5 : zeroA Tryd.prog 5 = some [.d (.int .u8 0)] := by kernel_rfl
theorem by5 : bytesOf Tryd.prog 5 = some 1 := by kernel_rfl
theorem zv5 : zeroV Tryd.prog 5 = some (.d (.int .u8 0)) := by kernel_rfl
theorem cl5 : clsOf Tryd.prog 5 = some 0 := by kernel_rfl
theorem ps5 : plainSt Tryd.prog 5 = none := by kernel_rfl
theorem st5 : isStr Tryd.prog 5 = false := by kernel_rfl
theorem sz9 : szOf Tryd.prog 9 = some (false, 1) := by kernel_rfl
theorem ze9 : zeroA Tryd.prog 9 = some [.d (.str [])] := by kernel_rfl
theorem by9 : bytesOf Tryd.prog 9 = some 16 := by kernel_rfl
theorem zv9 : zeroV Tryd.prog 9 = some (.d (.str [])) := by kernel_rfl
theorem cl9 : clsOf Tryd.prog 9 = some 1 := by kernel_rfl
theorem ps9 : plainSt Tryd.prog 9 = none := by kernel_rfl
theorem st9 : isStr Tryd.prog 9 = true := by kernel_rfl
theorem sz12 : szOf Tryd.prog 12 = some (false, 1) := by kernel_rfl
theorem ze12 : zeroA Tryd.prog 12 = some [.d (.int .u64 0)] := by kernel_rfl
theorem by12 : bytesOf Tryd.prog 12 = some 8 := by kernel_rfl
theorem zv12 : zeroV Tryd.prog 12 = some (.d (.int .u64 0)) := by kernel_rfl
theorem cl12 : clsOf Tryd.prog 12 = some 0 := by kernel_rfl
theorem ps12 : plainSt Tryd.prog 12 = none := by kernel_rfl
theorem st12 : isStr Tryd.prog 12 = false := by kernel_rfl
theorem sz13 : szOf Tryd.prog 13 = some (true, 2) := by kernel_rfl
theorem ze13 : zeroA Tryd.prog 13 = some [.d (.str []), .d (.int .u64 0)] := by kernel_rfl
theorem by13 : bytesOf Tryd.prog 13 = some 24 := by kernel_rfl
theorem pl13 : placesOf Tryd.prog 13 = some [(0, 1), (1, 1)] := by kernel_rfl
theorem fi13_0 : fieldOf Tryd.prog 13 0 = some (9, 0) := by kernel_rfl
theorem fi13_1 : fieldOf Tryd.prog 13 1 = some (12, 1) := by kernel_rfl
theorem zv13 : zeroV Tryd.prog 13 = some (.agg [.d (.str []), .d (.int .u64 0)]) := by kernel_rfl
theorem cl13 : clsOf Tryd.prog 13 = none := by kernel_rfl
theorem st13 : isStr Tryd.prog 13 = false := by kernel_rfl
theorem sz21 : szOf Tryd.prog 21 = some (false, 1) := by kernel_rfl
theorem ze21 : zeroA Tryd.prog 21 = some [.d (.int .i32 0)] := by kernel_rfl
theorem by21 : bytesOf Tryd.prog 21 = some 4 := by kernel_rfl
theorem zv21 : zeroV Tryd.prog 21 = some (.d (.int .i32 0)) := by kernel_rfl
theorem cl21 : clsOf Tryd.prog 21 = some 0 := by kernel_rfl
theorem ps21 : plainSt Tryd.prog 21 = none := by kernel_rfl
theorem st21 : isStr Tryd.prog 21 = false := by kernel_rfl
theorem sz22 : szOf Tryd.prog 22 = some (false, 1) := by kernel_rfl
theorem ze22 : zeroA Tryd.prog 22 = some [.nils] := by kernel_rfl
theorem by22 : bytesOf Tryd.prog 22 = some 24 := by kernel_rfl
theorem el22 : elOf Tryd.prog 22 = some (82, 7) := by kernel_rfl
theorem is22 : isSl Tryd.prog 22 = true := by kernel_rfl
theorem zv22 : zeroV Tryd.prog 22 = some (.nils) := by kernel_rfl
theorem cl22 : clsOf Tryd.prog 22 = none := by kernel_rfl
theorem st22 : isStr Tryd.prog 22 = false := by kernel_rfl
theorem sz23 : szOf Tryd.prog 23 = some (false, 1) := by kernel_rfl
theorem ze23 : zeroA Tryd.prog 23 = some [.nils] := by kernel_rfl
theorem by23 : bytesOf Tryd.prog 23 = some 24 := by kernel_rfl
theorem el23 : elOf Tryd.prog 23 = some (3, 1) := by kernel_rfl
theorem is23 : isSl Tryd.prog 23 = true := by kernel_rfl
theorem zv23 : zeroV Tryd.prog 23 = some (.nils) := by kernel_rfl
theorem cl23 : clsOf Tryd.prog 23 = none := by kernel_rfl
theorem st23 : isStr Tryd.prog 23 = false := by kernel_rfl
theorem sz24 : szOf Tryd.prog 24 = some (false, 1) := by kernel_rfl
theorem ze24 : zeroA Tryd.prog 24 = some [.nils] := by kernel_rfl
theorem by24 : bytesOf Tryd.prog 24 = some 24 := by kernel_rfl
theorem el24 : elOf Tryd.prog 24 = some (42, 4) := by kernel_rfl
theorem is24 : isSl Tryd.prog 24 = true := by kernel_rfl
theorem zv24 : zeroV Tryd.prog 24 = some (.nils) := by kernel_rfl
theorem cl24 : clsOf Tryd.prog 24 = none := by kernel_rfl
theorem st24 : isStr Tryd.prog 24 = false := by kernel_rfl
theorem sz25 : szOf Tryd.prog 25 = some (true, 5) := by kernel_rfl
theorem ze25 : zeroA Tryd.prog 25 = some [.d (.int .i64 0), .d (.str []), .nils, .nils, .nils] := by kernel_rfl
theorem by25 : bytesOf Tryd.prog 25 = some 96 := by kernel_rfl
theorem pl25 : placesOf Tryd.prog 25 = some [(0, 1), (1, 1), (2, 1), (3, 1), (4, 1)] := by kernel_rfl
theorem fi25_0 : fieldOf Tryd.prog 25 0 = some (3, 0) := by kernel_rfl
theorem fi25_1 : fieldOf Tryd.prog 25 1 = some (9, 1) := by kernel_rfl
theorem fi25_2 : fieldOf Tryd.prog 25 2 = some (22, 2) := by kernel_rfl
theorem fi25_3 : fieldOf Tryd.prog 25 3 = some (23, 3) := by kernel_rfl
theorem fi25_4 : fieldOf Tryd.prog 25 4 = some (24, 4) := by kernel_rfl
theorem zv25 : zeroV Tryd.prog 25 = some (.agg [.d (.int .i64 0), .d (.str []), .nils, .nils, .nils]) := by kernel_rfl
theorem cl25 : clsOf Tryd.prog 25 = none := by kernel_rfl
theorem st25 : isStr Tryd.prog 25 = false := by kernel_rfl
theorem sz26 : szOf Tryd.prog 26 = some (true, 5) := by kernel_rfl
theorem ze26 : zeroA Tryd.prog 26 = some [.d (.int .i64 0), .d (.str []), .nils, .nils, .nils] := by kernel_rfl
theorem by26 : bytesOf Tryd.prog 26 = some 96 := by kernel_rfl
theorem pl26 : placesOf Tryd.prog 26 = some [(0, 1), (1, 1), (2, 1), (3, 1), (4, 1)] := by kernel_rfl
theorem fi26_0 : fieldOf Tryd.prog 26 0 = some (3, 0) := by kernel_rfl
theorem fi26_1 : fieldOf Tryd.prog 26 1 = some (9, 1) := by kernel_rfl
theorem fi26_2 : fieldOf Tryd.prog 26 2 = some (22, 2) := by kernel_rfl
theorem fi26_3 : fieldOf Tryd.prog 26 3 = some (23, 3) := by kernel_rfl
theorem fi26_4 : fieldOf Tryd.prog 26 4 = some (24, 4) := by kernel_rfl
theorem zv26 : zeroV Tryd.prog 26 = some (.agg [.d (.int .i64 0), .d (.str []), .nils, .nils, .nils]) := by kernel_rfl
theorem cl26 : clsOf Tryd.prog 26 = none := by kernel_rfl
theorem st26 : isStr Tryd.prog 26 = false := by kernel_rfl
theorem sz27 : szOf Tryd.prog 27 = some (false, 1) := by kernel_rfl
theorem ze27 : zeroA Tryd.prog 27 = some [.nils] := by kernel_rfl
theorem by27 : bytesOf Tryd.prog 27 = some 24 := by kernel_rfl
theorem el27 : elOf Tryd.prog 27 = some (47, 4) := by kernel_rfl
theorem is27 : isSl Tryd.prog 27 = true := by kernel_rfl
theorem zv27 : zeroV Tryd.prog 27 = some (.nils) := by kernel_rfl
theorem cl27 : clsOf Tryd.prog 27 = none := by kernel_rfl
theorem st27 : isStr Tryd.prog 27 = false := by kernel_rfl
theorem sz29 : szOf Tryd.prog 29 = some (false, 1) := by kernel_rfl
theorem ze29 : zeroA Tryd.prog 29 = some [.nils] := by kernel_rfl
theorem by29 : bytesOf Tryd.prog 29 = some 24 := by kernel_rfl
theorem el29 : elOf Tryd.prog 29 = some (5, 1) := by kernel_rfl
theorem is29 : isSl Tryd.prog 29 = true := by kernel_rfl
theorem zv29 : zeroV Tryd.prog 29 = some (.nils) := by kernel_rfl
theorem cl29 : clsOf Tryd.prog 29 = none := by kernel_rfl
theorem st29 : isStr Tryd.prog 29 = false := by kernel_rfl
theorem sz30 : szOf Tryd.prog 30 = some (true, 2) := by kernel_rfl
theorem ze30 : zeroA Tryd.prog 30 = some [.nils, .nils] := by kernel_rfl
theorem by30 : bytesOf Tryd.prog 30 = some 48 := by kernel_rfl
theorem pl30 : placesOf Tryd.prog 30 = some [(0, 1), (1, 1)] := by kernel_rfl
theorem fi30_0 : fieldOf Tryd.prog 30 0 = some (29, 0) := by kernel_rfl
theorem fi30_1 : fieldOf Tryd.prog 30 1 = some (29, 1) := by kernel_rfl
theorem zv30 : zeroV Tryd.prog 30 = some (.agg [.nils, .nils]) := by kernel_rfl
theorem cl30 : clsOf Tryd.prog 30 = none := by kernel_rfl
theorem st30 : isStr Tryd.prog 30 = false := by kernel_rfl
theorem sz31 : szOf Tryd.prog 31 = some (true, 2) := by kernel_rfl
theorem ze31 : zeroA Tryd.prog 31 = some [.nils, .nils] := by kernel_rfl
theorem by31 : bytesOf Tryd.prog 31 = some 48 := by kernel_rfl
theorem pl31 : placesOf Tryd.prog 31 = some [(0, 1), (1, 1)] := by kernel_rfl
theorem fi31_0 : fieldOf Tryd.prog 31 0 = some (29, 0) := by kernel_rfl
theorem fi31_1 : fieldOf Tryd.prog 31 1 = some (29, 1) := by kernel_rfl
theorem zv31 : zeroV Tryd.prog 31 = some (.agg [.nils, .nils]) := by kernel_rfl
theorem cl31 : clsOf Tryd.prog 31 = none := by kernel_rfl
theorem st31 : isStr Tryd.prog 31 = false := by kernel_rfl
theorem sz32 : szOf Tryd.prog 32 = some (false, 1) := by kernel_rfl
theorem ze32 : zeroA Tryd.prog 32 = some [.d (.int .i64 0)] := by kernel_rfl
theorem by32 : bytesOf Tryd.prog 32 = some 8 := by kernel_rfl
theorem zv32 : zeroV Tryd.prog 32 = some (.d (.int .i64 0)) := by kernel_rfl
theorem cl32 : clsOf Tryd.prog 32 = some 0 := by kernel_rfl
theorem ps32 : plainSt Tryd.prog 32 = none := by kernel_rfl
theorem st32 : isStr Tryd.prog 32 = false := by kernel_rfl
theorem sz41 : szOf Tryd.prog 41 = some (true, 4) := by kernel_rfl
theorem ze41 : zeroA Tryd.prog 41 = some [.d (.int .i64 0), .d (.str []), .nils, .d (.bool false)] := by kernel_rfl
theorem by41 : bytesOf Tryd.prog 41 = some 56 := by kernel_rfl
theorem pl41 : placesOf Tryd.prog 41 = some [(0, 1), (1, 1), (2, 1), (3, 1)] := by kernel_rfl
theorem fi41_0 : fieldOf Tryd.prog 41 0 = some (3, 0) := by kernel_rfl
theorem fi41_1 : fieldOf Tryd.prog 41 1 = some (9, 1) := by kernel_rfl
theorem fi41_2 : fieldOf Tryd.prog 41 2 = some (23, 2) := by kernel_rfl
theorem fi41_3 : fieldOf Tryd.prog 41 3 = some (4, 3) := by kernel_rfl
theorem zv41 : zeroV Tryd.prog 41 = some (.agg [.d (.int .i64 0), .d (.str []), .nils, .d (.bool false)]) := by kernel_rfl
theorem cl41 : clsOf Tryd.prog 41 = none := by kernel_rfl
theorem st41 : isStr Tryd.prog 41 = false := by kernel_rfl
theorem sz42 : szOf Tryd.prog 42 = some (true, 4) := by kernel_rfl
theorem ze42 : zeroA Tryd.prog 42 = some [.d (.int .i64 0), .d (.str []), .nils, .d (.bool false)] := by kernel_rfl
theorem by42 : bytesOf Tryd.prog 42 = some 56 := by kernel_rfl
theorem pl42 : placesOf Tryd.prog 42 = some [(0, 1), (1, 1), (2, 1), (3, 1)] := by kernel_rfl
theorem fi42_0 : fieldOf Tryd.prog 42 0 = some (3, 0) := by kernel_rfl
theorem fi42_1 : fieldOf Tryd.prog 42 1 = some (9, 1) := by kernel_rfl
theorem fi42_2 : fieldOf Tryd.prog 42 2 = some (23, 2) := by kernel_rfl
theorem fi42_3 : fieldOf Tryd.prog 42 3 = some (4, 3) := by kernel_rfl
theorem zv42 : zeroV Tryd.prog 42 = some (.agg [.d (.int .i64 0), .d (.str []), .nils, .d (.bool false)]) := by kernel_rfl
theorem cl42 : clsOf Tryd.prog 42 = none := by kernel_rfl
theorem st42 : isStr Tryd.prog 42 = false := by kernel_rfl
theorem sz46 : szOf Tryd.prog 46 = some (true, 4) := by kernel_rfl
theorem ze46 : zeroA Tryd.prog 46 = some [.d (.int .i64 0), .d (.bool false), .d (.int .i64 0), .d (.str [])] := by kernel_rfl
theorem by46 : bytesOf Tryd.prog 46 = some 40 := by kernel_rfl
theorem pl46 : placesOf Tryd.prog 46 = some [(0, 1), (1, 1), (2, 1), (3, 1)] := by kernel_rfl
theorem fi46_0 : fieldOf Tryd.prog 46 0 = some (3, 0) := by kernel_rfl
theorem fi46_1 : fieldOf Tryd.prog 46 1 = some (4, 1) := by kernel_rfl
theorem fi46_2 : fieldOf Tryd.prog 46 2 = some (2, 2) := by kernel_rfl
theorem fi46_3 : fieldOf Tryd.prog 46 3 = some (9, 3) := by kernel_rfl
theorem zv46 : zeroV Tryd.prog 46 = some (.agg [.d (.int .i64 0), .d (.bool false), .d (.int .i64 0), .d (.str [])]) := by kernel_rfl
theorem cl46 : clsOf Tryd.prog 46 = none := by kernel_rfl
theorem st46 : isStr Tryd.prog 46 = false := by kernel_rfl
theorem sz47 : szOf Tryd.prog 47 = some (true, 4) := by kernel_rfl
theorem ze47 : zeroA Tryd.prog 47 = some [.d (.int .i64 0), .d (.bool false), .d (.int .i64 0), .d (.str [])] := by kernel_rfl
theorem by47 : bytesOf Tryd.prog 47 = some 40 := by kernel_rfl
theorem pl47 : placesOf Tryd.prog 47 = some [(0, 1), (1, 1), (2, 1), (3, 1)] := by kernel_rfl
theorem fi47_0 : fieldOf Tryd.prog 47 0 = some (3, 0) := by kernel_rfl
theorem fi47_1 : fieldOf Tryd.prog 47 1 = some (4, 1) := by kernel_rfl
theorem fi47_2 : fieldOf Tryd.prog 47 2 = some (2, 2) := by kernel_rfl
theorem fi47_3 : fieldOf Tryd.prog 47 3 = some (9, 3) := by kernel_rfl
theorem zv47 : zeroV Tryd.prog 47 = some (.agg [.d (.int .i64 0), .d (.bool false), .d (.int .i64 0), .d (.str [])]) := by kernel_rfl
theorem cl47 : clsOf Tryd.prog 47 = none := by kernel_rfl
theorem ps47 : plainSt Tryd.prog 47 = some [(0, 0), (1, 2), (2, 0), (3, 1)] := by kernel_rfl
theorem st47 : isStr Tryd.prog 47 = false := by kernel_rfl
theorem sz53 : szOf Tryd.prog 53 = some (true, 2) := by kernel_rfl
theorem ze53 : zeroA Tryd.prog 53 = some [.nils, .nils] := by kernel_rfl
theorem by53 : bytesOf Tryd.prog 53 = some 48 := by kernel_rfl
theorem pl53 : placesOf Tryd.prog 53 = some [(0, 1), (1, 1)] := by kernel_rfl
theorem fi53_0 : fieldOf Tryd.prog 53 0 = some (29, 0) := by kernel_rfl
theorem fi53_1 : fieldOf Tryd.prog 53 1 = some (29, 1) := by kernel_rfl
theorem zv53 : zeroV Tryd.prog 53 = some (.agg [.nils, .nils]) := by kernel_rfl
theorem cl53 : clsOf Tryd.prog 53 = none := by kernel_rfl
theorem st53 : isStr Tryd.prog 53 = false := by kernel_rfl
theorem sz54 : szOf Tryd.prog 54 = some (true, 2) := by kernel_rfl
theorem ze54 : zeroA Tryd.prog 54 = some [.nils, .nils] := by kernel_rfl
theorem by54 : bytesOf Tryd.prog 54 = some 48 := by kernel_rfl
theorem pl54 : placesOf Tryd.prog 54 = some [(0, 1), (1, 1)] := by kernel_rfl
theorem fi54_0 : fieldOf Tryd.prog 54 0 = some (29, 0) := by kernel_rfl
theorem fi54_1 : fieldOf Tryd.prog 54 1 = some (29, 1) := by kernel_rfl
theorem zv54 : zeroV Tryd.prog 54 = some (.agg [.nils, .nils]) := by kernel_rfl
theorem cl54 : clsOf Tryd.prog 54 = none := by kernel_rfl
theorem st54 : isStr Tryd.prog 54 = false := by kernel_rfl
theorem sz64 : szOf Tryd.prog 64 = some (true, 6) := by kernel_rfl
theorem ze64 : zeroA Tryd.prog 64 = some [.d (.bool false), .d (.bool false), .d (.int .i64 0), .d (.bool false), .d (.int .i64 0), .d (.str [])] := by kernel_rfl
theorem by64 : bytesOf Tryd.prog 64 = some 48 := by kernel_rfl
theorem pl64 : placesOf Tryd.prog 64 = some [(0, 1), (1, 1), (2, 4)] := by kernel_rfl
theorem fi64_0 : fieldOf Tryd.prog 64 0 = some (4, 0) := by kernel_rfl
theorem fi64_1 : fieldOf Tryd.prog 64 1 = some (4, 1) := by kernel_rfl
theorem fi64_2 : fieldOf Tryd.prog 64 2 = some (47, 2) := by kernel_rfl
theorem zv64 : zeroV Tryd.prog 64 = some (.agg [.d (.bool false), .d (.bool false), .d (.int .i64 0), .d (.bool false), .d (.int .i64 0), .d (.str [])]) := by kernel_rfl
theorem cl64 : clsOf Tryd.prog 64 = none := by kernel_rfl
theorem st64 : isStr Tryd.prog 64 = false := by kernel_rfl
theorem sz65 : szOf Tryd.prog 65 = some (true, 6) := by kernel_rfl
theorem ze65 : zeroA Tryd.prog 65 = some [.d (.bool false), .d (.bool false), .d (.int .i64 0), .d (.bool false), .d (.int .i64 0), .d (.str [])] := by kernel_rfl
theorem by65 : bytesOf Tryd.prog 65 = some 48 := by kernel_rfl
theorem pl65 : placesOf Tryd.prog 65 = some [(0, 1), (1, 1), (2, 4)] := by kernel_rfl
theorem fi65_0 : fieldOf Tryd.prog 65 0 = some (4, 0) := by kernel_rfl
theorem fi65_1 : fieldOf Tryd.prog 65 1 = some (4, 1) := by kernel_rfl
theorem fi65_2 : fieldOf Tryd.prog 65 2 = some (47, 2) := by kernel_rfl
theorem zv65 : zeroV Tryd.prog 65 = some (.agg [.d (.bool false), .d (.bool false), .d (.int .i64 0), .d (.bool false), .d (.int .i64 0), .d (.str [])]) := by kernel_rfl
theorem cl65 : clsOf Tryd.prog 65 = none := by kernel_rfl
theorem st65 : isStr Tryd.prog 65 = false := by kernel_rfl
theorem sz77 : szOf Tryd.prog 77 = some (false, 1) := by kernel_rfl
theorem ze77 : zeroA Tryd.prog 77 = some [.d .nilp] := by kernel_rfl
theorem by77 : bytesOf Tryd.prog 77 = some 8 := by kernel_rfl
theorem zv77 : zeroV Tryd.prog 77 = some (.d .nilp) := by kernel_rfl
theorem cl77 : clsOf Tryd.prog 77 = none := by kernel_rfl
theorem st77 : isStr Tryd.prog 77 = false := by kernel_rfl
theorem ip77 : isPtr Tryd.prog 77 = true := by kernel_rfl
theorem sz78 : szOf Tryd.prog 78 = some (true, 2) := by kernel_rfl
theorem ze78 : zeroA Tryd.prog 78 = some [.nils, .d (.bool false)] := by kernel_rfl
theorem by78 : bytesOf Tryd.prog 78 = some 32 := by kernel_rfl
theorem pl78 : placesOf Tryd.prog 78 = some [(0, 1), (1, 1)] := by kernel_rfl
theorem fi78_0 : fieldOf Tryd.prog 78 0 = some (29, 0) := by kernel_rfl
theorem fi78_1 : fieldOf Tryd.prog 78 1 = some (4, 1) := by kernel_rfl
theorem zv78 : zeroV Tryd.prog 78 = some (.agg [.nils, .d (.bool false)]) := by kernel_rfl
theorem cl78 : clsOf Tryd.prog 78 = none := by kernel_rfl
theorem st78 : isStr Tryd.prog 78 = false := by kernel_rfl
theorem sz79 : szOf Tryd.prog 79 = some (true, 2) := by kernel_rfl
theorem ze79 : zeroA Tryd.prog 79 = some [.nils, .d (.bool false)] := by kernel_rfl
theorem by79 : bytesOf Tryd.prog 79 = some 32 := by kernel_rfl
theorem pl79 : placesOf Tryd.prog 79 = some [(0, 1), (1, 1)] := by kernel_rfl
theorem fi79_0 : fieldOf Tryd.prog 79 0 = some (29, 0) := by kernel_rfl
theorem fi79_1 : fieldOf Tryd.prog 79 1 = some (4, 1) := by kernel_rfl
theorem zv79 : zeroV Tryd.prog 79 = some (.agg [.nils, .d (.bool false)]) := by kernel_rfl
theorem cl79 : clsOf Tryd.prog 79 = none := by kernel_rfl
theorem st79 : isStr Tryd.prog 79 = false := by kernel_rfl
theorem sz81 : szOf Tryd.prog 81 = some (true, 7) := by kernel_rfl
theorem ze81 : zeroA Tryd.prog 81 = some [.d (.str []), .d (.int .i64 0), .d (.bool false), .d (.int .i64 0), .d (.bool false), .d (.int .i64 0), .d (.str [])] := by kernel_rfl
theorem by81 : bytesOf Tryd.prog 81 = some 72 := by kernel_rfl
theorem pl81 : placesOf Tryd.prog 81 = some [(0, 1), (1, 1), (2, 1), (3, 4)] := by kernel_rfl
theorem fi81_0 : fieldOf Tryd.prog 81 0 = some (9, 0) := by kernel_rfl
theorem fi81_1 : fieldOf Tryd.prog 81 1 = some (3, 1) := by kernel_rfl
theorem fi81_2 : fieldOf Tryd.prog 81 2 = some (4, 2) := by kernel_rfl
theorem fi81_3 : fieldOf Tryd.prog 81 3 = some (47, 3) := by kernel_rfl
theorem zv81 : zeroV Tryd.prog 81 = some (.agg [.d (.str []), .d (.int .i64 0), .d (.bool false), .d (.int .i64 0), .d (.bool false), .d (.int .i64 0), .d (.str [])]) := by kernel_rfl
theorem cl81 : clsOf Tryd.prog 81 = none := by kernel_rfl
theorem st81 : isStr Tryd.prog 81 = false := by kernel_rfl
theorem sz82 : szOf Tryd.prog 82 = some (true, 7) := by kernel_rfl
theorem ze82 : zeroA Tryd.prog 82 = some [.d (.str []), .d (.int .i64 0), .d (.bool false), .d (.int .i64 0), .d (.bool false), .d (.int .i64 0), .d (.str [])] := by kernel_rfl
theorem by82 : bytesOf Tryd.prog 82 = some 72 := by kernel_rfl
theorem pl82 : placesOf Tryd.prog 82 = some [(0, 1), (1, 1), (2, 1), (3, 4)] := by kernel_rfl
theorem fi82_0 : fieldOf Tryd.prog 82 0 = some (9, 0) := by kernel_rfl
theorem fi82_1 : fieldOf Tryd.prog 82 1 = some (3, 1) := by kernel_rfl
theorem fi82_2 : fieldOf Tryd.prog 82 2 = some (4, 2) := by kernel_rfl
theorem fi82_3 : fieldOf Tryd.prog 82 3 = some (47, 3) := by kernel_rfl
theorem zv82 : zeroV Tryd.prog 82 = some (.agg [.d (.str []), .d (.int .i64 0), .d (.bool false), .d (.int .i64 0), .d (.bool false), .d (.int .i64 0), .d (.str [])]) := by kernel_rfl
theorem cl82 : clsOf Tryd.prog 82 = none := by kernel_rfl
theorem st82 : isStr Tryd.prog 82 = false := by kernel_rfl
theorem sz93 : szOf Tryd.prog 93 = some (false, 1) := by kernel_rfl
theorem ze93 : zeroA Tryd.prog 93 = some [.nils] := by kernel_rfl
theorem by93 : bytesOf Tryd.prog 93 = some 24 := by kernel_rfl
theorem el93 : elOf Tryd.prog 93 = some (29, 1) := by kernel_rfl
theorem is93 : isSl Tryd.prog 93 = true := by kernel_rfl
theorem zv93 : zeroV Tryd.prog 93 = some (.nils) := by kernel_rfl
theorem cl93 : clsOf Tryd.prog 93 = none := by kernel_rfl
theorem st93 : isStr Tryd.prog 93 = false := by kernel_rfl
theorem sz97 : szOf Tryd.prog 97 = some (false, 1) := by kernel_rfl
theorem ze97 : zeroA Tryd.prog 97 = some [.nils] := by kernel_rfl
theorem by97 : bytesOf Tryd.prog 97 = some 24 := by kernel_rfl
theorem el97 : elOf Tryd.prog 97 = some (65, 6) := by kernel_rfl
theorem is97 : isSl Tryd.prog 97 = true := by kernel_rfl
theorem zv97 : zeroV Tryd.prog 97 = some (.nils) := by kernel_rfl
theorem cl97 : clsOf Tryd.prog 97 = none := by kernel_rfl
theorem st97 : isStr Tryd.prog 97 = false := by kernel_rfl
theorem sz115 : szOf Tryd.prog 115 = some (false, 1) := by kernel_rfl
theorem ze115 : zeroA Tryd.prog 115 = some [.d .nilp] := by kernel_rfl
theorem by115 : bytesOf Tryd.prog 115 = some 8 := by kernel_rfl
theorem zv115 : zeroV Tryd.prog 115 = some (.d .nilp) := by kernel_rfl
theorem cl115 : clsOf Tryd.prog 115 = none := by kernel_rfl
theorem st115 : isStr Tryd.prog 115 = false := by kernel_rfl
theorem ip115 : isPtr Tryd.prog 115 = true := by kernel_rfl
theorem sz116 : szOf Tryd.prog 116 = some (true, 2) := by kernel_rfl
theorem ze116 : zeroA Tryd.prog 116 = some [.nils, .d (.bool false)] := by kernel_rfl
theorem by116 : bytesOf Tryd.prog 116 = some 32 := by kernel_rfl
theorem pl116 : placesOf Tryd.prog 116 = some [(0, 1), (1, 1)] := by kernel_rfl
theorem fi116_0 : fieldOf Tryd.prog 116 0 = some (29, 0) := by kernel_rfl
theorem fi116_1 : fieldOf Tryd.prog 116 1 = some (4, 1) := by kernel_rfl
theorem zv116 : zeroV Tryd.prog 116 = some (.agg [.nils, .d (.bool false)]) := by kernel_rfl
theorem cl116 : clsOf Tryd.prog 116 = none := by kernel_rfl
theorem st116 : isStr Tryd.prog 116 = false := by kernel_rfl
theorem sz117 : szOf Tryd.prog 117 = some (true, 2) := by kernel_rfl
theorem ze117 : zeroA Tryd.prog 117 = some [.nils, .d (.bool false)] := by kernel_rfl
theorem by117 : bytesOf Tryd.prog 117 = some 32 := by kernel_rfl
theorem pl117 : placesOf Tryd.prog 117 = some [(0, 1), (1, 1)] := by kernel_rfl
theorem fi117_0 : fieldOf Tryd.prog 117 0 = some (29, 0) := by kernel_rfl
theorem fi117_1 : fieldOf Tryd.prog 117 1 = some (4, 1) := by kernel_rfl
theorem zv117 : zeroV Tryd.prog 117 = some (.agg [.nils, .d (.bool false)]) := by kernel_rfl
theorem cl117 : clsOf Tryd.prog 117 = none := by kernel_rfl
theorem st117 : isStr Tryd.prog 117 = false := by kernel_rfl
theorem sz120 : szOf Tryd.prog 120 = some (false, 1) := by kernel_rfl
theorem ze120 : zeroA Tryd.prog 120 = some [.d (.int .u64 0)] := by kernel_rfl
theorem by120 : bytesOf Tryd.prog 120 = some 8 := by kernel_rfl
theorem zv120 : zeroV Tryd.prog 120 = some (.d (.int .u64 0)) := by kernel_rfl
theorem cl120 : clsOf Tryd.prog 120 = some 0 := by kernel_rfl
theorem ps120 : plainSt Tryd.prog 120 = none := by kernel_rfl
theorem st120 : isStr Tryd.prog 120 = false := by kernel_rfl
theorem sz121 : szOf Tryd.prog 121 = some (false, 1) := by kernel_rfl
theorem ze121 : zeroA Tryd.prog 121 = some [.d .nilm] := by kernel_rfl
theorem by121 : bytesOf Tryd.prog 121 = some 8 := by kernel_rfl
theorem zv121 : zeroV Tryd.prog 121 = some (.d .nilm) := by kernel_rfl
theorem cl121 : clsOf Tryd.prog 121 = none := by kernel_rfl
theorem mo121 : mapOf Tryd.prog 121 = some (3, 4) := by kernel_rfl
theorem im121 : isMp Tryd.prog 121 = true := by kernel_rfl
theorem st121 : isStr Tryd.prog 121 = false := by kernel_rfl
theorem sz125 : szOf Tryd.prog 125 = some (false, 1) := by kernel_rfl
theorem ze125 : zeroA Tryd.prog 125 = some [.d (.int .u64 0)] := by kernel_rfl
theorem by125 : bytesOf Tryd.prog 125 = some 8 := by kernel_rfl
theorem zv125 : zeroV Tryd.prog 125 = some (.d (.int .u64 0)) := by kernel_rfl
theorem cl125 : clsOf Tryd.prog 125 = some 0 := by kernel_rfl
theorem ps125 : plainSt Tryd.prog 125 = none := by kernel_rfl
theorem st125 : isStr Tryd.prog 125 = false := by kernel_rfl
theorem sz136 : szOf Tryd.prog 136 = some (false, 1) := by kernel_rfl
theorem ze136 : zeroA Tryd.prog 136 = some [.d (.int .u32 0)] := by kernel_rfl
theorem by136 : bytesOf Tryd.prog 136 = some 4 := by kernel_rfl
theorem zv136 : zeroV Tryd.prog 136 = some (.d (.int .u32 0)) := by kernel_rfl
theorem cl136 : clsOf Tryd.prog 136 = some 0 := by kernel_rfl
theorem ps136 : plainSt Tryd.prog 136 = none := by kernel_rfl
theorem st136 : isStr Tryd.prog 136 = false := by kernel_rfl
theorem sz139 : szOf Tryd.prog 139 = some (true, 256) := by kernel_rfl
theorem by139 : bytesOf Tryd.prog 139 = some 256 := by kernel_rfl
theorem el139 : elOf Tryd.prog 139 = none := by kernel_rfl
theorem ar139 : arOf Tryd.prog 139 = some (5, 256, 1) := by kernel_rfl
theorem cl139 : clsOf Tryd.prog 139 = none := by kernel_rfl
theorem st139 : isStr Tryd.prog 139 = false := by kernel_rfl
theorem sz140 : szOf Tryd.prog 140 = some (true, 2) := by kernel_rfl
theorem ze140 : zeroA Tryd.prog 140 = some [.d (.int .u8 0), .d (.int .u8 0)] := by kernel_rfl
theorem by140 : bytesOf Tryd.prog 140 = some 2 := by kernel_rfl
theorem pl140 : placesOf Tryd.prog 140 = some [(0, 1), (1, 1)] := by kernel_rfl
theorem fi140_0 : fieldOf Tryd.prog 140 0 = some (5, 0) := by kernel_rfl
theorem fi140_1 : fieldOf Tryd.prog 140 1 = some (5, 1) := by kernel_rfl
theorem zv140 : zeroV Tryd.prog 140 = some (.agg [.d (.int .u8 0), .d (.int .u8 0)]) := by kernel_rfl
theorem cl140 : clsOf Tryd.prog 140 = none := by kernel_rfl
theorem st140 : isStr Tryd.prog 140 = false := by kernel_rfl
theorem sz141 : szOf Tryd.prog 141 = some (true, 2) := by kernel_rfl
theorem ze141 : zeroA Tryd.prog 141 = some [.d (.int .u8 0), .d (.int .u8 0)] := by kernel_rfl
theorem by141 : bytesOf Tryd.prog 141 = some 2 := by kernel_rfl
theorem pl141 : placesOf Tryd.prog 141 = some [(0, 1), (1, 1)] := by kernel_rfl
theorem fi141_0 : fieldOf Tryd.prog 141 0 = some (5, 0) := by kernel_rfl
theorem fi141_1 : fieldOf Tryd.prog 141 1 = some (5, 1) := by kernel_rfl
theorem zv141 : zeroV Tryd.prog 141 = some (.agg [.d (.int .u8 0), .d (.int .u8 0)]) := by kernel_rfl
theorem cl141 : clsOf Tryd.prog 141 = none := by kernel_rfl
theorem ps141 : plainSt Tryd.prog 141 = some [(0, 0), (1, 0)] := by kernel_rfl
theorem st141 : isStr Tryd.prog 141 = false := by kernel_rfl
theorem sz142 : szOf Tryd.prog 142 = some (true, 32) := by kernel_rfl
theorem ze142 : zeroA Tryd.prog 142 = some [.d (.int .u8 0), .d (.int .u8 0), .d (.int .u8 0), .d (.int .u8 0), .d (.int .u8 0), .d (.int .u8 0), .d (.int .u8 0), .d (.int .u8 0), .d (.int .u8 0), .d (.int .u8 0), .d (.int .u8 0), .d (.int .u8 0), .d (.int .u8 0), .d (.int .u8 0), .d (.int .u8 0), .d (.int .u8 0), .d (.int .u8 0), .d (.int .u8 0), .d (.int .u8 0), .d (.int .u8 0), .d (.int .u8 0), .d (.int .u8 0), .d (.int .u8 0), .d (.int .u8 0), .d (.int .u8 0), .d (.int .u8 0), .d (.int .u8 0), .d (.int .u8 0), .d (.int .u8 0), .d (.int .u8 0), .d (.int .u8 0), .d (.int .u8 0)] := by kernel_rfl
theorem by142 : bytesOf Tryd.prog 142 = some 32 := by kernel_rfl
theorem el142 : elOf Tryd.prog 142 = none := by kernel_rfl
theorem pl142 : placesOf Tryd.prog 142 = some [(0, 2), (2, 2), (4, 2), (6, 2), (8, 2), (10, 2), (12, 2), (14, 2), (16, 2), (18, 2), (20, 2), (22, 2), (24, 2), (26, 2), (28, 2), (30, 2)] := by kernel_rfl
theorem ar142 : arOf Tryd.prog 142 = some (141, 16, 2) := by kernel_rfl
theorem zv142 : zeroV Tryd.prog 142 = some (.agg [.d (.int .u8 0), .d (.int .u8 0), .d (.int .u8 0), .d (.int .u8 0), .d (.int .u8 0), .d (.int .u8 0), .d (.int .u8 0), .d (.int .u8 0), .d (.int .u8 0), .d (.int .u8 0), .d (.int .u8 0), .d (.int .u8 0), .d (.int .u8 0), .d (.int .u8 0), .d (.int .u8 0), .d (.int .u8 0), .d (.int .u8 0), .d (.int .u8 0), .d (.int .u8 0), .d (.int .u8 0), .d (.int .u8 0), .d (.int .u8 0), .d (.int .u8 0), .d (.int .u8 0), .d (.int .u8 0), .d (.int .u8 0), .d (.int .u8 0), .d (.int .u8 0), .d (.int .u8 0), .d (.int .u8 0), .d (.int .u8 0), .d (.int .u8 0)]) := by kernel_rfl
theorem cl142 : clsOf Tryd.prog 142 = none := by kernel_rfl
theorem st142 : isStr Tryd.prog 142 = false := by kernel_rfl
theorem sz152 : szOf Tryd.prog 152 = some (false, 1) := by kernel_rfl
theorem ze152 : zeroA Tryd.prog 152 = some [.d .nilp] := by kernel_rfl
theorem by152 : bytesOf Tryd.prog 152 = some 8 := by kernel_rfl
theorem zv152 : zeroV Tryd.prog 152 = some (.d .nilp) := by kernel_rfl
theorem cl152 : clsOf Tryd.prog 152 = none := by kernel_rfl
theorem st152 : isStr Tryd.prog 152 = false := by kernel_rfl
theorem ip152 : isPtr Tryd.prog 152 = true := by kernel_rfl
set_option linter.defProp false in
/-- the facts that the walks want, in one -/
def PmT := (And.intro (And.intro (And.intro (And.intro (And.intro (And.intro (And.intro (And.intro @ar139 (And.intro @ar142 @by115)) (And.intro @by116 (And.intro @by117 @by12))) (And.intro (And.intro @by120 (And.intro @by121 @by125)) (And.intro @by13 (And.intro @by136 @by139)))) (And.intro (And.intro (And.intro @by140 (And.intro @by141 @by142)) (And.intro @by152 (And.intro @by2 @by21))) (And.intro (And.intro @by22 (And.intro @by23 @by24)) (And.intro (And.intro @by25 @by26) (And.intro @by27 @by29))))) (And.intro (And.intro (And.intro (And.intro @by3 (And.intro @by30 @by31)) (And.intro @by32 (And.intro @by4 @by41))) (And.intro (And.intro @by42 (And.intro @by46 @by47)) (And.intro (And.intro @by5 @by53) (And.intro @by54 @by64)))) (And.intro (And.intro (And.intro @by65 (And.intro @by77 @by78)) (And.intro @by79 (And.intro @by81 @by82))) (And.intro (And.intro @by9 (And.intro @by93 @by97)) (And.intro (And.intro @cl115 @cl116) (And.intro @cl117 @cl12)))))) (And.intro (And.intro (And.intro (And.intro (And.intro @cl120 (And.intro @cl121 @cl125)) (And.intro @cl13 (And.intro @cl136 @cl139))) (And.intro (And.intro @cl140 (And.intro @cl141 @cl142)) (And.intro @cl152 (And.intro @cl2 @cl21)))) (And.intro (And.intro (And.intro @cl22 (And.intro @cl23 @cl24)) (And.intro @cl25 (And.intro @cl26 @cl27))) (And.intro (And.intro @cl29 (And.intro @cl3 @cl30)) (And.intro (And.intro @cl31 @cl32) (And.intro @cl4 @cl41))))) (And.intro (And.intro (And.intro (And.intro @cl42 (And.intro @cl46 @cl47)) (And.intro @cl5 (And.intro @cl53 @cl54))) (And.intro (And.intro @cl64 (And.intro @cl65 @cl77)) (And.intro (And.intro @cl78 @cl79) (And.intro @cl81 @cl82)))) (And.intro (And.intro (And.intro @cl9 (And.intro @cl93 @cl97)) (And.intro @el139 (And.intro @el142 @el22))) (And.intro (And.intro @el23 (And.intro @el24 @el27)) (And.intro (And.intro @el29 @el93) (And.intro @el97 @fi116_0))))))) (And.intro (And.intro (And.intro (And.intro (And.intro (And.intro @fi116_1 (And.intro @fi117_0 @fi117_1)) (And.intro @fi13_0 (And.intro @fi13_1 @fi140_0))) (And.intro (And.intro @fi140_1 (And.intro @fi141_0 @fi141_1)) (And.intro @fi25_0 (And.intro @fi25_1 @fi25_2)))) (And.intro (And.intro (And.intro @fi25_3 (And.intro @fi25_4 @fi26_0)) (And.intro @fi26_1 (And.intro @fi26_2 @fi26_3))) (And.intro (And.intro @fi26_4 (And.intro @fi30_0 @fi30_1)) (And.intro (And.intro @fi31_0 @fi31_1) (And.intro @fi41_0 @fi41_1))))) (And.intro (And.intro (And.intro (And.intro @fi41_2 (And.intro @fi41_3 @fi42_0)) (And.intro @fi42_1 (And.intro @fi42_2 @fi42_3))) (And.intro (And.intro @fi46_0 (And.intro @fi46_1 @fi46_2)) (And.intro (And.intro @fi46_3 @fi47_0) (And.intro @fi47_1 @fi47_2)))) (And.intro (And.intro (And.intro @fi47_3 (And.intro @fi53_0 @fi53_1)) (And.intro @fi54_0 (And.intro @fi54_1 @fi64_0))) (And.intro (And.intro @fi64_1 (And.intro @fi64_2 @fi65_0)) (And.intro (And.intro @fi65_1 @fi65_2) (And.intro @fi78_0 @fi78_1)))))) (And.intro (And.intro (And.intro (And.intro (And.intro @fi79_0 (And.intro @fi79_1 @fi81_0)) (And.intro @fi81_1 (And.intro @fi81_2 @fi81_3))) (And.intro (And.intro @fi82_0 (And.intro @fi82_1 @fi82_2)) (And.intro @fi82_3 (And.intro @im121 @ip115)))) (And.intro (And.intro (And.intro @ip152 (And.intro @ip77 @is22)) (And.intro @is23 (And.intro @is24 @is27))) (And.intro (And.intro @is29 (And.intro @is93 @is97)) (And.intro (And.intro @mo121 @pl116) (And.intro @pl117 @pl13))))) (And.intro (And.intro (And.intro (And.intro @pl140 (And.intro @pl141 @pl142)) (And.intro @pl25 (And.intro @pl26 @pl30))) (And.intro (And.intro @pl31 (And.intro @pl41 @pl42)) (And.intro (And.intro @pl46 @pl47) (And.intro @pl53 @pl54)))) (And.intro (And.intro (And.intro @pl64 (And.intro @pl65 @pl78)) (And.intro @pl79 (And.intro @pl81 @pl82))) (And.intro (And.intro @ps12 (And.intro @ps120 @ps125)) (And.intro (And.intro @ps136 @ps141) (And.intro @ps2 @ps21)))))))) (And.intro (And.intro (And.intro (And.intro (And.intro (And.intro (And.intro @ps3 (And.intro @ps32 @ps4)) (And.intro @ps47 (And.intro @ps5 @ps9))) (And.intro (And.intro @st115 (And.intro @st116 @st117)) (And.intro @st12 (And.intro @st120 @st121)))) (And.intro (And.intro (And.intro @st125 (And.intro @st13 @st136)) (And.intro @st139 (And.intro @st140 @st141))) (And.intro (And.intro @st142 (And.intro @st152 @st2)) (And.intro (And.intro @st21 @st22) (And.intro @st23 @st24))))) (And.intro (And.intro (And.intro (And.intro @st25 (And.intro @st26 @st27)) (And.intro @st29 (And.intro @st3 @st30))) (And.intro (And.intro @st31 (And.intro @st32 @st4)) (And.intro (And.intro @st41 @st42) (And.intro @st46 @st47)))) (And.intro (And.intro (And.intro @st5 (And.intro @st53 @st54)) (And.intro @st64 (And.intro @st65 @st77))) (And.intro (And.intro @st78 (And.intro @st79 @st81)) (And.intro (And.intro @st82 @st9) (And.intro @st93 @st97)))))) (And.intro (And.intro (And.intro (And.intro (And.intro @sz115 (And.intro @sz116 @sz117)) (And.intro @sz12 (And.intro @sz120 @sz121))) (And.intro (And.intro @sz125 (And.intro @sz13 @sz136)) (And.intro @sz139 (And.intro @sz140 @sz141)))) (And.intro (And.intro (And.intro @sz142 (And.intro @sz152 @sz2)) (And.intro @sz21 (And.intro @sz22 @sz23))) (And.intro (And.intro @sz24 (And.intro @sz25 @sz26)) (And.intro (And.intro @sz27 @sz29) (And.intro @sz3 @sz30))))) (And.intro (And.intro (And.intro (And.intro @sz31 (And.intro @sz32 @sz4)) (And.intro @sz41 (And.intro @sz42 @sz46))) (And.intro (And.intro @sz47 (And.intro @sz5 @sz53)) (And.intro (And.intro @sz54 @sz64) (And.intro @sz65 @sz77)))) (And.intro (And.intro (And.intro @sz78 (And.intro @sz79 @sz81)) (And.intro @sz82 (And.intro @sz9 @sz93))) (And.intro (And.intro @sz97 (And.intro @ze115 @ze116)) (And.intro (And.intro @ze117 @ze12) (And.intro @ze120 @ze121))))))) (And.intro (And.intro (And.intro (And.intro (And.intro (And.intro @ze125 (And.intro @ze13 @ze136)) (And.intro @ze140 (And.intro @ze141 @ze142))) (And.intro (And.intro @ze152 (And.intro @ze2 @ze21)) (And.intro @ze22 (And.intro @ze23 @ze24)))) (And.intro (And.intro (And.intro @ze25 (And.intro @ze26 @ze27)) (And.intro @ze29 (And.intro @ze3 @ze30))) (And.intro (And.intro @ze31 (And.intro @ze32 @ze4)) (And.intro (And.intro @ze41 @ze42) (And.intro @ze46 @ze47))))) (And.intro (And.intro (And.intro (And.intro @ze5 (And.intro @ze53 @ze54)) (And.intro @ze64 (And.intro @ze65 @ze77))) (And.intro (And.intro @ze78 (And.intro @ze79 @ze81)) (And.intro (And.intro @ze82 @ze9) (And.intro @ze93 @ze97)))) (And.intro (And.intro (And.intro @zv115 (And.intro @zv116 @zv117)) (And.intro @zv12 (And.intro @zv120 @zv121))) (And.intro (And.intro @zv125 (And.intro @zv13 @zv136)) (And.intro (And.intro @zv140 @zv141) (And.intro @zv142 @zv152)))))) (And.intro (And.intro (And.intro (And.intro (And.intro @zv2 (And.intro @zv21 @zv22)) (And.intro @zv23 (And.intro @zv24 @zv25))) (And.intro (And.intro @zv26 (And.intro @zv27 @zv29)) (And.intro @zv3 (And.intro @zv30 @zv31)))) (And.intro (And.intro (And.intro @zv32 (And.intro @zv4 @zv41)) (And.intro @zv42 (And.intro @zv46 @zv47))) (And.intro (And.intro @zv5 (And.intro @zv53 @zv54)) (And.intro (And.intro @zv64 @zv65) (And.intro @zv77 @zv78))))) (And.intro (And.intro (And.intro (And.intro @zv79 (And.intro @zv81 @zv82)) (And.intro @zv9 (And.intro @zv93 @zv97))) (And.intro (And.intro Tryd.underlying2 (And.intro Tryd.underlying3 Tryd.underlying4)) (And.intro (And.intro Tryd.underlying5 Tryd.underlying9) (And.intro Tryd.underlying12 Tryd.underlying21)))) (And.intro (And.intro (And.intro Tryd.underlying22 (And.intro Tryd.underlying23 Tryd.underlying24)) (And.intro Tryd.underlying27 (And.intro Tryd.underlying29 Tryd.underlying32))) (And.intro (And.intro Tryd.underlying93 (And.intro Tryd.underlying97 Tryd.underlying120)) (And.intro (And.intro Tryd.underlying125 Tryd.underlying136) (And.intro Tryd.underlying139 Tryd.underlying142)))))))))
end Go.Proofs.YtfkemeamimcnjaaDoor.PM
