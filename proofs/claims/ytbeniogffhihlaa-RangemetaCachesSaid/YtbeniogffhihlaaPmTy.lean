/- PM: facts on the program's types (printed by a program of mine). -/
import Derived.Test.YtbeniogffhihlaaPmC
import Derived.Test.YtbeniogffhihlaaProg
set_option linter.unusedVariables false
set_option linter.unusedSimpArgs false
namespace Go.Proofs.Ytbeniogffhihlaa.PM
theorem sz2 : szOf Try.prog 2 = some (false, 1) := by kernel_rfl
theorem ze2 : zeroA Try.prog 2 = some [.d (.int .i64 0)] := by kernel_rfl
theorem by2 : bytesOf Try.prog 2 = some 8 := by kernel_rfl
theorem zv2 : zeroV Try.prog 2 = some (.d (.int .i64 0)) := by kernel_rfl
theorem cl2 : clsOf Try.prog 2 = some 0 := by kernel_rfl
theorem ps2 : plainSt Try.prog 2 = none := by kernel_rfl
theorem st2 : isStr Try.prog 2 = false := by kernel_rfl
theorem sz3 : szOf Try.prog 3 = some (false, 1) := by kernel_rfl
theorem ze3 : zeroA Try.prog 3 = some [.d (.int .i64 0)] := by kernel_rfl
theorem by3 : bytesOf Try.prog 3 = some 8 := by kernel_rfl
theorem zv3 : zeroV Try.prog 3 = some (.d (.int .i64 0)) := by kernel_rfl
theorem cl3 : clsOf Try.prog 3 = some 0 := by kernel_rfl
theorem ps3 : plainSt Try.prog 3 = none := by kernel_rfl
theorem st3 : isStr Try.prog 3 = false := by kernel_rfl
theorem sz4 : szOf Try.prog 4 = some (false, 1) := by kernel_rfl
theorem ze4 : zeroA Try.prog 4 = some [.d (.bool false)] := by kernel_rfl
theorem by4 : bytesOf Try.prog 4 = some 1 := by kernel_rfl
theorem zv4 : zeroV Try.prog 4 = some (.d (.bool false)) := by kernel_rfl
theorem cl4 : clsOf Try.prog 4 = some 2 := by kernel_rfl
theorem ps4 : plainSt Try.prog 4 = none := by kernel_rfl
theorem st4 : isStr Try.prog 4 = false := by kernel_rfl
theorem sz5 : szOf Try.prog 5 = some (false, 1) := by kernel_rfl
theorem ze5 : zeroA Try.prog 5 = some [.d (.int .u8 0)] := by kernel_rfl
theorem by5 : bytesOf Try.prog 5 = some 1 := by kernel_rfl
theorem zv5 : zeroV Try.prog 5 = some (.d (.int .u8 0)) := by kernel_rfl
theorem cl5 : clsOf Try.prog 5 = some 0 := by kernel_rfl
theorem ps5 : plainSt Try.prog 5 = none := by kernel_rfl
theorem st5 : isStr Try.prog 5 = false := by kernel_rfl
theorem sz9 : szOf Try.prog 9 = some (false, 1) := by kernel_rfl
theorem ze9 : zeroA Try.prog 9 = some [.d (.str [])] := by kernel_rfl
theorem by9 : bytesOf Try.prog 9 = some 16 := by kernel_rfl
theorem zv9 : zeroV Try.prog 9 = some (.d (.str [])) := by kernel_rfl
theorem cl9 : clsOf Try.prog 9 = some 1 := by kernel_rfl
theorem ps9 : plainSt Try.prog 9 = none := by kernel_rfl
theorem st9 : isStr Try.prog 9 = true := by kernel_rfl
theorem sz12 : szOf Try.prog 12 = some (false, 1) := by kernel_rfl
theorem ze12 : zeroA Try.prog 12 = some [.d (.int .u64 0)] := by kernel_rfl
theorem by12 : bytesOf Try.prog 12 = some 8 := by kernel_rfl
theorem zv12 : zeroV Try.prog 12 = some (.d (.int .u64 0)) := by kernel_rfl
theorem cl12 : clsOf Try.prog 12 = some 0 := by kernel_rfl
theorem ps12 : plainSt Try.prog 12 = none := by kernel_rfl
theorem st12 : isStr Try.prog 12 = false := by kernel_rfl
theorem sz13 : szOf Try.prog 13 = some (true, 2) := by kernel_rfl
theorem ze13 : zeroA Try.prog 13 = some [.d (.str []), .d (.int .u64 0)] := by kernel_rfl
theorem by13 : bytesOf Try.prog 13 = some 24 := by kernel_rfl
theorem pl13 : placesOf Try.prog 13 = some [(0, 1), (1, 1)] := by kernel_rfl
theorem fi13_0 : fieldOf Try.prog 13 0 = some (9, 0) := by kernel_rfl
theorem fi13_1 : fieldOf Try.prog 13 1 = some (12, 1) := by kernel_rfl
theorem zv13 : zeroV Try.prog 13 = some (.agg [.d (.str []), .d (.int .u64 0)]) := by kernel_rfl
theorem cl13 : clsOf Try.prog 13 = none := by kernel_rfl
theorem st13 : isStr Try.prog 13 = false := by kernel_rfl
theorem sz21 : szOf Try.prog 21 = some (false, 1) := by kernel_rfl
theorem ze21 : zeroA Try.prog 21 = some [.d (.int .i32 0)] := by kernel_rfl
theorem by21 : bytesOf Try.prog 21 = some 4 := by kernel_rfl
theorem zv21 : zeroV Try.prog 21 = some (.d (.int .i32 0)) := by kernel_rfl
theorem cl21 : clsOf Try.prog 21 = some 0 := by kernel_rfl
theorem ps21 : plainSt Try.prog 21 = none := by kernel_rfl
theorem st21 : isStr Try.prog 21 = false := by kernel_rfl
theorem sz22 : szOf Try.prog 22 = some (false, 1) := by kernel_rfl
theorem ze22 : zeroA Try.prog 22 = some [.nils] := by kernel_rfl
theorem by22 : bytesOf Try.prog 22 = some 24 := by kernel_rfl
theorem el22 : elOf Try.prog 22 = some (32, 3) := by kernel_rfl
theorem is22 : isSl Try.prog 22 = true := by kernel_rfl
theorem zv22 : zeroV Try.prog 22 = some (.nils) := by kernel_rfl
theorem cl22 : clsOf Try.prog 22 = none := by kernel_rfl
theorem st22 : isStr Try.prog 22 = false := by kernel_rfl
theorem sz23 : szOf Try.prog 23 = some (false, 1) := by kernel_rfl
theorem ze23 : zeroA Try.prog 23 = some [.nils] := by kernel_rfl
theorem by23 : bytesOf Try.prog 23 = some 24 := by kernel_rfl
theorem el23 : elOf Try.prog 23 = some (5, 1) := by kernel_rfl
theorem is23 : isSl Try.prog 23 = true := by kernel_rfl
theorem zv23 : zeroV Try.prog 23 = some (.nils) := by kernel_rfl
theorem cl23 : clsOf Try.prog 23 = none := by kernel_rfl
theorem st23 : isStr Try.prog 23 = false := by kernel_rfl
theorem sz24 : szOf Try.prog 24 = some (true, 2) := by kernel_rfl
theorem ze24 : zeroA Try.prog 24 = some [.nils, .nils] := by kernel_rfl
theorem by24 : bytesOf Try.prog 24 = some 48 := by kernel_rfl
theorem pl24 : placesOf Try.prog 24 = some [(0, 1), (1, 1)] := by kernel_rfl
theorem fi24_0 : fieldOf Try.prog 24 0 = some (23, 0) := by kernel_rfl
theorem fi24_1 : fieldOf Try.prog 24 1 = some (23, 1) := by kernel_rfl
theorem zv24 : zeroV Try.prog 24 = some (.agg [.nils, .nils]) := by kernel_rfl
theorem cl24 : clsOf Try.prog 24 = none := by kernel_rfl
theorem st24 : isStr Try.prog 24 = false := by kernel_rfl
theorem sz25 : szOf Try.prog 25 = some (true, 2) := by kernel_rfl
theorem ze25 : zeroA Try.prog 25 = some [.nils, .nils] := by kernel_rfl
theorem by25 : bytesOf Try.prog 25 = some 48 := by kernel_rfl
theorem pl25 : placesOf Try.prog 25 = some [(0, 1), (1, 1)] := by kernel_rfl
theorem fi25_0 : fieldOf Try.prog 25 0 = some (23, 0) := by kernel_rfl
theorem fi25_1 : fieldOf Try.prog 25 1 = some (23, 1) := by kernel_rfl
theorem zv25 : zeroV Try.prog 25 = some (.agg [.nils, .nils]) := by kernel_rfl
theorem cl25 : clsOf Try.prog 25 = none := by kernel_rfl
theorem st25 : isStr Try.prog 25 = false := by kernel_rfl
theorem sz27 : szOf Try.prog 27 = some (false, 1) := by kernel_rfl
theorem ze27 : zeroA Try.prog 27 = some [.d .nilp] := by kernel_rfl
theorem by27 : bytesOf Try.prog 27 = some 8 := by kernel_rfl
theorem zv27 : zeroV Try.prog 27 = some (.d .nilp) := by kernel_rfl
theorem cl27 : clsOf Try.prog 27 = none := by kernel_rfl
theorem st27 : isStr Try.prog 27 = false := by kernel_rfl
theorem ip27 : isPtr Try.prog 27 = true := by kernel_rfl
theorem sz29 : szOf Try.prog 29 = some (false, 1) := by kernel_rfl
theorem ze29 : zeroA Try.prog 29 = some [.nils] := by kernel_rfl
theorem by29 : bytesOf Try.prog 29 = some 24 := by kernel_rfl
theorem el29 : elOf Try.prog 29 = some (39, 4) := by kernel_rfl
theorem is29 : isSl Try.prog 29 = true := by kernel_rfl
theorem zv29 : zeroV Try.prog 29 = some (.nils) := by kernel_rfl
theorem cl29 : clsOf Try.prog 29 = none := by kernel_rfl
theorem st29 : isStr Try.prog 29 = false := by kernel_rfl
theorem sz31 : szOf Try.prog 31 = some (true, 3) := by kernel_rfl
theorem ze31 : zeroA Try.prog 31 = some [.d (.int .i64 0), .d (.int .i64 0), .nils] := by kernel_rfl
theorem by31 : bytesOf Try.prog 31 = some 40 := by kernel_rfl
theorem pl31 : placesOf Try.prog 31 = some [(0, 1), (1, 1), (2, 1)] := by kernel_rfl
theorem fi31_0 : fieldOf Try.prog 31 0 = some (3, 0) := by kernel_rfl
theorem fi31_1 : fieldOf Try.prog 31 1 = some (3, 1) := by kernel_rfl
theorem fi31_2 : fieldOf Try.prog 31 2 = some (23, 2) := by kernel_rfl
theorem zv31 : zeroV Try.prog 31 = some (.agg [.d (.int .i64 0), .d (.int .i64 0), .nils]) := by kernel_rfl
theorem cl31 : clsOf Try.prog 31 = none := by kernel_rfl
theorem st31 : isStr Try.prog 31 = false := by kernel_rfl
theorem sz32 : szOf Try.prog 32 = some (true, 3) := by kernel_rfl
theorem ze32 : zeroA Try.prog 32 = some [.d (.int .i64 0), .d (.int .i64 0), .nils] := by kernel_rfl
theorem by32 : bytesOf Try.prog 32 = some 40 := by kernel_rfl
theorem pl32 : placesOf Try.prog 32 = some [(0, 1), (1, 1), (2, 1)] := by kernel_rfl
theorem fi32_0 : fieldOf Try.prog 32 0 = some (3, 0) := by kernel_rfl
theorem fi32_1 : fieldOf Try.prog 32 1 = some (3, 1) := by kernel_rfl
theorem fi32_2 : fieldOf Try.prog 32 2 = some (23, 2) := by kernel_rfl
theorem zv32 : zeroV Try.prog 32 = some (.agg [.d (.int .i64 0), .d (.int .i64 0), .nils]) := by kernel_rfl
theorem cl32 : clsOf Try.prog 32 = none := by kernel_rfl
theorem st32 : isStr Try.prog 32 = false := by kernel_rfl
theorem sz33 : szOf Try.prog 33 = some (false, 1) := by kernel_rfl
theorem ze33 : zeroA Try.prog 33 = some [.d (.int .i64 0)] := by kernel_rfl
theorem by33 : bytesOf Try.prog 33 = some 8 := by kernel_rfl
theorem zv33 : zeroV Try.prog 33 = some (.d (.int .i64 0)) := by kernel_rfl
theorem cl33 : clsOf Try.prog 33 = some 0 := by kernel_rfl
theorem ps33 : plainSt Try.prog 33 = none := by kernel_rfl
theorem st33 : isStr Try.prog 33 = false := by kernel_rfl
theorem sz38 : szOf Try.prog 38 = some (true, 4) := by kernel_rfl
theorem ze38 : zeroA Try.prog 38 = some [.d (.int .i64 0), .nils, .nils, .d (.int .i64 0)] := by kernel_rfl
theorem by38 : bytesOf Try.prog 38 = some 64 := by kernel_rfl
theorem pl38 : placesOf Try.prog 38 = some [(0, 1), (1, 2), (3, 1)] := by kernel_rfl
theorem fi38_0 : fieldOf Try.prog 38 0 = some (3, 0) := by kernel_rfl
theorem fi38_1 : fieldOf Try.prog 38 1 = some (25, 1) := by kernel_rfl
theorem fi38_2 : fieldOf Try.prog 38 2 = some (3, 3) := by kernel_rfl
theorem zv38 : zeroV Try.prog 38 = some (.agg [.d (.int .i64 0), .nils, .nils, .d (.int .i64 0)]) := by kernel_rfl
theorem cl38 : clsOf Try.prog 38 = none := by kernel_rfl
theorem st38 : isStr Try.prog 38 = false := by kernel_rfl
theorem sz39 : szOf Try.prog 39 = some (true, 4) := by kernel_rfl
theorem ze39 : zeroA Try.prog 39 = some [.d (.int .i64 0), .nils, .nils, .d (.int .i64 0)] := by kernel_rfl
theorem by39 : bytesOf Try.prog 39 = some 64 := by kernel_rfl
theorem pl39 : placesOf Try.prog 39 = some [(0, 1), (1, 2), (3, 1)] := by kernel_rfl
theorem fi39_0 : fieldOf Try.prog 39 0 = some (3, 0) := by kernel_rfl
theorem fi39_1 : fieldOf Try.prog 39 1 = some (25, 1) := by kernel_rfl
theorem fi39_2 : fieldOf Try.prog 39 2 = some (3, 3) := by kernel_rfl
theorem zv39 : zeroV Try.prog 39 = some (.agg [.d (.int .i64 0), .nils, .nils, .d (.int .i64 0)]) := by kernel_rfl
theorem cl39 : clsOf Try.prog 39 = none := by kernel_rfl
theorem st39 : isStr Try.prog 39 = false := by kernel_rfl
theorem sz43 : szOf Try.prog 43 = some (false, 1) := by kernel_rfl
theorem ze43 : zeroA Try.prog 43 = some [.nils] := by kernel_rfl
theorem by43 : bytesOf Try.prog 43 = some 24 := by kernel_rfl
theorem el43 : elOf Try.prog 43 = some (52, 6) := by kernel_rfl
theorem is43 : isSl Try.prog 43 = true := by kernel_rfl
theorem zv43 : zeroV Try.prog 43 = some (.nils) := by kernel_rfl
theorem cl43 : clsOf Try.prog 43 = none := by kernel_rfl
theorem st43 : isStr Try.prog 43 = false := by kernel_rfl
theorem sz51 : szOf Try.prog 51 = some (true, 6) := by kernel_rfl
theorem ze51 : zeroA Try.prog 51 = some [.d (.int .i64 0), .nils, .nils, .d (.int .i64 0), .nils, .nils] := by kernel_rfl
theorem by51 : bytesOf Try.prog 51 = some 112 := by kernel_rfl
theorem pl51 : placesOf Try.prog 51 = some [(0, 4), (4, 2)] := by kernel_rfl
theorem fi51_0 : fieldOf Try.prog 51 0 = some (39, 0) := by kernel_rfl
theorem fi51_1 : fieldOf Try.prog 51 1 = some (25, 4) := by kernel_rfl
theorem zv51 : zeroV Try.prog 51 = some (.agg [.d (.int .i64 0), .nils, .nils, .d (.int .i64 0), .nils, .nils]) := by kernel_rfl
theorem cl51 : clsOf Try.prog 51 = none := by kernel_rfl
theorem st51 : isStr Try.prog 51 = false := by kernel_rfl
theorem sz52 : szOf Try.prog 52 = some (true, 6) := by kernel_rfl
theorem ze52 : zeroA Try.prog 52 = some [.d (.int .i64 0), .nils, .nils, .d (.int .i64 0), .nils, .nils] := by kernel_rfl
theorem by52 : bytesOf Try.prog 52 = some 112 := by kernel_rfl
theorem pl52 : placesOf Try.prog 52 = some [(0, 4), (4, 2)] := by kernel_rfl
theorem fi52_0 : fieldOf Try.prog 52 0 = some (39, 0) := by kernel_rfl
theorem fi52_1 : fieldOf Try.prog 52 1 = some (25, 4) := by kernel_rfl
theorem zv52 : zeroV Try.prog 52 = some (.agg [.d (.int .i64 0), .nils, .nils, .d (.int .i64 0), .nils, .nils]) := by kernel_rfl
theorem cl52 : clsOf Try.prog 52 = none := by kernel_rfl
theorem st52 : isStr Try.prog 52 = false := by kernel_rfl
theorem sz56 : szOf Try.prog 56 = some (false, 1) := by kernel_rfl
theorem ze56 : zeroA Try.prog 56 = some [.nils] := by kernel_rfl
theorem by56 : bytesOf Try.prog 56 = some 24 := by kernel_rfl
theorem el56 : elOf Try.prog 56 = some (3, 1) := by kernel_rfl
theorem is56 : isSl Try.prog 56 = true := by kernel_rfl
theorem zv56 : zeroV Try.prog 56 = some (.nils) := by kernel_rfl
theorem cl56 : clsOf Try.prog 56 = none := by kernel_rfl
theorem st56 : isStr Try.prog 56 = false := by kernel_rfl
theorem sz57 : szOf Try.prog 57 = some (false, 1) := by kernel_rfl
theorem ze57 : zeroA Try.prog 57 = some [.d .nilp] := by kernel_rfl
theorem by57 : bytesOf Try.prog 57 = some 8 := by kernel_rfl
theorem zv57 : zeroV Try.prog 57 = some (.d .nilp) := by kernel_rfl
theorem cl57 : clsOf Try.prog 57 = none := by kernel_rfl
theorem st57 : isStr Try.prog 57 = false := by kernel_rfl
theorem ip57 : isPtr Try.prog 57 = true := by kernel_rfl
theorem sz67 : szOf Try.prog 67 = some (false, 1) := by kernel_rfl
theorem ze67 : zeroA Try.prog 67 = some [.nils] := by kernel_rfl
theorem by67 : bytesOf Try.prog 67 = some 24 := by kernel_rfl
theorem el67 : elOf Try.prog 67 = some (69, 8) := by kernel_rfl
theorem is67 : isSl Try.prog 67 = true := by kernel_rfl
theorem zv67 : zeroV Try.prog 67 = some (.nils) := by kernel_rfl
theorem cl67 : clsOf Try.prog 67 = none := by kernel_rfl
theorem st67 : isStr Try.prog 67 = false := by kernel_rfl
theorem sz68 : szOf Try.prog 68 = some (true, 8) := by kernel_rfl
theorem ze68 : zeroA Try.prog 68 = some [.d (.int .i64 0), .d (.int .i64 0), .nils, .nils, .d (.int .i64 0), .nils, .nils, .nils] := by kernel_rfl
theorem by68 : bytesOf Try.prog 68 = some 144 := by kernel_rfl
theorem pl68 : placesOf Try.prog 68 = some [(0, 1), (1, 4), (5, 1), (6, 2)] := by kernel_rfl
theorem fi68_0 : fieldOf Try.prog 68 0 = some (3, 0) := by kernel_rfl
theorem fi68_1 : fieldOf Try.prog 68 1 = some (39, 1) := by kernel_rfl
theorem fi68_2 : fieldOf Try.prog 68 2 = some (23, 5) := by kernel_rfl
theorem fi68_3 : fieldOf Try.prog 68 3 = some (25, 6) := by kernel_rfl
theorem zv68 : zeroV Try.prog 68 = some (.agg [.d (.int .i64 0), .d (.int .i64 0), .nils, .nils, .d (.int .i64 0), .nils, .nils, .nils]) := by kernel_rfl
theorem cl68 : clsOf Try.prog 68 = none := by kernel_rfl
theorem st68 : isStr Try.prog 68 = false := by kernel_rfl
theorem sz69 : szOf Try.prog 69 = some (true, 8) := by kernel_rfl
theorem ze69 : zeroA Try.prog 69 = some [.d (.int .i64 0), .d (.int .i64 0), .nils, .nils, .d (.int .i64 0), .nils, .nils, .nils] := by kernel_rfl
theorem by69 : bytesOf Try.prog 69 = some 144 := by kernel_rfl
theorem pl69 : placesOf Try.prog 69 = some [(0, 1), (1, 4), (5, 1), (6, 2)] := by kernel_rfl
theorem fi69_0 : fieldOf Try.prog 69 0 = some (3, 0) := by kernel_rfl
theorem fi69_1 : fieldOf Try.prog 69 1 = some (39, 1) := by kernel_rfl
theorem fi69_2 : fieldOf Try.prog 69 2 = some (23, 5) := by kernel_rfl
theorem fi69_3 : fieldOf Try.prog 69 3 = some (25, 6) := by kernel_rfl
theorem zv69 : zeroV Try.prog 69 = some (.agg [.d (.int .i64 0), .d (.int .i64 0), .nils, .nils, .d (.int .i64 0), .nils, .nils, .nils]) := by kernel_rfl
theorem cl69 : clsOf Try.prog 69 = none := by kernel_rfl
theorem st69 : isStr Try.prog 69 = false := by kernel_rfl
theorem sz74 : szOf Try.prog 74 = some (false, 1) := by kernel_rfl
theorem ze74 : zeroA Try.prog 74 = some [.nils] := by kernel_rfl
theorem by74 : bytesOf Try.prog 74 = some 24 := by kernel_rfl
theorem el74 : elOf Try.prog 74 = some (25, 2) := by kernel_rfl
theorem is74 : isSl Try.prog 74 = true := by kernel_rfl
theorem zv74 : zeroV Try.prog 74 = some (.nils) := by kernel_rfl
theorem cl74 : clsOf Try.prog 74 = none := by kernel_rfl
theorem st74 : isStr Try.prog 74 = false := by kernel_rfl
theorem sz79 : szOf Try.prog 79 = some (true, 1) := by kernel_rfl
theorem ze79 : zeroA Try.prog 79 = some [.nils] := by kernel_rfl
theorem by79 : bytesOf Try.prog 79 = some 24 := by kernel_rfl
theorem pl79 : placesOf Try.prog 79 = some [(0, 1)] := by kernel_rfl
theorem fi79_0 : fieldOf Try.prog 79 0 = some (29, 0) := by kernel_rfl
theorem zv79 : zeroV Try.prog 79 = some (.agg [.nils]) := by kernel_rfl
theorem cl79 : clsOf Try.prog 79 = none := by kernel_rfl
theorem st79 : isStr Try.prog 79 = false := by kernel_rfl
theorem sz80 : szOf Try.prog 80 = some (true, 1) := by kernel_rfl
theorem ze80 : zeroA Try.prog 80 = some [.nils] := by kernel_rfl
theorem by80 : bytesOf Try.prog 80 = some 24 := by kernel_rfl
theorem pl80 : placesOf Try.prog 80 = some [(0, 1)] := by kernel_rfl
theorem fi80_0 : fieldOf Try.prog 80 0 = some (29, 0) := by kernel_rfl
theorem zv80 : zeroV Try.prog 80 = some (.agg [.nils]) := by kernel_rfl
theorem cl80 : clsOf Try.prog 80 = none := by kernel_rfl
theorem st80 : isStr Try.prog 80 = false := by kernel_rfl
theorem sz88 : szOf Try.prog 88 = some (true, 1) := by kernel_rfl
theorem ze88 : zeroA Try.prog 88 = some [.nils] := by kernel_rfl
theorem by88 : bytesOf Try.prog 88 = some 24 := by kernel_rfl
theorem pl88 : placesOf Try.prog 88 = some [(0, 1)] := by kernel_rfl
theorem fi88_0 : fieldOf Try.prog 88 0 = some (29, 0) := by kernel_rfl
theorem zv88 : zeroV Try.prog 88 = some (.agg [.nils]) := by kernel_rfl
theorem cl88 : clsOf Try.prog 88 = none := by kernel_rfl
theorem st88 : isStr Try.prog 88 = false := by kernel_rfl
theorem sz97 : szOf Try.prog 97 = some (false, 1) := by kernel_rfl
theorem ze97 : zeroA Try.prog 97 = some [.d (.int .u64 0)] := by kernel_rfl
theorem by97 : bytesOf Try.prog 97 = some 8 := by kernel_rfl
theorem zv97 : zeroV Try.prog 97 = some (.d (.int .u64 0)) := by kernel_rfl
theorem cl97 : clsOf Try.prog 97 = some 0 := by kernel_rfl
theorem ps97 : plainSt Try.prog 97 = none := by kernel_rfl
theorem st97 : isStr Try.prog 97 = false := by kernel_rfl
theorem sz98 : szOf Try.prog 98 = some (true, 2) := by kernel_rfl
theorem ze98 : zeroA Try.prog 98 = some [.nils, .nils] := by kernel_rfl
theorem by98 : bytesOf Try.prog 98 = some 48 := by kernel_rfl
theorem el98 : elOf Try.prog 98 = none := by kernel_rfl
theorem pl98 : placesOf Try.prog 98 = some [(0, 1), (1, 1)] := by kernel_rfl
theorem ar98 : arOf Try.prog 98 = some (23, 2, 1) := by kernel_rfl
theorem zv98 : zeroV Try.prog 98 = some (.agg [.nils, .nils]) := by kernel_rfl
theorem cl98 : clsOf Try.prog 98 = none := by kernel_rfl
theorem st98 : isStr Try.prog 98 = false := by kernel_rfl
theorem sz101 : szOf Try.prog 101 = some (false, 1) := by kernel_rfl
theorem ze101 : zeroA Try.prog 101 = some [.d .nilp] := by kernel_rfl
theorem by101 : bytesOf Try.prog 101 = some 8 := by kernel_rfl
theorem zv101 : zeroV Try.prog 101 = some (.d .nilp) := by kernel_rfl
theorem cl101 : clsOf Try.prog 101 = none := by kernel_rfl
theorem st101 : isStr Try.prog 101 = false := by kernel_rfl
theorem ip101 : isPtr Try.prog 101 = true := by kernel_rfl
theorem sz102 : szOf Try.prog 102 = some (true, 2) := by kernel_rfl
theorem ze102 : zeroA Try.prog 102 = some [.nils, .d (.bool false)] := by kernel_rfl
theorem by102 : bytesOf Try.prog 102 = some 32 := by kernel_rfl
theorem pl102 : placesOf Try.prog 102 = some [(0, 1), (1, 1)] := by kernel_rfl
theorem fi102_0 : fieldOf Try.prog 102 0 = some (23, 0) := by kernel_rfl
theorem fi102_1 : fieldOf Try.prog 102 1 = some (4, 1) := by kernel_rfl
theorem zv102 : zeroV Try.prog 102 = some (.agg [.nils, .d (.bool false)]) := by kernel_rfl
theorem cl102 : clsOf Try.prog 102 = none := by kernel_rfl
theorem st102 : isStr Try.prog 102 = false := by kernel_rfl
theorem sz103 : szOf Try.prog 103 = some (true, 2) := by kernel_rfl
theorem ze103 : zeroA Try.prog 103 = some [.nils, .d (.bool false)] := by kernel_rfl
theorem by103 : bytesOf Try.prog 103 = some 32 := by kernel_rfl
theorem pl103 : placesOf Try.prog 103 = some [(0, 1), (1, 1)] := by kernel_rfl
theorem fi103_0 : fieldOf Try.prog 103 0 = some (23, 0) := by kernel_rfl
theorem fi103_1 : fieldOf Try.prog 103 1 = some (4, 1) := by kernel_rfl
theorem zv103 : zeroV Try.prog 103 = some (.agg [.nils, .d (.bool false)]) := by kernel_rfl
theorem cl103 : clsOf Try.prog 103 = none := by kernel_rfl
theorem st103 : isStr Try.prog 103 = false := by kernel_rfl
theorem sz106 : szOf Try.prog 106 = some (false, 1) := by kernel_rfl
theorem ze106 : zeroA Try.prog 106 = some [.d .nilp] := by kernel_rfl
theorem by106 : bytesOf Try.prog 106 = some 8 := by kernel_rfl
theorem zv106 : zeroV Try.prog 106 = some (.d .nilp) := by kernel_rfl
theorem cl106 : clsOf Try.prog 106 = none := by kernel_rfl
theorem st106 : isStr Try.prog 106 = false := by kernel_rfl
theorem ip106 : isPtr Try.prog 106 = true := by kernel_rfl
theorem sz107 : szOf Try.prog 107 = some (true, 3) := by kernel_rfl
theorem ze107 : zeroA Try.prog 107 = some [.nils, .d (.int .i64 0), .d (.bool false)] := by kernel_rfl
theorem by107 : bytesOf Try.prog 107 = some 40 := by kernel_rfl
theorem pl107 : placesOf Try.prog 107 = some [(0, 1), (1, 1), (2, 1)] := by kernel_rfl
theorem fi107_0 : fieldOf Try.prog 107 0 = some (23, 0) := by kernel_rfl
theorem fi107_1 : fieldOf Try.prog 107 1 = some (3, 1) := by kernel_rfl
theorem fi107_2 : fieldOf Try.prog 107 2 = some (4, 2) := by kernel_rfl
theorem zv107 : zeroV Try.prog 107 = some (.agg [.nils, .d (.int .i64 0), .d (.bool false)]) := by kernel_rfl
theorem cl107 : clsOf Try.prog 107 = none := by kernel_rfl
theorem st107 : isStr Try.prog 107 = false := by kernel_rfl
theorem sz108 : szOf Try.prog 108 = some (true, 3) := by kernel_rfl
theorem ze108 : zeroA Try.prog 108 = some [.nils, .d (.int .i64 0), .d (.bool false)] := by kernel_rfl
theorem by108 : bytesOf Try.prog 108 = some 40 := by kernel_rfl
theorem pl108 : placesOf Try.prog 108 = some [(0, 1), (1, 1), (2, 1)] := by kernel_rfl
theorem fi108_0 : fieldOf Try.prog 108 0 = some (23, 0) := by kernel_rfl
theorem fi108_1 : fieldOf Try.prog 108 1 = some (3, 1) := by kernel_rfl
theorem fi108_2 : fieldOf Try.prog 108 2 = some (4, 2) := by kernel_rfl
theorem zv108 : zeroV Try.prog 108 = some (.agg [.nils, .d (.int .i64 0), .d (.bool false)]) := by kernel_rfl
theorem cl108 : clsOf Try.prog 108 = none := by kernel_rfl
theorem st108 : isStr Try.prog 108 = false := by kernel_rfl
theorem sz114 : szOf Try.prog 114 = some (false, 1) := by kernel_rfl
theorem ze114 : zeroA Try.prog 114 = some [.d .nilm] := by kernel_rfl
theorem by114 : bytesOf Try.prog 114 = some 8 := by kernel_rfl
theorem zv114 : zeroV Try.prog 114 = some (.d .nilm) := by kernel_rfl
theorem cl114 : clsOf Try.prog 114 = none := by kernel_rfl
theorem mo114 : mapOf Try.prog 114 = some (3, 3) := by kernel_rfl
theorem im114 : isMp Try.prog 114 = true := by kernel_rfl
theorem st114 : isStr Try.prog 114 = false := by kernel_rfl
theorem sz115 : szOf Try.prog 115 = some (false, 1) := by kernel_rfl
theorem ze115 : zeroA Try.prog 115 = some [.d (.int .u64 0)] := by kernel_rfl
theorem by115 : bytesOf Try.prog 115 = some 8 := by kernel_rfl
theorem zv115 : zeroV Try.prog 115 = some (.d (.int .u64 0)) := by kernel_rfl
theorem cl115 : clsOf Try.prog 115 = some 0 := by kernel_rfl
theorem ps115 : plainSt Try.prog 115 = none := by kernel_rfl
theorem st115 : isStr Try.prog 115 = false := by kernel_rfl
theorem sz118 : szOf Try.prog 118 = some (false, 1) := by kernel_rfl
theorem ze118 : zeroA Try.prog 118 = some [.d .nilp] := by kernel_rfl
theorem by118 : bytesOf Try.prog 118 = some 8 := by kernel_rfl
theorem zv118 : zeroV Try.prog 118 = some (.d .nilp) := by kernel_rfl
theorem cl118 : clsOf Try.prog 118 = none := by kernel_rfl
theorem st118 : isStr Try.prog 118 = false := by kernel_rfl
theorem ip118 : isPtr Try.prog 118 = true := by kernel_rfl
theorem sz126 : szOf Try.prog 126 = some (false, 1) := by kernel_rfl
theorem ze126 : zeroA Try.prog 126 = some [.d (.int .u32 0)] := by kernel_rfl
theorem by126 : bytesOf Try.prog 126 = some 4 := by kernel_rfl
theorem zv126 : zeroV Try.prog 126 = some (.d (.int .u32 0)) := by kernel_rfl
theorem cl126 : clsOf Try.prog 126 = some 0 := by kernel_rfl
theorem ps126 : plainSt Try.prog 126 = none := by kernel_rfl
theorem st126 : isStr Try.prog 126 = false := by kernel_rfl
theorem sz130 : szOf Try.prog 130 = some (false, 1) := by kernel_rfl
theorem ze130 : zeroA Try.prog 130 = some [.d .nilp] := by kernel_rfl
theorem by130 : bytesOf Try.prog 130 = some 8 := by kernel_rfl
theorem zv130 : zeroV Try.prog 130 = some (.d .nilp) := by kernel_rfl
theorem cl130 : clsOf Try.prog 130 = none := by kernel_rfl
theorem st130 : isStr Try.prog 130 = false := by kernel_rfl
theorem ip130 : isPtr Try.prog 130 = true := by kernel_rfl
set_option linter.defProp false in
/-- the facts that the walks want, in one -/
def PmT := (And.intro (And.intro (And.intro (And.intro (And.intro (And.intro (And.intro (And.intro @ar98 @by101) (And.intro @by102 (And.intro @by103 @by106))) (And.intro (And.intro @by107 (And.intro @by108 @by114)) (And.intro @by115 (And.intro @by118 @by12)))) (And.intro (And.intro (And.intro @by126 (And.intro @by13 @by130)) (And.intro @by2 (And.intro @by21 @by22))) (And.intro (And.intro @by23 (And.intro @by24 @by25)) (And.intro @by27 (And.intro @by29 @by3))))) (And.intro (And.intro (And.intro (And.intro @by31 (And.intro @by32 @by33)) (And.intro @by38 (And.intro @by39 @by4))) (And.intro (And.intro @by43 (And.intro @by5 @by51)) (And.intro @by52 (And.intro @by56 @by57)))) (And.intro (And.intro (And.intro @by67 (And.intro @by68 @by69)) (And.intro @by74 (And.intro @by79 @by80))) (And.intro (And.intro @by88 (And.intro @by9 @by97)) (And.intro @by98 (And.intro @cl101 @cl102)))))) (And.intro (And.intro (And.intro (And.intro (And.intro @cl103 (And.intro @cl106 @cl107)) (And.intro @cl108 (And.intro @cl114 @cl115))) (And.intro (And.intro @cl118 (And.intro @cl12 @cl126)) (And.intro @cl13 (And.intro @cl130 @cl2)))) (And.intro (And.intro (And.intro @cl21 (And.intro @cl22 @cl23)) (And.intro @cl24 (And.intro @cl25 @cl27))) (And.intro (And.intro @cl29 (And.intro @cl3 @cl31)) (And.intro @cl32 (And.intro @cl33 @cl38))))) (And.intro (And.intro (And.intro (And.intro @cl39 (And.intro @cl4 @cl43)) (And.intro @cl5 (And.intro @cl51 @cl52))) (And.intro (And.intro @cl56 (And.intro @cl57 @cl67)) (And.intro @cl68 (And.intro @cl69 @cl74)))) (And.intro (And.intro (And.intro @cl79 (And.intro @cl80 @cl88)) (And.intro @cl9 (And.intro @cl97 @cl98))) (And.intro (And.intro @el22 (And.intro @el23 @el29)) (And.intro @el43 (And.intro @el56 @el67))))))) (And.intro (And.intro (And.intro (And.intro (And.intro (And.intro @el74 @el98) (And.intro @fi102_0 (And.intro @fi102_1 @fi103_0))) (And.intro (And.intro @fi103_1 (And.intro @fi107_0 @fi107_1)) (And.intro @fi107_2 (And.intro @fi108_0 @fi108_1)))) (And.intro (And.intro (And.intro @fi108_2 (And.intro @fi13_0 @fi13_1)) (And.intro @fi24_0 (And.intro @fi24_1 @fi25_0))) (And.intro (And.intro @fi25_1 (And.intro @fi31_0 @fi31_1)) (And.intro @fi31_2 (And.intro @fi32_0 @fi32_1))))) (And.intro (And.intro (And.intro (And.intro @fi32_2 (And.intro @fi38_0 @fi38_1)) (And.intro @fi38_2 (And.intro @fi39_0 @fi39_1))) (And.intro (And.intro @fi39_2 (And.intro @fi51_0 @fi51_1)) (And.intro @fi52_0 (And.intro @fi52_1 @fi68_0)))) (And.intro (And.intro (And.intro @fi68_1 (And.intro @fi68_2 @fi68_3)) (And.intro @fi69_0 (And.intro @fi69_1 @fi69_2))) (And.intro (And.intro @fi69_3 (And.intro @fi79_0 @fi80_0)) (And.intro @fi88_0 (And.intro @im114 @ip101)))))) (And.intro (And.intro (And.intro (And.intro (And.intro @ip106 (And.intro @ip118 @ip130)) (And.intro @ip27 (And.intro @ip57 @is22))) (And.intro (And.intro @is23 (And.intro @is29 @is43)) (And.intro @is56 (And.intro @is67 @is74)))) (And.intro (And.intro (And.intro @mo114 (And.intro @pl102 @pl103)) (And.intro @pl107 (And.intro @pl108 @pl13))) (And.intro (And.intro @pl24 (And.intro @pl25 @pl31)) (And.intro @pl32 (And.intro @pl38 @pl39))))) (And.intro (And.intro (And.intro (And.intro @pl51 (And.intro @pl52 @pl68)) (And.intro @pl69 (And.intro @pl79 @pl80))) (And.intro (And.intro @pl88 (And.intro @pl98 @ps115)) (And.intro @ps12 (And.intro @ps126 @ps2)))) (And.intro (And.intro (And.intro @ps21 (And.intro @ps3 @ps33)) (And.intro @ps4 (And.intro @ps5 @ps9))) (And.intro (And.intro @ps97 (And.intro @st101 @st102)) (And.intro @st103 (And.intro @st106 @st107)))))))) (And.intro (And.intro (And.intro (And.intro (And.intro (And.intro (And.intro @st108 @st114) (And.intro @st115 (And.intro @st118 @st12))) (And.intro (And.intro @st126 (And.intro @st13 @st130)) (And.intro @st2 (And.intro @st21 @st22)))) (And.intro (And.intro (And.intro @st23 (And.intro @st24 @st25)) (And.intro @st27 (And.intro @st29 @st3))) (And.intro (And.intro @st31 (And.intro @st32 @st33)) (And.intro @st38 (And.intro @st39 @st4))))) (And.intro (And.intro (And.intro (And.intro @st43 (And.intro @st5 @st51)) (And.intro @st52 (And.intro @st56 @st57))) (And.intro (And.intro @st67 (And.intro @st68 @st69)) (And.intro @st74 (And.intro @st79 @st80)))) (And.intro (And.intro (And.intro @st88 (And.intro @st9 @st97)) (And.intro @st98 (And.intro @sz101 @sz102))) (And.intro (And.intro @sz103 (And.intro @sz106 @sz107)) (And.intro @sz108 (And.intro @sz114 @sz115)))))) (And.intro (And.intro (And.intro (And.intro (And.intro @sz118 (And.intro @sz12 @sz126)) (And.intro @sz13 (And.intro @sz130 @sz2))) (And.intro (And.intro @sz21 (And.intro @sz22 @sz23)) (And.intro @sz24 (And.intro @sz25 @sz27)))) (And.intro (And.intro (And.intro @sz29 (And.intro @sz3 @sz31)) (And.intro @sz32 (And.intro @sz33 @sz38))) (And.intro (And.intro @sz39 (And.intro @sz4 @sz43)) (And.intro @sz5 (And.intro @sz51 @sz52))))) (And.intro (And.intro (And.intro (And.intro @sz56 (And.intro @sz57 @sz67)) (And.intro @sz68 (And.intro @sz69 @sz74))) (And.intro (And.intro @sz79 (And.intro @sz80 @sz88)) (And.intro @sz9 (And.intro @sz97 @sz98)))) (And.intro (And.intro (And.intro @ze101 (And.intro @ze102 @ze103)) (And.intro @ze106 (And.intro @ze107 @ze108))) (And.intro (And.intro @ze114 (And.intro @ze115 @ze118)) (And.intro @ze12 (And.intro @ze126 @ze13))))))) (And.intro (And.intro (And.intro (And.intro (And.intro (And.intro @ze130 @ze2) (And.intro @ze21 (And.intro @ze22 @ze23))) (And.intro (And.intro @ze24 (And.intro @ze25 @ze27)) (And.intro @ze29 (And.intro @ze3 @ze31)))) (And.intro (And.intro (And.intro @ze32 (And.intro @ze33 @ze38)) (And.intro @ze39 (And.intro @ze4 @ze43))) (And.intro (And.intro @ze5 (And.intro @ze51 @ze52)) (And.intro @ze56 (And.intro @ze57 @ze67))))) (And.intro (And.intro (And.intro (And.intro @ze68 (And.intro @ze69 @ze74)) (And.intro @ze79 (And.intro @ze80 @ze88))) (And.intro (And.intro @ze9 (And.intro @ze97 @ze98)) (And.intro @zv101 (And.intro @zv102 @zv103)))) (And.intro (And.intro (And.intro @zv106 (And.intro @zv107 @zv108)) (And.intro @zv114 (And.intro @zv115 @zv118))) (And.intro (And.intro @zv12 (And.intro @zv126 @zv13)) (And.intro @zv130 (And.intro @zv2 @zv21)))))) (And.intro (And.intro (And.intro (And.intro (And.intro @zv22 (And.intro @zv23 @zv24)) (And.intro @zv25 (And.intro @zv27 @zv29))) (And.intro (And.intro @zv3 (And.intro @zv31 @zv32)) (And.intro @zv33 (And.intro @zv38 @zv39)))) (And.intro (And.intro (And.intro @zv4 (And.intro @zv43 @zv5)) (And.intro @zv51 (And.intro @zv52 @zv56))) (And.intro (And.intro @zv57 (And.intro @zv67 @zv68)) (And.intro @zv69 (And.intro @zv74 @zv79))))) (And.intro (And.intro (And.intro (And.intro @zv80 (And.intro @zv88 @zv9)) (And.intro @zv97 (And.intro @zv98 Try.underlying2))) (And.intro (And.intro Try.underlying3 (And.intro Try.underlying4 Try.underlying5)) (And.intro Try.underlying9 (And.intro Try.underlying12 Try.underlying21)))) (And.intro (And.intro (And.intro Try.underlying22 (And.intro Try.underlying23 Try.underlying29)) (And.intro Try.underlying33 (And.intro Try.underlying43 Try.underlying56))) (And.intro (And.intro Try.underlying67 (And.intro Try.underlying74 Try.underlying97)) (And.intro Try.underlying98 (And.intro Try.underlying115 Try.underlying126)))))))))
end Go.Proofs.Ytbeniogffhihlaa.PM
