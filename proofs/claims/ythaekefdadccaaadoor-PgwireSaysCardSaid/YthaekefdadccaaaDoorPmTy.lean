/- PM: facts on the program's types (printed by a program of mine). -/
import Derived.Test.YthaekefdadccaaaDoorPmC
import Derived.Test.YthaekefdadccaaaDoorProg
set_option linter.unusedVariables false
set_option linter.unusedSimpArgs false
namespace Go.Proofs.YthaekefdadccaaaDoor.PM
theorem sz2 : szOf Tryd.prog 2 = some (false, 1) := by kernel_rfl
theorem ze2 : zeroA Tryd.prog 2 = some [.d (.int .i64 0)] := by kernel_rfl
theorem by2 : bytesOf Tryd.prog 2 = some 8 := by kernel_rfl
theorem zv2 : zeroV Tryd.prog 2 = some (.d (.int .i64 0)) := by kernel_rfl
theorem cl2 : clsOf Tryd.prog 2 = some 0 := by kernel_rfl
theorem ps2 : plainSt Tryd.prog 2 = none := by kernel_rfl
theorem st2 : isStr Tryd.prog 2 = false := by kernel_rfl
theorem sz3 : szOf Tryd.prog 3 = some (false, 1) := by kernel_rfl
theorem ze3 : zeroA Tryd.prog 3 = some [.d (.int .i64 0)] := by kernel_rfl
theorem by3 : bytesOf Tryd.prog 3 = some 8 := by kernel_rfl
theorem zv3 : zeroV Tryd.prog 3 = some (.d (.int .i64 0)) := by kernel_rfl
theorem cl3 : clsOf Tryd.prog 3 = some 0 := by kernel_rfl
theorem ps3 : plainSt Tryd.prog 3 = none := by kernel_rfl
theorem st3 : isStr Tryd.prog 3 = false := by kernel_rfl
theorem sz4 : szOf Tryd.prog 4 = some (false, 1) := by kernel_rfl
theorem ze4 : zeroA Tryd.prog 4 = some [.d (.bool false)] := by kernel_rfl
theorem by4 : bytesOf Tryd.prog 4 = some 1 := by kernel_rfl
theorem zv4 : zeroV Tryd.prog 4 = some (.d (.bool false)) := by kernel_rfl
theorem cl4 : clsOf Tryd.prog 4 = some 2 := by kernel_rfl
theorem ps4 : plainSt Tryd.prog 4 = none := by kernel_rfl
theorem st4 : isStr Tryd.prog 4 = false := by kernel_rfl
theorem sz5 : szOf Tryd.prog 5 = some (false, 1) := by kernel_rfl
theorem ze5 : zeroA Tryd.prog 5 = some [.d (.int .u8 0)] := by kernel_rfl
theorem by5 : bytesOf Tryd.prog 5 = some 1 := by kernel_rfl
theorem zv5 : zeroV Tryd.prog 5 = some (.d (.int .u8 0)) := by kernel_rfl
theorem cl5 : clsOf Tryd.prog 5 = some 0 := by kernel_rfl
theorem ps5 : plainSt Tryd.prog 5 = none := by kernel_rfl
theorem st5 : isStr Tryd.prog 5 = false := by kernel_rfl
theorem sz9 : szOf Tryd.prog 9 = some (false, 1) := by kernel_rfl
theorem ze9 : zeroA Tryd.prog 9 = some [.d (.str [])] := by kernel_rfl
theorem by9 : bytesOf Tryd.prog 9 = some 16 := by kernel_rfl
theorem zv9 : zeroV Tryd.prog 9 = some (.d (.str [])) := by kernel_rfl
theorem cl9 : clsOf Tryd.prog 9 = some 1 := by kernel_rfl
theorem ps9 : plainSt Tryd.prog 9 = none := by kernel_rfl
theorem st9 : isStr Tryd.prog 9 = true := by kernel_rfl
theorem sz12 : szOf Tryd.prog 12 = some (false, 1) := by kernel_rfl
theorem ze12 : zeroA Tryd.prog 12 = some [.d (.int .u64 0)] := by kernel_rfl
theorem by12 : bytesOf Tryd.prog 12 = some 8 := by kernel_rfl
theorem zv12 : zeroV Tryd.prog 12 = some (.d (.int .u64 0)) := by kernel_rfl
theorem cl12 : clsOf Tryd.prog 12 = some 0 := by kernel_rfl
theorem ps12 : plainSt Tryd.prog 12 = none := by kernel_rfl
theorem st12 : isStr Tryd.prog 12 = false := by kernel_rfl
theorem sz13 : szOf Tryd.prog 13 = some (true, 2) := by kernel_rfl
theorem ze13 : zeroA Tryd.prog 13 = some [.d (.str []), .d (.int .u64 0)] := by kernel_rfl
theorem by13 : bytesOf Tryd.prog 13 = some 24 := by kernel_rfl
theorem pl13 : placesOf Tryd.prog 13 = some [(0, 1), (1, 1)] := by kernel_rfl
theorem fi13_0 : fieldOf Tryd.prog 13 0 = some (9, 0) := by kernel_rfl
theorem fi13_1 : fieldOf Tryd.prog 13 1 = some (12, 1) := by kernel_rfl
theorem zv13 : zeroV Tryd.prog 13 = some (.agg [.d (.str []), .d (.int .u64 0)]) := by kernel_rfl
theorem cl13 : clsOf Tryd.prog 13 = none := by kernel_rfl
theorem st13 : isStr Tryd.prog 13 = false := by kernel_rfl
theorem sz21 : szOf Tryd.prog 21 = some (false, 1) := by kernel_rfl
theorem ze21 : zeroA Tryd.prog 21 = some [.d (.int .i32 0)] := by kernel_rfl
theorem by21 : bytesOf Tryd.prog 21 = some 4 := by kernel_rfl
theorem zv21 : zeroV Tryd.prog 21 = some (.d (.int .i32 0)) := by kernel_rfl
theorem cl21 : clsOf Tryd.prog 21 = some 0 := by kernel_rfl
theorem ps21 : plainSt Tryd.prog 21 = none := by kernel_rfl
theorem st21 : isStr Tryd.prog 21 = false := by kernel_rfl
theorem sz22 : szOf Tryd.prog 22 = some (false, 1) := by kernel_rfl
theorem ze22 : zeroA Tryd.prog 22 = some [.nils] := by kernel_rfl
theorem by22 : bytesOf Tryd.prog 22 = some 24 := by kernel_rfl
theorem el22 : elOf Tryd.prog 22 = some (5, 1) := by kernel_rfl
theorem is22 : isSl Tryd.prog 22 = true := by kernel_rfl
theorem zv22 : zeroV Tryd.prog 22 = some (.nils) := by kernel_rfl
theorem cl22 : clsOf Tryd.prog 22 = none := by kernel_rfl
theorem st22 : isStr Tryd.prog 22 = false := by kernel_rfl
theorem sz24 : szOf Tryd.prog 24 = some (false, 1) := by kernel_rfl
theorem ze24 : zeroA Tryd.prog 24 = some [.nils] := by kernel_rfl
theorem by24 : bytesOf Tryd.prog 24 = some 24 := by kernel_rfl
theorem el24 : elOf Tryd.prog 24 = some (64, 2) := by kernel_rfl
theorem is24 : isSl Tryd.prog 24 = true := by kernel_rfl
theorem zv24 : zeroV Tryd.prog 24 = some (.nils) := by kernel_rfl
theorem cl24 : clsOf Tryd.prog 24 = none := by kernel_rfl
theorem st24 : isStr Tryd.prog 24 = false := by kernel_rfl
theorem sz25 : szOf Tryd.prog 25 = some (true, 6) := by kernel_rfl
theorem ze25 : zeroA Tryd.prog 25 = some [.d (.int .i64 0), .nils, .d (.str []), .d (.int .i64 0), .d (.int .i64 0), .d (.int .u8 0)] := by kernel_rfl
theorem by25 : bytesOf Tryd.prog 25 = some 72 := by kernel_rfl
theorem pl25 : placesOf Tryd.prog 25 = some [(0, 1), (1, 1), (2, 1), (3, 1), (4, 1), (5, 1)] := by kernel_rfl
theorem fi25_0 : fieldOf Tryd.prog 25 0 = some (3, 0) := by kernel_rfl
theorem fi25_1 : fieldOf Tryd.prog 25 1 = some (24, 1) := by kernel_rfl
theorem fi25_2 : fieldOf Tryd.prog 25 2 = some (9, 2) := by kernel_rfl
theorem fi25_3 : fieldOf Tryd.prog 25 3 = some (3, 3) := by kernel_rfl
theorem fi25_4 : fieldOf Tryd.prog 25 4 = some (3, 4) := by kernel_rfl
theorem fi25_5 : fieldOf Tryd.prog 25 5 = some (5, 5) := by kernel_rfl
theorem zv25 : zeroV Tryd.prog 25 = some (.agg [.d (.int .i64 0), .nils, .d (.str []), .d (.int .i64 0), .d (.int .i64 0), .d (.int .u8 0)]) := by kernel_rfl
theorem cl25 : clsOf Tryd.prog 25 = none := by kernel_rfl
theorem st25 : isStr Tryd.prog 25 = false := by kernel_rfl
theorem sz26 : szOf Tryd.prog 26 = some (true, 6) := by kernel_rfl
theorem ze26 : zeroA Tryd.prog 26 = some [.d (.int .i64 0), .nils, .d (.str []), .d (.int .i64 0), .d (.int .i64 0), .d (.int .u8 0)] := by kernel_rfl
theorem by26 : bytesOf Tryd.prog 26 = some 72 := by kernel_rfl
theorem pl26 : placesOf Tryd.prog 26 = some [(0, 1), (1, 1), (2, 1), (3, 1), (4, 1), (5, 1)] := by kernel_rfl
theorem fi26_0 : fieldOf Tryd.prog 26 0 = some (3, 0) := by kernel_rfl
theorem fi26_1 : fieldOf Tryd.prog 26 1 = some (24, 1) := by kernel_rfl
theorem fi26_2 : fieldOf Tryd.prog 26 2 = some (9, 2) := by kernel_rfl
theorem fi26_3 : fieldOf Tryd.prog 26 3 = some (3, 3) := by kernel_rfl
theorem fi26_4 : fieldOf Tryd.prog 26 4 = some (3, 4) := by kernel_rfl
theorem fi26_5 : fieldOf Tryd.prog 26 5 = some (5, 5) := by kernel_rfl
theorem zv26 : zeroV Tryd.prog 26 = some (.agg [.d (.int .i64 0), .nils, .d (.str []), .d (.int .i64 0), .d (.int .i64 0), .d (.int .u8 0)]) := by kernel_rfl
theorem cl26 : clsOf Tryd.prog 26 = none := by kernel_rfl
theorem st26 : isStr Tryd.prog 26 = false := by kernel_rfl
theorem sz27 : szOf Tryd.prog 27 = some (false, 1) := by kernel_rfl
theorem ze27 : zeroA Tryd.prog 27 = some [.d (.int .i64 0)] := by kernel_rfl
theorem by27 : bytesOf Tryd.prog 27 = some 8 := by kernel_rfl
theorem zv27 : zeroV Tryd.prog 27 = some (.d (.int .i64 0)) := by kernel_rfl
theorem cl27 : clsOf Tryd.prog 27 = some 0 := by kernel_rfl
theorem ps27 : plainSt Tryd.prog 27 = none := by kernel_rfl
theorem st27 : isStr Tryd.prog 27 = false := by kernel_rfl
theorem sz32 : szOf Tryd.prog 32 = some (false, 1) := by kernel_rfl
theorem ze32 : zeroA Tryd.prog 32 = some [.nils] := by kernel_rfl
theorem by32 : bytesOf Tryd.prog 32 = some 24 := by kernel_rfl
theorem el32 : elOf Tryd.prog 32 = some (86, 2) := by kernel_rfl
theorem is32 : isSl Tryd.prog 32 = true := by kernel_rfl
theorem zv32 : zeroV Tryd.prog 32 = some (.nils) := by kernel_rfl
theorem cl32 : clsOf Tryd.prog 32 = none := by kernel_rfl
theorem st32 : isStr Tryd.prog 32 = false := by kernel_rfl
theorem sz33 : szOf Tryd.prog 33 = some (false, 1) := by kernel_rfl
theorem ze33 : zeroA Tryd.prog 33 = some [.nils] := by kernel_rfl
theorem by33 : bytesOf Tryd.prog 33 = some 24 := by kernel_rfl
theorem el33 : elOf Tryd.prog 33 = some (52, 2) := by kernel_rfl
theorem is33 : isSl Tryd.prog 33 = true := by kernel_rfl
theorem zv33 : zeroV Tryd.prog 33 = some (.nils) := by kernel_rfl
theorem cl33 : clsOf Tryd.prog 33 = none := by kernel_rfl
theorem st33 : isStr Tryd.prog 33 = false := by kernel_rfl
theorem sz34 : szOf Tryd.prog 34 = some (true, 10) := by kernel_rfl
theorem ze34 : zeroA Tryd.prog 34 = some [.d (.int .i64 0), .d (.str []), .d (.str []), .d (.int .i64 0), .d (.int .i64 0), .d (.int .u8 0), .nils, .nils, .d (.str []), .d (.bool false)] := by kernel_rfl
theorem by34 : bytesOf Tryd.prog 34 = some 136 := by kernel_rfl
theorem pl34 : placesOf Tryd.prog 34 = some [(0, 1), (1, 1), (2, 1), (3, 1), (4, 1), (5, 1), (6, 1), (7, 1), (8, 1), (9, 1)] := by kernel_rfl
theorem fi34_0 : fieldOf Tryd.prog 34 0 = some (3, 0) := by kernel_rfl
theorem fi34_1 : fieldOf Tryd.prog 34 1 = some (9, 1) := by kernel_rfl
theorem fi34_2 : fieldOf Tryd.prog 34 2 = some (9, 2) := by kernel_rfl
theorem fi34_3 : fieldOf Tryd.prog 34 3 = some (3, 3) := by kernel_rfl
theorem fi34_4 : fieldOf Tryd.prog 34 4 = some (3, 4) := by kernel_rfl
theorem fi34_5 : fieldOf Tryd.prog 34 5 = some (5, 5) := by kernel_rfl
theorem fi34_6 : fieldOf Tryd.prog 34 6 = some (32, 6) := by kernel_rfl
theorem fi34_7 : fieldOf Tryd.prog 34 7 = some (33, 7) := by kernel_rfl
theorem fi34_8 : fieldOf Tryd.prog 34 8 = some (9, 8) := by kernel_rfl
theorem fi34_9 : fieldOf Tryd.prog 34 9 = some (4, 9) := by kernel_rfl
theorem zv34 : zeroV Tryd.prog 34 = some (.agg [.d (.int .i64 0), .d (.str []), .d (.str []), .d (.int .i64 0), .d (.int .i64 0), .d (.int .u8 0), .nils, .nils, .d (.str []), .d (.bool false)]) := by kernel_rfl
theorem cl34 : clsOf Tryd.prog 34 = none := by kernel_rfl
theorem st34 : isStr Tryd.prog 34 = false := by kernel_rfl
theorem sz35 : szOf Tryd.prog 35 = some (true, 10) := by kernel_rfl
theorem ze35 : zeroA Tryd.prog 35 = some [.d (.int .i64 0), .d (.str []), .d (.str []), .d (.int .i64 0), .d (.int .i64 0), .d (.int .u8 0), .nils, .nils, .d (.str []), .d (.bool false)] := by kernel_rfl
theorem by35 : bytesOf Tryd.prog 35 = some 136 := by kernel_rfl
theorem pl35 : placesOf Tryd.prog 35 = some [(0, 1), (1, 1), (2, 1), (3, 1), (4, 1), (5, 1), (6, 1), (7, 1), (8, 1), (9, 1)] := by kernel_rfl
theorem fi35_0 : fieldOf Tryd.prog 35 0 = some (3, 0) := by kernel_rfl
theorem fi35_1 : fieldOf Tryd.prog 35 1 = some (9, 1) := by kernel_rfl
theorem fi35_2 : fieldOf Tryd.prog 35 2 = some (9, 2) := by kernel_rfl
theorem fi35_3 : fieldOf Tryd.prog 35 3 = some (3, 3) := by kernel_rfl
theorem fi35_4 : fieldOf Tryd.prog 35 4 = some (3, 4) := by kernel_rfl
theorem fi35_5 : fieldOf Tryd.prog 35 5 = some (5, 5) := by kernel_rfl
theorem fi35_6 : fieldOf Tryd.prog 35 6 = some (32, 6) := by kernel_rfl
theorem fi35_7 : fieldOf Tryd.prog 35 7 = some (33, 7) := by kernel_rfl
theorem fi35_8 : fieldOf Tryd.prog 35 8 = some (9, 8) := by kernel_rfl
theorem fi35_9 : fieldOf Tryd.prog 35 9 = some (4, 9) := by kernel_rfl
theorem zv35 : zeroV Tryd.prog 35 = some (.agg [.d (.int .i64 0), .d (.str []), .d (.str []), .d (.int .i64 0), .d (.int .i64 0), .d (.int .u8 0), .nils, .nils, .d (.str []), .d (.bool false)]) := by kernel_rfl
theorem cl35 : clsOf Tryd.prog 35 = none := by kernel_rfl
theorem st35 : isStr Tryd.prog 35 = false := by kernel_rfl
theorem sz48 : szOf Tryd.prog 48 = some (true, 4) := by kernel_rfl
theorem ze48 : zeroA Tryd.prog 48 = some [.d (.int .i64 0), .d (.bool false), .d (.int .i64 0), .d (.str [])] := by kernel_rfl
theorem by48 : bytesOf Tryd.prog 48 = some 40 := by kernel_rfl
theorem pl48 : placesOf Tryd.prog 48 = some [(0, 1), (1, 1), (2, 1), (3, 1)] := by kernel_rfl
theorem fi48_0 : fieldOf Tryd.prog 48 0 = some (3, 0) := by kernel_rfl
theorem fi48_1 : fieldOf Tryd.prog 48 1 = some (4, 1) := by kernel_rfl
theorem fi48_2 : fieldOf Tryd.prog 48 2 = some (2, 2) := by kernel_rfl
theorem fi48_3 : fieldOf Tryd.prog 48 3 = some (9, 3) := by kernel_rfl
theorem zv48 : zeroV Tryd.prog 48 = some (.agg [.d (.int .i64 0), .d (.bool false), .d (.int .i64 0), .d (.str [])]) := by kernel_rfl
theorem cl48 : clsOf Tryd.prog 48 = none := by kernel_rfl
theorem st48 : isStr Tryd.prog 48 = false := by kernel_rfl
theorem sz49 : szOf Tryd.prog 49 = some (true, 4) := by kernel_rfl
theorem ze49 : zeroA Tryd.prog 49 = some [.d (.int .i64 0), .d (.bool false), .d (.int .i64 0), .d (.str [])] := by kernel_rfl
theorem by49 : bytesOf Tryd.prog 49 = some 40 := by kernel_rfl
theorem pl49 : placesOf Tryd.prog 49 = some [(0, 1), (1, 1), (2, 1), (3, 1)] := by kernel_rfl
theorem fi49_0 : fieldOf Tryd.prog 49 0 = some (3, 0) := by kernel_rfl
theorem fi49_1 : fieldOf Tryd.prog 49 1 = some (4, 1) := by kernel_rfl
theorem fi49_2 : fieldOf Tryd.prog 49 2 = some (2, 2) := by kernel_rfl
theorem fi49_3 : fieldOf Tryd.prog 49 3 = some (9, 3) := by kernel_rfl
theorem zv49 : zeroV Tryd.prog 49 = some (.agg [.d (.int .i64 0), .d (.bool false), .d (.int .i64 0), .d (.str [])]) := by kernel_rfl
theorem cl49 : clsOf Tryd.prog 49 = none := by kernel_rfl
theorem ps49 : plainSt Tryd.prog 49 = some [(0, 0), (1, 2), (2, 0), (3, 1)] := by kernel_rfl
theorem st49 : isStr Tryd.prog 49 = false := by kernel_rfl
theorem sz51 : szOf Tryd.prog 51 = some (true, 2) := by kernel_rfl
theorem ze51 : zeroA Tryd.prog 51 = some [.d (.bool false), .d (.str [])] := by kernel_rfl
theorem by51 : bytesOf Tryd.prog 51 = some 24 := by kernel_rfl
theorem pl51 : placesOf Tryd.prog 51 = some [(0, 1), (1, 1)] := by kernel_rfl
theorem fi51_0 : fieldOf Tryd.prog 51 0 = some (4, 0) := by kernel_rfl
theorem fi51_1 : fieldOf Tryd.prog 51 1 = some (9, 1) := by kernel_rfl
theorem zv51 : zeroV Tryd.prog 51 = some (.agg [.d (.bool false), .d (.str [])]) := by kernel_rfl
theorem cl51 : clsOf Tryd.prog 51 = none := by kernel_rfl
theorem st51 : isStr Tryd.prog 51 = false := by kernel_rfl
theorem sz52 : szOf Tryd.prog 52 = some (true, 2) := by kernel_rfl
theorem ze52 : zeroA Tryd.prog 52 = some [.d (.bool false), .d (.str [])] := by kernel_rfl
theorem by52 : bytesOf Tryd.prog 52 = some 24 := by kernel_rfl
theorem pl52 : placesOf Tryd.prog 52 = some [(0, 1), (1, 1)] := by kernel_rfl
theorem fi52_0 : fieldOf Tryd.prog 52 0 = some (4, 0) := by kernel_rfl
theorem fi52_1 : fieldOf Tryd.prog 52 1 = some (9, 1) := by kernel_rfl
theorem zv52 : zeroV Tryd.prog 52 = some (.agg [.d (.bool false), .d (.str [])]) := by kernel_rfl
theorem cl52 : clsOf Tryd.prog 52 = none := by kernel_rfl
theorem ps52 : plainSt Tryd.prog 52 = some [(0, 2), (1, 1)] := by kernel_rfl
theorem st52 : isStr Tryd.prog 52 = false := by kernel_rfl
theorem sz63 : szOf Tryd.prog 63 = some (true, 2) := by kernel_rfl
theorem ze63 : zeroA Tryd.prog 63 = some [.d (.str []), .d (.str [])] := by kernel_rfl
theorem by63 : bytesOf Tryd.prog 63 = some 32 := by kernel_rfl
theorem pl63 : placesOf Tryd.prog 63 = some [(0, 1), (1, 1)] := by kernel_rfl
theorem fi63_0 : fieldOf Tryd.prog 63 0 = some (9, 0) := by kernel_rfl
theorem fi63_1 : fieldOf Tryd.prog 63 1 = some (9, 1) := by kernel_rfl
theorem zv63 : zeroV Tryd.prog 63 = some (.agg [.d (.str []), .d (.str [])]) := by kernel_rfl
theorem cl63 : clsOf Tryd.prog 63 = none := by kernel_rfl
theorem st63 : isStr Tryd.prog 63 = false := by kernel_rfl
theorem sz64 : szOf Tryd.prog 64 = some (true, 2) := by kernel_rfl
theorem ze64 : zeroA Tryd.prog 64 = some [.d (.str []), .d (.str [])] := by kernel_rfl
theorem by64 : bytesOf Tryd.prog 64 = some 32 := by kernel_rfl
theorem pl64 : placesOf Tryd.prog 64 = some [(0, 1), (1, 1)] := by kernel_rfl
theorem fi64_0 : fieldOf Tryd.prog 64 0 = some (9, 0) := by kernel_rfl
theorem fi64_1 : fieldOf Tryd.prog 64 1 = some (9, 1) := by kernel_rfl
theorem zv64 : zeroV Tryd.prog 64 = some (.agg [.d (.str []), .d (.str [])]) := by kernel_rfl
theorem cl64 : clsOf Tryd.prog 64 = none := by kernel_rfl
theorem ps64 : plainSt Tryd.prog 64 = some [(0, 1), (1, 1)] := by kernel_rfl
theorem st64 : isStr Tryd.prog 64 = false := by kernel_rfl
theorem sz85 : szOf Tryd.prog 85 = some (true, 2) := by kernel_rfl
theorem ze85 : zeroA Tryd.prog 85 = some [.d (.str []), .d (.int .i64 0)] := by kernel_rfl
theorem by85 : bytesOf Tryd.prog 85 = some 24 := by kernel_rfl
theorem pl85 : placesOf Tryd.prog 85 = some [(0, 1), (1, 1)] := by kernel_rfl
theorem fi85_0 : fieldOf Tryd.prog 85 0 = some (9, 0) := by kernel_rfl
theorem fi85_1 : fieldOf Tryd.prog 85 1 = some (3, 1) := by kernel_rfl
theorem zv85 : zeroV Tryd.prog 85 = some (.agg [.d (.str []), .d (.int .i64 0)]) := by kernel_rfl
theorem cl85 : clsOf Tryd.prog 85 = none := by kernel_rfl
theorem st85 : isStr Tryd.prog 85 = false := by kernel_rfl
theorem sz86 : szOf Tryd.prog 86 = some (true, 2) := by kernel_rfl
theorem ze86 : zeroA Tryd.prog 86 = some [.d (.str []), .d (.int .i64 0)] := by kernel_rfl
theorem by86 : bytesOf Tryd.prog 86 = some 24 := by kernel_rfl
theorem pl86 : placesOf Tryd.prog 86 = some [(0, 1), (1, 1)] := by kernel_rfl
theorem fi86_0 : fieldOf Tryd.prog 86 0 = some (9, 0) := by kernel_rfl
theorem fi86_1 : fieldOf Tryd.prog 86 1 = some (3, 1) := by kernel_rfl
theorem zv86 : zeroV Tryd.prog 86 = some (.agg [.d (.str []), .d (.int .i64 0)]) := by kernel_rfl
theorem cl86 : clsOf Tryd.prog 86 = none := by kernel_rfl
theorem ps86 : plainSt Tryd.prog 86 = some [(0, 1), (1, 0)] := by kernel_rfl
theorem st86 : isStr Tryd.prog 86 = false := by kernel_rfl
theorem sz87 : szOf Tryd.prog 87 = some (true, 2) := by kernel_rfl
theorem ze87 : zeroA Tryd.prog 87 = some [.d (.str []), .d (.str [])] := by kernel_rfl
theorem by87 : bytesOf Tryd.prog 87 = some 32 := by kernel_rfl
theorem pl87 : placesOf Tryd.prog 87 = some [(0, 1), (1, 1)] := by kernel_rfl
theorem fi87_0 : fieldOf Tryd.prog 87 0 = some (9, 0) := by kernel_rfl
theorem fi87_1 : fieldOf Tryd.prog 87 1 = some (9, 1) := by kernel_rfl
theorem zv87 : zeroV Tryd.prog 87 = some (.agg [.d (.str []), .d (.str [])]) := by kernel_rfl
theorem cl87 : clsOf Tryd.prog 87 = none := by kernel_rfl
theorem st87 : isStr Tryd.prog 87 = false := by kernel_rfl
theorem sz88 : szOf Tryd.prog 88 = some (true, 2) := by kernel_rfl
theorem ze88 : zeroA Tryd.prog 88 = some [.d (.str []), .d (.str [])] := by kernel_rfl
theorem by88 : bytesOf Tryd.prog 88 = some 32 := by kernel_rfl
theorem pl88 : placesOf Tryd.prog 88 = some [(0, 1), (1, 1)] := by kernel_rfl
theorem fi88_0 : fieldOf Tryd.prog 88 0 = some (9, 0) := by kernel_rfl
theorem fi88_1 : fieldOf Tryd.prog 88 1 = some (9, 1) := by kernel_rfl
theorem zv88 : zeroV Tryd.prog 88 = some (.agg [.d (.str []), .d (.str [])]) := by kernel_rfl
theorem cl88 : clsOf Tryd.prog 88 = none := by kernel_rfl
theorem ps88 : plainSt Tryd.prog 88 = some [(0, 1), (1, 1)] := by kernel_rfl
theorem st88 : isStr Tryd.prog 88 = false := by kernel_rfl
theorem sz91 : szOf Tryd.prog 91 = some (false, 1) := by kernel_rfl
theorem ze91 : zeroA Tryd.prog 91 = some [.d .nilm] := by kernel_rfl
theorem by91 : bytesOf Tryd.prog 91 = some 8 := by kernel_rfl
theorem zv91 : zeroV Tryd.prog 91 = some (.d .nilm) := by kernel_rfl
theorem cl91 : clsOf Tryd.prog 91 = none := by kernel_rfl
theorem mo91 : mapOf Tryd.prog 91 = some (4, 9) := by kernel_rfl
theorem im91 : isMp Tryd.prog 91 = true := by kernel_rfl
theorem st91 : isStr Tryd.prog 91 = false := by kernel_rfl
theorem sz97 : szOf Tryd.prog 97 = some (false, 1) := by kernel_rfl
theorem ze97 : zeroA Tryd.prog 97 = some [.d .nilp] := by kernel_rfl
theorem by97 : bytesOf Tryd.prog 97 = some 8 := by kernel_rfl
theorem zv97 : zeroV Tryd.prog 97 = some (.d .nilp) := by kernel_rfl
theorem cl97 : clsOf Tryd.prog 97 = none := by kernel_rfl
theorem st97 : isStr Tryd.prog 97 = false := by kernel_rfl
theorem ip97 : isPtr Tryd.prog 97 = true := by kernel_rfl
theorem sz98 : szOf Tryd.prog 98 = some (true, 2) := by kernel_rfl
theorem ze98 : zeroA Tryd.prog 98 = some [.nils, .d (.bool false)] := by kernel_rfl
theorem by98 : bytesOf Tryd.prog 98 = some 32 := by kernel_rfl
theorem pl98 : placesOf Tryd.prog 98 = some [(0, 1), (1, 1)] := by kernel_rfl
theorem fi98_0 : fieldOf Tryd.prog 98 0 = some (22, 0) := by kernel_rfl
theorem fi98_1 : fieldOf Tryd.prog 98 1 = some (4, 1) := by kernel_rfl
theorem zv98 : zeroV Tryd.prog 98 = some (.agg [.nils, .d (.bool false)]) := by kernel_rfl
theorem cl98 : clsOf Tryd.prog 98 = none := by kernel_rfl
theorem st98 : isStr Tryd.prog 98 = false := by kernel_rfl
theorem sz99 : szOf Tryd.prog 99 = some (true, 2) := by kernel_rfl
theorem ze99 : zeroA Tryd.prog 99 = some [.nils, .d (.bool false)] := by kernel_rfl
theorem by99 : bytesOf Tryd.prog 99 = some 32 := by kernel_rfl
theorem pl99 : placesOf Tryd.prog 99 = some [(0, 1), (1, 1)] := by kernel_rfl
theorem fi99_0 : fieldOf Tryd.prog 99 0 = some (22, 0) := by kernel_rfl
theorem fi99_1 : fieldOf Tryd.prog 99 1 = some (4, 1) := by kernel_rfl
theorem zv99 : zeroV Tryd.prog 99 = some (.agg [.nils, .d (.bool false)]) := by kernel_rfl
theorem cl99 : clsOf Tryd.prog 99 = none := by kernel_rfl
theorem st99 : isStr Tryd.prog 99 = false := by kernel_rfl
theorem sz107 : szOf Tryd.prog 107 = some (false, 1) := by kernel_rfl
theorem ze107 : zeroA Tryd.prog 107 = some [.d (.int .u64 0)] := by kernel_rfl
theorem by107 : bytesOf Tryd.prog 107 = some 8 := by kernel_rfl
theorem zv107 : zeroV Tryd.prog 107 = some (.d (.int .u64 0)) := by kernel_rfl
theorem cl107 : clsOf Tryd.prog 107 = some 0 := by kernel_rfl
theorem ps107 : plainSt Tryd.prog 107 = none := by kernel_rfl
theorem st107 : isStr Tryd.prog 107 = false := by kernel_rfl
theorem sz108 : szOf Tryd.prog 108 = some (false, 1) := by kernel_rfl
theorem ze108 : zeroA Tryd.prog 108 = some [.nils] := by kernel_rfl
theorem by108 : bytesOf Tryd.prog 108 = some 24 := by kernel_rfl
theorem el108 : elOf Tryd.prog 108 = some (3, 1) := by kernel_rfl
theorem is108 : isSl Tryd.prog 108 = true := by kernel_rfl
theorem zv108 : zeroV Tryd.prog 108 = some (.nils) := by kernel_rfl
theorem cl108 : clsOf Tryd.prog 108 = none := by kernel_rfl
theorem st108 : isStr Tryd.prog 108 = false := by kernel_rfl
theorem sz110 : szOf Tryd.prog 110 = some (false, 1) := by kernel_rfl
theorem ze110 : zeroA Tryd.prog 110 = some [.d .nilm] := by kernel_rfl
theorem by110 : bytesOf Tryd.prog 110 = some 8 := by kernel_rfl
theorem zv110 : zeroV Tryd.prog 110 = some (.d .nilm) := by kernel_rfl
theorem cl110 : clsOf Tryd.prog 110 = none := by kernel_rfl
theorem mo110 : mapOf Tryd.prog 110 = some (3, 113) := by kernel_rfl
theorem im110 : isMp Tryd.prog 110 = true := by kernel_rfl
theorem st110 : isStr Tryd.prog 110 = false := by kernel_rfl
theorem sz112 : szOf Tryd.prog 112 = some (true, 2) := by kernel_rfl
theorem ze112 : zeroA Tryd.prog 112 = some [.d (.int .i64 0), .d (.int .i64 0)] := by kernel_rfl
theorem by112 : bytesOf Tryd.prog 112 = some 16 := by kernel_rfl
theorem pl112 : placesOf Tryd.prog 112 = some [(0, 1), (1, 1)] := by kernel_rfl
theorem fi112_0 : fieldOf Tryd.prog 112 0 = some (3, 0) := by kernel_rfl
theorem fi112_1 : fieldOf Tryd.prog 112 1 = some (3, 1) := by kernel_rfl
theorem zv112 : zeroV Tryd.prog 112 = some (.agg [.d (.int .i64 0), .d (.int .i64 0)]) := by kernel_rfl
theorem cl112 : clsOf Tryd.prog 112 = none := by kernel_rfl
theorem st112 : isStr Tryd.prog 112 = false := by kernel_rfl
theorem sz113 : szOf Tryd.prog 113 = some (true, 2) := by kernel_rfl
theorem ze113 : zeroA Tryd.prog 113 = some [.d (.int .i64 0), .d (.int .i64 0)] := by kernel_rfl
theorem by113 : bytesOf Tryd.prog 113 = some 16 := by kernel_rfl
theorem pl113 : placesOf Tryd.prog 113 = some [(0, 1), (1, 1)] := by kernel_rfl
theorem fi113_0 : fieldOf Tryd.prog 113 0 = some (3, 0) := by kernel_rfl
theorem fi113_1 : fieldOf Tryd.prog 113 1 = some (3, 1) := by kernel_rfl
theorem zv113 : zeroV Tryd.prog 113 = some (.agg [.d (.int .i64 0), .d (.int .i64 0)]) := by kernel_rfl
theorem cl113 : clsOf Tryd.prog 113 = none := by kernel_rfl
theorem ps113 : plainSt Tryd.prog 113 = some [(0, 0), (1, 0)] := by kernel_rfl
theorem st113 : isStr Tryd.prog 113 = false := by kernel_rfl
theorem sz115 : szOf Tryd.prog 115 = some (false, 1) := by kernel_rfl
theorem ze115 : zeroA Tryd.prog 115 = some [.nils] := by kernel_rfl
theorem by115 : bytesOf Tryd.prog 115 = some 24 := by kernel_rfl
theorem el115 : elOf Tryd.prog 115 = some (9, 1) := by kernel_rfl
theorem is115 : isSl Tryd.prog 115 = true := by kernel_rfl
theorem zv115 : zeroV Tryd.prog 115 = some (.nils) := by kernel_rfl
theorem cl115 : clsOf Tryd.prog 115 = none := by kernel_rfl
theorem st115 : isStr Tryd.prog 115 = false := by kernel_rfl
theorem sz118 : szOf Tryd.prog 118 = some (false, 1) := by kernel_rfl
theorem ze118 : zeroA Tryd.prog 118 = some [.nils] := by kernel_rfl
theorem by118 : bytesOf Tryd.prog 118 = some 24 := by kernel_rfl
theorem el118 : elOf Tryd.prog 118 = some (22, 1) := by kernel_rfl
theorem is118 : isSl Tryd.prog 118 = true := by kernel_rfl
theorem zv118 : zeroV Tryd.prog 118 = some (.nils) := by kernel_rfl
theorem cl118 : clsOf Tryd.prog 118 = none := by kernel_rfl
theorem st118 : isStr Tryd.prog 118 = false := by kernel_rfl
theorem sz123 : szOf Tryd.prog 123 = some (false, 1) := by kernel_rfl
theorem ze123 : zeroA Tryd.prog 123 = some [.d (.int .u64 0)] := by kernel_rfl
theorem by123 : bytesOf Tryd.prog 123 = some 8 := by kernel_rfl
theorem zv123 : zeroV Tryd.prog 123 = some (.d (.int .u64 0)) := by kernel_rfl
theorem cl123 : clsOf Tryd.prog 123 = some 0 := by kernel_rfl
theorem ps123 : plainSt Tryd.prog 123 = none := by kernel_rfl
theorem st123 : isStr Tryd.prog 123 = false := by kernel_rfl
theorem sz124 : szOf Tryd.prog 124 = some (false, 1) := by kernel_rfl
theorem ze124 : zeroA Tryd.prog 124 = some [.d (.int .u32 0)] := by kernel_rfl
theorem by124 : bytesOf Tryd.prog 124 = some 4 := by kernel_rfl
theorem zv124 : zeroV Tryd.prog 124 = some (.d (.int .u32 0)) := by kernel_rfl
theorem cl124 : clsOf Tryd.prog 124 = some 0 := by kernel_rfl
theorem ps124 : plainSt Tryd.prog 124 = none := by kernel_rfl
theorem st124 : isStr Tryd.prog 124 = false := by kernel_rfl
theorem sz125 : szOf Tryd.prog 125 = some (false, 1) := by kernel_rfl
theorem ze125 : zeroA Tryd.prog 125 = some [.d (.int .i8 0)] := by kernel_rfl
theorem by125 : bytesOf Tryd.prog 125 = some 1 := by kernel_rfl
theorem zv125 : zeroV Tryd.prog 125 = some (.d (.int .i8 0)) := by kernel_rfl
theorem cl125 : clsOf Tryd.prog 125 = some 0 := by kernel_rfl
theorem ps125 : plainSt Tryd.prog 125 = none := by kernel_rfl
theorem st125 : isStr Tryd.prog 125 = false := by kernel_rfl
theorem sz132 : szOf Tryd.prog 132 = some (true, 256) := by kernel_rfl
theorem by132 : bytesOf Tryd.prog 132 = some 256 := by kernel_rfl
theorem el132 : elOf Tryd.prog 132 = none := by kernel_rfl
theorem ar132 : arOf Tryd.prog 132 = some (4, 256, 1) := by kernel_rfl
theorem cl132 : clsOf Tryd.prog 132 = none := by kernel_rfl
theorem st132 : isStr Tryd.prog 132 = false := by kernel_rfl
theorem sz133 : szOf Tryd.prog 133 = some (true, 256) := by kernel_rfl
theorem by133 : bytesOf Tryd.prog 133 = some 256 := by kernel_rfl
theorem el133 : elOf Tryd.prog 133 = none := by kernel_rfl
theorem ar133 : arOf Tryd.prog 133 = some (4, 256, 1) := by kernel_rfl
theorem cl133 : clsOf Tryd.prog 133 = none := by kernel_rfl
theorem st133 : isStr Tryd.prog 133 = false := by kernel_rfl
theorem sz137 : szOf Tryd.prog 137 = some (false, 1) := by kernel_rfl
theorem ze137 : zeroA Tryd.prog 137 = some [.d .nilp] := by kernel_rfl
theorem by137 : bytesOf Tryd.prog 137 = some 8 := by kernel_rfl
theorem zv137 : zeroV Tryd.prog 137 = some (.d .nilp) := by kernel_rfl
theorem cl137 : clsOf Tryd.prog 137 = none := by kernel_rfl
theorem st137 : isStr Tryd.prog 137 = false := by kernel_rfl
theorem ip137 : isPtr Tryd.prog 137 = true := by kernel_rfl
theorem sz139 : szOf Tryd.prog 139 = some (true, 24) := by kernel_rfl
theorem ze139 : zeroA Tryd.prog 139 = some [.d (.int .u8 0), .d (.int .u8 0), .d (.int .u8 0), .d (.int .u8 0), .d (.int .u8 0), .d (.int .u8 0), .d (.int .u8 0), .d (.int .u8 0), .d (.int .u8 0), .d (.int .u8 0), .d (.int .u8 0), .d (.int .u8 0), .d (.int .u8 0), .d (.int .u8 0), .d (.int .u8 0), .d (.int .u8 0), .d (.int .u8 0), .d (.int .u8 0), .d (.int .u8 0), .d (.int .u8 0), .d (.int .u8 0), .d (.int .u8 0), .d (.int .u8 0), .d (.int .u8 0)] := by kernel_rfl
theorem by139 : bytesOf Tryd.prog 139 = some 24 := by kernel_rfl
theorem el139 : elOf Tryd.prog 139 = none := by kernel_rfl
theorem pl139 : placesOf Tryd.prog 139 = some [(0, 1), (1, 1), (2, 1), (3, 1), (4, 1), (5, 1), (6, 1), (7, 1), (8, 1), (9, 1), (10, 1), (11, 1), (12, 1), (13, 1), (14, 1), (15, 1), (16, 1), (17, 1), (18, 1), (19, 1), (20, 1), (21, 1), (22, 1), (23, 1)] := by kernel_rfl
theorem ar139 : arOf Tryd.prog 139 = some (5, 24, 1) := by kernel_rfl
theorem zv139 : zeroV Tryd.prog 139 = some (.agg [.d (.int .u8 0), .d (.int .u8 0), .d (.int .u8 0), .d (.int .u8 0), .d (.int .u8 0), .d (.int .u8 0), .d (.int .u8 0), .d (.int .u8 0), .d (.int .u8 0), .d (.int .u8 0), .d (.int .u8 0), .d (.int .u8 0), .d (.int .u8 0), .d (.int .u8 0), .d (.int .u8 0), .d (.int .u8 0), .d (.int .u8 0), .d (.int .u8 0), .d (.int .u8 0), .d (.int .u8 0), .d (.int .u8 0), .d (.int .u8 0), .d (.int .u8 0), .d (.int .u8 0)]) := by kernel_rfl
theorem cl139 : clsOf Tryd.prog 139 = none := by kernel_rfl
theorem st139 : isStr Tryd.prog 139 = false := by kernel_rfl
theorem sz150 : szOf Tryd.prog 150 = some (true, 20) := by kernel_rfl
theorem ze150 : zeroA Tryd.prog 150 = some [.d (.int .u64 0), .d (.int .u64 0), .d (.int .u64 0), .d (.int .u64 0), .d (.int .u64 0), .d (.int .u64 0), .d (.int .u64 0), .d (.int .u64 0), .d (.int .u64 0), .d (.int .u64 0), .d (.int .u64 0), .d (.int .u64 0), .d (.int .u64 0), .d (.int .u64 0), .d (.int .u64 0), .d (.int .u64 0), .d (.int .u64 0), .d (.int .u64 0), .d (.int .u64 0), .d (.int .u64 0)] := by kernel_rfl
theorem by150 : bytesOf Tryd.prog 150 = some 160 := by kernel_rfl
theorem el150 : elOf Tryd.prog 150 = none := by kernel_rfl
theorem pl150 : placesOf Tryd.prog 150 = some [(0, 1), (1, 1), (2, 1), (3, 1), (4, 1), (5, 1), (6, 1), (7, 1), (8, 1), (9, 1), (10, 1), (11, 1), (12, 1), (13, 1), (14, 1), (15, 1), (16, 1), (17, 1), (18, 1), (19, 1)] := by kernel_rfl
theorem ar150 : arOf Tryd.prog 150 = some (123, 20, 1) := by kernel_rfl
theorem zv150 : zeroV Tryd.prog 150 = some (.agg [.d (.int .u64 0), .d (.int .u64 0), .d (.int .u64 0), .d (.int .u64 0), .d (.int .u64 0), .d (.int .u64 0), .d (.int .u64 0), .d (.int .u64 0), .d (.int .u64 0), .d (.int .u64 0), .d (.int .u64 0), .d (.int .u64 0), .d (.int .u64 0), .d (.int .u64 0), .d (.int .u64 0), .d (.int .u64 0), .d (.int .u64 0), .d (.int .u64 0), .d (.int .u64 0), .d (.int .u64 0)]) := by kernel_rfl
theorem cl150 : clsOf Tryd.prog 150 = none := by kernel_rfl
theorem st150 : isStr Tryd.prog 150 = false := by kernel_rfl
theorem sz151 : szOf Tryd.prog 151 = some (true, 65) := by kernel_rfl
theorem by151 : bytesOf Tryd.prog 151 = some 65 := by kernel_rfl
theorem el151 : elOf Tryd.prog 151 = none := by kernel_rfl
theorem ar151 : arOf Tryd.prog 151 = some (5, 65, 1) := by kernel_rfl
theorem cl151 : clsOf Tryd.prog 151 = none := by kernel_rfl
theorem st151 : isStr Tryd.prog 151 = false := by kernel_rfl
theorem sz155 : szOf Tryd.prog 155 = some (true, 256) := by kernel_rfl
theorem by155 : bytesOf Tryd.prog 155 = some 256 := by kernel_rfl
theorem el155 : elOf Tryd.prog 155 = none := by kernel_rfl
theorem ar155 : arOf Tryd.prog 155 = some (5, 256, 1) := by kernel_rfl
theorem cl155 : clsOf Tryd.prog 155 = none := by kernel_rfl
theorem st155 : isStr Tryd.prog 155 = false := by kernel_rfl
theorem sz156 : szOf Tryd.prog 156 = some (true, 2) := by kernel_rfl
theorem ze156 : zeroA Tryd.prog 156 = some [.d (.int .u8 0), .d (.int .u8 0)] := by kernel_rfl
theorem by156 : bytesOf Tryd.prog 156 = some 2 := by kernel_rfl
theorem pl156 : placesOf Tryd.prog 156 = some [(0, 1), (1, 1)] := by kernel_rfl
theorem fi156_0 : fieldOf Tryd.prog 156 0 = some (5, 0) := by kernel_rfl
theorem fi156_1 : fieldOf Tryd.prog 156 1 = some (5, 1) := by kernel_rfl
theorem zv156 : zeroV Tryd.prog 156 = some (.agg [.d (.int .u8 0), .d (.int .u8 0)]) := by kernel_rfl
theorem cl156 : clsOf Tryd.prog 156 = none := by kernel_rfl
theorem st156 : isStr Tryd.prog 156 = false := by kernel_rfl
theorem sz157 : szOf Tryd.prog 157 = some (true, 2) := by kernel_rfl
theorem ze157 : zeroA Tryd.prog 157 = some [.d (.int .u8 0), .d (.int .u8 0)] := by kernel_rfl
theorem by157 : bytesOf Tryd.prog 157 = some 2 := by kernel_rfl
theorem pl157 : placesOf Tryd.prog 157 = some [(0, 1), (1, 1)] := by kernel_rfl
theorem fi157_0 : fieldOf Tryd.prog 157 0 = some (5, 0) := by kernel_rfl
theorem fi157_1 : fieldOf Tryd.prog 157 1 = some (5, 1) := by kernel_rfl
theorem zv157 : zeroV Tryd.prog 157 = some (.agg [.d (.int .u8 0), .d (.int .u8 0)]) := by kernel_rfl
theorem cl157 : clsOf Tryd.prog 157 = none := by kernel_rfl
theorem ps157 : plainSt Tryd.prog 157 = some [(0, 0), (1, 0)] := by kernel_rfl
theorem st157 : isStr Tryd.prog 157 = false := by kernel_rfl
theorem sz158 : szOf Tryd.prog 158 = some (true, 32) := by kernel_rfl
theorem ze158 : zeroA Tryd.prog 158 = some [.d (.int .u8 0), .d (.int .u8 0), .d (.int .u8 0), .d (.int .u8 0), .d (.int .u8 0), .d (.int .u8 0), .d (.int .u8 0), .d (.int .u8 0), .d (.int .u8 0), .d (.int .u8 0), .d (.int .u8 0), .d (.int .u8 0), .d (.int .u8 0), .d (.int .u8 0), .d (.int .u8 0), .d (.int .u8 0), .d (.int .u8 0), .d (.int .u8 0), .d (.int .u8 0), .d (.int .u8 0), .d (.int .u8 0), .d (.int .u8 0), .d (.int .u8 0), .d (.int .u8 0), .d (.int .u8 0), .d (.int .u8 0), .d (.int .u8 0), .d (.int .u8 0), .d (.int .u8 0), .d (.int .u8 0), .d (.int .u8 0), .d (.int .u8 0)] := by kernel_rfl
theorem by158 : bytesOf Tryd.prog 158 = some 32 := by kernel_rfl
theorem el158 : elOf Tryd.prog 158 = none := by kernel_rfl
theorem pl158 : placesOf Tryd.prog 158 = some [(0, 2), (2, 2), (4, 2), (6, 2), (8, 2), (10, 2), (12, 2), (14, 2), (16, 2), (18, 2), (20, 2), (22, 2), (24, 2), (26, 2), (28, 2), (30, 2)] := by kernel_rfl
theorem ar158 : arOf Tryd.prog 158 = some (157, 16, 2) := by kernel_rfl
theorem zv158 : zeroV Tryd.prog 158 = some (.agg [.d (.int .u8 0), .d (.int .u8 0), .d (.int .u8 0), .d (.int .u8 0), .d (.int .u8 0), .d (.int .u8 0), .d (.int .u8 0), .d (.int .u8 0), .d (.int .u8 0), .d (.int .u8 0), .d (.int .u8 0), .d (.int .u8 0), .d (.int .u8 0), .d (.int .u8 0), .d (.int .u8 0), .d (.int .u8 0), .d (.int .u8 0), .d (.int .u8 0), .d (.int .u8 0), .d (.int .u8 0), .d (.int .u8 0), .d (.int .u8 0), .d (.int .u8 0), .d (.int .u8 0), .d (.int .u8 0), .d (.int .u8 0), .d (.int .u8 0), .d (.int .u8 0), .d (.int .u8 0), .d (.int .u8 0), .d (.int .u8 0), .d (.int .u8 0)]) := by kernel_rfl
theorem cl158 : clsOf Tryd.prog 158 = none := by kernel_rfl
theorem st158 : isStr Tryd.prog 158 = false := by kernel_rfl
theorem sz161 : szOf Tryd.prog 161 = some (true, 32) := by kernel_rfl
theorem ze161 : zeroA Tryd.prog 161 = some [.d (.int .u8 0), .d (.int .u8 0), .d (.int .u8 0), .d (.int .u8 0), .d (.int .u8 0), .d (.int .u8 0), .d (.int .u8 0), .d (.int .u8 0), .d (.int .u8 0), .d (.int .u8 0), .d (.int .u8 0), .d (.int .u8 0), .d (.int .u8 0), .d (.int .u8 0), .d (.int .u8 0), .d (.int .u8 0), .d (.int .u8 0), .d (.int .u8 0), .d (.int .u8 0), .d (.int .u8 0), .d (.int .u8 0), .d (.int .u8 0), .d (.int .u8 0), .d (.int .u8 0), .d (.int .u8 0), .d (.int .u8 0), .d (.int .u8 0), .d (.int .u8 0), .d (.int .u8 0), .d (.int .u8 0), .d (.int .u8 0), .d (.int .u8 0)] := by kernel_rfl
theorem by161 : bytesOf Tryd.prog 161 = some 32 := by kernel_rfl
theorem el161 : elOf Tryd.prog 161 = none := by kernel_rfl
theorem pl161 : placesOf Tryd.prog 161 = some [(0, 1), (1, 1), (2, 1), (3, 1), (4, 1), (5, 1), (6, 1), (7, 1), (8, 1), (9, 1), (10, 1), (11, 1), (12, 1), (13, 1), (14, 1), (15, 1), (16, 1), (17, 1), (18, 1), (19, 1), (20, 1), (21, 1), (22, 1), (23, 1), (24, 1), (25, 1), (26, 1), (27, 1), (28, 1), (29, 1), (30, 1), (31, 1)] := by kernel_rfl
theorem ar161 : arOf Tryd.prog 161 = some (5, 32, 1) := by kernel_rfl
theorem zv161 : zeroV Tryd.prog 161 = some (.agg [.d (.int .u8 0), .d (.int .u8 0), .d (.int .u8 0), .d (.int .u8 0), .d (.int .u8 0), .d (.int .u8 0), .d (.int .u8 0), .d (.int .u8 0), .d (.int .u8 0), .d (.int .u8 0), .d (.int .u8 0), .d (.int .u8 0), .d (.int .u8 0), .d (.int .u8 0), .d (.int .u8 0), .d (.int .u8 0), .d (.int .u8 0), .d (.int .u8 0), .d (.int .u8 0), .d (.int .u8 0), .d (.int .u8 0), .d (.int .u8 0), .d (.int .u8 0), .d (.int .u8 0), .d (.int .u8 0), .d (.int .u8 0), .d (.int .u8 0), .d (.int .u8 0), .d (.int .u8 0), .d (.int .u8 0), .d (.int .u8 0), .d (.int .u8 0)]) := by kernel_rfl
theorem cl161 : clsOf Tryd.prog 161 = none := by kernel_rfl
theorem st161 : isStr Tryd.prog 161 = false := by kernel_rfl
theorem sz162 : szOf Tryd.prog 162 = some (true, 64) := by kernel_rfl
theorem by162 : bytesOf Tryd.prog 162 = some 64 := by kernel_rfl
theorem el162 : elOf Tryd.prog 162 = none := by kernel_rfl
theorem ar162 : arOf Tryd.prog 162 = some (5, 64, 1) := by kernel_rfl
theorem cl162 : clsOf Tryd.prog 162 = none := by kernel_rfl
theorem st162 : isStr Tryd.prog 162 = false := by kernel_rfl
theorem sz172 : szOf Tryd.prog 172 = some (false, 1) := by kernel_rfl
theorem ze172 : zeroA Tryd.prog 172 = some [.d .nilp] := by kernel_rfl
theorem by172 : bytesOf Tryd.prog 172 = some 8 := by kernel_rfl
theorem zv172 : zeroV Tryd.prog 172 = some (.d .nilp) := by kernel_rfl
theorem cl172 : clsOf Tryd.prog 172 = none := by kernel_rfl
theorem st172 : isStr Tryd.prog 172 = false := by kernel_rfl
theorem ip172 : isPtr Tryd.prog 172 = true := by kernel_rfl
set_option linter.defProp false in
/-- the facts that the walks want, in one -/
def PmT := (And.intro (And.intro (And.intro (And.intro (And.intro (And.intro (And.intro (And.intro @ar132 (And.intro @ar133 @ar139)) (And.intro (And.intro @ar150 @ar151) (And.intro @ar155 @ar158))) (And.intro (And.intro (And.intro @ar161 @ar162) (And.intro @by107 @by108)) (And.intro (And.intro @by110 @by112) (And.intro @by113 @by115)))) (And.intro (And.intro (And.intro @by118 (And.intro @by12 @by123)) (And.intro (And.intro @by124 @by125) (And.intro @by13 @by132))) (And.intro (And.intro (And.intro @by133 @by137) (And.intro @by139 @by150)) (And.intro (And.intro @by151 @by155) (And.intro @by156 @by157))))) (And.intro (And.intro (And.intro (And.intro @by158 (And.intro @by161 @by162)) (And.intro (And.intro @by172 @by2) (And.intro @by21 @by22))) (And.intro (And.intro (And.intro @by24 @by25) (And.intro @by26 @by27)) (And.intro (And.intro @by3 @by32) (And.intro @by33 @by34)))) (And.intro (And.intro (And.intro (And.intro @by35 @by4) (And.intro @by48 @by49)) (And.intro (And.intro @by5 @by51) (And.intro @by52 @by63))) (And.intro (And.intro (And.intro @by64 @by85) (And.intro @by86 @by87)) (And.intro (And.intro @by88 @by9) (And.intro @by91 @by97)))))) (And.intro (And.intro (And.intro (And.intro (And.intro @by98 (And.intro @by99 @cl107)) (And.intro (And.intro @cl108 @cl110) (And.intro @cl112 @cl113))) (And.intro (And.intro (And.intro @cl115 @cl118) (And.intro @cl12 @cl123)) (And.intro (And.intro @cl124 @cl125) (And.intro @cl13 @cl132)))) (And.intro (And.intro (And.intro (And.intro @cl133 @cl137) (And.intro @cl139 @cl150)) (And.intro (And.intro @cl151 @cl155) (And.intro @cl156 @cl157))) (And.intro (And.intro (And.intro @cl158 @cl161) (And.intro @cl162 @cl172)) (And.intro (And.intro @cl2 @cl21) (And.intro @cl22 @cl24))))) (And.intro (And.intro (And.intro (And.intro @cl25 (And.intro @cl26 @cl27)) (And.intro (And.intro @cl3 @cl32) (And.intro @cl33 @cl34))) (And.intro (And.intro (And.intro @cl35 @cl4) (And.intro @cl48 @cl49)) (And.intro (And.intro @cl5 @cl51) (And.intro @cl52 @cl63)))) (And.intro (And.intro (And.intro (And.intro @cl64 @cl85) (And.intro @cl86 @cl87)) (And.intro (And.intro @cl88 @cl9) (And.intro @cl91 @cl97))) (And.intro (And.intro (And.intro @cl98 @cl99) (And.intro @el108 @el115)) (And.intro (And.intro @el118 @el132) (And.intro @el133 @el139))))))) (And.intro (And.intro (And.intro (And.intro (And.intro (And.intro @el150 (And.intro @el151 @el155)) (And.intro (And.intro @el158 @el161) (And.intro @el162 @el22))) (And.intro (And.intro (And.intro @el24 @el32) (And.intro @el33 @fi112_0)) (And.intro (And.intro @fi112_1 @fi113_0) (And.intro @fi113_1 @fi13_0)))) (And.intro (And.intro (And.intro (And.intro @fi13_1 @fi156_0) (And.intro @fi156_1 @fi157_0)) (And.intro (And.intro @fi157_1 @fi25_0) (And.intro @fi25_1 @fi25_2))) (And.intro (And.intro (And.intro @fi25_3 @fi25_4) (And.intro @fi25_5 @fi26_0)) (And.intro (And.intro @fi26_1 @fi26_2) (And.intro @fi26_3 @fi26_4))))) (And.intro (And.intro (And.intro (And.intro @fi26_5 (And.intro @fi34_0 @fi34_1)) (And.intro (And.intro @fi34_2 @fi34_3) (And.intro @fi34_4 @fi34_5))) (And.intro (And.intro (And.intro @fi34_6 @fi34_7) (And.intro @fi34_8 @fi34_9)) (And.intro (And.intro @fi35_0 @fi35_1) (And.intro @fi35_2 @fi35_3)))) (And.intro (And.intro (And.intro (And.intro @fi35_4 @fi35_5) (And.intro @fi35_6 @fi35_7)) (And.intro (And.intro @fi35_8 @fi35_9) (And.intro @fi48_0 @fi48_1))) (And.intro (And.intro (And.intro @fi48_2 @fi48_3) (And.intro @fi49_0 @fi49_1)) (And.intro (And.intro @fi49_2 @fi49_3) (And.intro @fi51_0 @fi51_1)))))) (And.intro (And.intro (And.intro (And.intro (And.intro @fi52_0 (And.intro @fi52_1 @fi63_0)) (And.intro (And.intro @fi63_1 @fi64_0) (And.intro @fi64_1 @fi85_0))) (And.intro (And.intro (And.intro @fi85_1 @fi86_0) (And.intro @fi86_1 @fi87_0)) (And.intro (And.intro @fi87_1 @fi88_0) (And.intro @fi88_1 @fi98_0)))) (And.intro (And.intro (And.intro (And.intro @fi98_1 @fi99_0) (And.intro @fi99_1 @im110)) (And.intro (And.intro @im91 @ip137) (And.intro @ip172 @ip97))) (And.intro (And.intro (And.intro @is108 @is115) (And.intro @is118 @is22)) (And.intro (And.intro @is24 @is32) (And.intro @is33 @mo110))))) (And.intro (And.intro (And.intro (And.intro @mo91 (And.intro @pl112 @pl113)) (And.intro (And.intro @pl13 @pl139) (And.intro @pl150 @pl156))) (And.intro (And.intro (And.intro @pl157 @pl158) (And.intro @pl161 @pl25)) (And.intro (And.intro @pl26 @pl34) (And.intro @pl35 @pl48)))) (And.intro (And.intro (And.intro (And.intro @pl49 @pl51) (And.intro @pl52 @pl63)) (And.intro (And.intro @pl64 @pl85) (And.intro @pl86 @pl87))) (And.intro (And.intro (And.intro @pl88 @pl98) (And.intro @pl99 @ps107)) (And.intro (And.intro @ps113 @ps12) (And.intro @ps123 @ps124)))))))) (And.intro (And.intro (And.intro (And.intro (And.intro (And.intro (And.intro @ps125 (And.intro @ps157 @ps2)) (And.intro (And.intro @ps21 @ps27) (And.intro @ps3 @ps4))) (And.intro (And.intro (And.intro @ps49 @ps5) (And.intro @ps52 @ps64)) (And.intro (And.intro @ps86 @ps88) (And.intro @ps9 @st107)))) (And.intro (And.intro (And.intro (And.intro @st108 @st110) (And.intro @st112 @st113)) (And.intro (And.intro @st115 @st118) (And.intro @st12 @st123))) (And.intro (And.intro (And.intro @st124 @st125) (And.intro @st13 @st132)) (And.intro (And.intro @st133 @st137) (And.intro @st139 @st150))))) (And.intro (And.intro (And.intro (And.intro @st151 (And.intro @st155 @st156)) (And.intro (And.intro @st157 @st158) (And.intro @st161 @st162))) (And.intro (And.intro (And.intro @st172 @st2) (And.intro @st21 @st22)) (And.intro (And.intro @st24 @st25) (And.intro @st26 @st27)))) (And.intro (And.intro (And.intro (And.intro @st3 @st32) (And.intro @st33 @st34)) (And.intro (And.intro @st35 @st4) (And.intro @st48 @st49))) (And.intro (And.intro (And.intro @st5 @st51) (And.intro @st52 @st63)) (And.intro (And.intro @st64 @st85) (And.intro @st86 @st87)))))) (And.intro (And.intro (And.intro (And.intro (And.intro @st88 (And.intro @st9 @st91)) (And.intro (And.intro @st97 @st98) (And.intro @st99 @sz107))) (And.intro (And.intro (And.intro @sz108 @sz110) (And.intro @sz112 @sz113)) (And.intro (And.intro @sz115 @sz118) (And.intro @sz12 @sz123)))) (And.intro (And.intro (And.intro (And.intro @sz124 @sz125) (And.intro @sz13 @sz132)) (And.intro (And.intro @sz133 @sz137) (And.intro @sz139 @sz150))) (And.intro (And.intro (And.intro @sz151 @sz155) (And.intro @sz156 @sz157)) (And.intro (And.intro @sz158 @sz161) (And.intro @sz162 @sz172))))) (And.intro (And.intro (And.intro (And.intro @sz2 (And.intro @sz21 @sz22)) (And.intro (And.intro @sz24 @sz25) (And.intro @sz26 @sz27))) (And.intro (And.intro (And.intro @sz3 @sz32) (And.intro @sz33 @sz34)) (And.intro (And.intro @sz35 @sz4) (And.intro @sz48 @sz49)))) (And.intro (And.intro (And.intro (And.intro @sz5 @sz51) (And.intro @sz52 @sz63)) (And.intro (And.intro @sz64 @sz85) (And.intro @sz86 @sz87))) (And.intro (And.intro (And.intro @sz88 @sz9) (And.intro @sz91 @sz97)) (And.intro (And.intro @sz98 @sz99) (And.intro @ze107 @ze108))))))) (And.intro (And.intro (And.intro (And.intro (And.intro (And.intro @ze110 (And.intro @ze112 @ze113)) (And.intro (And.intro @ze115 @ze118) (And.intro @ze12 @ze123))) (And.intro (And.intro (And.intro @ze124 @ze125) (And.intro @ze13 @ze137)) (And.intro (And.intro @ze139 @ze150) (And.intro @ze156 @ze157)))) (And.intro (And.intro (And.intro (And.intro @ze158 @ze161) (And.intro @ze172 @ze2)) (And.intro (And.intro @ze21 @ze22) (And.intro @ze24 @ze25))) (And.intro (And.intro (And.intro @ze26 @ze27) (And.intro @ze3 @ze32)) (And.intro (And.intro @ze33 @ze34) (And.intro @ze35 @ze4))))) (And.intro (And.intro (And.intro (And.intro @ze48 (And.intro @ze49 @ze5)) (And.intro (And.intro @ze51 @ze52) (And.intro @ze63 @ze64))) (And.intro (And.intro (And.intro @ze85 @ze86) (And.intro @ze87 @ze88)) (And.intro (And.intro @ze9 @ze91) (And.intro @ze97 @ze98)))) (And.intro (And.intro (And.intro (And.intro @ze99 @zv107) (And.intro @zv108 @zv110)) (And.intro (And.intro @zv112 @zv113) (And.intro @zv115 @zv118))) (And.intro (And.intro (And.intro @zv12 @zv123) (And.intro @zv124 @zv125)) (And.intro (And.intro @zv13 @zv137) (And.intro @zv139 @zv150)))))) (And.intro (And.intro (And.intro (And.intro (And.intro @zv156 (And.intro @zv157 @zv158)) (And.intro (And.intro @zv161 @zv172) (And.intro @zv2 @zv21))) (And.intro (And.intro (And.intro @zv22 @zv24) (And.intro @zv25 @zv26)) (And.intro (And.intro @zv27 @zv3) (And.intro @zv32 @zv33)))) (And.intro (And.intro (And.intro (And.intro @zv34 @zv35) (And.intro @zv4 @zv48)) (And.intro (And.intro @zv49 @zv5) (And.intro @zv51 @zv52))) (And.intro (And.intro (And.intro @zv63 @zv64) (And.intro @zv85 @zv86)) (And.intro (And.intro @zv87 @zv88) (And.intro @zv9 @zv91))))) (And.intro (And.intro (And.intro (And.intro @zv97 (And.intro @zv98 @zv99)) (And.intro (And.intro Tryd.underlying2 Tryd.underlying3) (And.intro Tryd.underlying4 Tryd.underlying5))) (And.intro (And.intro (And.intro Tryd.underlying9 Tryd.underlying12) (And.intro Tryd.underlying21 Tryd.underlying22)) (And.intro (And.intro Tryd.underlying24 Tryd.underlying27) (And.intro Tryd.underlying32 Tryd.underlying33)))) (And.intro (And.intro (And.intro (And.intro Tryd.underlying107 Tryd.underlying108) (And.intro Tryd.underlying115 Tryd.underlying118)) (And.intro (And.intro Tryd.underlying123 Tryd.underlying124) (And.intro Tryd.underlying125 Tryd.underlying132))) (And.intro (And.intro (And.intro Tryd.underlying133 Tryd.underlying139) (And.intro Tryd.underlying150 Tryd.underlying151)) (And.intro (And.intro Tryd.underlying155 Tryd.underlying158) (And.intro Tryd.underlying161 Tryd.underlying162)))))))))
end Go.Proofs.YthaekefdadccaaaDoor.PM
