/- PM: facts on the program's types (printed by a program of mine). -/
import Derived.Test.YthaekefdadccaaaDoorPmC
import Derived.Test.YthaekefdadccaaaDoorProg
namespace Go.Proofs.YthaekefdadccaaaDoor.PM
theorem sz3 : szOf Tryd.prog 3 = some (false, 1) := by kernel_rfl
theorem ze3 : zeroA Tryd.prog 3 = some [.d (.int .i64 0)] := by kernel_rfl
theorem by3 : bytesOf Tryd.prog 3 = some 8 := by kernel_rfl
theorem zv3 : zeroV Tryd.prog 3 = some (.d (.int .i64 0)) := by kernel_rfl
theorem cl3 : clsOf Tryd.prog 3 = some 0 := by kernel_rfl
theorem ps3 : plainSt Tryd.prog 3 = none := by kernel_rfl
theorem st3 : isStr Tryd.prog 3 = false := by kernel_rfl
theorem sz4 : szOf Tryd.prog 4 = some (false, 1) := by kernel_rfl
theorem ze4 : zeroA Tryd.prog 4 = some [.d (.bool false)] := by kernel_rfl
theorem by4 : bytesOf Tryd.prog 4 = some 1 := by kernel_rfl
theorem zv4 : zeroV Tryd.prog 4 = some (.d (.bool false)) := by kernel_rfl
theorem cl4 : clsOf Tryd.prog 4 = some 2 := by kernel_rfl
theorem ps4 : plainSt Tryd.prog 4 = none := by kernel_rfl
theorem st4 : isStr Tryd.prog 4 = false := by kernel_rfl
theorem sz5 : szOf Tryd.prog 5 = some (false, 1) := by kernel_rfl
theorem ze5 : zeroA Tryd.prog 5 = some [.d (.int .u8 0)] := by kernel_rfl
theorem by5 : bytesOf Tryd.prog 5 = some 1 := by kernel_rfl
theorem zv5 : zeroV Tryd.prog 5 = some (.d (.int .u8 0)) := by kernel_rfl
theorem cl5 : clsOf Tryd.prog 5 = some 0 := by kernel_rfl
theorem ps5 : plainSt Tryd.prog 5 = none := by kernel_rfl
theorem st5 : isStr Tryd.prog 5 = false := by kernel_rfl
theorem sz9 : szOf Tryd.prog 9 = some (false, 1) := by kernel_rfl
theorem ze9 : zeroA Tryd.prog 9 = some [.d (.str [])] := by kernel_rfl
theorem by9 : bytesOf Tryd.prog 9 = some 16 := by kernel_rfl
theorem zv9 : zeroV Tryd.prog 9 = some (.d (.str [])) := by kernel_rfl
theorem cl9 : clsOf Tryd.prog 9 = some 1 := by kernel_rfl
theorem ps9 : plainSt Tryd.prog 9 = none := by kernel_rfl
theorem st9 : isStr Tryd.prog 9 = true := by kernel_rfl
theorem sz21 : szOf Tryd.prog 21 = some (false, 1) := by kernel_rfl
theorem ze21 : zeroA Tryd.prog 21 = some [.d (.int .i32 0)] := by kernel_rfl
theorem by21 : bytesOf Tryd.prog 21 = some 4 := by kernel_rfl
theorem zv21 : zeroV Tryd.prog 21 = some (.d (.int .i32 0)) := by kernel_rfl
theorem cl21 : clsOf Tryd.prog 21 = some 0 := by kernel_rfl
theorem ps21 : plainSt Tryd.prog 21 = none := by kernel_rfl
theorem st21 : isStr Tryd.prog 21 = false := by kernel_rfl
theorem sz22 : szOf Tryd.prog 22 = some (false, 1) := by kernel_rfl
theorem ze22 : zeroA Tryd.prog 22 = some [.nils] := by kernel_rfl
theorem by22 : bytesOf Tryd.prog 22 = some 24 := by kernel_rfl
theorem el22 : elOf Tryd.prog 22 = some (5, 1) := by kernel_rfl
theorem is22 : isSl Tryd.prog 22 = true := by kernel_rfl
theorem zv22 : zeroV Tryd.prog 22 = some (.nils) := by kernel_rfl
theorem cl22 : clsOf Tryd.prog 22 = none := by kernel_rfl
theorem st22 : isStr Tryd.prog 22 = false := by kernel_rfl
theorem sz24 : szOf Tryd.prog 24 = some (false, 1) := by kernel_rfl
theorem ze24 : zeroA Tryd.prog 24 = some [.nils] := by kernel_rfl
theorem by24 : bytesOf Tryd.prog 24 = some 24 := by kernel_rfl
theorem el24 : elOf Tryd.prog 24 = some (64, 2) := by kernel_rfl
theorem is24 : isSl Tryd.prog 24 = true := by kernel_rfl
theorem zv24 : zeroV Tryd.prog 24 = some (.nils) := by kernel_rfl
theorem cl24 : clsOf Tryd.prog 24 = none := by kernel_rfl
theorem st24 : isStr Tryd.prog 24 = false := by kernel_rfl
theorem sz26 : szOf Tryd.prog 26 = some (true, 6) := by kernel_rfl
theorem ze26 : zeroA Tryd.prog 26 = some [.d (.int .i64 0), .nils, .d (.str []), .d (.int .i64 0), .d (.int .i64 0), .d (.int .u8 0)] := by kernel_rfl
theorem by26 : bytesOf Tryd.prog 26 = some 72 := by kernel_rfl
theorem pl26 : placesOf Tryd.prog 26 = some [(0, 1), (1, 1), (2, 1), (3, 1), (4, 1), (5, 1)] := by kernel_rfl
theorem fi26_0 : fieldOf Tryd.prog 26 0 = some (3, 0) := by kernel_rfl
theorem fi26_1 : fieldOf Tryd.prog 26 1 = some (24, 1) := by kernel_rfl
theorem fi26_2 : fieldOf Tryd.prog 26 2 = some (9, 2) := by kernel_rfl
theorem fi26_3 : fieldOf Tryd.prog 26 3 = some (3, 3) := by kernel_rfl
theorem fi26_4 : fieldOf Tryd.prog 26 4 = some (3, 4) := by kernel_rfl
theorem fi26_5 : fieldOf Tryd.prog 26 5 = some (5, 5) := by kernel_rfl
theorem zv26 : zeroV Tryd.prog 26 = some (.agg [.d (.int .i64 0), .nils, .d (.str []), .d (.int .i64 0), .d (.int .i64 0), .d (.int .u8 0)]) := by kernel_rfl
theorem cl26 : clsOf Tryd.prog 26 = none := by kernel_rfl
theorem st26 : isStr Tryd.prog 26 = false := by kernel_rfl
theorem sz27 : szOf Tryd.prog 27 = some (false, 1) := by kernel_rfl
theorem ze27 : zeroA Tryd.prog 27 = some [.d (.int .i64 0)] := by kernel_rfl
theorem by27 : bytesOf Tryd.prog 27 = some 8 := by kernel_rfl
theorem zv27 : zeroV Tryd.prog 27 = some (.d (.int .i64 0)) := by kernel_rfl
theorem cl27 : clsOf Tryd.prog 27 = some 0 := by kernel_rfl
theorem ps27 : plainSt Tryd.prog 27 = none := by kernel_rfl
theorem st27 : isStr Tryd.prog 27 = false := by kernel_rfl
theorem sz32 : szOf Tryd.prog 32 = some (false, 1) := by kernel_rfl
theorem ze32 : zeroA Tryd.prog 32 = some [.nils] := by kernel_rfl
theorem by32 : bytesOf Tryd.prog 32 = some 24 := by kernel_rfl
theorem el32 : elOf Tryd.prog 32 = some (86, 2) := by kernel_rfl
theorem is32 : isSl Tryd.prog 32 = true := by kernel_rfl
theorem zv32 : zeroV Tryd.prog 32 = some (.nils) := by kernel_rfl
theorem cl32 : clsOf Tryd.prog 32 = none := by kernel_rfl
theorem st32 : isStr Tryd.prog 32 = false := by kernel_rfl
theorem sz33 : szOf Tryd.prog 33 = some (false, 1) := by kernel_rfl
theorem ze33 : zeroA Tryd.prog 33 = some [.nils] := by kernel_rfl
theorem by33 : bytesOf Tryd.prog 33 = some 24 := by kernel_rfl
theorem el33 : elOf Tryd.prog 33 = some (52, 2) := by kernel_rfl
theorem is33 : isSl Tryd.prog 33 = true := by kernel_rfl
theorem zv33 : zeroV Tryd.prog 33 = some (.nils) := by kernel_rfl
theorem cl33 : clsOf Tryd.prog 33 = none := by kernel_rfl
theorem st33 : isStr Tryd.prog 33 = false := by kernel_rfl
theorem sz35 : szOf Tryd.prog 35 = some (true, 10) := by kernel_rfl
theorem ze35 : zeroA Tryd.prog 35 = some [.d (.int .i64 0), .d (.str []), .d (.str []), .d (.int .i64 0), .d (.int .i64 0), .d (.int .u8 0), .nils, .nils, .d (.str []), .d (.bool false)] := by kernel_rfl
theorem by35 : bytesOf Tryd.prog 35 = some 136 := by kernel_rfl
theorem pl35 : placesOf Tryd.prog 35 = some [(0, 1), (1, 1), (2, 1), (3, 1), (4, 1), (5, 1), (6, 1), (7, 1), (8, 1), (9, 1)] := by kernel_rfl
theorem fi35_0 : fieldOf Tryd.prog 35 0 = some (3, 0) := by kernel_rfl
theorem fi35_1 : fieldOf Tryd.prog 35 1 = some (9, 1) := by kernel_rfl
theorem fi35_2 : fieldOf Tryd.prog 35 2 = some (9, 2) := by kernel_rfl
theorem fi35_3 : fieldOf Tryd.prog 35 3 = some (3, 3) := by kernel_rfl
theorem fi35_4 : fieldOf Tryd.prog 35 4 = some (3, 4) := by kernel_rfl
theorem fi35_5 : fieldOf Tryd.prog 35 5 = some (5, 5) := by kernel_rfl
theorem fi35_6 : fieldOf Tryd.prog 35 6 = some (32, 6) := by kernel_rfl
theorem fi35_7 : fieldOf Tryd.prog 35 7 = some (33, 7) := by kernel_rfl
theorem fi35_8 : fieldOf Tryd.prog 35 8 = some (9, 8) := by kernel_rfl
theorem fi35_9 : fieldOf Tryd.prog 35 9 = some (4, 9) := by kernel_rfl
theorem zv35 : zeroV Tryd.prog 35 = some (.agg [.d (.int .i64 0), .d (.str []), .d (.str []), .d (.int .i64 0), .d (.int .i64 0), .d (.int .u8 0), .nils, .nils, .d (.str []), .d (.bool false)]) := by kernel_rfl
theorem cl35 : clsOf Tryd.prog 35 = none := by kernel_rfl
theorem st35 : isStr Tryd.prog 35 = false := by kernel_rfl
theorem sz52 : szOf Tryd.prog 52 = some (true, 2) := by kernel_rfl
theorem ze52 : zeroA Tryd.prog 52 = some [.d (.bool false), .d (.str [])] := by kernel_rfl
theorem by52 : bytesOf Tryd.prog 52 = some 24 := by kernel_rfl
theorem pl52 : placesOf Tryd.prog 52 = some [(0, 1), (1, 1)] := by kernel_rfl
theorem fi52_0 : fieldOf Tryd.prog 52 0 = some (4, 0) := by kernel_rfl
theorem fi52_1 : fieldOf Tryd.prog 52 1 = some (9, 1) := by kernel_rfl
theorem zv52 : zeroV Tryd.prog 52 = some (.agg [.d (.bool false), .d (.str [])]) := by kernel_rfl
theorem cl52 : clsOf Tryd.prog 52 = none := by kernel_rfl
theorem ps52 : plainSt Tryd.prog 52 = some [(0, 2), (1, 1)] := by kernel_rfl
theorem st52 : isStr Tryd.prog 52 = false := by kernel_rfl
theorem sz64 : szOf Tryd.prog 64 = some (true, 2) := by kernel_rfl
theorem ze64 : zeroA Tryd.prog 64 = some [.d (.str []), .d (.str [])] := by kernel_rfl
theorem by64 : bytesOf Tryd.prog 64 = some 32 := by kernel_rfl
theorem pl64 : placesOf Tryd.prog 64 = some [(0, 1), (1, 1)] := by kernel_rfl
theorem fi64_0 : fieldOf Tryd.prog 64 0 = some (9, 0) := by kernel_rfl
theorem fi64_1 : fieldOf Tryd.prog 64 1 = some (9, 1) := by kernel_rfl
theorem zv64 : zeroV Tryd.prog 64 = some (.agg [.d (.str []), .d (.str [])]) := by kernel_rfl
theorem cl64 : clsOf Tryd.prog 64 = none := by kernel_rfl
theorem ps64 : plainSt Tryd.prog 64 = some [(0, 1), (1, 1)] := by kernel_rfl
theorem st64 : isStr Tryd.prog 64 = false := by kernel_rfl
theorem sz86 : szOf Tryd.prog 86 = some (true, 2) := by kernel_rfl
theorem ze86 : zeroA Tryd.prog 86 = some [.d (.str []), .d (.int .i64 0)] := by kernel_rfl
theorem by86 : bytesOf Tryd.prog 86 = some 24 := by kernel_rfl
theorem pl86 : placesOf Tryd.prog 86 = some [(0, 1), (1, 1)] := by kernel_rfl
theorem fi86_0 : fieldOf Tryd.prog 86 0 = some (9, 0) := by kernel_rfl
theorem fi86_1 : fieldOf Tryd.prog 86 1 = some (3, 1) := by kernel_rfl
theorem zv86 : zeroV Tryd.prog 86 = some (.agg [.d (.str []), .d (.int .i64 0)]) := by kernel_rfl
theorem cl86 : clsOf Tryd.prog 86 = none := by kernel_rfl
theorem ps86 : plainSt Tryd.prog 86 = some [(0, 1), (1, 0)] := by kernel_rfl
theorem st86 : isStr Tryd.prog 86 = false := by kernel_rfl
theorem sz88 : szOf Tryd.prog 88 = some (true, 2) := by kernel_rfl
theorem ze88 : zeroA Tryd.prog 88 = some [.d (.str []), .d (.str [])] := by kernel_rfl
theorem by88 : bytesOf Tryd.prog 88 = some 32 := by kernel_rfl
theorem pl88 : placesOf Tryd.prog 88 = some [(0, 1), (1, 1)] := by kernel_rfl
theorem fi88_0 : fieldOf Tryd.prog 88 0 = some (9, 0) := by kernel_rfl
theorem fi88_1 : fieldOf Tryd.prog 88 1 = some (9, 1) := by kernel_rfl
theorem zv88 : zeroV Tryd.prog 88 = some (.agg [.d (.str []), .d (.str [])]) := by kernel_rfl
theorem cl88 : clsOf Tryd.prog 88 = none := by kernel_rfl
theorem ps88 : plainSt Tryd.prog 88 = some [(0, 1), (1, 1)] := by kernel_rfl
theorem st88 : isStr Tryd.prog 88 = false := by kernel_rfl
theorem sz97 : szOf Tryd.prog 97 = some (false, 1) := by kernel_rfl
theorem ze97 : zeroA Tryd.prog 97 = some [.d .nilp] := by kernel_rfl
theorem by97 : bytesOf Tryd.prog 97 = some 8 := by kernel_rfl
theorem zv97 : zeroV Tryd.prog 97 = some (.d .nilp) := by kernel_rfl
theorem cl97 : clsOf Tryd.prog 97 = none := by kernel_rfl
theorem st97 : isStr Tryd.prog 97 = false := by kernel_rfl
theorem ip97 : isPtr Tryd.prog 97 = true := by kernel_rfl
theorem sz99 : szOf Tryd.prog 99 = some (true, 2) := by kernel_rfl
theorem ze99 : zeroA Tryd.prog 99 = some [.nils, .d (.bool false)] := by kernel_rfl
theorem by99 : bytesOf Tryd.prog 99 = some 32 := by kernel_rfl
theorem pl99 : placesOf Tryd.prog 99 = some [(0, 1), (1, 1)] := by kernel_rfl
theorem fi99_0 : fieldOf Tryd.prog 99 0 = some (22, 0) := by kernel_rfl
theorem fi99_1 : fieldOf Tryd.prog 99 1 = some (4, 1) := by kernel_rfl
theorem zv99 : zeroV Tryd.prog 99 = some (.agg [.nils, .d (.bool false)]) := by kernel_rfl
theorem cl99 : clsOf Tryd.prog 99 = none := by kernel_rfl
theorem st99 : isStr Tryd.prog 99 = false := by kernel_rfl
theorem sz108 : szOf Tryd.prog 108 = some (false, 1) := by kernel_rfl
theorem ze108 : zeroA Tryd.prog 108 = some [.nils] := by kernel_rfl
theorem by108 : bytesOf Tryd.prog 108 = some 24 := by kernel_rfl
theorem el108 : elOf Tryd.prog 108 = some (3, 1) := by kernel_rfl
theorem is108 : isSl Tryd.prog 108 = true := by kernel_rfl
theorem zv108 : zeroV Tryd.prog 108 = some (.nils) := by kernel_rfl
theorem cl108 : clsOf Tryd.prog 108 = none := by kernel_rfl
theorem st108 : isStr Tryd.prog 108 = false := by kernel_rfl
theorem sz110 : szOf Tryd.prog 110 = some (false, 1) := by kernel_rfl
theorem ze110 : zeroA Tryd.prog 110 = some [.d .nilm] := by kernel_rfl
theorem by110 : bytesOf Tryd.prog 110 = some 8 := by kernel_rfl
theorem zv110 : zeroV Tryd.prog 110 = some (.d .nilm) := by kernel_rfl
theorem cl110 : clsOf Tryd.prog 110 = none := by kernel_rfl
theorem mo110 : mapOf Tryd.prog 110 = some (3, 113) := by kernel_rfl
theorem im110 : isMp Tryd.prog 110 = true := by kernel_rfl
theorem st110 : isStr Tryd.prog 110 = false := by kernel_rfl
theorem sz113 : szOf Tryd.prog 113 = some (true, 2) := by kernel_rfl
theorem ze113 : zeroA Tryd.prog 113 = some [.d (.int .i64 0), .d (.int .i64 0)] := by kernel_rfl
theorem by113 : bytesOf Tryd.prog 113 = some 16 := by kernel_rfl
theorem pl113 : placesOf Tryd.prog 113 = some [(0, 1), (1, 1)] := by kernel_rfl
theorem fi113_0 : fieldOf Tryd.prog 113 0 = some (3, 0) := by kernel_rfl
theorem fi113_1 : fieldOf Tryd.prog 113 1 = some (3, 1) := by kernel_rfl
theorem zv113 : zeroV Tryd.prog 113 = some (.agg [.d (.int .i64 0), .d (.int .i64 0)]) := by kernel_rfl
theorem cl113 : clsOf Tryd.prog 113 = none := by kernel_rfl
theorem ps113 : plainSt Tryd.prog 113 = some [(0, 0), (1, 0)] := by kernel_rfl
theorem st113 : isStr Tryd.prog 113 = false := by kernel_rfl
theorem sz115 : szOf Tryd.prog 115 = some (false, 1) := by kernel_rfl
theorem ze115 : zeroA Tryd.prog 115 = some [.nils] := by kernel_rfl
theorem by115 : bytesOf Tryd.prog 115 = some 24 := by kernel_rfl
theorem el115 : elOf Tryd.prog 115 = some (9, 1) := by kernel_rfl
theorem is115 : isSl Tryd.prog 115 = true := by kernel_rfl
theorem zv115 : zeroV Tryd.prog 115 = some (.nils) := by kernel_rfl
theorem cl115 : clsOf Tryd.prog 115 = none := by kernel_rfl
theorem st115 : isStr Tryd.prog 115 = false := by kernel_rfl
theorem sz118 : szOf Tryd.prog 118 = some (false, 1) := by kernel_rfl
theorem ze118 : zeroA Tryd.prog 118 = some [.nils] := by kernel_rfl
theorem by118 : bytesOf Tryd.prog 118 = some 24 := by kernel_rfl
theorem el118 : elOf Tryd.prog 118 = some (22, 1) := by kernel_rfl
theorem is118 : isSl Tryd.prog 118 = true := by kernel_rfl
theorem zv118 : zeroV Tryd.prog 118 = some (.nils) := by kernel_rfl
theorem cl118 : clsOf Tryd.prog 118 = none := by kernel_rfl
theorem st118 : isStr Tryd.prog 118 = false := by kernel_rfl
theorem sz124 : szOf Tryd.prog 124 = some (false, 1) := by kernel_rfl
theorem ze124 : zeroA Tryd.prog 124 = some [.d (.int .u32 0)] := by kernel_rfl
theorem by124 : bytesOf Tryd.prog 124 = some 4 := by kernel_rfl
theorem zv124 : zeroV Tryd.prog 124 = some (.d (.int .u32 0)) := by kernel_rfl
theorem cl124 : clsOf Tryd.prog 124 = some 0 := by kernel_rfl
theorem ps124 : plainSt Tryd.prog 124 = none := by kernel_rfl
theorem st124 : isStr Tryd.prog 124 = false := by kernel_rfl
theorem sz125 : szOf Tryd.prog 125 = some (false, 1) := by kernel_rfl
theorem ze125 : zeroA Tryd.prog 125 = some [.d (.int .i8 0)] := by kernel_rfl
theorem by125 : bytesOf Tryd.prog 125 = some 1 := by kernel_rfl
theorem zv125 : zeroV Tryd.prog 125 = some (.d (.int .i8 0)) := by kernel_rfl
theorem cl125 : clsOf Tryd.prog 125 = some 0 := by kernel_rfl
theorem ps125 : plainSt Tryd.prog 125 = none := by kernel_rfl
theorem st125 : isStr Tryd.prog 125 = false := by kernel_rfl
set_option linter.defProp false in
/-- the facts that the walks want, in one -/
def PmT := (And.intro (And.intro (And.intro (And.intro (And.intro (And.intro (And.intro @by108 (And.intro @by110 @by113)) (And.intro (And.intro @by115 @by118) (And.intro @by124 @by125))) (And.intro (And.intro @by21 (And.intro @by22 @by24)) (And.intro (And.intro @by26 @by27) (And.intro @by3 @by32)))) (And.intro (And.intro (And.intro @by33 (And.intro @by35 @by4)) (And.intro (And.intro @by5 @by52) (And.intro @by64 @by86))) (And.intro (And.intro @by88 (And.intro @by9 @by97)) (And.intro (And.intro @by99 @cl108) (And.intro @cl110 @cl113))))) (And.intro (And.intro (And.intro (And.intro @cl115 (And.intro @cl118 @cl124)) (And.intro (And.intro @cl125 @cl21) (And.intro @cl22 @cl24))) (And.intro (And.intro @cl26 (And.intro @cl27 @cl3)) (And.intro (And.intro @cl32 @cl33) (And.intro @cl35 @cl4)))) (And.intro (And.intro (And.intro @cl5 (And.intro @cl52 @cl64)) (And.intro (And.intro @cl86 @cl88) (And.intro @cl9 @cl97))) (And.intro (And.intro (And.intro @cl99 @el108) (And.intro @el115 @el118)) (And.intro (And.intro @el22 @el24) (And.intro @el32 @el33)))))) (And.intro (And.intro (And.intro (And.intro (And.intro @fi113_0 (And.intro @fi113_1 @fi26_0)) (And.intro (And.intro @fi26_1 @fi26_2) (And.intro @fi26_3 @fi26_4))) (And.intro (And.intro @fi26_5 (And.intro @fi35_0 @fi35_1)) (And.intro (And.intro @fi35_2 @fi35_3) (And.intro @fi35_4 @fi35_5)))) (And.intro (And.intro (And.intro @fi35_6 (And.intro @fi35_7 @fi35_8)) (And.intro (And.intro @fi35_9 @fi52_0) (And.intro @fi52_1 @fi64_0))) (And.intro (And.intro (And.intro @fi64_1 @fi86_0) (And.intro @fi86_1 @fi88_0)) (And.intro (And.intro @fi88_1 @fi99_0) (And.intro @fi99_1 @im110))))) (And.intro (And.intro (And.intro (And.intro @ip97 (And.intro @is108 @is115)) (And.intro (And.intro @is118 @is22) (And.intro @is24 @is32))) (And.intro (And.intro @is33 (And.intro @mo110 @pl113)) (And.intro (And.intro @pl26 @pl35) (And.intro @pl52 @pl64)))) (And.intro (And.intro (And.intro @pl86 (And.intro @pl88 @pl99)) (And.intro (And.intro @ps113 @ps124) (And.intro @ps125 @ps21))) (And.intro (And.intro (And.intro @ps27 @ps3) (And.intro @ps4 @ps5)) (And.intro (And.intro @ps52 @ps64) (And.intro @ps86 @ps88))))))) (And.intro (And.intro (And.intro (And.intro (And.intro (And.intro @ps9 (And.intro @st108 @st110)) (And.intro (And.intro @st113 @st115) (And.intro @st118 @st124))) (And.intro (And.intro @st125 (And.intro @st21 @st22)) (And.intro (And.intro @st24 @st26) (And.intro @st27 @st3)))) (And.intro (And.intro (And.intro @st32 (And.intro @st33 @st35)) (And.intro (And.intro @st4 @st5) (And.intro @st52 @st64))) (And.intro (And.intro (And.intro @st86 @st88) (And.intro @st9 @st97)) (And.intro (And.intro @st99 @sz108) (And.intro @sz110 @sz113))))) (And.intro (And.intro (And.intro (And.intro @sz115 (And.intro @sz118 @sz124)) (And.intro (And.intro @sz125 @sz21) (And.intro @sz22 @sz24))) (And.intro (And.intro @sz26 (And.intro @sz27 @sz3)) (And.intro (And.intro @sz32 @sz33) (And.intro @sz35 @sz4)))) (And.intro (And.intro (And.intro @sz5 (And.intro @sz52 @sz64)) (And.intro (And.intro @sz86 @sz88) (And.intro @sz9 @sz97))) (And.intro (And.intro (And.intro @sz99 @ze108) (And.intro @ze110 @ze113)) (And.intro (And.intro @ze115 @ze118) (And.intro @ze124 @ze125)))))) (And.intro (And.intro (And.intro (And.intro (And.intro @ze21 (And.intro @ze22 @ze24)) (And.intro (And.intro @ze26 @ze27) (And.intro @ze3 @ze32))) (And.intro (And.intro @ze33 (And.intro @ze35 @ze4)) (And.intro (And.intro @ze5 @ze52) (And.intro @ze64 @ze86)))) (And.intro (And.intro (And.intro @ze88 (And.intro @ze9 @ze97)) (And.intro (And.intro @ze99 @zv108) (And.intro @zv110 @zv113))) (And.intro (And.intro (And.intro @zv115 @zv118) (And.intro @zv124 @zv125)) (And.intro (And.intro @zv21 @zv22) (And.intro @zv24 @zv26))))) (And.intro (And.intro (And.intro (And.intro @zv27 (And.intro @zv3 @zv32)) (And.intro (And.intro @zv33 @zv35) (And.intro @zv4 @zv5))) (And.intro (And.intro @zv52 (And.intro @zv64 @zv86)) (And.intro (And.intro @zv88 @zv9) (And.intro @zv97 @zv99)))) (And.intro (And.intro (And.intro Tryd.underlying3 (And.intro Tryd.underlying4 Tryd.underlying5)) (And.intro (And.intro Tryd.underlying9 Tryd.underlying21) (And.intro Tryd.underlying22 Tryd.underlying24))) (And.intro (And.intro (And.intro Tryd.underlying27 Tryd.underlying32) (And.intro Tryd.underlying33 Tryd.underlying108)) (And.intro (And.intro Tryd.underlying115 Tryd.underlying118) (And.intro Tryd.underlying124 Tryd.underlying125))))))))
end Go.Proofs.YthaekefdadccaaaDoor.PM
