/- Closed facts about the program's types and functions. -/
import Derived.Test.YtcapkhhflhpnpaaProg
import Derived.Test.YtcapkhhflhpnpaaOps2
import Derived.KernelRfl
namespace Go.Proofs.Ytcapkhhflhpnpaa
theorem ag1 : isAggB Try.prog 1 = some false := by kernel_rfl
theorem ag12 : isAggB Try.prog 12 = some false := by kernel_rfl
theorem ag13 : isAggB Try.prog 13 = some true := by kernel_rfl
theorem ag14 : isAggB Try.prog 14 = some true := by kernel_rfl
theorem ag15 : isAggB Try.prog 15 = some false := by kernel_rfl
theorem ag16 : isAggB Try.prog 16 = some false := by kernel_rfl
theorem ag17 : isAggB Try.prog 17 = some false := by kernel_rfl
theorem ag18 : isAggB Try.prog 18 = some true := by kernel_rfl
theorem ag19 : isAggB Try.prog 19 = some true := by kernel_rfl
theorem ag2 : isAggB Try.prog 2 = some false := by kernel_rfl
theorem ag21 : isAggB Try.prog 21 = some false := by kernel_rfl
theorem ag22 : isAggB Try.prog 22 = some false := by kernel_rfl
theorem ag23 : isAggB Try.prog 23 = some false := by kernel_rfl
theorem ag24 : isAggB Try.prog 24 = some false := by kernel_rfl
theorem ag25 : isAggB Try.prog 25 = some false := by kernel_rfl
theorem ag26 : isAggB Try.prog 26 = some false := by kernel_rfl
theorem ag27 : isAggB Try.prog 27 = some false := by kernel_rfl
theorem ag28 : isAggB Try.prog 28 = some false := by kernel_rfl
theorem ag29 : isAggB Try.prog 29 = some true := by kernel_rfl
theorem ag3 : isAggB Try.prog 3 = some false := by kernel_rfl
theorem ag30 : isAggB Try.prog 30 = some true := by kernel_rfl
theorem ag31 : isAggB Try.prog 31 = some true := by kernel_rfl
theorem ag32 : isAggB Try.prog 32 = some true := by kernel_rfl
theorem ag33 : isAggB Try.prog 33 = some true := by kernel_rfl
theorem ag34 : isAggB Try.prog 34 = some false := by kernel_rfl
theorem ag35 : isAggB Try.prog 35 = some false := by kernel_rfl
theorem ag36 : isAggB Try.prog 36 = some false := by kernel_rfl
theorem ag37 : isAggB Try.prog 37 = some false := by kernel_rfl
theorem ag38 : isAggB Try.prog 38 = some false := by kernel_rfl
theorem ag39 : isAggB Try.prog 39 = some false := by kernel_rfl
theorem ag4 : isAggB Try.prog 4 = some false := by kernel_rfl
theorem ag40 : isAggB Try.prog 40 = some false := by kernel_rfl
theorem ag41 : isAggB Try.prog 41 = some false := by kernel_rfl
theorem ag42 : isAggB Try.prog 42 = some false := by kernel_rfl
theorem ag43 : isAggB Try.prog 43 = some false := by kernel_rfl
theorem ag44 : isAggB Try.prog 44 = some false := by kernel_rfl
theorem ag45 : isAggB Try.prog 45 = some false := by kernel_rfl
theorem ag47 : isAggB Try.prog 47 = some false := by kernel_rfl
theorem ag48 : isAggB Try.prog 48 = some false := by kernel_rfl
theorem ag49 : isAggB Try.prog 49 = some false := by kernel_rfl
theorem ag5 : isAggB Try.prog 5 = some false := by kernel_rfl
theorem ag51 : isAggB Try.prog 51 = some false := by kernel_rfl
theorem ag52 : isAggB Try.prog 52 = some false := by kernel_rfl
theorem ag53 : isAggB Try.prog 53 = some false := by kernel_rfl
theorem ag54 : isAggB Try.prog 54 = some false := by kernel_rfl
theorem ag55 : isAggB Try.prog 55 = some false := by kernel_rfl
theorem ag56 : isAggB Try.prog 56 = some false := by kernel_rfl
theorem ag57 : isAggB Try.prog 57 = some false := by kernel_rfl
theorem ag58 : isAggB Try.prog 58 = some false := by kernel_rfl
theorem ag59 : isAggB Try.prog 59 = some false := by kernel_rfl
theorem ag6 : isAggB Try.prog 6 = some false := by kernel_rfl
theorem ag60 : isAggB Try.prog 60 = some false := by kernel_rfl
theorem ag61 : isAggB Try.prog 61 = some false := by kernel_rfl
theorem ag62 : isAggB Try.prog 62 = some false := by kernel_rfl
theorem ag64 : isAggB Try.prog 64 = some false := by kernel_rfl
theorem ag65 : isAggB Try.prog 65 = some false := by kernel_rfl
theorem ag66 : isAggB Try.prog 66 = some true := by kernel_rfl
theorem ag67 : isAggB Try.prog 67 = some true := by kernel_rfl
theorem ag68 : isAggB Try.prog 68 = some true := by kernel_rfl
theorem ag69 : isAggB Try.prog 69 = some true := by kernel_rfl
theorem ag7 : isAggB Try.prog 7 = some true := by kernel_rfl
theorem ag70 : isAggB Try.prog 70 = some true := by kernel_rfl
theorem ag71 : isAggB Try.prog 71 = some false := by kernel_rfl
theorem ag72 : isAggB Try.prog 72 = some false := by kernel_rfl
theorem ag73 : isAggB Try.prog 73 = some false := by kernel_rfl
theorem ag74 : isAggB Try.prog 74 = some false := by kernel_rfl
theorem ag75 : isAggB Try.prog 75 = some false := by kernel_rfl
theorem ag76 : isAggB Try.prog 76 = some false := by kernel_rfl
theorem ag77 : isAggB Try.prog 77 = some false := by kernel_rfl
theorem ag78 : isAggB Try.prog 78 = some true := by kernel_rfl
theorem ag79 : isAggB Try.prog 79 = some true := by kernel_rfl
theorem ag8 : isAggB Try.prog 8 = some true := by kernel_rfl
theorem el22 : elemOfP Try.prog 22 = some (33, 18) := by kernel_rfl
theorem el25 : elemOfP Try.prog 25 = some (3, 1) := by kernel_rfl
theorem el38 : elemOfP Try.prog 38 = some (4, 1) := by kernel_rfl
theorem fk10 : fnOk Try.prog 10 = true := by kernel_rfl
theorem fk11 : fnOk Try.prog 11 = true := by kernel_rfl
theorem fk12 : fnOk Try.prog 12 = true := by kernel_rfl
theorem fk13 : fnOk Try.prog 13 = true := by kernel_rfl
theorem fk14 : fnOk Try.prog 14 = true := by kernel_rfl
theorem fk15 : fnOk Try.prog 15 = true := by kernel_rfl
theorem fk16 : fnOk Try.prog 16 = true := by kernel_rfl
theorem fk17 : fnOk Try.prog 17 = true := by kernel_rfl
theorem fk18 : fnOk Try.prog 18 = true := by kernel_rfl
theorem fk19 : fnOk Try.prog 19 = true := by kernel_rfl
theorem fk2 : fnOk Try.prog 2 = true := by kernel_rfl
theorem fk20 : fnOk Try.prog 20 = true := by kernel_rfl
theorem fk21 : fnOk Try.prog 21 = true := by kernel_rfl
theorem fk22 : fnOk Try.prog 22 = true := by kernel_rfl
theorem fk23 : fnOk Try.prog 23 = true := by kernel_rfl
theorem fk24 : fnOk Try.prog 24 = true := by kernel_rfl
theorem fk25 : fnOk Try.prog 25 = true := by kernel_rfl
theorem fk26 : fnOk Try.prog 26 = true := by kernel_rfl
theorem fk27 : fnOk Try.prog 27 = true := by kernel_rfl
theorem fk28 : fnOk Try.prog 28 = true := by kernel_rfl
theorem fk29 : fnOk Try.prog 29 = true := by kernel_rfl
theorem fk3 : fnOk Try.prog 3 = true := by kernel_rfl
theorem fk30 : fnOk Try.prog 30 = true := by kernel_rfl
theorem fk31 : fnOk Try.prog 31 = true := by kernel_rfl
theorem fk32 : fnOk Try.prog 32 = true := by kernel_rfl
theorem fk33 : fnOk Try.prog 33 = true := by kernel_rfl
theorem fk34 : fnOk Try.prog 34 = true := by kernel_rfl
theorem fk35 : fnOk Try.prog 35 = true := by kernel_rfl
theorem fk4 : fnOk Try.prog 4 = true := by kernel_rfl
theorem fk5 : fnOk Try.prog 5 = true := by kernel_rfl
theorem fk6 : fnOk Try.prog 6 = true := by kernel_rfl
theorem fk7 : fnOk Try.prog 7 = true := by kernel_rfl
theorem fk8 : fnOk Try.prog 8 = true := by kernel_rfl
theorem fk9 : fnOk Try.prog 9 = true := by kernel_rfl
theorem fo13_0 : fieldOff Try.prog 13 0 = some 0 := by kernel_rfl
theorem fo13_1 : fieldOff Try.prog 13 1 = some 1 := by kernel_rfl
theorem fo14_0 : fieldOff Try.prog 14 0 = some 0 := by kernel_rfl
theorem fo14_1 : fieldOff Try.prog 14 1 = some 1 := by kernel_rfl
theorem fo18_0 : fieldOff Try.prog 18 0 = some 0 := by kernel_rfl
theorem fo19_0 : fieldOff Try.prog 19 0 = some 0 := by kernel_rfl
theorem fo30_0 : fieldOff Try.prog 30 0 = some 0 := by kernel_rfl
theorem fo30_1 : fieldOff Try.prog 30 1 = some 1 := by kernel_rfl
theorem fo31_0 : fieldOff Try.prog 31 0 = some 0 := by kernel_rfl
theorem fo31_1 : fieldOff Try.prog 31 1 = some 1 := by kernel_rfl
theorem fo32_0 : fieldOff Try.prog 32 0 = some 0 := by kernel_rfl
theorem fo32_1 : fieldOff Try.prog 32 1 = some 1 := by kernel_rfl
theorem fo32_10 : fieldOff Try.prog 32 10 = some 14 := by kernel_rfl
theorem fo32_11 : fieldOff Try.prog 32 11 = some 15 := by kernel_rfl
theorem fo32_12 : fieldOff Try.prog 32 12 = some 16 := by kernel_rfl
theorem fo32_13 : fieldOff Try.prog 32 13 = some 17 := by kernel_rfl
theorem fo32_2 : fieldOff Try.prog 32 2 = some 2 := by kernel_rfl
theorem fo32_3 : fieldOff Try.prog 32 3 = some 3 := by kernel_rfl
theorem fo32_4 : fieldOff Try.prog 32 4 = some 8 := by kernel_rfl
theorem fo32_5 : fieldOff Try.prog 32 5 = some 9 := by kernel_rfl
theorem fo32_6 : fieldOff Try.prog 32 6 = some 10 := by kernel_rfl
theorem fo32_7 : fieldOff Try.prog 32 7 = some 11 := by kernel_rfl
theorem fo32_8 : fieldOff Try.prog 32 8 = some 12 := by kernel_rfl
theorem fo32_9 : fieldOff Try.prog 32 9 = some 13 := by kernel_rfl
theorem fo33_0 : fieldOff Try.prog 33 0 = some 0 := by kernel_rfl
theorem fo33_1 : fieldOff Try.prog 33 1 = some 1 := by kernel_rfl
theorem fo33_10 : fieldOff Try.prog 33 10 = some 14 := by kernel_rfl
theorem fo33_11 : fieldOff Try.prog 33 11 = some 15 := by kernel_rfl
theorem fo33_12 : fieldOff Try.prog 33 12 = some 16 := by kernel_rfl
theorem fo33_13 : fieldOff Try.prog 33 13 = some 17 := by kernel_rfl
theorem fo33_2 : fieldOff Try.prog 33 2 = some 2 := by kernel_rfl
theorem fo33_3 : fieldOff Try.prog 33 3 = some 3 := by kernel_rfl
theorem fo33_4 : fieldOff Try.prog 33 4 = some 8 := by kernel_rfl
theorem fo33_5 : fieldOff Try.prog 33 5 = some 9 := by kernel_rfl
theorem fo33_6 : fieldOff Try.prog 33 6 = some 10 := by kernel_rfl
theorem fo33_7 : fieldOff Try.prog 33 7 = some 11 := by kernel_rfl
theorem fo33_8 : fieldOff Try.prog 33 8 = some 12 := by kernel_rfl
theorem fo33_9 : fieldOff Try.prog 33 9 = some 13 := by kernel_rfl
theorem fo66_0 : fieldOff Try.prog 66 0 = some 0 := by kernel_rfl
theorem fo66_1 : fieldOff Try.prog 66 1 = some 1 := by kernel_rfl
theorem fo66_2 : fieldOff Try.prog 66 2 = some 2 := by kernel_rfl
theorem fo66_3 : fieldOff Try.prog 66 3 = some 3 := by kernel_rfl
theorem fo67_0 : fieldOff Try.prog 67 0 = some 0 := by kernel_rfl
theorem fo67_1 : fieldOff Try.prog 67 1 = some 1 := by kernel_rfl
theorem fo67_2 : fieldOff Try.prog 67 2 = some 2 := by kernel_rfl
theorem fo67_3 : fieldOff Try.prog 67 3 = some 3 := by kernel_rfl
theorem fo78_0 : fieldOff Try.prog 78 0 = some 0 := by kernel_rfl
theorem fo78_1 : fieldOff Try.prog 78 1 = some 1 := by kernel_rfl
theorem fo78_10 : fieldOff Try.prog 78 10 = some 10 := by kernel_rfl
theorem fo78_2 : fieldOff Try.prog 78 2 = some 2 := by kernel_rfl
theorem fo78_3 : fieldOff Try.prog 78 3 = some 3 := by kernel_rfl
theorem fo78_4 : fieldOff Try.prog 78 4 = some 4 := by kernel_rfl
theorem fo78_5 : fieldOff Try.prog 78 5 = some 5 := by kernel_rfl
theorem fo78_6 : fieldOff Try.prog 78 6 = some 6 := by kernel_rfl
theorem fo78_7 : fieldOff Try.prog 78 7 = some 7 := by kernel_rfl
theorem fo78_8 : fieldOff Try.prog 78 8 = some 8 := by kernel_rfl
theorem fo78_9 : fieldOff Try.prog 78 9 = some 9 := by kernel_rfl
theorem fo79_0 : fieldOff Try.prog 79 0 = some 0 := by kernel_rfl
theorem fo79_1 : fieldOff Try.prog 79 1 = some 1 := by kernel_rfl
theorem fo79_10 : fieldOff Try.prog 79 10 = some 10 := by kernel_rfl
theorem fo79_2 : fieldOff Try.prog 79 2 = some 2 := by kernel_rfl
theorem fo79_3 : fieldOff Try.prog 79 3 = some 3 := by kernel_rfl
theorem fo79_4 : fieldOff Try.prog 79 4 = some 4 := by kernel_rfl
theorem fo79_5 : fieldOff Try.prog 79 5 = some 5 := by kernel_rfl
theorem fo79_6 : fieldOff Try.prog 79 6 = some 6 := by kernel_rfl
theorem fo79_7 : fieldOff Try.prog 79 7 = some 7 := by kernel_rfl
theorem fo79_8 : fieldOff Try.prog 79 8 = some 8 := by kernel_rfl
theorem fo79_9 : fieldOff Try.prog 79 9 = some 9 := by kernel_rfl
theorem fo7_0 : fieldOff Try.prog 7 0 = some 0 := by kernel_rfl
theorem fo7_1 : fieldOff Try.prog 7 1 = some 1 := by kernel_rfl
theorem fo7_2 : fieldOff Try.prog 7 2 = some 2 := by kernel_rfl
theorem fo7_3 : fieldOff Try.prog 7 3 = some 3 := by kernel_rfl
theorem fo8_0 : fieldOff Try.prog 8 0 = some 0 := by kernel_rfl
theorem fo8_1 : fieldOff Try.prog 8 1 = some 1 := by kernel_rfl
theorem fo8_2 : fieldOff Try.prog 8 2 = some 2 := by kernel_rfl
theorem fo8_3 : fieldOff Try.prog 8 3 = some 3 := by kernel_rfl
theorem rw3 : (Try.prog.info? 3).map (fun i => (i.zero, i.size, i.bytes)) = some (some (.int .i64 0), 1, 8) := by kernel_rfl
theorem rw33 : (Try.prog.info? 33).map (fun i => (i.zero, i.size, i.bytes)) = some (some (.agg #[.int .i64 0, .int .i64 0, .bool false, .int .i64 0, .int .i64 0, .int .i64 0, .int .i64 0, .int .i64 0, .int .i64 0, .int .i64 0, .int .i64 0, .int .i64 0, .int .i64 0, .int .i64 0, .bool false, .int .i64 0, .int .i64 0, .int .i64 0]), 18, 144) := by kernel_rfl
theorem rw4 : (Try.prog.info? 4).map (fun i => (i.zero, i.size, i.bytes)) = some (some (.bool false), 1, 1) := by kernel_rfl
theorem sz1 : szOf Try.prog 1 = some 1 := by kernel_rfl
theorem sz12 : szOf Try.prog 12 = some 1 := by kernel_rfl
theorem sz13 : szOf Try.prog 13 = some 2 := by kernel_rfl
theorem sz14 : szOf Try.prog 14 = some 2 := by kernel_rfl
theorem sz15 : szOf Try.prog 15 = some 1 := by kernel_rfl
theorem sz16 : szOf Try.prog 16 = some 1 := by kernel_rfl
theorem sz17 : szOf Try.prog 17 = some 1 := by kernel_rfl
theorem sz18 : szOf Try.prog 18 = some 1 := by kernel_rfl
theorem sz19 : szOf Try.prog 19 = some 1 := by kernel_rfl
theorem sz2 : szOf Try.prog 2 = some 1 := by kernel_rfl
theorem sz21 : szOf Try.prog 21 = some 1 := by kernel_rfl
theorem sz22 : szOf Try.prog 22 = some 1 := by kernel_rfl
theorem sz23 : szOf Try.prog 23 = some 1 := by kernel_rfl
theorem sz24 : szOf Try.prog 24 = some 1 := by kernel_rfl
theorem sz25 : szOf Try.prog 25 = some 1 := by kernel_rfl
theorem sz26 : szOf Try.prog 26 = some 1 := by kernel_rfl
theorem sz27 : szOf Try.prog 27 = some 1 := by kernel_rfl
theorem sz28 : szOf Try.prog 28 = some 1 := by kernel_rfl
theorem sz29 : szOf Try.prog 29 = some 4 := by kernel_rfl
theorem sz3 : szOf Try.prog 3 = some 1 := by kernel_rfl
theorem sz30 : szOf Try.prog 30 = some 5 := by kernel_rfl
theorem sz31 : szOf Try.prog 31 = some 5 := by kernel_rfl
theorem sz32 : szOf Try.prog 32 = some 18 := by kernel_rfl
theorem sz33 : szOf Try.prog 33 = some 18 := by kernel_rfl
theorem sz34 : szOf Try.prog 34 = some 1 := by kernel_rfl
theorem sz35 : szOf Try.prog 35 = some 1 := by kernel_rfl
theorem sz36 : szOf Try.prog 36 = some 1 := by kernel_rfl
theorem sz37 : szOf Try.prog 37 = some 1 := by kernel_rfl
theorem sz38 : szOf Try.prog 38 = some 1 := by kernel_rfl
theorem sz39 : szOf Try.prog 39 = some 1 := by kernel_rfl
theorem sz4 : szOf Try.prog 4 = some 1 := by kernel_rfl
theorem sz40 : szOf Try.prog 40 = some 1 := by kernel_rfl
theorem sz41 : szOf Try.prog 41 = some 1 := by kernel_rfl
theorem sz42 : szOf Try.prog 42 = some 1 := by kernel_rfl
theorem sz43 : szOf Try.prog 43 = some 1 := by kernel_rfl
theorem sz44 : szOf Try.prog 44 = some 1 := by kernel_rfl
theorem sz45 : szOf Try.prog 45 = some 1 := by kernel_rfl
theorem sz47 : szOf Try.prog 47 = some 1 := by kernel_rfl
theorem sz48 : szOf Try.prog 48 = some 1 := by kernel_rfl
theorem sz49 : szOf Try.prog 49 = some 1 := by kernel_rfl
theorem sz5 : szOf Try.prog 5 = some 1 := by kernel_rfl
theorem sz51 : szOf Try.prog 51 = some 1 := by kernel_rfl
theorem sz52 : szOf Try.prog 52 = some 1 := by kernel_rfl
theorem sz53 : szOf Try.prog 53 = some 1 := by kernel_rfl
theorem sz54 : szOf Try.prog 54 = some 1 := by kernel_rfl
theorem sz55 : szOf Try.prog 55 = some 1 := by kernel_rfl
theorem sz56 : szOf Try.prog 56 = some 1 := by kernel_rfl
theorem sz57 : szOf Try.prog 57 = some 1 := by kernel_rfl
theorem sz58 : szOf Try.prog 58 = some 1 := by kernel_rfl
theorem sz59 : szOf Try.prog 59 = some 1 := by kernel_rfl
theorem sz6 : szOf Try.prog 6 = some 1 := by kernel_rfl
theorem sz60 : szOf Try.prog 60 = some 1 := by kernel_rfl
theorem sz61 : szOf Try.prog 61 = some 1 := by kernel_rfl
theorem sz62 : szOf Try.prog 62 = some 1 := by kernel_rfl
theorem sz64 : szOf Try.prog 64 = some 1 := by kernel_rfl
theorem sz65 : szOf Try.prog 65 = some 1 := by kernel_rfl
theorem sz66 : szOf Try.prog 66 = some 4 := by kernel_rfl
theorem sz67 : szOf Try.prog 67 = some 4 := by kernel_rfl
theorem sz68 : szOf Try.prog 68 = some 0 := by kernel_rfl
theorem sz69 : szOf Try.prog 69 = some 0 := by kernel_rfl
theorem sz7 : szOf Try.prog 7 = some 4 := by kernel_rfl
theorem sz70 : szOf Try.prog 70 = some 0 := by kernel_rfl
theorem sz71 : szOf Try.prog 71 = some 1 := by kernel_rfl
theorem sz72 : szOf Try.prog 72 = some 1 := by kernel_rfl
theorem sz73 : szOf Try.prog 73 = some 1 := by kernel_rfl
theorem sz74 : szOf Try.prog 74 = some 1 := by kernel_rfl
theorem sz75 : szOf Try.prog 75 = some 1 := by kernel_rfl
theorem sz76 : szOf Try.prog 76 = some 1 := by kernel_rfl
theorem sz77 : szOf Try.prog 77 = some 1 := by kernel_rfl
theorem sz78 : szOf Try.prog 78 = some 11 := by kernel_rfl
theorem sz79 : szOf Try.prog 79 = some 11 := by kernel_rfl
theorem sz8 : szOf Try.prog 8 = some 4 := by kernel_rfl
theorem zz1 : zeroOf Try.prog 1 = some [.nilFunc] := by kernel_rfl
theorem zz12 : zeroOf Try.prog 12 = some [.int .u64 0] := by kernel_rfl
theorem zz13 : zeroOf Try.prog 13 = some [.string ⟨#[]⟩, .int .u64 0] := by kernel_rfl
theorem zz14 : zeroOf Try.prog 14 = some [.string ⟨#[]⟩, .int .u64 0] := by kernel_rfl
theorem zz15 : zeroOf Try.prog 15 = some [.pointer none] := by kernel_rfl
theorem zz16 : zeroOf Try.prog 16 = some [.pointer none] := by kernel_rfl
theorem zz17 : zeroOf Try.prog 17 = some [.pointer none] := by kernel_rfl
theorem zz18 : zeroOf Try.prog 18 = some [.pointer none] := by kernel_rfl
theorem zz19 : zeroOf Try.prog 19 = some [.pointer none] := by kernel_rfl
theorem zz2 : zeroOf Try.prog 2 = some [.int .i64 0] := by kernel_rfl
theorem zz21 : zeroOf Try.prog 21 = some [.int .i32 0] := by kernel_rfl
theorem zz22 : zeroOf Try.prog 22 = some [.slice none 0 0] := by kernel_rfl
theorem zz23 : zeroOf Try.prog 23 = some [.nilFunc] := by kernel_rfl
theorem zz24 : zeroOf Try.prog 24 = some [.nilFunc] := by kernel_rfl
theorem zz25 : zeroOf Try.prog 25 = some [.slice none 0 0] := by kernel_rfl
theorem zz26 : zeroOf Try.prog 26 = some [.nilFunc] := by kernel_rfl
theorem zz27 : zeroOf Try.prog 27 = some [.nilFunc] := by kernel_rfl
theorem zz28 : zeroOf Try.prog 28 = some [.nilFunc] := by kernel_rfl
theorem zz29 : zeroOf Try.prog 29 = some [.int .i64 0, .int .i64 0, .int .i64 0, .int .i64 0] := by kernel_rfl
theorem zz3 : zeroOf Try.prog 3 = some [.int .i64 0] := by kernel_rfl
theorem zz30 : zeroOf Try.prog 30 = some [.int .i64 0, .int .i64 0, .int .i64 0, .int .i64 0, .int .i64 0] := by kernel_rfl
theorem zz31 : zeroOf Try.prog 31 = some [.int .i64 0, .int .i64 0, .int .i64 0, .int .i64 0, .int .i64 0] := by kernel_rfl
theorem zz32 : zeroOf Try.prog 32 = some [.int .i64 0, .int .i64 0, .bool false, .int .i64 0, .int .i64 0, .int .i64 0, .int .i64 0, .int .i64 0, .int .i64 0, .int .i64 0, .int .i64 0, .int .i64 0, .int .i64 0, .int .i64 0, .bool false, .int .i64 0, .int .i64 0, .int .i64 0] := by kernel_rfl
theorem zz33 : zeroOf Try.prog 33 = some [.int .i64 0, .int .i64 0, .bool false, .int .i64 0, .int .i64 0, .int .i64 0, .int .i64 0, .int .i64 0, .int .i64 0, .int .i64 0, .int .i64 0, .int .i64 0, .int .i64 0, .int .i64 0, .bool false, .int .i64 0, .int .i64 0, .int .i64 0] := by kernel_rfl
theorem zz34 : zeroOf Try.prog 34 = some [.nilFunc] := by kernel_rfl
theorem zz35 : zeroOf Try.prog 35 = some [.nilFunc] := by kernel_rfl
theorem zz36 : zeroOf Try.prog 36 = some [.nilFunc] := by kernel_rfl
theorem zz37 : zeroOf Try.prog 37 = some [.nilFunc] := by kernel_rfl
theorem zz38 : zeroOf Try.prog 38 = some [.slice none 0 0] := by kernel_rfl
theorem zz39 : zeroOf Try.prog 39 = some [.nilFunc] := by kernel_rfl
theorem zz4 : zeroOf Try.prog 4 = some [.bool false] := by kernel_rfl
theorem zz40 : zeroOf Try.prog 40 = some [.nilFunc] := by kernel_rfl
theorem zz41 : zeroOf Try.prog 41 = some [.nilFunc] := by kernel_rfl
theorem zz42 : zeroOf Try.prog 42 = some [.int .u64 0] := by kernel_rfl
theorem zz43 : zeroOf Try.prog 43 = some [.nilFunc] := by kernel_rfl
theorem zz44 : zeroOf Try.prog 44 = some [.nilFunc] := by kernel_rfl
theorem zz45 : zeroOf Try.prog 45 = some [.int .i64 0] := by kernel_rfl
theorem zz47 : zeroOf Try.prog 47 = some [.nilFunc] := by kernel_rfl
theorem zz48 : zeroOf Try.prog 48 = some [.nilFunc] := by kernel_rfl
theorem zz49 : zeroOf Try.prog 49 = some [.nilFunc] := by kernel_rfl
theorem zz5 : zeroOf Try.prog 5 = some [.int .u8 0] := by kernel_rfl
theorem zz51 : zeroOf Try.prog 51 = some [.nilFunc] := by kernel_rfl
theorem zz52 : zeroOf Try.prog 52 = some [.nilFunc] := by kernel_rfl
theorem zz53 : zeroOf Try.prog 53 = some [.int .u32 0] := by kernel_rfl
theorem zz54 : zeroOf Try.prog 54 = some [.nilFunc] := by kernel_rfl
theorem zz55 : zeroOf Try.prog 55 = some [.int .u64 0] := by kernel_rfl
theorem zz56 : zeroOf Try.prog 56 = some [.int .u64 0] := by kernel_rfl
theorem zz57 : zeroOf Try.prog 57 = some [.nilFunc] := by kernel_rfl
theorem zz58 : zeroOf Try.prog 58 = some [.nilFunc] := by kernel_rfl
theorem zz59 : zeroOf Try.prog 59 = some [.nilFunc] := by kernel_rfl
theorem zz6 : zeroOf Try.prog 6 = some [.int .u8 0] := by kernel_rfl
theorem zz60 : zeroOf Try.prog 60 = some [.pointer none] := by kernel_rfl
theorem zz61 : zeroOf Try.prog 61 = some [.nilFunc] := by kernel_rfl
theorem zz62 : zeroOf Try.prog 62 = some [.pointer none] := by kernel_rfl
theorem zz64 : zeroOf Try.prog 64 = some [.nilFunc] := by kernel_rfl
theorem zz65 : zeroOf Try.prog 65 = some [.nilFunc] := by kernel_rfl
theorem zz66 : zeroOf Try.prog 66 = some [.pointer none, .pointer none, .pointer none, .string ⟨#[]⟩] := by kernel_rfl
theorem zz67 : zeroOf Try.prog 67 = some [.pointer none, .pointer none, .pointer none, .string ⟨#[]⟩] := by kernel_rfl
theorem zz68 : zeroOf Try.prog 68 = some [] := by kernel_rfl
theorem zz69 : zeroOf Try.prog 69 = some [] := by kernel_rfl
theorem zz7 : zeroOf Try.prog 7 = some [.int .i64 0, .int .i64 0, .bool false, .int .u8 0] := by kernel_rfl
theorem zz70 : zeroOf Try.prog 70 = some [] := by kernel_rfl
theorem zz71 : zeroOf Try.prog 71 = some [.nilFunc] := by kernel_rfl
theorem zz72 : zeroOf Try.prog 72 = some [.int .u8 0] := by kernel_rfl
theorem zz73 : zeroOf Try.prog 73 = some [.int .u8 0] := by kernel_rfl
theorem zz74 : zeroOf Try.prog 74 = some [.nilFunc] := by kernel_rfl
theorem zz75 : zeroOf Try.prog 75 = some [.pointer none] := by kernel_rfl
theorem zz76 : zeroOf Try.prog 76 = some [.int .i32 0] := by kernel_rfl
theorem zz77 : zeroOf Try.prog 77 = some [.int .i32 0] := by kernel_rfl
theorem zz78 : zeroOf Try.prog 78 = some [.int .u64 0, .int .u64 0, .int .u32 0, .int .u8 0, .int .u8 0, .int .u8 0, .int .u8 0, .nilFunc, .pointer none, .int .i32 0, .int .i32 0] := by kernel_rfl
theorem zz79 : zeroOf Try.prog 79 = some [.int .u64 0, .int .u64 0, .int .u32 0, .int .u8 0, .int .u8 0, .int .u8 0, .int .u8 0, .nilFunc, .pointer none, .int .i32 0, .int .i32 0] := by kernel_rfl
theorem zz8 : zeroOf Try.prog 8 = some [.int .i64 0, .int .i64 0, .bool false, .int .u8 0] := by kernel_rfl
end Go.Proofs.Ytcapkhhflhpnpaa
