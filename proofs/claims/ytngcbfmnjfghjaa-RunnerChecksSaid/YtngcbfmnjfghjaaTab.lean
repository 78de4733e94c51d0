import Derived.Test.YtngcbfmnjfghjaaUse
namespace Go.Proofs.Ytngcbfmnjfghjaa.Sx
open Go
theorem _root_.Go.Proofs.Try.mixed : Try.prog.follows .mixedOrders = true := by kernel_rfl
theorem cb10 : callsB Try.prog 10 = true := by kernel_rfl
theorem cb11 : callsB Try.prog 11 = true := by kernel_rfl
theorem cb12 : callsB Try.prog 12 = true := by kernel_rfl
theorem cb13 : callsB Try.prog 13 = true := by kernel_rfl
theorem cb14 : callsB Try.prog 14 = true := by kernel_rfl
theorem cb15 : callsB Try.prog 15 = true := by kernel_rfl
theorem cb16 : callsB Try.prog 16 = true := by kernel_rfl
theorem cb17 : callsB Try.prog 17 = true := by kernel_rfl
theorem cb18 : callsB Try.prog 18 = true := by kernel_rfl
theorem cb19 : callsB Try.prog 19 = true := by kernel_rfl
theorem cb2 : callsB Try.prog 2 = true := by kernel_rfl
theorem cb20 : callsB Try.prog 20 = true := by kernel_rfl
theorem cb21 : callsB Try.prog 21 = true := by kernel_rfl
theorem cb22 : callsB Try.prog 22 = true := by kernel_rfl
theorem cb23 : callsB Try.prog 23 = true := by kernel_rfl
theorem cb24 : callsB Try.prog 24 = true := by kernel_rfl
theorem cb25 : callsB Try.prog 25 = true := by kernel_rfl
theorem cb26 : callsB Try.prog 26 = true := by kernel_rfl
theorem cb27 : callsB Try.prog 27 = true := by kernel_rfl
theorem cb28 : callsB Try.prog 28 = true := by kernel_rfl
theorem cb29 : callsB Try.prog 29 = true := by kernel_rfl
theorem cb3 : callsB Try.prog 3 = true := by kernel_rfl
theorem cb30 : callsB Try.prog 30 = true := by kernel_rfl
theorem cb31 : callsB Try.prog 31 = true := by kernel_rfl
theorem cb32 : callsB Try.prog 32 = true := by kernel_rfl
theorem cb33 : callsB Try.prog 33 = true := by kernel_rfl
theorem cb34 : callsB Try.prog 34 = true := by kernel_rfl
theorem cb35 : callsB Try.prog 35 = true := by kernel_rfl
theorem cb36 : callsB Try.prog 36 = true := by kernel_rfl
theorem cb37 : callsB Try.prog 37 = true := by kernel_rfl
theorem cb38 : callsB Try.prog 38 = true := by kernel_rfl
theorem cb4 : callsB Try.prog 4 = true := by kernel_rfl
theorem cb5 : callsB Try.prog 5 = true := by kernel_rfl
theorem cb6 : callsB Try.prog 6 = true := by kernel_rfl
theorem cb7 : callsB Try.prog 7 = true := by kernel_rfl
theorem cb8 : callsB Try.prog 8 = true := by kernel_rfl
theorem cb9 : callsB Try.prog 9 = true := by kernel_rfl
theorem tA29 : arrT Try.prog 29 = none := by kernel_rfl
theorem tA35 : arrT Try.prog 35 = none := by kernel_rfl
theorem tA48 : arrT Try.prog 48 = none := by kernel_rfl
theorem tS29 : slcT Try.prog 29 = some 41 := by kernel_rfl
theorem tS35 : slcT Try.prog 35 = some 3 := by kernel_rfl
theorem tS48 : slcT Try.prog 48 = some 24 := by kernel_rfl
theorem tb4 : isBoolT Try.prog 4 = true := by kernel_rfl
theorem tc24 : zeroC Try.prog 24 = some [.int .i64 0, .int .i64 0, .int .i64 0, .int .i64 0, .int .i64 0, .bool false] := by kernel_rfl
theorem tc29 : zeroC Try.prog 29 = some [.slice none 0 0] := by kernel_rfl
theorem tc3 : zeroC Try.prog 3 = some [.int .i64 0] := by kernel_rfl
theorem tc38 : zeroC Try.prog 38 = some [.slice none 0 0, .int .i64 0] := by kernel_rfl
theorem tc41 : zeroC Try.prog 41 = some [.int .i64 0, .int .i64 0, .int .i64 0, .int .i64 0, .int .i64 0] := by kernel_rfl
theorem tc54 : zeroC Try.prog 54 = some [.int .i64 0, .int .i64 0, .int .i64 0, .int .i64 0, .int .i64 0, .bool false] := by kernel_rfl
theorem tf24_0 : fOff Try.prog 24 0 = some (0, 3) := by kernel_rfl
theorem tf24_1 : fOff Try.prog 24 1 = some (1, 3) := by kernel_rfl
theorem tf24_2 : fOff Try.prog 24 2 = some (2, 3) := by kernel_rfl
theorem tf24_3 : fOff Try.prog 24 3 = some (3, 3) := by kernel_rfl
theorem tf24_4 : fOff Try.prog 24 4 = some (4, 3) := by kernel_rfl
theorem tf24_5 : fOff Try.prog 24 5 = some (5, 4) := by kernel_rfl
theorem tf38_0 : fOff Try.prog 38 0 = some (0, 35) := by kernel_rfl
theorem tf38_1 : fOff Try.prog 38 1 = some (1, 3) := by kernel_rfl
theorem tf41_0 : fOff Try.prog 41 0 = some (0, 3) := by kernel_rfl
theorem tf41_3 : fOff Try.prog 41 3 = some (3, 3) := by kernel_rfl
theorem tf41_4 : fOff Try.prog 41 4 = some (4, 3) := by kernel_rfl
theorem tf54_0 : fOff Try.prog 54 0 = some (0, 24) := by kernel_rfl
theorem tk24 : kindT Try.prog 24 = some true := by kernel_rfl
theorem tk29 : kindT Try.prog 29 = some false := by kernel_rfl
theorem tk3 : kindT Try.prog 3 = some false := by kernel_rfl
theorem tk35 : kindT Try.prog 35 = some false := by kernel_rfl
theorem tk38 : kindT Try.prog 38 = some true := by kernel_rfl
theorem tk4 : kindT Try.prog 4 = some false := by kernel_rfl
theorem tk41 : kindT Try.prog 41 = some true := by kernel_rfl
theorem tk54 : kindT Try.prog 54 = some true := by kernel_rfl
theorem tl29 : isSliceT Try.prog 29 = true := by kernel_rfl
theorem tl35 : isSliceT Try.prog 35 = true := by kernel_rfl
theorem tl48 : isSliceT Try.prog 48 = true := by kernel_rfl
theorem tp24 : placesT Try.prog 24 = some [(0, 1, false), (1, 1, false), (2, 1, false), (3, 1, false), (4, 1, false), (5, 1, false)] := by kernel_rfl
theorem tp38 : placesT Try.prog 38 = some [(0, 1, false), (1, 1, false)] := by kernel_rfl
theorem tp41 : placesT Try.prog 41 = some [(0, 1, false), (1, 1, false), (2, 1, false), (3, 1, false), (4, 1, false)] := by kernel_rfl
theorem tp54 : placesT Try.prog 54 = some [(0, 6, true)] := by kernel_rfl
theorem tq24 : flatK Try.prog 24 = some [(0, 0), (1, 0), (2, 0), (3, 0), (4, 0), (5, 1)] := by kernel_rfl
theorem tq41 : flatK Try.prog 41 = some [(0, 0), (1, 0), (2, 0), (3, 0), (4, 0)] := by kernel_rfl
theorem ts29 : isStrT Try.prog 29 = false := by kernel_rfl
theorem ts35 : isStrT Try.prog 35 = false := by kernel_rfl
theorem ts48 : isStrT Try.prog 48 = false := by kernel_rfl
theorem ty24 : byO Try.prog 24 = some 48 := by kernel_rfl
theorem ty3 : byO Try.prog 3 = some 8 := by kernel_rfl
theorem ty41 : byO Try.prog 41 = some 40 := by kernel_rfl
theorem tz24 : szO Try.prog 24 = some 6 := by kernel_rfl
theorem tz29 : szO Try.prog 29 = some 1 := by kernel_rfl
theorem tz3 : szO Try.prog 3 = some 1 := by kernel_rfl
theorem tz35 : szO Try.prog 35 = some 1 := by kernel_rfl
theorem tz38 : szO Try.prog 38 = some 2 := by kernel_rfl
theorem tz4 : szO Try.prog 4 = some 1 := by kernel_rfl
theorem tz41 : szO Try.prog 41 = some 5 := by kernel_rfl
theorem tz54 : szO Try.prog 54 = some 6 := by kernel_rfl
end Go.Proofs.Ytngcbfmnjfghjaa.Sx
