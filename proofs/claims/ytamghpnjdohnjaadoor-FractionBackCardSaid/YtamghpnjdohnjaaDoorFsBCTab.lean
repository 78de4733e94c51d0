/- Part 15 of the texts of this claim: a symbolic executor and contracts of functions. -/
import Derived.Test.YtamghpnjdohnjaaDoorFsBCUse
namespace Go.Proofs.YtamghpnjdohnjaaDoor.Sx
open Go
theorem _root_.Go.Proofs.Tryd.mixed : Tryd.prog.follows .mixedOrders = true := by kernel_rfl
theorem cb10 : callsB Tryd.prog 10 = true := by kernel_rfl
theorem cb100 : callsB Tryd.prog 100 = true := by kernel_rfl
theorem cb101 : callsB Tryd.prog 101 = true := by kernel_rfl
theorem cb102 : callsB Tryd.prog 102 = true := by kernel_rfl
theorem cb103 : callsB Tryd.prog 103 = true := by kernel_rfl
theorem cb104 : callsB Tryd.prog 104 = true := by kernel_rfl
theorem cb105 : callsB Tryd.prog 105 = true := by kernel_rfl
theorem cb106 : callsB Tryd.prog 106 = true := by kernel_rfl
theorem cb107 : callsB Tryd.prog 107 = true := by kernel_rfl
theorem cb108 : callsB Tryd.prog 108 = true := by kernel_rfl
theorem cb109 : callsB Tryd.prog 109 = true := by kernel_rfl
theorem cb11 : callsB Tryd.prog 11 = true := by kernel_rfl
theorem cb110 : callsB Tryd.prog 110 = true := by kernel_rfl
theorem cb111 : callsB Tryd.prog 111 = true := by kernel_rfl
theorem cb112 : callsB Tryd.prog 112 = true := by kernel_rfl
theorem cb113 : callsB Tryd.prog 113 = true := by kernel_rfl
theorem cb114 : callsB Tryd.prog 114 = true := by kernel_rfl
theorem cb115 : callsB Tryd.prog 115 = true := by kernel_rfl
theorem cb116 : callsB Tryd.prog 116 = true := by kernel_rfl
theorem cb117 : callsB Tryd.prog 117 = true := by kernel_rfl
theorem cb118 : callsB Tryd.prog 118 = true := by kernel_rfl
theorem cb119 : callsB Tryd.prog 119 = true := by kernel_rfl
theorem cb12 : callsB Tryd.prog 12 = true := by kernel_rfl
theorem cb120 : callsB Tryd.prog 120 = true := by kernel_rfl
theorem cb121 : callsB Tryd.prog 121 = true := by kernel_rfl
theorem cb123 : callsB Tryd.prog 123 = true := by kernel_rfl
theorem cb124 : callsB Tryd.prog 124 = true := by kernel_rfl
theorem cb125 : callsB Tryd.prog 125 = true := by kernel_rfl
theorem cb126 : callsB Tryd.prog 126 = true := by kernel_rfl
theorem cb127 : callsB Tryd.prog 127 = true := by kernel_rfl
theorem cb128 : callsB Tryd.prog 128 = true := by kernel_rfl
theorem cb129 : callsB Tryd.prog 129 = true := by kernel_rfl
theorem cb13 : callsB Tryd.prog 13 = true := by kernel_rfl
theorem cb130 : callsB Tryd.prog 130 = true := by kernel_rfl
theorem cb132 : callsB Tryd.prog 132 = true := by kernel_rfl
theorem cb133 : callsB Tryd.prog 133 = true := by kernel_rfl
theorem cb134 : callsB Tryd.prog 134 = true := by kernel_rfl
theorem cb135 : callsB Tryd.prog 135 = true := by kernel_rfl
theorem cb136 : callsB Tryd.prog 136 = true := by kernel_rfl
theorem cb138 : callsB Tryd.prog 138 = true := by kernel_rfl
theorem cb139 : callsB Tryd.prog 139 = true := by kernel_rfl
theorem cb14 : callsB Tryd.prog 14 = true := by kernel_rfl
theorem cb140 : callsB Tryd.prog 140 = true := by kernel_rfl
theorem cb141 : callsB Tryd.prog 141 = true := by kernel_rfl
theorem cb15 : callsB Tryd.prog 15 = true := by kernel_rfl
theorem cb16 : callsB Tryd.prog 16 = true := by kernel_rfl
theorem cb163 : callsB Tryd.prog 163 = true := by kernel_rfl
theorem cb17 : callsB Tryd.prog 17 = true := by kernel_rfl
theorem cb18 : callsB Tryd.prog 18 = true := by kernel_rfl
theorem cb19 : callsB Tryd.prog 19 = true := by kernel_rfl
theorem cb2 : callsB Tryd.prog 2 = true := by kernel_rfl
theorem cb20 : callsB Tryd.prog 20 = true := by kernel_rfl
theorem cb21 : callsB Tryd.prog 21 = true := by kernel_rfl
theorem cb22 : callsB Tryd.prog 22 = true := by kernel_rfl
theorem cb23 : callsB Tryd.prog 23 = true := by kernel_rfl
theorem cb24 : callsB Tryd.prog 24 = true := by kernel_rfl
theorem cb25 : callsB Tryd.prog 25 = true := by kernel_rfl
theorem cb26 : callsB Tryd.prog 26 = true := by kernel_rfl
theorem cb27 : callsB Tryd.prog 27 = true := by kernel_rfl
theorem cb28 : callsB Tryd.prog 28 = true := by kernel_rfl
theorem cb29 : callsB Tryd.prog 29 = true := by kernel_rfl
theorem cb3 : callsB Tryd.prog 3 = true := by kernel_rfl
theorem cb30 : callsB Tryd.prog 30 = true := by kernel_rfl
theorem cb31 : callsB Tryd.prog 31 = true := by kernel_rfl
theorem cb32 : callsB Tryd.prog 32 = true := by kernel_rfl
theorem cb33 : callsB Tryd.prog 33 = true := by kernel_rfl
theorem cb34 : callsB Tryd.prog 34 = true := by kernel_rfl
theorem cb35 : callsB Tryd.prog 35 = true := by kernel_rfl
theorem cb36 : callsB Tryd.prog 36 = true := by kernel_rfl
theorem cb37 : callsB Tryd.prog 37 = true := by kernel_rfl
theorem cb38 : callsB Tryd.prog 38 = true := by kernel_rfl
theorem cb39 : callsB Tryd.prog 39 = true := by kernel_rfl
theorem cb4 : callsB Tryd.prog 4 = true := by kernel_rfl
theorem cb40 : callsB Tryd.prog 40 = true := by kernel_rfl
theorem cb41 : callsB Tryd.prog 41 = true := by kernel_rfl
theorem cb42 : callsB Tryd.prog 42 = true := by kernel_rfl
theorem cb43 : callsB Tryd.prog 43 = true := by kernel_rfl
theorem cb44 : callsB Tryd.prog 44 = true := by kernel_rfl
theorem cb45 : callsB Tryd.prog 45 = true := by kernel_rfl
theorem cb46 : callsB Tryd.prog 46 = true := by kernel_rfl
theorem cb47 : callsB Tryd.prog 47 = true := by kernel_rfl
theorem cb48 : callsB Tryd.prog 48 = true := by kernel_rfl
theorem cb49 : callsB Tryd.prog 49 = true := by kernel_rfl
theorem cb5 : callsB Tryd.prog 5 = true := by kernel_rfl
theorem cb50 : callsB Tryd.prog 50 = true := by kernel_rfl
theorem cb51 : callsB Tryd.prog 51 = true := by kernel_rfl
theorem cb52 : callsB Tryd.prog 52 = true := by kernel_rfl
theorem cb53 : callsB Tryd.prog 53 = true := by kernel_rfl
theorem cb54 : callsB Tryd.prog 54 = true := by kernel_rfl
theorem cb55 : callsB Tryd.prog 55 = true := by kernel_rfl
theorem cb56 : callsB Tryd.prog 56 = true := by kernel_rfl
theorem cb57 : callsB Tryd.prog 57 = true := by kernel_rfl
theorem cb58 : callsB Tryd.prog 58 = true := by kernel_rfl
theorem cb59 : callsB Tryd.prog 59 = true := by kernel_rfl
theorem cb6 : callsB Tryd.prog 6 = true := by kernel_rfl
theorem cb60 : callsB Tryd.prog 60 = true := by kernel_rfl
theorem cb61 : callsB Tryd.prog 61 = true := by kernel_rfl
theorem cb62 : callsB Tryd.prog 62 = true := by kernel_rfl
theorem cb63 : callsB Tryd.prog 63 = true := by kernel_rfl
theorem cb64 : callsB Tryd.prog 64 = true := by kernel_rfl
theorem cb65 : callsB Tryd.prog 65 = true := by kernel_rfl
theorem cb66 : callsB Tryd.prog 66 = true := by kernel_rfl
theorem cb67 : callsB Tryd.prog 67 = true := by kernel_rfl
theorem cb68 : callsB Tryd.prog 68 = true := by kernel_rfl
theorem cb69 : callsB Tryd.prog 69 = true := by kernel_rfl
theorem cb7 : callsB Tryd.prog 7 = true := by kernel_rfl
theorem cb70 : callsB Tryd.prog 70 = true := by kernel_rfl
theorem cb71 : callsB Tryd.prog 71 = true := by kernel_rfl
theorem cb72 : callsB Tryd.prog 72 = true := by kernel_rfl
theorem cb73 : callsB Tryd.prog 73 = true := by kernel_rfl
theorem cb74 : callsB Tryd.prog 74 = true := by kernel_rfl
theorem cb75 : callsB Tryd.prog 75 = true := by kernel_rfl
theorem cb76 : callsB Tryd.prog 76 = true := by kernel_rfl
theorem cb77 : callsB Tryd.prog 77 = true := by kernel_rfl
theorem cb78 : callsB Tryd.prog 78 = true := by kernel_rfl
theorem cb79 : callsB Tryd.prog 79 = true := by kernel_rfl
theorem cb8 : callsB Tryd.prog 8 = true := by kernel_rfl
theorem cb80 : callsB Tryd.prog 80 = true := by kernel_rfl
theorem cb81 : callsB Tryd.prog 81 = true := by kernel_rfl
theorem cb82 : callsB Tryd.prog 82 = true := by kernel_rfl
theorem cb83 : callsB Tryd.prog 83 = true := by kernel_rfl
theorem cb84 : callsB Tryd.prog 84 = true := by kernel_rfl
theorem cb85 : callsB Tryd.prog 85 = true := by kernel_rfl
theorem cb86 : callsB Tryd.prog 86 = true := by kernel_rfl
theorem cb87 : callsB Tryd.prog 87 = true := by kernel_rfl
theorem cb88 : callsB Tryd.prog 88 = true := by kernel_rfl
theorem cb89 : callsB Tryd.prog 89 = true := by kernel_rfl
theorem cb9 : callsB Tryd.prog 9 = true := by kernel_rfl
theorem cb90 : callsB Tryd.prog 90 = true := by kernel_rfl
theorem cb91 : callsB Tryd.prog 91 = true := by kernel_rfl
theorem cb92 : callsB Tryd.prog 92 = true := by kernel_rfl
theorem cb93 : callsB Tryd.prog 93 = true := by kernel_rfl
theorem cb94 : callsB Tryd.prog 94 = true := by kernel_rfl
theorem cb95 : callsB Tryd.prog 95 = true := by kernel_rfl
theorem cb96 : callsB Tryd.prog 96 = true := by kernel_rfl
theorem cb97 : callsB Tryd.prog 97 = true := by kernel_rfl
theorem cb98 : callsB Tryd.prog 98 = true := by kernel_rfl
theorem cb99 : callsB Tryd.prog 99 = true := by kernel_rfl
theorem tA129 : arrT Tryd.prog 129 = some (256, 4) := by kernel_rfl
theorem tA144 : arrT Tryd.prog 144 = some (256, 5) := by kernel_rfl
theorem tA146 : arrT Tryd.prog 146 = none := by kernel_rfl
theorem tA147 : arrT Tryd.prog 147 = some (16, 146) := by kernel_rfl
theorem tA22 : arrT Tryd.prog 22 = none := by kernel_rfl
theorem tA23 : arrT Tryd.prog 23 = none := by kernel_rfl
theorem tA25 : arrT Tryd.prog 25 = none := by kernel_rfl
theorem tA39 : arrT Tryd.prog 39 = none := by kernel_rfl
theorem tA42 : arrT Tryd.prog 42 = none := by kernel_rfl
theorem tA49 : arrT Tryd.prog 49 = none := by kernel_rfl
theorem tA59 : arrT Tryd.prog 59 = none := by kernel_rfl
theorem tA89 : arrT Tryd.prog 89 = none := by kernel_rfl
theorem tA9 : arrT Tryd.prog 9 = none := by kernel_rfl
theorem tI105 : intT Tryd.prog 105 = some .u64 := by kernel_rfl
theorem tI134 : intT Tryd.prog 134 = none := by kernel_rfl
theorem tI21 : intT Tryd.prog 21 = some .i32 := by kernel_rfl
theorem tI3 : intT Tryd.prog 3 = some .i64 := by kernel_rfl
theorem tI5 : intT Tryd.prog 5 = some .u8 := by kernel_rfl
theorem tI68 : intT Tryd.prog 68 = some .u64 := by kernel_rfl
theorem tI70 : intT Tryd.prog 70 = some .u32 := by kernel_rfl
theorem tI88 : intT Tryd.prog 88 = none := by kernel_rfl
theorem tI89 : intT Tryd.prog 89 = none := by kernel_rfl
theorem tI9 : intT Tryd.prog 9 = none := by kernel_rfl
theorem tS129 : slcT Tryd.prog 129 = none := by kernel_rfl
theorem tS144 : slcT Tryd.prog 144 = none := by kernel_rfl
theorem tS147 : slcT Tryd.prog 147 = none := by kernel_rfl
theorem tS22 : slcT Tryd.prog 22 = some 70 := by kernel_rfl
theorem tS23 : slcT Tryd.prog 23 = some 70 := by kernel_rfl
theorem tS39 : slcT Tryd.prog 39 = some 3 := by kernel_rfl
theorem tS49 : slcT Tryd.prog 49 = some 25 := by kernel_rfl
theorem tS59 : slcT Tryd.prog 59 = some 9 := by kernel_rfl
theorem tS89 : slcT Tryd.prog 89 = some 5 := by kernel_rfl
theorem tS9 : slcT Tryd.prog 9 = none := by kernel_rfl
theorem tb4 : isBoolT Tryd.prog 4 = true := by kernel_rfl
theorem tc129 : zeroC Tryd.prog 129 = some (List.replicate 256 (.bool false)) := by kernel_rfl
theorem tc146 : zeroC Tryd.prog 146 = some [.int .u8 0, .int .u8 0] := by kernel_rfl
theorem tc147 : zeroC Tryd.prog 147 = some (List.replicate 32 (.int .u8 0)) := by kernel_rfl
theorem tc22 : zeroC Tryd.prog 22 = some [.slice none 0 0] := by kernel_rfl
theorem tc23 : zeroC Tryd.prog 23 = some [.slice none 0 0] := by kernel_rfl
theorem tc25 : zeroC Tryd.prog 25 = some [.slice none 0 0, .slice none 0 0] := by kernel_rfl
theorem tc3 : zeroC Tryd.prog 3 = some [.int .i64 0] := by kernel_rfl
theorem tc39 : zeroC Tryd.prog 39 = some [.slice none 0 0] := by kernel_rfl
theorem tc4 : zeroC Tryd.prog 4 = some [.bool false] := by kernel_rfl
theorem tc42 : zeroC Tryd.prog 42 = some [.slice none 0 0, .int .i64 0] := by kernel_rfl
theorem tc5 : zeroC Tryd.prog 5 = some [.int .u8 0] := by kernel_rfl
theorem tc70 : zeroC Tryd.prog 70 = some [.int .u32 0] := by kernel_rfl
theorem tc88 : zeroC Tryd.prog 88 = some [.pointer none] := by kernel_rfl
theorem tc89 : zeroC Tryd.prog 89 = some [.slice none 0 0] := by kernel_rfl
theorem tc9 : zeroC Tryd.prog 9 = some [.string ⟨#[]⟩] := by kernel_rfl
theorem tc91 : zeroC Tryd.prog 91 = some [.pointer none, .slice none 0 0] := by kernel_rfl
theorem tf146_0 : fOff Tryd.prog 146 0 = some (0, 5) := by kernel_rfl
theorem tf146_1 : fOff Tryd.prog 146 1 = some (1, 5) := by kernel_rfl
theorem tf25_0 : fOff Tryd.prog 25 0 = some (0, 23) := by kernel_rfl
theorem tf25_1 : fOff Tryd.prog 25 1 = some (1, 23) := by kernel_rfl
theorem tf42_0 : fOff Tryd.prog 42 0 = some (0, 39) := by kernel_rfl
theorem tf42_1 : fOff Tryd.prog 42 1 = some (1, 3) := by kernel_rfl
theorem tf91_0 : fOff Tryd.prog 91 0 = some (0, 88) := by kernel_rfl
theorem tf91_1 : fOff Tryd.prog 91 1 = some (1, 89) := by kernel_rfl
theorem tk129 : kindT Tryd.prog 129 = some true := by kernel_rfl
theorem tk146 : kindT Tryd.prog 146 = some true := by kernel_rfl
theorem tk147 : kindT Tryd.prog 147 = some true := by kernel_rfl
theorem tk22 : kindT Tryd.prog 22 = some false := by kernel_rfl
theorem tk23 : kindT Tryd.prog 23 = some false := by kernel_rfl
theorem tk25 : kindT Tryd.prog 25 = some true := by kernel_rfl
theorem tk3 : kindT Tryd.prog 3 = some false := by kernel_rfl
theorem tk39 : kindT Tryd.prog 39 = some false := by kernel_rfl
theorem tk4 : kindT Tryd.prog 4 = some false := by kernel_rfl
theorem tk42 : kindT Tryd.prog 42 = some true := by kernel_rfl
theorem tk5 : kindT Tryd.prog 5 = some false := by kernel_rfl
theorem tk70 : kindT Tryd.prog 70 = some false := by kernel_rfl
theorem tk88 : kindT Tryd.prog 88 = some false := by kernel_rfl
theorem tk89 : kindT Tryd.prog 89 = some false := by kernel_rfl
theorem tk9 : kindT Tryd.prog 9 = some false := by kernel_rfl
theorem tk91 : kindT Tryd.prog 91 = some true := by kernel_rfl
theorem tl22 : isSliceT Tryd.prog 22 = true := by kernel_rfl
theorem tl23 : isSliceT Tryd.prog 23 = true := by kernel_rfl
theorem tl39 : isSliceT Tryd.prog 39 = true := by kernel_rfl
theorem tl49 : isSliceT Tryd.prog 49 = true := by kernel_rfl
theorem tl59 : isSliceT Tryd.prog 59 = true := by kernel_rfl
theorem tl89 : isSliceT Tryd.prog 89 = true := by kernel_rfl
theorem tl9 : isSliceT Tryd.prog 9 = false := by kernel_rfl
theorem tp146 : placesT Tryd.prog 146 = some [(0, 1, false), (1, 1, false)] := by kernel_rfl
theorem tp25 : placesT Tryd.prog 25 = some [(0, 1, false), (1, 1, false)] := by kernel_rfl
theorem tp42 : placesT Tryd.prog 42 = some [(0, 1, false), (1, 1, false)] := by kernel_rfl
theorem ts105 : isStrT Tryd.prog 105 = false := by kernel_rfl
theorem ts129 : isStrT Tryd.prog 129 = false := by kernel_rfl
theorem ts134 : isStrT Tryd.prog 134 = false := by kernel_rfl
theorem ts144 : isStrT Tryd.prog 144 = false := by kernel_rfl
theorem ts147 : isStrT Tryd.prog 147 = false := by kernel_rfl
theorem ts21 : isStrT Tryd.prog 21 = false := by kernel_rfl
theorem ts22 : isStrT Tryd.prog 22 = false := by kernel_rfl
theorem ts23 : isStrT Tryd.prog 23 = false := by kernel_rfl
theorem ts3 : isStrT Tryd.prog 3 = false := by kernel_rfl
theorem ts39 : isStrT Tryd.prog 39 = false := by kernel_rfl
theorem ts49 : isStrT Tryd.prog 49 = false := by kernel_rfl
theorem ts5 : isStrT Tryd.prog 5 = false := by kernel_rfl
theorem ts59 : isStrT Tryd.prog 59 = false := by kernel_rfl
theorem ts68 : isStrT Tryd.prog 68 = false := by kernel_rfl
theorem ts70 : isStrT Tryd.prog 70 = false := by kernel_rfl
theorem ts88 : isStrT Tryd.prog 88 = false := by kernel_rfl
theorem ts89 : isStrT Tryd.prog 89 = false := by kernel_rfl
theorem ts9 : isStrT Tryd.prog 9 = true := by kernel_rfl
theorem ty146 : byO Tryd.prog 146 = some 2 := by kernel_rfl
theorem ty25 : byO Tryd.prog 25 = some 48 := by kernel_rfl
theorem ty3 : byO Tryd.prog 3 = some 8 := by kernel_rfl
theorem ty4 : byO Tryd.prog 4 = some 1 := by kernel_rfl
theorem ty5 : byO Tryd.prog 5 = some 1 := by kernel_rfl
theorem ty70 : byO Tryd.prog 70 = some 4 := by kernel_rfl
theorem ty9 : byO Tryd.prog 9 = some 16 := by kernel_rfl
theorem tz129 : szO Tryd.prog 129 = some 256 := by kernel_rfl
theorem tz146 : szO Tryd.prog 146 = some 2 := by kernel_rfl
theorem tz147 : szO Tryd.prog 147 = some 32 := by kernel_rfl
theorem tz22 : szO Tryd.prog 22 = some 1 := by kernel_rfl
theorem tz23 : szO Tryd.prog 23 = some 1 := by kernel_rfl
theorem tz25 : szO Tryd.prog 25 = some 2 := by kernel_rfl
theorem tz3 : szO Tryd.prog 3 = some 1 := by kernel_rfl
theorem tz39 : szO Tryd.prog 39 = some 1 := by kernel_rfl
theorem tz4 : szO Tryd.prog 4 = some 1 := by kernel_rfl
theorem tz42 : szO Tryd.prog 42 = some 2 := by kernel_rfl
theorem tz5 : szO Tryd.prog 5 = some 1 := by kernel_rfl
theorem tz70 : szO Tryd.prog 70 = some 1 := by kernel_rfl
theorem tz88 : szO Tryd.prog 88 = some 1 := by kernel_rfl
theorem tz89 : szO Tryd.prog 89 = some 1 := by kernel_rfl
theorem tz9 : szO Tryd.prog 9 = some 1 := by kernel_rfl
theorem tz91 : szO Tryd.prog 91 = some 2 := by kernel_rfl
set_option linter.defProp false
def sxB := And.intro (And.intro (And.intro (And.intro (And.intro (And.intro (And.intro (@loadX.eq_1) (@loadX.eq_2)) (And.intro (@loadX.eq_3) (And.intro (@loadX.eq_4) (@loadX.eq_5)))) (And.intro (And.intro (@loadX.eq_6) (@fldA.eq_1)) (And.intro (@fldA.eq_2) (And.intro (@fldA.eq_3) (@isPt_p))))) (And.intro (And.intro (And.intro (@addP_p) (@List.toList_toArray.{0})) (And.intro (@stepG.eq_1) (And.intro (@stepG.eq_2) (@fin.eq_1)))) (And.intro (And.intro (@fin.eq_2) (And.intro (@fin.eq_3) (@fin.eq_4))) (And.intro (@fin.eq_5) (And.intro (@fin.eq_6) (@fin.eq_7)))))) (And.intro (And.intro (And.intro (And.intro (@finG.eq_1) (@finG.eq_2)) (And.intro (@finG.eq_3) (And.intro (@finG.eq_4) (@brv_true)))) (And.intro (And.intro (@brv_false) (And.intro (@condK.eq_1) (@rowS.eq_1))) (And.intro (@rowS.eq_2) (And.intro (@mentL_append) (@mentL_ext))))) (And.intro (And.intro (And.intro (@mentL_extf) (@one_bool)) (And.intro (@one_int) (And.intro (@one_str) (@one_ptr)))) (And.intro (And.intro (@one_sli) (And.intro (@one_map) (@one_fun))) (And.intro (@one_nf) (And.intro (@one_ni) (@one_if))))))) (And.intro (And.intro (And.intro (And.intro (And.intro (@one_agg) (@one_tup)) (And.intro (@List.getElem?_cons_zero.{0}) (And.intro (@List.getElem?_cons_succ.{0}) (@List.drop_zero.{0})))) (And.intro (And.intro (@List.drop_succ_cons.{0}) (@List.take_zero.{0})) (And.intro (@List.take_succ_cons.{0}) (And.intro (@List.take_nil.{0}) (@List.drop_nil.{0}))))) (And.intro (And.intro (And.intro (@List.map_cons.{0, 0}) (@List.map_nil.{0, 0})) (And.intro (@List.length_cons.{0}) (And.intro (@List.length_nil.{0}) (@List.append_nil.{0})))) (And.intro (And.intro (@List.cons_append.{0}) (And.intro (@List.nil_append.{0}) (@List.set_cons_zero.{0}))) (And.intro (@List.set_cons_succ.{0}) (And.intro (@List.all_cons.{0}) (@List.all_nil.{0})))))) (And.intro (And.intro (And.intro (And.intro (@List.mem_cons.{0}) (@List.not_mem_nil.{0})) (And.intro (@Option.bind_some.{0, 0}) (And.intro (@Option.map_some.{0, 0}) (@Option.map_none.{0, 0})))) (And.intro (And.intro (@true_and) (And.intro (@and_true) (@and_self))) (And.intro (@true_implies) (And.intro (@false_implies) (@imp_self))))) (And.intro (And.intro (And.intro (@Bool.cond_false_right) (@Bool.cond_true_left)) (And.intro (@beq_true) (And.intro (@beq_false) (@Bool.not_eq_true')))) (And.intro (And.intro (@Bool.not_true) (And.intro (@Bool.not_false) (@Bool.true_and))) (And.intro (@Bool.and_true) (And.intro (@Bool.false_and) (@Bool.and_false)))))))) (And.intro (And.intro (And.intro (And.intro (And.intro (And.intro (@Bool.or_false) (@Bool.false_or)) (And.intro (@Bool.or_true) (And.intro (@Bool.true_or) (@decide_true)))) (And.intro (And.intro (@decide_false) (@Bool.false_eq_true)) (And.intro (@Bool.true_eq_false) (And.intro (@false_or) (@true_or))))) (And.intro (And.intro (And.intro (@or_true) (@or_false)) (And.intro (@or_self) (And.intro (@List.contains_nil.{0}) (@List.contains_cons.{0})))) (And.intro (And.intro (@List.size_toArray.{0}) (And.intro (@List.getElem?_toArray.{0}) (@Option.isSome_some.{0}))) (And.intro (@Option.isSome_none.{0}) (And.intro (@Nat.zero_add) (@Nat.add_zero)))))) (And.intro (And.intro (And.intro (And.intro (@Int.toNat_natCast) (@okR.eq_1)) (And.intro (@okR.eq_2) (And.intro (@okR.eq_3) (@okR.eq_4)))) (And.intro (And.intro (@okR.eq_5) (And.intro (@okR.eq_6) (@finD.eq_1))) (And.intro (@finD.eq_2) (And.intro (@finD.eq_3) (@finD.eq_4))))) (And.intro (And.intro (And.intro (@finD.eq_5) (@finD.eq_6)) (And.intro (@finD.eq_7) (And.intro (@finGD.eq_1) (@finGD.eq_2)))) (And.intro (And.intro (@finGD.eq_3) (And.intro (@finGD.eq_4) (@stepGD.eq_1))) (And.intro (@stepGD.eq_2) (And.intro (@isSl_s) (@slen_s))))))) (And.intro (And.intro (And.intro (And.intro (And.intro (@scap_s) (@nilS_s)) (And.intro (@Option.isNone_none.{0}) (And.intro (@Option.isNone_some.{0}) (@vc.eq_1)))) (And.intro (And.intro (@vc.eq_2) (@vc.eq_3)) (And.intro (@vc.eq_4) (And.intro (@vc.eq_5) (@vc.eq_7))))) (And.intro (And.intro (And.intro (@vc.eq_8) (@vc.eq_9)) (And.intro (@vc.eq_10) (And.intro (@vc.eq_11) (@vc.eq_12)))) (And.intro (And.intro (@vc.eq_13) (And.intro (@seqK_false) (@seqK_true))) (And.intro (@vcX_marks) (And.intro (@vc_exit) (@vcX_blk)))))) (And.intro (And.intro (And.intro (And.intro (@vcX_code) (@vcX_stop)) (And.intro (@aggA_nil) (And.intro (@aggA_cons) (@slcG_gd)))) (And.intro (And.intro (@slcG_ext) (And.intro (@slcG_slo) (@cellsG.eq_1))) (And.intro (@cellsG.eq_2) (And.intro (@putA.eq_1) (@putA.eq_2))))) (And.intro (And.intro (And.intro (@hold_eq.{1}) (@vc.eq_14)) (And.intro (@lookM_tup) (And.intro (@eq_self.{1}) (@forall_eq.{1})))) (And.intro (And.intro (@forall_eq_or_imp.{1}) (And.intro (@implies_true.{1}) (@implies_true.{0}))) (And.intro (@beq_self_eq_true.{0}) (And.intro (@forall_const.{1}) (@forall_const.{0}))))))))
def sxD := And.intro (And.intro (And.intro (And.intro (And.intro (And.intro (@dstO.eq_def) (@normA.eq_def)) (And.intro (@normG.eq_def) (And.intro (@normP.eq_def) (@nilR.eq_def)))) (And.intro (And.intro (@fieldR.eq_def) (@addOb.eq_def)) (And.intro (@loadH.eq_def) (And.intro (@storeH.eq_def) (@zeroR.eq_def))))) (And.intro (And.intro (And.intro (@fldV.eq_def) (@storeX.eq_def)) (And.intro (@loadV.eq_def) (And.intro (@AV.ptr?.eq_def) (@tOp.eq_def)))) (And.intro (And.intro (@put1.eq_def) (@put2.eq_def)) (And.intro (@pickV.eq_def) (And.intro (@binV.eq_def) (@binW.eq_def)))))) (And.intro (And.intro (And.intro (And.intro (@intV.eq_def) (@strV.eq_def)) (And.intro (@boolV.eq_def) (And.intro (@nilV.eq_def) (@unV1.eq_def)))) (And.intro (And.intro (@unV.eq_def) (@selV.eq_def)) (And.intro (@extR.eq_def) (And.intro (@ev.eq_def) (@evC.eq_def))))) (And.intro (And.intro (And.intro (@callR.eq_def) (@bltR.eq_def)) (And.intro (@srcA.eq_def) (And.intro (@lenR.eq_def) (@lenV.eq_def)))) (And.intro (And.intro (@minV.eq_def) (@maxV.eq_def)) (And.intro (@St.put.eq_def) (And.intro (@AV.val.eq_def) (@unG.eq_def))))))) (And.intro (And.intro (And.intro (And.intro (And.intro (@guardB.eq_def) (@gslot.eq_def)) (And.intro (@loadR.eq_def) (And.intro (@storeR.eq_def) (@oneC.eq_def)))) (And.intro (And.intro (@tupA.eq_def) (@cellsA.eq_def)) (And.intro (@mkF.eq_def) (And.intro (@boxR.eq_def) (@plT.eq_def))))) (And.intro (And.intro (And.intro (@buildSR.eq_def) (@partC.eq_def)) (And.intro (@makeR.eq_def) (And.intro (@fieldX.eq_def) (@fieldO.eq_def)))) (And.intro (And.intro (@idxR.eq_def) (@idxA.eq_def)) (And.intro (@indV.eq_def) (And.intro (@slcR.eq_def) (@bndO.eq_def)))))) (And.intro (And.intro (And.intro (And.intro (@conV.eq_def) (@joinH.eq_def)) (And.intro (@reachK.eq_def) (And.intro (@mentO.eq_def) (@tupR.eq_def)))) (And.intro (And.intro (@NewD.av.eq_def) (@eqV.eq_def)) (And.intro (@eqC.eq_def) (And.intro (@looksK.eq_def) (@addrL.eq_def))))) (And.intro (And.intro (And.intro (@ptrK.eq_def) (@Op.operands.eq_def)) (And.intro (@Call.operands.eq_def) (And.intro (@awayB.eq_def) (@cutO.eq_def)))) (And.intro (And.intro (@selV_true) (@selV_false)) (And.intro (@opAt_arr) (And.intro (@opAt_0) (@opAt_S)))))))
def sxE := And.intro (And.intro (And.intro (And.intro (And.intro (And.intro (@normL.eq_1) (And.intro (@normL.eq_2) (@lk.eq_1))) (And.intro (@lk.eq_2) (And.intro (@lkH.eq_1) (@lkH.eq_2)))) (And.intro (And.intro (@upH.eq_1) (And.intro (@upH.eq_2) (@allOne.eq_1))) (And.intro (@allOne.eq_2) (And.intro (@vals.eq_1) (@vals.eq_2))))) (And.intro (And.intro (And.intro (@vals.eq_3) (And.intro (@buildL.eq_1) (@buildL.eq_2))) (And.intro (@plN.eq_1) (And.intro (@plN.eq_2) (@repN.eq_1)))) (And.intro (And.intro (@repN.eq_2) (And.intro (@AV.ment.eq_1) (@AV.ment.eq_2))) (And.intro (@AV.ment.eq_3) (And.intro (@AV.ment.eq_4) (@AV.ment.eq_5)))))) (And.intro (And.intro (And.intro (And.intro (@AV.ment.eq_6) (And.intro (@AV.ment.eq_7) (@AV.ment.eq_8))) (And.intro (@mentL.eq_1) (And.intro (@mentL.eq_2) (@mentE.eq_1)))) (And.intro (And.intro (@mentE.eq_2) (And.intro (@mentH.eq_1) (@mentH.eq_2))) (And.intro (@hasK.eq_1) (And.intro (@hasK.eq_2) (@AV.kill.eq_1))))) (And.intro (And.intro (And.intro (@AV.kill.eq_2) (And.intro (@AV.kill.eq_3) (@AV.kill.eq_4))) (And.intro (@AV.kill.eq_5) (And.intro (@AV.kill.eq_6) (@AV.kill.eq_7)))) (And.intro (And.intro (@AV.kill.eq_8) (And.intro (@killL.eq_1) (@killL.eq_2))) (And.intro (@killE.eq_1) (And.intro (@killE.eq_2) (@killH.eq_1))))))) (And.intro (And.intro (And.intro (And.intro (And.intro (@killH.eq_2) (And.intro (@killEs.eq_1) (@killEs.eq_2))) (And.intro (@killHs.eq_1) (And.intro (@killHs.eq_2) (@popTo.eq_1)))) (And.intro (And.intro (@popTo.eq_2) (And.intro (@popTo.eq_3) (@hasBlk.eq_1))) (And.intro (@hasBlk.eq_2) (And.intro (@hasBlk.eq_3) (@argEnv.eq_1))))) (And.intro (And.intro (And.intro (@argEnv.eq_2) (And.intro (@subH.eq_1) (@subH.eq_2))) (And.intro (@dropH.eq_1) (And.intro (@dropH.eq_2) (@cellsK.eq_1)))) (And.intro (And.intro (@cellsK.eq_2) (And.intro (@newKeys.eq_1) (@newKeys.eq_2))) (And.intro (@keysH.eq_1) (And.intro (@keysH.eq_2) (@inB.eq_1)))))) (And.intro (And.intro (And.intro (And.intro (@inB.eq_2) (And.intro (@eqL.eq_1) (@eqL.eq_2))) (And.intro (@keysOf.eq_1) (And.intro (@keysOf.eq_2) (@looksL.eq_1)))) (And.intro (And.intro (@looksL.eq_2) (And.intro (@disj.eq_1) (@disj.eq_2))) (And.intro (@subE.eq_1) (And.intro (@subE.eq_2) (@subHp.eq_1))))) (And.intro (And.intro (And.intro (@subHp.eq_2) (And.intro (@keepLt.eq_1) (@keepLt.eq_2))) (And.intro (@forgetD.eq_1) (And.intro (@forgetD.eq_2) (@marksOf.eq_1)))) (And.intro (And.intro (@marksOf.eq_2) (And.intro (@marksOf.eq_3) (@headId.eq_1))) (And.intro (And.intro (@headId.eq_2) (@headId.eq_3)) (And.intro (@headId.eq_4) (@headId.eq_5)))))))
def sxO := And.intro (And.intro (And.intro (@decide_eq_true_eq) (@decide_eq_false_iff_not)) (And.intro (@Bool.or_eq_true) (And.intro (@Bool.or_eq_false_iff) (@Bool.and_eq_true)))) (And.intro (And.intro (@Bool.and_eq_false_iff) (@Bool.not_eq_true)) (And.intro (@Bool.not_eq_true') (And.intro (@Bool.not_eq_false') (@Int.toNat_natCast))))
def sxTab := And.intro (And.intro (And.intro (And.intro (And.intro (And.intro (And.intro (And.intro (@cb10) (@cb100)) (And.intro (@cb101) (@cb102))) (And.intro (And.intro (@cb103) (@cb104)) (And.intro (@cb105) (@cb106)))) (And.intro (And.intro (And.intro (@cb107) (@cb108)) (And.intro (@cb109) (@cb11))) (And.intro (And.intro (@cb110) (@cb111)) (And.intro (@cb112) (@cb113))))) (And.intro (And.intro (And.intro (And.intro (@cb114) (@cb115)) (And.intro (@cb116) (@cb117))) (And.intro (And.intro (@cb118) (@cb119)) (And.intro (@cb12) (@cb120)))) (And.intro (And.intro (And.intro (@cb121) (@cb123)) (And.intro (@cb124) (@cb125))) (And.intro (And.intro (@cb126) (@cb127)) (And.intro (@cb128) (@cb129)))))) (And.intro (And.intro (And.intro (And.intro (And.intro (@cb13) (@cb130)) (And.intro (@cb132) (@cb133))) (And.intro (And.intro (@cb134) (@cb135)) (And.intro (@cb136) (@cb138)))) (And.intro (And.intro (And.intro (@cb139) (@cb14)) (And.intro (@cb140) (@cb141))) (And.intro (And.intro (@cb15) (@cb16)) (And.intro (@cb163) (@cb17))))) (And.intro (And.intro (And.intro (And.intro (@cb18) (@cb19)) (And.intro (@cb2) (@cb20))) (And.intro (And.intro (@cb21) (@cb22)) (And.intro (@cb23) (@cb24)))) (And.intro (And.intro (And.intro (@cb25) (@cb26)) (And.intro (@cb27) (@cb28))) (And.intro (And.intro (@cb29) (@cb3)) (And.intro (@cb30) (And.intro (@cb31) (@cb32)))))))) (And.intro (And.intro (And.intro (And.intro (And.intro (And.intro (@cb33) (@cb34)) (And.intro (@cb35) (@cb36))) (And.intro (And.intro (@cb37) (@cb38)) (And.intro (@cb39) (@cb4)))) (And.intro (And.intro (And.intro (@cb40) (@cb41)) (And.intro (@cb42) (@cb43))) (And.intro (And.intro (@cb44) (@cb45)) (And.intro (@cb46) (@cb47))))) (And.intro (And.intro (And.intro (And.intro (@cb48) (@cb49)) (And.intro (@cb5) (@cb50))) (And.intro (And.intro (@cb51) (@cb52)) (And.intro (@cb53) (@cb54)))) (And.intro (And.intro (And.intro (@cb55) (@cb56)) (And.intro (@cb57) (@cb58))) (And.intro (And.intro (@cb59) (@cb6)) (And.intro (@cb60) (And.intro (@cb61) (@cb62))))))) (And.intro (And.intro (And.intro (And.intro (And.intro (@cb63) (@cb64)) (And.intro (@cb65) (@cb66))) (And.intro (And.intro (@cb67) (@cb68)) (And.intro (@cb69) (@cb7)))) (And.intro (And.intro (And.intro (@cb70) (@cb71)) (And.intro (@cb72) (@cb73))) (And.intro (And.intro (@cb74) (@cb75)) (And.intro (@cb76) (@cb77))))) (And.intro (And.intro (And.intro (And.intro (@cb78) (@cb79)) (And.intro (@cb8) (@cb80))) (And.intro (And.intro (@cb81) (@cb82)) (And.intro (@cb83) (@cb84)))) (And.intro (And.intro (And.intro (@cb85) (@cb86)) (And.intro (@cb87) (@cb88))) (And.intro (And.intro (@cb89) (@cb9)) (And.intro (@cb90) (And.intro (@cb91) (@cb92))))))))) (And.intro (And.intro (And.intro (And.intro (And.intro (And.intro (And.intro (@cb93) (@cb94)) (And.intro (@cb95) (@cb96))) (And.intro (And.intro (@cb97) (@cb98)) (And.intro (@cb99) (@tA129)))) (And.intro (And.intro (And.intro (@tA144) (@tA146)) (And.intro (@tA147) (@tA22))) (And.intro (And.intro (@tA23) (@tA25)) (And.intro (@tA39) (@tA42))))) (And.intro (And.intro (And.intro (And.intro (@tA49) (@tA59)) (And.intro (@tA89) (@tA9))) (And.intro (And.intro (@tI105) (@tI134)) (And.intro (@tI21) (@tI3)))) (And.intro (And.intro (And.intro (@tI5) (@tI68)) (And.intro (@tI70) (@tI88))) (And.intro (And.intro (@tI89) (@tI9)) (And.intro (@tS129) (And.intro (@tS144) (@tS147))))))) (And.intro (And.intro (And.intro (And.intro (And.intro (@tS22) (@tS23)) (And.intro (@tS39) (@tS49))) (And.intro (And.intro (@tS59) (@tS89)) (And.intro (@tS9) (@tb4)))) (And.intro (And.intro (And.intro (@tc129) (@tc146)) (And.intro (@tc147) (@tc22))) (And.intro (And.intro (@tc23) (@tc25)) (And.intro (@tc3) (@tc39))))) (And.intro (And.intro (And.intro (And.intro (@tc4) (@tc42)) (And.intro (@tc5) (@tc70))) (And.intro (And.intro (@tc88) (@tc89)) (And.intro (@tc9) (@tc91)))) (And.intro (And.intro (And.intro (@tf146_0) (@tf146_1)) (And.intro (@tf25_0) (@tf25_1))) (And.intro (And.intro (@tf42_0) (@tf42_1)) (And.intro (@tf91_0) (And.intro (@tf91_1) (@tk129)))))))) (And.intro (And.intro (And.intro (And.intro (And.intro (And.intro (@tk146) (@tk147)) (And.intro (@tk22) (@tk23))) (And.intro (And.intro (@tk25) (@tk3)) (And.intro (@tk39) (@tk4)))) (And.intro (And.intro (And.intro (@tk42) (@tk5)) (And.intro (@tk70) (@tk88))) (And.intro (And.intro (@tk89) (@tk9)) (And.intro (@tk91) (@tl22))))) (And.intro (And.intro (And.intro (And.intro (@tl23) (@tl39)) (And.intro (@tl49) (@tl59))) (And.intro (And.intro (@tl89) (@tl9)) (And.intro (@tp146) (@tp25)))) (And.intro (And.intro (And.intro (@tp42) (@ts105)) (And.intro (@ts129) (@ts134))) (And.intro (And.intro (@ts144) (@ts147)) (And.intro (@ts21) (And.intro (@ts22) (@ts23))))))) (And.intro (And.intro (And.intro (And.intro (And.intro (@ts3) (@ts39)) (And.intro (@ts49) (@ts5))) (And.intro (And.intro (@ts59) (@ts68)) (And.intro (@ts70) (@ts88)))) (And.intro (And.intro (And.intro (@ts89) (@ts9)) (And.intro (@ty146) (@ty25))) (And.intro (And.intro (@ty3) (@ty4)) (And.intro (@ty5) (@ty70))))) (And.intro (And.intro (And.intro (And.intro (@ty9) (@tz129)) (And.intro (@tz146) (@tz147))) (And.intro (And.intro (@tz22) (@tz23)) (And.intro (@tz25) (@tz3)))) (And.intro (And.intro (And.intro (@tz39) (@tz4)) (And.intro (@tz42) (@tz5))) (And.intro (And.intro (@tz70) (@tz88)) (And.intro (@tz89) (And.intro (@tz9) (@tz91)))))))))
end Go.Proofs.YtamghpnjdohnjaaDoor.Sx
