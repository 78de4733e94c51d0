import Derived.Test.YtncbbbappadcfaaUse
namespace Go.Proofs.Ytncbbbappadcfaa.Sx
open Go
theorem _root_.Go.Proofs.Try.mixed : Try.prog.follows .mixedOrders = true := by kernel_rfl
theorem cb10 : callsB Try.prog 10 = true := by kernel_rfl
theorem cb11 : callsB Try.prog 11 = true := by kernel_rfl
theorem cb12 : callsB Try.prog 12 = true := by kernel_rfl
theorem cb13 : callsB Try.prog 13 = true := by kernel_rfl
theorem cb14 : callsB Try.prog 14 = true := by kernel_rfl
theorem cb15 : callsB Try.prog 15 = true := by kernel_rfl
theorem cb16 : callsB Try.prog 16 = true := by kernel_rfl
theorem cb17 : callsB Try.prog 17 = true := by kernel_rfl
theorem cb18 : callsB Try.prog 18 = true := by kernel_rfl
theorem cb19 : callsB Try.prog 19 = true := by kernel_rfl
theorem cb2 : callsB Try.prog 2 = true := by kernel_rfl
theorem cb20 : callsB Try.prog 20 = true := by kernel_rfl
theorem cb21 : callsB Try.prog 21 = true := by kernel_rfl
theorem cb22 : callsB Try.prog 22 = true := by kernel_rfl
theorem cb23 : callsB Try.prog 23 = true := by kernel_rfl
theorem cb24 : callsB Try.prog 24 = true := by kernel_rfl
theorem cb25 : callsB Try.prog 25 = true := by kernel_rfl
theorem cb26 : callsB Try.prog 26 = true := by kernel_rfl
theorem cb27 : callsB Try.prog 27 = true := by kernel_rfl
theorem cb28 : callsB Try.prog 28 = true := by kernel_rfl
theorem cb29 : callsB Try.prog 29 = true := by kernel_rfl
theorem cb3 : callsB Try.prog 3 = true := by kernel_rfl
theorem cb30 : callsB Try.prog 30 = true := by kernel_rfl
theorem cb31 : callsB Try.prog 31 = true := by kernel_rfl
theorem cb32 : callsB Try.prog 32 = true := by kernel_rfl
theorem cb33 : callsB Try.prog 33 = true := by kernel_rfl
theorem cb34 : callsB Try.prog 34 = true := by kernel_rfl
theorem cb35 : callsB Try.prog 35 = true := by kernel_rfl
theorem cb36 : callsB Try.prog 36 = true := by kernel_rfl
theorem cb37 : callsB Try.prog 37 = true := by kernel_rfl
theorem cb38 : callsB Try.prog 38 = true := by kernel_rfl
theorem cb39 : callsB Try.prog 39 = true := by kernel_rfl
theorem cb4 : callsB Try.prog 4 = true := by kernel_rfl
theorem cb40 : callsB Try.prog 40 = true := by kernel_rfl
theorem cb41 : callsB Try.prog 41 = true := by kernel_rfl
theorem cb42 : callsB Try.prog 42 = true := by kernel_rfl
theorem cb43 : callsB Try.prog 43 = true := by kernel_rfl
theorem cb44 : callsB Try.prog 44 = true := by kernel_rfl
theorem cb45 : callsB Try.prog 45 = true := by kernel_rfl
theorem cb46 : callsB Try.prog 46 = true := by kernel_rfl
theorem cb47 : callsB Try.prog 47 = true := by kernel_rfl
theorem cb48 : callsB Try.prog 48 = true := by kernel_rfl
theorem cb49 : callsB Try.prog 49 = true := by kernel_rfl
theorem cb5 : callsB Try.prog 5 = true := by kernel_rfl
theorem cb50 : callsB Try.prog 50 = true := by kernel_rfl
theorem cb51 : callsB Try.prog 51 = true := by kernel_rfl
theorem cb53 : callsB Try.prog 53 = true := by kernel_rfl
theorem cb54 : callsB Try.prog 54 = true := by kernel_rfl
theorem cb55 : callsB Try.prog 55 = true := by kernel_rfl
theorem cb57 : callsB Try.prog 57 = true := by kernel_rfl
theorem cb58 : callsB Try.prog 58 = true := by kernel_rfl
theorem cb59 : callsB Try.prog 59 = true := by kernel_rfl
theorem cb6 : callsB Try.prog 6 = true := by kernel_rfl
theorem cb60 : callsB Try.prog 60 = true := by kernel_rfl
theorem cb62 : callsB Try.prog 62 = true := by kernel_rfl
theorem cb7 : callsB Try.prog 7 = true := by kernel_rfl
theorem cb8 : callsB Try.prog 8 = true := by kernel_rfl
theorem cb9 : callsB Try.prog 9 = true := by kernel_rfl
theorem tA22 : arrT Try.prog 22 = none := by kernel_rfl
theorem tA25 : arrT Try.prog 25 = none := by kernel_rfl
theorem tA33 : arrT Try.prog 33 = none := by kernel_rfl
theorem tA41 : arrT Try.prog 41 = none := by kernel_rfl
theorem tA42 : arrT Try.prog 42 = none := by kernel_rfl
theorem tA45 : arrT Try.prog 45 = none := by kernel_rfl
theorem tA49 : arrT Try.prog 49 = none := by kernel_rfl
theorem tA53 : arrT Try.prog 53 = some (256, 4) := by kernel_rfl
theorem tA70 : arrT Try.prog 70 = none := by kernel_rfl
theorem tA77 : arrT Try.prog 77 = some (256, 4) := by kernel_rfl
theorem tA9 : arrT Try.prog 9 = none := by kernel_rfl
theorem tI21 : intT Try.prog 21 = some .i32 := by kernel_rfl
theorem tI3 : intT Try.prog 3 = some .i64 := by kernel_rfl
theorem tI49 : intT Try.prog 49 = none := by kernel_rfl
theorem tI5 : intT Try.prog 5 = some .u8 := by kernel_rfl
theorem tI50 : intT Try.prog 50 = none := by kernel_rfl
theorem tI81 : intT Try.prog 81 = none := by kernel_rfl
theorem tI85 : intT Try.prog 85 = some .u32 := by kernel_rfl
theorem tI9 : intT Try.prog 9 = none := by kernel_rfl
theorem tS22 : slcT Try.prog 22 = some 3 := by kernel_rfl
theorem tS33 : slcT Try.prog 33 = some 9 := by kernel_rfl
theorem tS42 : slcT Try.prog 42 = some 41 := by kernel_rfl
theorem tS45 : slcT Try.prog 45 = some 70 := by kernel_rfl
theorem tS49 : slcT Try.prog 49 = some 5 := by kernel_rfl
theorem tS53 : slcT Try.prog 53 = none := by kernel_rfl
theorem tS77 : slcT Try.prog 77 = none := by kernel_rfl
theorem tS9 : slcT Try.prog 9 = none := by kernel_rfl
theorem tb4 : isBoolT Try.prog 4 = true := by kernel_rfl
theorem tc22 : zeroC Try.prog 22 = some [.slice none 0 0] := by kernel_rfl
theorem tc25 : zeroC Try.prog 25 = some [.slice none 0 0, .int .i64 0] := by kernel_rfl
theorem tc3 : zeroC Try.prog 3 = some [.int .i64 0] := by kernel_rfl
theorem tc33 : zeroC Try.prog 33 = some [.slice none 0 0] := by kernel_rfl
theorem tc4 : zeroC Try.prog 4 = some [.bool false] := by kernel_rfl
theorem tc41 : zeroC Try.prog 41 = some [.string ⟨#[]⟩, .slice none 0 0] := by kernel_rfl
theorem tc49 : zeroC Try.prog 49 = some [.slice none 0 0] := by kernel_rfl
theorem tc5 : zeroC Try.prog 5 = some [.int .u8 0] := by kernel_rfl
theorem tc50 : zeroC Try.prog 50 = some [.pointer none] := by kernel_rfl
theorem tc52 : zeroC Try.prog 52 = some [.pointer none, .slice none 0 0] := by kernel_rfl
theorem tc53 : zeroC Try.prog 53 = some (List.replicate 256 (.bool false)) := by kernel_rfl
theorem tc70 : zeroC Try.prog 70 = some [.string ⟨#[]⟩, .string ⟨#[]⟩, .int .i64 0] := by kernel_rfl
theorem tc77 : zeroC Try.prog 77 = some (List.replicate 256 (.bool false)) := by kernel_rfl
theorem tc9 : zeroC Try.prog 9 = some [.string ⟨#[]⟩] := by kernel_rfl
theorem tf25_0 : fOff Try.prog 25 0 = some (0, 22) := by kernel_rfl
theorem tf25_1 : fOff Try.prog 25 1 = some (1, 3) := by kernel_rfl
theorem tf41_0 : fOff Try.prog 41 0 = some (0, 9) := by kernel_rfl
theorem tf41_1 : fOff Try.prog 41 1 = some (1, 33) := by kernel_rfl
theorem tf52_0 : fOff Try.prog 52 0 = some (0, 50) := by kernel_rfl
theorem tf52_1 : fOff Try.prog 52 1 = some (1, 49) := by kernel_rfl
theorem tf70_0 : fOff Try.prog 70 0 = some (0, 9) := by kernel_rfl
theorem tf70_1 : fOff Try.prog 70 1 = some (1, 9) := by kernel_rfl
theorem tf70_2 : fOff Try.prog 70 2 = some (2, 3) := by kernel_rfl
theorem tk22 : kindT Try.prog 22 = some false := by kernel_rfl
theorem tk25 : kindT Try.prog 25 = some true := by kernel_rfl
theorem tk3 : kindT Try.prog 3 = some false := by kernel_rfl
theorem tk33 : kindT Try.prog 33 = some false := by kernel_rfl
theorem tk4 : kindT Try.prog 4 = some false := by kernel_rfl
theorem tk41 : kindT Try.prog 41 = some true := by kernel_rfl
theorem tk49 : kindT Try.prog 49 = some false := by kernel_rfl
theorem tk5 : kindT Try.prog 5 = some false := by kernel_rfl
theorem tk50 : kindT Try.prog 50 = some false := by kernel_rfl
theorem tk52 : kindT Try.prog 52 = some true := by kernel_rfl
theorem tk53 : kindT Try.prog 53 = some true := by kernel_rfl
theorem tk70 : kindT Try.prog 70 = some true := by kernel_rfl
theorem tk77 : kindT Try.prog 77 = some true := by kernel_rfl
theorem tk9 : kindT Try.prog 9 = some false := by kernel_rfl
theorem tl22 : isSliceT Try.prog 22 = true := by kernel_rfl
theorem tl33 : isSliceT Try.prog 33 = true := by kernel_rfl
theorem tl42 : isSliceT Try.prog 42 = true := by kernel_rfl
theorem tl45 : isSliceT Try.prog 45 = true := by kernel_rfl
theorem tl49 : isSliceT Try.prog 49 = true := by kernel_rfl
theorem tl9 : isSliceT Try.prog 9 = false := by kernel_rfl
theorem tp25 : placesT Try.prog 25 = some [(0, 1, false), (1, 1, false)] := by kernel_rfl
theorem tp41 : placesT Try.prog 41 = some [(0, 1, false), (1, 1, false)] := by kernel_rfl
theorem tp70 : placesT Try.prog 70 = some [(0, 1, false), (1, 1, false), (2, 1, false)] := by kernel_rfl
theorem ts21 : isStrT Try.prog 21 = false := by kernel_rfl
theorem ts22 : isStrT Try.prog 22 = false := by kernel_rfl
theorem ts3 : isStrT Try.prog 3 = false := by kernel_rfl
theorem ts33 : isStrT Try.prog 33 = false := by kernel_rfl
theorem ts42 : isStrT Try.prog 42 = false := by kernel_rfl
theorem ts45 : isStrT Try.prog 45 = false := by kernel_rfl
theorem ts49 : isStrT Try.prog 49 = false := by kernel_rfl
theorem ts5 : isStrT Try.prog 5 = false := by kernel_rfl
theorem ts50 : isStrT Try.prog 50 = false := by kernel_rfl
theorem ts53 : isStrT Try.prog 53 = false := by kernel_rfl
theorem ts77 : isStrT Try.prog 77 = false := by kernel_rfl
theorem ts81 : isStrT Try.prog 81 = false := by kernel_rfl
theorem ts85 : isStrT Try.prog 85 = false := by kernel_rfl
theorem ts9 : isStrT Try.prog 9 = true := by kernel_rfl
theorem ty3 : byO Try.prog 3 = some 8 := by kernel_rfl
theorem ty4 : byO Try.prog 4 = some 1 := by kernel_rfl
theorem ty41 : byO Try.prog 41 = some 40 := by kernel_rfl
theorem ty5 : byO Try.prog 5 = some 1 := by kernel_rfl
theorem ty70 : byO Try.prog 70 = some 40 := by kernel_rfl
theorem ty9 : byO Try.prog 9 = some 16 := by kernel_rfl
theorem tz22 : szO Try.prog 22 = some 1 := by kernel_rfl
theorem tz25 : szO Try.prog 25 = some 2 := by kernel_rfl
theorem tz3 : szO Try.prog 3 = some 1 := by kernel_rfl
theorem tz33 : szO Try.prog 33 = some 1 := by kernel_rfl
theorem tz4 : szO Try.prog 4 = some 1 := by kernel_rfl
theorem tz41 : szO Try.prog 41 = some 2 := by kernel_rfl
theorem tz49 : szO Try.prog 49 = some 1 := by kernel_rfl
theorem tz5 : szO Try.prog 5 = some 1 := by kernel_rfl
theorem tz50 : szO Try.prog 50 = some 1 := by kernel_rfl
theorem tz52 : szO Try.prog 52 = some 2 := by kernel_rfl
theorem tz53 : szO Try.prog 53 = some 256 := by kernel_rfl
theorem tz70 : szO Try.prog 70 = some 3 := by kernel_rfl
theorem tz77 : szO Try.prog 77 = some 256 := by kernel_rfl
theorem tz9 : szO Try.prog 9 = some 1 := by kernel_rfl
set_option linter.defProp false
def sxB := And.intro (And.intro (And.intro (And.intro (And.intro (And.intro (And.intro (@loadX.eq_1) (@loadX.eq_2)) (And.intro (@loadX.eq_3) (@loadX.eq_4))) (And.intro (And.intro (@loadX.eq_5) (@loadX.eq_6)) (And.intro (@fldA.eq_1) (And.intro (@fldA.eq_2) (@fldA.eq_3))))) (And.intro (And.intro (And.intro (@isPt_p) (@addP_p)) (And.intro (@List.toList_toArray.{0}) (And.intro (@stepG.eq_1) (@stepG.eq_2)))) (And.intro (And.intro (@fin.eq_1) (@fin.eq_2)) (And.intro (@fin.eq_3) (And.intro (@fin.eq_4) (@fin.eq_5)))))) (And.intro (And.intro (And.intro (And.intro (@fin.eq_6) (@fin.eq_7)) (And.intro (@finG.eq_1) (And.intro (@finG.eq_2) (@finG.eq_3)))) (And.intro (And.intro (@finG.eq_4) (@brv_true)) (And.intro (@brv_false) (And.intro (@condK.eq_1) (@rowS.eq_1))))) (And.intro (And.intro (And.intro (@rowS.eq_2) (@mentL_append)) (And.intro (@mentL_ext) (And.intro (@mentL_extf) (@one_bool)))) (And.intro (And.intro (@one_int) (@one_str)) (And.intro (@one_ptr) (And.intro (@one_sli) (@one_map))))))) (And.intro (And.intro (And.intro (And.intro (And.intro (@one_fun) (@one_nf)) (And.intro (@one_ni) (And.intro (@one_if) (@one_agg)))) (And.intro (And.intro (@one_tup) (@List.getElem?_cons_zero.{0})) (And.intro (@List.getElem?_cons_succ.{0}) (And.intro (@List.drop_zero.{0}) (@List.drop_succ_cons.{0}))))) (And.intro (And.intro (And.intro (@List.take_zero.{0}) (@List.take_succ_cons.{0})) (And.intro (@List.take_nil.{0}) (And.intro (@List.drop_nil.{0}) (@List.map_cons.{0, 0})))) (And.intro (And.intro (@List.map_nil.{0, 0}) (@List.length_cons.{0})) (And.intro (@List.length_nil.{0}) (And.intro (@List.append_nil.{0}) (@List.cons_append.{0})))))) (And.intro (And.intro (And.intro (And.intro (@List.nil_append.{0}) (@List.set_cons_zero.{0})) (And.intro (@List.set_cons_succ.{0}) (And.intro (@List.all_cons.{0}) (@List.all_nil.{0})))) (And.intro (And.intro (@List.mem_cons.{0}) (@List.not_mem_nil.{0})) (And.intro (@Option.bind_some.{0, 0}) (And.intro (@Option.map_some.{0, 0}) (@Option.map_none.{0, 0}))))) (And.intro (And.intro (And.intro (@true_and) (@and_true)) (And.intro (@and_self) (And.intro (@true_implies) (@false_implies)))) (And.intro (And.intro (@imp_self) (@Bool.cond_false_right)) (And.intro (@Bool.cond_true_left) (And.intro (@beq_true) (@beq_false)))))))) (And.intro (And.intro (And.intro (And.intro (And.intro (And.intro (@Bool.not_eq_true') (@Bool.not_true)) (And.intro (@Bool.not_false) (And.intro (@Bool.true_and) (@Bool.and_true)))) (And.intro (And.intro (@Bool.false_and) (@Bool.and_false)) (And.intro (@Bool.or_false) (And.intro (@Bool.false_or) (@Bool.or_true))))) (And.intro (And.intro (And.intro (@Bool.true_or) (@decide_true)) (And.intro (@decide_false) (And.intro (@Bool.false_eq_true) (@Bool.true_eq_false)))) (And.intro (And.intro (@false_or) (@true_or)) (And.intro (@or_true) (And.intro (@or_false) (@or_self)))))) (And.intro (And.intro (And.intro (And.intro (@List.contains_nil.{0}) (@List.contains_cons.{0})) (And.intro (@List.size_toArray.{0}) (And.intro (@List.getElem?_toArray.{0}) (@Option.isSome_some.{0})))) (And.intro (And.intro (@Option.isSome_none.{0}) (@Nat.zero_add)) (And.intro (@Nat.add_zero) (And.intro (@Int.toNat_natCast) (@okR.eq_1))))) (And.intro (And.intro (And.intro (@okR.eq_2) (@okR.eq_3)) (And.intro (@okR.eq_4) (And.intro (@okR.eq_5) (@okR.eq_6)))) (And.intro (And.intro (@finD.eq_1) (@finD.eq_2)) (And.intro (@finD.eq_3) (And.intro (@finD.eq_4) (@finD.eq_5))))))) (And.intro (And.intro (And.intro (And.intro (And.intro (@finD.eq_6) (@finD.eq_7)) (And.intro (@finGD.eq_1) (And.intro (@finGD.eq_2) (@finGD.eq_3)))) (And.intro (And.intro (@finGD.eq_4) (@stepGD.eq_1)) (And.intro (@stepGD.eq_2) (And.intro (@isSl_s) (@slen_s))))) (And.intro (And.intro (And.intro (@scap_s) (@nilS_s)) (And.intro (@Option.isNone_none.{0}) (And.intro (@Option.isNone_some.{0}) (@vc.eq_1)))) (And.intro (And.intro (@vc.eq_2) (@vc.eq_3)) (And.intro (@vc.eq_4) (And.intro (@vc.eq_5) (@vc.eq_7)))))) (And.intro (And.intro (And.intro (And.intro (@vc.eq_8) (@vc.eq_9)) (And.intro (@vc.eq_10) (And.intro (@vc.eq_11) (@vc.eq_12)))) (And.intro (And.intro (@vc.eq_13) (@seqK_false)) (And.intro (@seqK_true) (And.intro (@vcX_marks) (@vc_exit))))) (And.intro (And.intro (And.intro (@vcX_blk) (@vcX_code)) (And.intro (@vcX_stop) (And.intro (@aggA_nil) (@aggA_cons)))) (And.intro (And.intro (@slcG_gd) (@slcG_ext)) (And.intro (@slcG_slo) (And.intro (@cellsG.eq_1) (@cellsG.eq_2))))))))
def sxTab := And.intro (And.intro (And.intro (And.intro (And.intro (And.intro (And.intro (@cb10) (@cb11)) (And.intro (@cb12) (And.intro (@cb13) (@cb14)))) (And.intro (And.intro (@cb15) (@cb16)) (And.intro (@cb17) (And.intro (@cb18) (@cb19))))) (And.intro (And.intro (And.intro (@cb2) (@cb20)) (And.intro (@cb21) (And.intro (@cb22) (@cb23)))) (And.intro (And.intro (@cb24) (@cb25)) (And.intro (@cb26) (And.intro (@cb27) (@cb28)))))) (And.intro (And.intro (And.intro (And.intro (@cb29) (@cb3)) (And.intro (@cb30) (And.intro (@cb31) (@cb32)))) (And.intro (And.intro (@cb33) (@cb34)) (And.intro (@cb35) (And.intro (@cb36) (@cb37))))) (And.intro (And.intro (And.intro (@cb38) (@cb39)) (And.intro (@cb4) (And.intro (@cb40) (@cb41)))) (And.intro (And.intro (@cb42) (And.intro (@cb43) (@cb44))) (And.intro (@cb45) (And.intro (@cb46) (@cb47))))))) (And.intro (And.intro (And.intro (And.intro (And.intro (@cb48) (@cb49)) (And.intro (@cb5) (And.intro (@cb50) (@cb51)))) (And.intro (And.intro (@cb53) (@cb54)) (And.intro (@cb55) (And.intro (@cb57) (@cb58))))) (And.intro (And.intro (And.intro (@cb59) (@cb6)) (And.intro (@cb60) (And.intro (@cb62) (@cb7)))) (And.intro (And.intro (@cb8) (And.intro (@cb9) (@tA22))) (And.intro (@tA25) (And.intro (@tA33) (@tA41)))))) (And.intro (And.intro (And.intro (And.intro (@tA42) (@tA45)) (And.intro (@tA49) (And.intro (@tA53) (@tA70)))) (And.intro (And.intro (@tA77) (@tA9)) (And.intro (@tI21) (And.intro (@tI3) (@tI49))))) (And.intro (And.intro (And.intro (@tI5) (@tI50)) (And.intro (@tI81) (And.intro (@tI85) (@tI9)))) (And.intro (And.intro (@tS22) (And.intro (@tS33) (@tS42))) (And.intro (@tS45) (And.intro (@tS49) (@tS53)))))))) (And.intro (And.intro (And.intro (And.intro (And.intro (And.intro (@tS77) (@tS9)) (And.intro (@tb4) (And.intro (@tc22) (@tc25)))) (And.intro (And.intro (@tc3) (@tc33)) (And.intro (@tc4) (And.intro (@tc41) (@tc49))))) (And.intro (And.intro (And.intro (@tc5) (@tc50)) (And.intro (@tc52) (And.intro (@tc53) (@tc70)))) (And.intro (And.intro (@tc77) (@tc9)) (And.intro (@tf25_0) (And.intro (@tf25_1) (@tf41_0)))))) (And.intro (And.intro (And.intro (And.intro (@tf41_1) (@tf52_0)) (And.intro (@tf52_1) (And.intro (@tf70_0) (@tf70_1)))) (And.intro (And.intro (@tf70_2) (@tk22)) (And.intro (@tk25) (And.intro (@tk3) (@tk33))))) (And.intro (And.intro (And.intro (@tk4) (@tk41)) (And.intro (@tk49) (And.intro (@tk5) (@tk50)))) (And.intro (And.intro (@tk52) (And.intro (@tk53) (@tk70))) (And.intro (@tk77) (And.intro (@tk9) (@tl22))))))) (And.intro (And.intro (And.intro (And.intro (And.intro (@tl33) (@tl42)) (And.intro (@tl45) (And.intro (@tl49) (@tl9)))) (And.intro (And.intro (@tp25) (@tp41)) (And.intro (@tp70) (And.intro (@ts21) (@ts22))))) (And.intro (And.intro (And.intro (@ts3) (@ts33)) (And.intro (@ts42) (And.intro (@ts45) (@ts49)))) (And.intro (And.intro (@ts5) (And.intro (@ts50) (@ts53))) (And.intro (@ts77) (And.intro (@ts81) (@ts85)))))) (And.intro (And.intro (And.intro (And.intro (@ts9) (@ty3)) (And.intro (@ty4) (And.intro (@ty41) (@ty5)))) (And.intro (And.intro (@ty70) (@ty9)) (And.intro (@tz22) (And.intro (@tz25) (@tz3))))) (And.intro (And.intro (And.intro (@tz33) (@tz4)) (And.intro (@tz41) (And.intro (@tz49) (@tz5)))) (And.intro (And.intro (@tz50) (And.intro (@tz52) (@tz53))) (And.intro (@tz70) (And.intro (@tz77) (@tz9))))))))
end Go.Proofs.Ytncbbbappadcfaa.Sx
