import Derived.Test.YtngcbfmnjfghjaaUse
namespace Go.Proofs.Ytngcbfmnjfghjaa.Sx
open Go
theorem _root_.Go.Proofs.Try.mixed : Try.prog.follows .mixedOrders = true := by kernel_rfl
theorem cb10 : callsB Try.prog 10 = true := by kernel_rfl
theorem cb11 : callsB Try.prog 11 = true := by kernel_rfl
theorem cb12 : callsB Try.prog 12 = true := by kernel_rfl
theorem cb13 : callsB Try.prog 13 = true := by kernel_rfl
theorem cb14 : callsB Try.prog 14 = true := by kernel_rfl
theorem cb15 : callsB Try.prog 15 = true := by kernel_rfl
theorem cb16 : callsB Try.prog 16 = true := by kernel_rfl
theorem cb17 : callsB Try.prog 17 = true := by kernel_rfl
theorem cb18 : callsB Try.prog 18 = true := by kernel_rfl
theorem cb19 : callsB Try.prog 19 = true := by kernel_rfl
theorem cb2 : callsB Try.prog 2 = true := by kernel_rfl
theorem cb20 : callsB Try.prog 20 = true := by kernel_rfl
theorem cb21 : callsB Try.prog 21 = true := by kernel_rfl
theorem cb22 : callsB Try.prog 22 = true := by kernel_rfl
theorem cb23 : callsB Try.prog 23 = true := by kernel_rfl
theorem cb24 : callsB Try.prog 24 = true := by kernel_rfl
theorem cb25 : callsB Try.prog 25 = true := by kernel_rfl
theorem cb26 : callsB Try.prog 26 = true := by kernel_rfl
theorem cb27 : callsB Try.prog 27 = true := by kernel_rfl
theorem cb28 : callsB Try.prog 28 = true := by kernel_rfl
theorem cb29 : callsB Try.prog 29 = true := by kernel_rfl
theorem cb3 : callsB Try.prog 3 = true := by kernel_rfl
theorem cb30 : callsB Try.prog 30 = true := by kernel_rfl
theorem cb31 : callsB Try.prog 31 = true := by kernel_rfl
theorem cb32 : callsB Try.prog 32 = true := by kernel_rfl
theorem cb33 : callsB Try.prog 33 = true := by kernel_rfl
theorem cb34 : callsB Try.prog 34 = true := by kernel_rfl
theorem cb35 : callsB Try.prog 35 = true := by kernel_rfl
theorem cb36 : callsB Try.prog 36 = true := by kernel_rfl
theorem cb37 : callsB Try.prog 37 = true := by kernel_rfl
theorem cb38 : callsB Try.prog 38 = true := by kernel_rfl
theorem cb4 : callsB Try.prog 4 = true := by kernel_rfl
theorem cb5 : callsB Try.prog 5 = true := by kernel_rfl
theorem cb6 : callsB Try.prog 6 = true := by kernel_rfl
theorem cb7 : callsB Try.prog 7 = true := by kernel_rfl
theorem cb8 : callsB Try.prog 8 = true := by kernel_rfl
theorem cb9 : callsB Try.prog 9 = true := by kernel_rfl
theorem tA24 : arrT Try.prog 24 = none := by kernel_rfl
theorem tA29 : arrT Try.prog 29 = none := by kernel_rfl
theorem tA35 : arrT Try.prog 35 = none := by kernel_rfl
theorem tA38 : arrT Try.prog 38 = none := by kernel_rfl
theorem tA41 : arrT Try.prog 41 = none := by kernel_rfl
theorem tA48 : arrT Try.prog 48 = none := by kernel_rfl
theorem tA54 : arrT Try.prog 54 = none := by kernel_rfl
theorem tS29 : slcT Try.prog 29 = some 41 := by kernel_rfl
theorem tS35 : slcT Try.prog 35 = some 3 := by kernel_rfl
theorem tS48 : slcT Try.prog 48 = some 24 := by kernel_rfl
theorem tb4 : isBoolT Try.prog 4 = true := by kernel_rfl
theorem tc24 : zeroC Try.prog 24 = some [.int .i64 0, .int .i64 0, .int .i64 0, .int .i64 0, .int .i64 0, .bool false] := by kernel_rfl
theorem tc29 : zeroC Try.prog 29 = some [.slice none 0 0] := by kernel_rfl
theorem tc3 : zeroC Try.prog 3 = some [.int .i64 0] := by kernel_rfl
theorem tc35 : zeroC Try.prog 35 = some [.slice none 0 0] := by kernel_rfl
theorem tc38 : zeroC Try.prog 38 = some [.slice none 0 0, .int .i64 0] := by kernel_rfl
theorem tc4 : zeroC Try.prog 4 = some [.bool false] := by kernel_rfl
theorem tc41 : zeroC Try.prog 41 = some [.int .i64 0, .int .i64 0, .int .i64 0, .int .i64 0, .int .i64 0] := by kernel_rfl
theorem tc54 : zeroC Try.prog 54 = some [.int .i64 0, .int .i64 0, .int .i64 0, .int .i64 0, .int .i64 0, .bool false] := by kernel_rfl
theorem tf24_0 : fOff Try.prog 24 0 = some (0, 3) := by kernel_rfl
theorem tf24_1 : fOff Try.prog 24 1 = some (1, 3) := by kernel_rfl
theorem tf24_2 : fOff Try.prog 24 2 = some (2, 3) := by kernel_rfl
theorem tf24_3 : fOff Try.prog 24 3 = some (3, 3) := by kernel_rfl
theorem tf24_4 : fOff Try.prog 24 4 = some (4, 3) := by kernel_rfl
theorem tf24_5 : fOff Try.prog 24 5 = some (5, 4) := by kernel_rfl
theorem tf38_0 : fOff Try.prog 38 0 = some (0, 35) := by kernel_rfl
theorem tf38_1 : fOff Try.prog 38 1 = some (1, 3) := by kernel_rfl
theorem tf41_0 : fOff Try.prog 41 0 = some (0, 3) := by kernel_rfl
theorem tf41_3 : fOff Try.prog 41 3 = some (3, 3) := by kernel_rfl
theorem tf41_4 : fOff Try.prog 41 4 = some (4, 3) := by kernel_rfl
theorem tf54_0 : fOff Try.prog 54 0 = some (0, 24) := by kernel_rfl
theorem tk24 : kindT Try.prog 24 = some true := by kernel_rfl
theorem tk29 : kindT Try.prog 29 = some false := by kernel_rfl
theorem tk3 : kindT Try.prog 3 = some false := by kernel_rfl
theorem tk35 : kindT Try.prog 35 = some false := by kernel_rfl
theorem tk38 : kindT Try.prog 38 = some true := by kernel_rfl
theorem tk4 : kindT Try.prog 4 = some false := by kernel_rfl
theorem tk41 : kindT Try.prog 41 = some true := by kernel_rfl
theorem tk54 : kindT Try.prog 54 = some true := by kernel_rfl
theorem tl29 : isSliceT Try.prog 29 = true := by kernel_rfl
theorem tl35 : isSliceT Try.prog 35 = true := by kernel_rfl
theorem tl48 : isSliceT Try.prog 48 = true := by kernel_rfl
theorem tp24 : placesT Try.prog 24 = some [(0, 1, false), (1, 1, false), (2, 1, false), (3, 1, false), (4, 1, false), (5, 1, false)] := by kernel_rfl
theorem tp38 : placesT Try.prog 38 = some [(0, 1, false), (1, 1, false)] := by kernel_rfl
theorem tp41 : placesT Try.prog 41 = some [(0, 1, false), (1, 1, false), (2, 1, false), (3, 1, false), (4, 1, false)] := by kernel_rfl
theorem tp54 : placesT Try.prog 54 = some [(0, 6, true)] := by kernel_rfl
theorem tq24 : flatK Try.prog 24 = some [(0, 0), (1, 0), (2, 0), (3, 0), (4, 0), (5, 1)] := by kernel_rfl
theorem tq41 : flatK Try.prog 41 = some [(0, 0), (1, 0), (2, 0), (3, 0), (4, 0)] := by kernel_rfl
theorem ts29 : isStrT Try.prog 29 = false := by kernel_rfl
theorem ts35 : isStrT Try.prog 35 = false := by kernel_rfl
theorem ts48 : isStrT Try.prog 48 = false := by kernel_rfl
theorem ty24 : byO Try.prog 24 = some 48 := by kernel_rfl
theorem ty3 : byO Try.prog 3 = some 8 := by kernel_rfl
theorem ty41 : byO Try.prog 41 = some 40 := by kernel_rfl
theorem tz24 : szO Try.prog 24 = some 6 := by kernel_rfl
theorem tz29 : szO Try.prog 29 = some 1 := by kernel_rfl
theorem tz3 : szO Try.prog 3 = some 1 := by kernel_rfl
theorem tz35 : szO Try.prog 35 = some 1 := by kernel_rfl
theorem tz38 : szO Try.prog 38 = some 2 := by kernel_rfl
theorem tz4 : szO Try.prog 4 = some 1 := by kernel_rfl
theorem tz41 : szO Try.prog 41 = some 5 := by kernel_rfl
theorem tz54 : szO Try.prog 54 = some 6 := by kernel_rfl
set_option linter.defProp false
def sxB := And.intro (And.intro (And.intro (And.intro (And.intro (And.intro (And.intro (@loadX.eq_1) (@loadX.eq_2)) (And.intro (@loadX.eq_3) (@loadX.eq_4))) (And.intro (And.intro (@loadX.eq_5) (@loadX.eq_6)) (And.intro (@fldA.eq_1) (And.intro (@fldA.eq_2) (@fldA.eq_3))))) (And.intro (And.intro (And.intro (@isPt_p) (@addP_p)) (And.intro (@List.toList_toArray.{0}) (And.intro (@stepG.eq_1) (@stepG.eq_2)))) (And.intro (And.intro (@fin.eq_1) (@fin.eq_2)) (And.intro (@fin.eq_3) (And.intro (@fin.eq_4) (@fin.eq_5)))))) (And.intro (And.intro (And.intro (And.intro (@fin.eq_6) (@fin.eq_7)) (And.intro (@finG.eq_1) (@finG.eq_2))) (And.intro (And.intro (@finG.eq_3) (@finG.eq_4)) (And.intro (@brv_true) (And.intro (@brv_false) (@condK.eq_1))))) (And.intro (And.intro (And.intro (@rowS.eq_1) (@rowS.eq_2)) (And.intro (@mentL_append) (And.intro (@mentL_ext) (@mentL_extf)))) (And.intro (And.intro (@one_bool) (@one_int)) (And.intro (@one_str) (And.intro (@one_ptr) (@one_sli))))))) (And.intro (And.intro (And.intro (And.intro (And.intro (@one_map) (@one_fun)) (And.intro (@one_nf) (@one_ni))) (And.intro (And.intro (@one_if) (@one_agg)) (And.intro (@one_tup) (And.intro (@List.getElem?_cons_zero.{0}) (@List.getElem?_cons_succ.{0}))))) (And.intro (And.intro (And.intro (@List.drop_zero.{0}) (@List.drop_succ_cons.{0})) (And.intro (@List.take_zero.{0}) (And.intro (@List.take_succ_cons.{0}) (@List.take_nil.{0})))) (And.intro (And.intro (@List.drop_nil.{0}) (@List.map_cons.{0, 0})) (And.intro (@List.map_nil.{0, 0}) (And.intro (@List.length_cons.{0}) (@List.length_nil.{0})))))) (And.intro (And.intro (And.intro (And.intro (@List.append_nil.{0}) (@List.cons_append.{0})) (And.intro (@List.nil_append.{0}) (@List.set_cons_zero.{0}))) (And.intro (And.intro (@List.set_cons_succ.{0}) (@List.all_cons.{0})) (And.intro (@List.all_nil.{0}) (And.intro (@List.mem_cons.{0}) (@List.not_mem_nil.{0}))))) (And.intro (And.intro (And.intro (@Option.bind_some.{0, 0}) (@Option.map_some.{0, 0})) (And.intro (@Option.map_none.{0, 0}) (And.intro (@true_and) (@and_true)))) (And.intro (And.intro (@and_self) (@true_implies)) (And.intro (@false_implies) (And.intro (@imp_self) (@Bool.cond_false_right)))))))) (And.intro (And.intro (And.intro (And.intro (And.intro (And.intro (@Bool.cond_true_left) (@beq_true)) (And.intro (@beq_false) (@Bool.not_eq_true'))) (And.intro (And.intro (@Bool.not_true) (@Bool.not_false)) (And.intro (@Bool.true_and) (And.intro (@Bool.and_true) (@Bool.false_and))))) (And.intro (And.intro (And.intro (@Bool.and_false) (@Bool.or_false)) (And.intro (@Bool.false_or) (And.intro (@Bool.or_true) (@Bool.true_or)))) (And.intro (And.intro (@decide_true) (@decide_false)) (And.intro (@Bool.false_eq_true) (And.intro (@Bool.true_eq_false) (@false_or)))))) (And.intro (And.intro (And.intro (And.intro (@true_or) (@or_true)) (And.intro (@or_false) (@or_self))) (And.intro (And.intro (@List.contains_nil.{0}) (@List.contains_cons.{0})) (And.intro (@List.size_toArray.{0}) (And.intro (@List.getElem?_toArray.{0}) (@Option.isSome_some.{0}))))) (And.intro (And.intro (And.intro (@Option.isSome_none.{0}) (@Nat.zero_add)) (And.intro (@Nat.add_zero) (And.intro (@Int.toNat_natCast) (@okR.eq_1)))) (And.intro (And.intro (@okR.eq_2) (@okR.eq_3)) (And.intro (@okR.eq_4) (And.intro (@okR.eq_5) (@okR.eq_6))))))) (And.intro (And.intro (And.intro (And.intro (And.intro (@finD.eq_1) (@finD.eq_2)) (And.intro (@finD.eq_3) (@finD.eq_4))) (And.intro (And.intro (@finD.eq_5) (@finD.eq_6)) (And.intro (@finD.eq_7) (And.intro (@finGD.eq_1) (@finGD.eq_2))))) (And.intro (And.intro (And.intro (@finGD.eq_3) (@finGD.eq_4)) (And.intro (@stepGD.eq_1) (And.intro (@stepGD.eq_2) (@isSl_s)))) (And.intro (And.intro (@slen_s) (@scap_s)) (And.intro (@nilS_s) (And.intro (@Option.isNone_none.{0}) (@Option.isNone_some.{0})))))) (And.intro (And.intro (And.intro (And.intro (@vc.eq_1) (@vc.eq_2)) (And.intro (@vc.eq_3) (@vc.eq_4))) (And.intro (And.intro (@vc.eq_5) (@vc.eq_7)) (And.intro (@vc.eq_8) (And.intro (@vc.eq_9) (@vc.eq_10))))) (And.intro (And.intro (And.intro (@vc.eq_11) (@vc.eq_12)) (And.intro (@vc.eq_13) (And.intro (@seqK_false) (@seqK_true)))) (And.intro (And.intro (@vcX_marks) (@vc_exit)) (And.intro (@vcX_blk) (And.intro (@vcX_code) (@vcX_stop))))))))
def sxTab := And.intro (And.intro (And.intro (And.intro (And.intro (And.intro (@cb10) (And.intro (@cb11) (@cb12))) (And.intro (@cb13) (And.intro (@cb14) (@cb15)))) (And.intro (And.intro (@cb16) (And.intro (@cb17) (@cb18))) (And.intro (@cb19) (And.intro (@cb2) (@cb20))))) (And.intro (And.intro (And.intro (@cb21) (And.intro (@cb22) (@cb23))) (And.intro (@cb24) (And.intro (@cb25) (@cb26)))) (And.intro (And.intro (@cb27) (And.intro (@cb28) (@cb29))) (And.intro (@cb3) (And.intro (@cb30) (@cb31)))))) (And.intro (And.intro (And.intro (And.intro (@cb32) (And.intro (@cb33) (@cb34))) (And.intro (@cb35) (And.intro (@cb36) (@cb37)))) (And.intro (And.intro (@cb38) (And.intro (@cb4) (@cb5))) (And.intro (@cb6) (And.intro (@cb7) (@cb8))))) (And.intro (And.intro (And.intro (@cb9) (And.intro (@tA24) (@tA29))) (And.intro (@tA35) (And.intro (@tA38) (@tA41)))) (And.intro (And.intro (@tA48) (And.intro (@tA54) (@tS29))) (And.intro (And.intro (@tS35) (@tS48)) (And.intro (@tb4) (@tc24))))))) (And.intro (And.intro (And.intro (And.intro (And.intro (@tc29) (And.intro (@tc3) (@tc35))) (And.intro (@tc38) (And.intro (@tc4) (@tc41)))) (And.intro (And.intro (@tc54) (And.intro (@tf24_0) (@tf24_1))) (And.intro (@tf24_2) (And.intro (@tf24_3) (@tf24_4))))) (And.intro (And.intro (And.intro (@tf24_5) (And.intro (@tf38_0) (@tf38_1))) (And.intro (@tf41_0) (And.intro (@tf41_3) (@tf41_4)))) (And.intro (And.intro (@tf54_0) (And.intro (@tk24) (@tk29))) (And.intro (And.intro (@tk3) (@tk35)) (And.intro (@tk38) (@tk4)))))) (And.intro (And.intro (And.intro (And.intro (@tk41) (And.intro (@tk54) (@tl29))) (And.intro (@tl35) (And.intro (@tl48) (@tp24)))) (And.intro (And.intro (@tp38) (And.intro (@tp41) (@tp54))) (And.intro (@tq24) (And.intro (@tq41) (@ts29))))) (And.intro (And.intro (And.intro (@ts35) (And.intro (@ts48) (@ty24))) (And.intro (@ty3) (And.intro (@ty41) (@tz24)))) (And.intro (And.intro (@tz29) (And.intro (@tz3) (@tz35))) (And.intro (And.intro (@tz38) (@tz4)) (And.intro (@tz41) (@tz54)))))))
end Go.Proofs.Ytngcbfmnjfghjaa.Sx
