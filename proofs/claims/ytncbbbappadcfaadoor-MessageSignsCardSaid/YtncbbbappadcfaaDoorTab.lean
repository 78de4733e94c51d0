import Derived.Test.YtncbbbappadcfaaDoorUse
namespace Go.Proofs.YtncbbbappadcfaaDoor.Sx
open Go
theorem _root_.Go.Proofs.Tryd.mixed : Tryd.prog.follows .mixedOrders = true := by kernel_rfl
theorem cb10 : callsB Tryd.prog 10 = true := by kernel_rfl
theorem cb11 : callsB Tryd.prog 11 = true := by kernel_rfl
theorem cb12 : callsB Tryd.prog 12 = true := by kernel_rfl
theorem cb13 : callsB Tryd.prog 13 = true := by kernel_rfl
theorem cb14 : callsB Tryd.prog 14 = true := by kernel_rfl
theorem cb15 : callsB Tryd.prog 15 = true := by kernel_rfl
theorem cb16 : callsB Tryd.prog 16 = true := by kernel_rfl
theorem cb17 : callsB Tryd.prog 17 = true := by kernel_rfl
theorem cb18 : callsB Tryd.prog 18 = true := by kernel_rfl
theorem cb19 : callsB Tryd.prog 19 = true := by kernel_rfl
theorem cb2 : callsB Tryd.prog 2 = true := by kernel_rfl
theorem cb20 : callsB Tryd.prog 20 = true := by kernel_rfl
theorem cb21 : callsB Tryd.prog 21 = true := by kernel_rfl
theorem cb22 : callsB Tryd.prog 22 = true := by kernel_rfl
theorem cb23 : callsB Tryd.prog 23 = true := by kernel_rfl
theorem cb24 : callsB Tryd.prog 24 = true := by kernel_rfl
theorem cb25 : callsB Tryd.prog 25 = true := by kernel_rfl
theorem cb26 : callsB Tryd.prog 26 = true := by kernel_rfl
theorem cb27 : callsB Tryd.prog 27 = true := by kernel_rfl
theorem cb28 : callsB Tryd.prog 28 = true := by kernel_rfl
theorem cb29 : callsB Tryd.prog 29 = true := by kernel_rfl
theorem cb3 : callsB Tryd.prog 3 = true := by kernel_rfl
theorem cb30 : callsB Tryd.prog 30 = true := by kernel_rfl
theorem cb31 : callsB Tryd.prog 31 = true := by kernel_rfl
theorem cb32 : callsB Tryd.prog 32 = true := by kernel_rfl
theorem cb33 : callsB Tryd.prog 33 = true := by kernel_rfl
theorem cb34 : callsB Tryd.prog 34 = true := by kernel_rfl
theorem cb35 : callsB Tryd.prog 35 = true := by kernel_rfl
theorem cb36 : callsB Tryd.prog 36 = true := by kernel_rfl
theorem cb37 : callsB Tryd.prog 37 = true := by kernel_rfl
theorem cb38 : callsB Tryd.prog 38 = true := by kernel_rfl
theorem cb39 : callsB Tryd.prog 39 = true := by kernel_rfl
theorem cb4 : callsB Tryd.prog 4 = true := by kernel_rfl
theorem cb40 : callsB Tryd.prog 40 = true := by kernel_rfl
theorem cb41 : callsB Tryd.prog 41 = true := by kernel_rfl
theorem cb42 : callsB Tryd.prog 42 = true := by kernel_rfl
theorem cb43 : callsB Tryd.prog 43 = true := by kernel_rfl
theorem cb44 : callsB Tryd.prog 44 = true := by kernel_rfl
theorem cb45 : callsB Tryd.prog 45 = true := by kernel_rfl
theorem cb46 : callsB Tryd.prog 46 = true := by kernel_rfl
theorem cb47 : callsB Tryd.prog 47 = true := by kernel_rfl
theorem cb48 : callsB Tryd.prog 48 = true := by kernel_rfl
theorem cb49 : callsB Tryd.prog 49 = true := by kernel_rfl
theorem cb5 : callsB Tryd.prog 5 = true := by kernel_rfl
theorem cb50 : callsB Tryd.prog 50 = true := by kernel_rfl
theorem cb51 : callsB Tryd.prog 51 = true := by kernel_rfl
theorem cb52 : callsB Tryd.prog 52 = true := by kernel_rfl
theorem cb53 : callsB Tryd.prog 53 = true := by kernel_rfl
theorem cb54 : callsB Tryd.prog 54 = true := by kernel_rfl
theorem cb55 : callsB Tryd.prog 55 = true := by kernel_rfl
theorem cb57 : callsB Tryd.prog 57 = true := by kernel_rfl
theorem cb58 : callsB Tryd.prog 58 = true := by kernel_rfl
theorem cb59 : callsB Tryd.prog 59 = true := by kernel_rfl
theorem cb6 : callsB Tryd.prog 6 = true := by kernel_rfl
theorem cb60 : callsB Tryd.prog 60 = true := by kernel_rfl
theorem cb61 : callsB Tryd.prog 61 = true := by kernel_rfl
theorem cb63 : callsB Tryd.prog 63 = true := by kernel_rfl
theorem cb64 : callsB Tryd.prog 64 = true := by kernel_rfl
theorem cb65 : callsB Tryd.prog 65 = true := by kernel_rfl
theorem cb66 : callsB Tryd.prog 66 = true := by kernel_rfl
theorem cb68 : callsB Tryd.prog 68 = true := by kernel_rfl
theorem cb7 : callsB Tryd.prog 7 = true := by kernel_rfl
theorem cb70 : callsB Tryd.prog 70 = true := by kernel_rfl
theorem cb71 : callsB Tryd.prog 71 = true := by kernel_rfl
theorem cb72 : callsB Tryd.prog 72 = true := by kernel_rfl
theorem cb8 : callsB Tryd.prog 8 = true := by kernel_rfl
theorem cb9 : callsB Tryd.prog 9 = true := by kernel_rfl
theorem cb94 : callsB Tryd.prog 94 = true := by kernel_rfl
theorem tA22 : arrT Tryd.prog 22 = none := by kernel_rfl
theorem tA27 : arrT Tryd.prog 27 = none := by kernel_rfl
theorem tA28 : arrT Tryd.prog 28 = none := by kernel_rfl
theorem tA31 : arrT Tryd.prog 31 = none := by kernel_rfl
theorem tA34 : arrT Tryd.prog 34 = none := by kernel_rfl
theorem tA39 : arrT Tryd.prog 39 = none := by kernel_rfl
theorem tA41 : arrT Tryd.prog 41 = none := by kernel_rfl
theorem tA46 : arrT Tryd.prog 46 = none := by kernel_rfl
theorem tA49 : arrT Tryd.prog 49 = none := by kernel_rfl
theorem tA57 : arrT Tryd.prog 57 = some (256, 4) := by kernel_rfl
theorem tA74 : arrT Tryd.prog 74 = none := by kernel_rfl
theorem tA86 : arrT Tryd.prog 86 = some (256, 4) := by kernel_rfl
theorem tA9 : arrT Tryd.prog 9 = none := by kernel_rfl
theorem tI21 : intT Tryd.prog 21 = some .i32 := by kernel_rfl
theorem tI3 : intT Tryd.prog 3 = some .i64 := by kernel_rfl
theorem tI5 : intT Tryd.prog 5 = some .u8 := by kernel_rfl
theorem tI53 : intT Tryd.prog 53 = none := by kernel_rfl
theorem tI82 : intT Tryd.prog 82 = some .u32 := by kernel_rfl
theorem tI9 : intT Tryd.prog 9 = none := by kernel_rfl
theorem tI90 : intT Tryd.prog 90 = none := by kernel_rfl
theorem tS22 : slcT Tryd.prog 22 = some 3 := by kernel_rfl
theorem tS28 : slcT Tryd.prog 28 = some 9 := by kernel_rfl
theorem tS31 : slcT Tryd.prog 31 = some 34 := by kernel_rfl
theorem tS49 : slcT Tryd.prog 49 = some 46 := by kernel_rfl
theorem tS54 : slcT Tryd.prog 54 = some 5 := by kernel_rfl
theorem tS57 : slcT Tryd.prog 57 = none := by kernel_rfl
theorem tS86 : slcT Tryd.prog 86 = none := by kernel_rfl
theorem tS9 : slcT Tryd.prog 9 = none := by kernel_rfl
theorem tc22 : zeroC Tryd.prog 22 = some [.slice none 0 0] := by kernel_rfl
theorem tc27 : zeroC Tryd.prog 27 = some [.slice none 0 0, .int .i64 0] := by kernel_rfl
theorem tc28 : zeroC Tryd.prog 28 = some [.slice none 0 0] := by kernel_rfl
theorem tc3 : zeroC Tryd.prog 3 = some [.int .i64 0] := by kernel_rfl
theorem tc31 : zeroC Tryd.prog 31 = some [.slice none 0 0] := by kernel_rfl
theorem tc34 : zeroC Tryd.prog 34 = some [.string ⟨#[]⟩, .string ⟨#[]⟩, .int .i64 0] := by kernel_rfl
theorem tc39 : zeroC Tryd.prog 39 = some [.string ⟨#[]⟩, .string ⟨#[]⟩] := by kernel_rfl
theorem tc4 : zeroC Tryd.prog 4 = some [.bool false] := by kernel_rfl
theorem tc41 : zeroC Tryd.prog 41 = some [.string ⟨#[]⟩, .slice none 0 0] := by kernel_rfl
theorem tc46 : zeroC Tryd.prog 46 = some [.string ⟨#[]⟩, .string ⟨#[]⟩, .int .i64 0, .string ⟨#[]⟩, .slice none 0 0] := by kernel_rfl
theorem tc5 : zeroC Tryd.prog 5 = some [.int .u8 0] := by kernel_rfl
theorem tc53 : zeroC Tryd.prog 53 = some [.pointer none] := by kernel_rfl
theorem tc54 : zeroC Tryd.prog 54 = some [.slice none 0 0] := by kernel_rfl
theorem tc56 : zeroC Tryd.prog 56 = some [.pointer none, .slice none 0 0] := by kernel_rfl
theorem tc57 : zeroC Tryd.prog 57 = some (List.replicate 256 (.bool false)) := by kernel_rfl
theorem tc74 : zeroC Tryd.prog 74 = some [.string ⟨#[]⟩, .string ⟨#[]⟩, .int .i64 0, .int .i64 0, .int .i64 0, .int .i64 0, .int .i64 0, .slice none 0 0] := by kernel_rfl
theorem tc86 : zeroC Tryd.prog 86 = some (List.replicate 256 (.bool false)) := by kernel_rfl
theorem tc9 : zeroC Tryd.prog 9 = some [.string ⟨#[]⟩] := by kernel_rfl
theorem tf27_0 : fOff Tryd.prog 27 0 = some (0, 22) := by kernel_rfl
theorem tf27_1 : fOff Tryd.prog 27 1 = some (1, 3) := by kernel_rfl
theorem tf34_0 : fOff Tryd.prog 34 0 = some (0, 9) := by kernel_rfl
theorem tf34_1 : fOff Tryd.prog 34 1 = some (1, 9) := by kernel_rfl
theorem tf34_2 : fOff Tryd.prog 34 2 = some (2, 3) := by kernel_rfl
theorem tf39_0 : fOff Tryd.prog 39 0 = some (0, 9) := by kernel_rfl
theorem tf39_1 : fOff Tryd.prog 39 1 = some (1, 9) := by kernel_rfl
theorem tf41_0 : fOff Tryd.prog 41 0 = some (0, 9) := by kernel_rfl
theorem tf41_1 : fOff Tryd.prog 41 1 = some (1, 28) := by kernel_rfl
theorem tf46_0 : fOff Tryd.prog 46 0 = some (0, 39) := by kernel_rfl
theorem tf46_1 : fOff Tryd.prog 46 1 = some (2, 3) := by kernel_rfl
theorem tf46_2 : fOff Tryd.prog 46 2 = some (3, 9) := by kernel_rfl
theorem tf46_3 : fOff Tryd.prog 46 3 = some (4, 31) := by kernel_rfl
theorem tf56_0 : fOff Tryd.prog 56 0 = some (0, 53) := by kernel_rfl
theorem tf56_1 : fOff Tryd.prog 56 1 = some (1, 54) := by kernel_rfl
theorem tk22 : kindT Tryd.prog 22 = some false := by kernel_rfl
theorem tk27 : kindT Tryd.prog 27 = some true := by kernel_rfl
theorem tk28 : kindT Tryd.prog 28 = some false := by kernel_rfl
theorem tk3 : kindT Tryd.prog 3 = some false := by kernel_rfl
theorem tk31 : kindT Tryd.prog 31 = some false := by kernel_rfl
theorem tk34 : kindT Tryd.prog 34 = some true := by kernel_rfl
theorem tk39 : kindT Tryd.prog 39 = some true := by kernel_rfl
theorem tk4 : kindT Tryd.prog 4 = some false := by kernel_rfl
theorem tk41 : kindT Tryd.prog 41 = some true := by kernel_rfl
theorem tk46 : kindT Tryd.prog 46 = some true := by kernel_rfl
theorem tk5 : kindT Tryd.prog 5 = some false := by kernel_rfl
theorem tk53 : kindT Tryd.prog 53 = some false := by kernel_rfl
theorem tk54 : kindT Tryd.prog 54 = some false := by kernel_rfl
theorem tk56 : kindT Tryd.prog 56 = some true := by kernel_rfl
theorem tk57 : kindT Tryd.prog 57 = some true := by kernel_rfl
theorem tk74 : kindT Tryd.prog 74 = some true := by kernel_rfl
theorem tk86 : kindT Tryd.prog 86 = some true := by kernel_rfl
theorem tk9 : kindT Tryd.prog 9 = some false := by kernel_rfl
theorem tl22 : isSliceT Tryd.prog 22 = true := by kernel_rfl
theorem tl28 : isSliceT Tryd.prog 28 = true := by kernel_rfl
theorem tl31 : isSliceT Tryd.prog 31 = true := by kernel_rfl
theorem tl49 : isSliceT Tryd.prog 49 = true := by kernel_rfl
theorem tl54 : isSliceT Tryd.prog 54 = true := by kernel_rfl
theorem tl9 : isSliceT Tryd.prog 9 = false := by kernel_rfl
theorem tp27 : placesT Tryd.prog 27 = some [(0, 1, false), (1, 1, false)] := by kernel_rfl
theorem tp34 : placesT Tryd.prog 34 = some [(0, 1, false), (1, 1, false), (2, 1, false)] := by kernel_rfl
theorem tp39 : placesT Tryd.prog 39 = some [(0, 1, false), (1, 1, false)] := by kernel_rfl
theorem tp41 : placesT Tryd.prog 41 = some [(0, 1, false), (1, 1, false)] := by kernel_rfl
theorem tp46 : placesT Tryd.prog 46 = some [(0, 2, true), (2, 1, false), (3, 1, false), (4, 1, false)] := by kernel_rfl
theorem tp74 : placesT Tryd.prog 74 = some [(0, 2, true), (2, 1, false), (3, 1, false), (4, 1, false), (5, 1, false), (6, 1, false), (7, 1, false)] := by kernel_rfl
theorem ts21 : isStrT Tryd.prog 21 = false := by kernel_rfl
theorem ts22 : isStrT Tryd.prog 22 = false := by kernel_rfl
theorem ts28 : isStrT Tryd.prog 28 = false := by kernel_rfl
theorem ts3 : isStrT Tryd.prog 3 = false := by kernel_rfl
theorem ts31 : isStrT Tryd.prog 31 = false := by kernel_rfl
theorem ts49 : isStrT Tryd.prog 49 = false := by kernel_rfl
theorem ts5 : isStrT Tryd.prog 5 = false := by kernel_rfl
theorem ts53 : isStrT Tryd.prog 53 = false := by kernel_rfl
theorem ts54 : isStrT Tryd.prog 54 = false := by kernel_rfl
theorem ts57 : isStrT Tryd.prog 57 = false := by kernel_rfl
theorem ts82 : isStrT Tryd.prog 82 = false := by kernel_rfl
theorem ts86 : isStrT Tryd.prog 86 = false := by kernel_rfl
theorem ts9 : isStrT Tryd.prog 9 = true := by kernel_rfl
theorem ts90 : isStrT Tryd.prog 90 = false := by kernel_rfl
theorem ty3 : byO Tryd.prog 3 = some 8 := by kernel_rfl
theorem ty34 : byO Tryd.prog 34 = some 40 := by kernel_rfl
theorem ty4 : byO Tryd.prog 4 = some 1 := by kernel_rfl
theorem ty46 : byO Tryd.prog 46 = some 80 := by kernel_rfl
theorem ty5 : byO Tryd.prog 5 = some 1 := by kernel_rfl
theorem ty9 : byO Tryd.prog 9 = some 16 := by kernel_rfl
theorem tz22 : szO Tryd.prog 22 = some 1 := by kernel_rfl
theorem tz27 : szO Tryd.prog 27 = some 2 := by kernel_rfl
theorem tz28 : szO Tryd.prog 28 = some 1 := by kernel_rfl
theorem tz3 : szO Tryd.prog 3 = some 1 := by kernel_rfl
theorem tz31 : szO Tryd.prog 31 = some 1 := by kernel_rfl
theorem tz34 : szO Tryd.prog 34 = some 3 := by kernel_rfl
theorem tz39 : szO Tryd.prog 39 = some 2 := by kernel_rfl
theorem tz4 : szO Tryd.prog 4 = some 1 := by kernel_rfl
theorem tz41 : szO Tryd.prog 41 = some 2 := by kernel_rfl
theorem tz46 : szO Tryd.prog 46 = some 5 := by kernel_rfl
theorem tz5 : szO Tryd.prog 5 = some 1 := by kernel_rfl
theorem tz53 : szO Tryd.prog 53 = some 1 := by kernel_rfl
theorem tz54 : szO Tryd.prog 54 = some 1 := by kernel_rfl
theorem tz56 : szO Tryd.prog 56 = some 2 := by kernel_rfl
theorem tz57 : szO Tryd.prog 57 = some 256 := by kernel_rfl
theorem tz74 : szO Tryd.prog 74 = some 8 := by kernel_rfl
theorem tz86 : szO Tryd.prog 86 = some 256 := by kernel_rfl
theorem tz9 : szO Tryd.prog 9 = some 1 := by kernel_rfl
set_option linter.defProp false
def sxB := And.intro (And.intro (And.intro (And.intro (And.intro (And.intro (And.intro (@loadX.eq_1) (@loadX.eq_2)) (And.intro (@loadX.eq_3) (@loadX.eq_4))) (And.intro (And.intro (@loadX.eq_5) (@loadX.eq_6)) (And.intro (@fldA.eq_1) (And.intro (@fldA.eq_2) (@fldA.eq_3))))) (And.intro (And.intro (And.intro (@isPt_p) (@addP_p)) (And.intro (@List.toList_toArray.{0}) (And.intro (@stepG.eq_1) (@stepG.eq_2)))) (And.intro (And.intro (@fin.eq_1) (@fin.eq_2)) (And.intro (@fin.eq_3) (And.intro (@fin.eq_4) (@fin.eq_5)))))) (And.intro (And.intro (And.intro (And.intro (@fin.eq_6) (@fin.eq_7)) (And.intro (@finG.eq_1) (And.intro (@finG.eq_2) (@finG.eq_3)))) (And.intro (And.intro (@finG.eq_4) (@brv_true)) (And.intro (@brv_false) (And.intro (@condK.eq_1) (@rowS.eq_1))))) (And.intro (And.intro (And.intro (@rowS.eq_2) (@mentL_append)) (And.intro (@mentL_ext) (And.intro (@mentL_extf) (@one_bool)))) (And.intro (And.intro (@one_int) (@one_str)) (And.intro (@one_ptr) (And.intro (@one_sli) (@one_map))))))) (And.intro (And.intro (And.intro (And.intro (And.intro (@one_fun) (@one_nf)) (And.intro (@one_ni) (And.intro (@one_if) (@one_agg)))) (And.intro (And.intro (@one_tup) (@List.getElem?_cons_zero.{0})) (And.intro (@List.getElem?_cons_succ.{0}) (And.intro (@List.drop_zero.{0}) (@List.drop_succ_cons.{0}))))) (And.intro (And.intro (And.intro (@List.take_zero.{0}) (@List.take_succ_cons.{0})) (And.intro (@List.take_nil.{0}) (And.intro (@List.drop_nil.{0}) (@List.map_cons.{0, 0})))) (And.intro (And.intro (@List.map_nil.{0, 0}) (@List.length_cons.{0})) (And.intro (@List.length_nil.{0}) (And.intro (@List.append_nil.{0}) (@List.cons_append.{0})))))) (And.intro (And.intro (And.intro (And.intro (@List.nil_append.{0}) (@List.set_cons_zero.{0})) (And.intro (@List.set_cons_succ.{0}) (And.intro (@List.all_cons.{0}) (@List.all_nil.{0})))) (And.intro (And.intro (@List.mem_cons.{0}) (@List.not_mem_nil.{0})) (And.intro (@Option.bind_some.{0, 0}) (And.intro (@Option.map_some.{0, 0}) (@Option.map_none.{0, 0}))))) (And.intro (And.intro (And.intro (@true_and) (@and_true)) (And.intro (@and_self) (And.intro (@true_implies) (@false_implies)))) (And.intro (And.intro (@imp_self) (@Bool.cond_false_right)) (And.intro (@Bool.cond_true_left) (And.intro (@beq_true) (@beq_false)))))))) (And.intro (And.intro (And.intro (And.intro (And.intro (And.intro (@Bool.not_eq_true') (@Bool.not_true)) (And.intro (@Bool.not_false) (And.intro (@Bool.true_and) (@Bool.and_true)))) (And.intro (And.intro (@Bool.false_and) (@Bool.and_false)) (And.intro (@Bool.or_false) (And.intro (@Bool.false_or) (@Bool.or_true))))) (And.intro (And.intro (And.intro (@Bool.true_or) (@decide_true)) (And.intro (@decide_false) (And.intro (@Bool.false_eq_true) (@Bool.true_eq_false)))) (And.intro (And.intro (@false_or) (@true_or)) (And.intro (@or_true) (And.intro (@or_false) (@or_self)))))) (And.intro (And.intro (And.intro (And.intro (@List.contains_nil.{0}) (@List.contains_cons.{0})) (And.intro (@List.size_toArray.{0}) (And.intro (@List.getElem?_toArray.{0}) (@Option.isSome_some.{0})))) (And.intro (And.intro (@Option.isSome_none.{0}) (@Nat.zero_add)) (And.intro (@Nat.add_zero) (And.intro (@Int.toNat_natCast) (@okR.eq_1))))) (And.intro (And.intro (And.intro (@okR.eq_2) (@okR.eq_3)) (And.intro (@okR.eq_4) (And.intro (@okR.eq_5) (@okR.eq_6)))) (And.intro (And.intro (@finD.eq_1) (@finD.eq_2)) (And.intro (@finD.eq_3) (And.intro (@finD.eq_4) (@finD.eq_5))))))) (And.intro (And.intro (And.intro (And.intro (And.intro (@finD.eq_6) (@finD.eq_7)) (And.intro (@finGD.eq_1) (And.intro (@finGD.eq_2) (@finGD.eq_3)))) (And.intro (And.intro (@finGD.eq_4) (@stepGD.eq_1)) (And.intro (@stepGD.eq_2) (And.intro (@isSl_s) (@slen_s))))) (And.intro (And.intro (And.intro (@scap_s) (@nilS_s)) (And.intro (@Option.isNone_none.{0}) (And.intro (@Option.isNone_some.{0}) (@vc.eq_1)))) (And.intro (And.intro (@vc.eq_2) (@vc.eq_3)) (And.intro (@vc.eq_4) (And.intro (@vc.eq_5) (@vc.eq_7)))))) (And.intro (And.intro (And.intro (And.intro (@vc.eq_8) (@vc.eq_9)) (And.intro (@vc.eq_10) (And.intro (@vc.eq_11) (@vc.eq_12)))) (And.intro (And.intro (@vc.eq_13) (@seqK_false)) (And.intro (@seqK_true) (And.intro (@vcX_marks) (@vc_exit))))) (And.intro (And.intro (And.intro (@vcX_blk) (@vcX_code)) (And.intro (@vcX_stop) (And.intro (@aggA_nil) (@aggA_cons)))) (And.intro (And.intro (@slcG_gd) (@slcG_ext)) (And.intro (@slcG_slo) (And.intro (@cellsG.eq_1) (@cellsG.eq_2))))))))
def sxTab := And.intro (And.intro (And.intro (And.intro (And.intro (And.intro (And.intro (@cb10) (And.intro (@cb11) (@cb12))) (And.intro (@cb13) (And.intro (@cb14) (@cb15)))) (And.intro (And.intro (@cb16) (And.intro (@cb17) (@cb18))) (And.intro (@cb19) (And.intro (@cb2) (@cb20))))) (And.intro (And.intro (And.intro (@cb21) (And.intro (@cb22) (@cb23))) (And.intro (@cb24) (And.intro (@cb25) (@cb26)))) (And.intro (And.intro (@cb27) (And.intro (@cb28) (@cb29))) (And.intro (@cb3) (And.intro (@cb30) (@cb31)))))) (And.intro (And.intro (And.intro (And.intro (@cb32) (And.intro (@cb33) (@cb34))) (And.intro (@cb35) (And.intro (@cb36) (@cb37)))) (And.intro (And.intro (@cb38) (And.intro (@cb39) (@cb4))) (And.intro (@cb40) (And.intro (@cb41) (@cb42))))) (And.intro (And.intro (And.intro (@cb43) (And.intro (@cb44) (@cb45))) (And.intro (@cb46) (And.intro (@cb47) (@cb48)))) (And.intro (And.intro (@cb49) (And.intro (@cb5) (@cb50))) (And.intro (And.intro (@cb51) (@cb52)) (And.intro (@cb53) (@cb54))))))) (And.intro (And.intro (And.intro (And.intro (And.intro (@cb55) (And.intro (@cb57) (@cb58))) (And.intro (@cb59) (And.intro (@cb6) (@cb60)))) (And.intro (And.intro (@cb61) (And.intro (@cb63) (@cb64))) (And.intro (@cb65) (And.intro (@cb66) (@cb68))))) (And.intro (And.intro (And.intro (@cb7) (And.intro (@cb70) (@cb71))) (And.intro (@cb72) (And.intro (@cb8) (@cb9)))) (And.intro (And.intro (@cb94) (And.intro (@tA22) (@tA27))) (And.intro (@tA28) (And.intro (@tA31) (@tA34)))))) (And.intro (And.intro (And.intro (And.intro (@tA39) (And.intro (@tA41) (@tA46))) (And.intro (@tA49) (And.intro (@tA57) (@tA74)))) (And.intro (And.intro (@tA86) (And.intro (@tA9) (@tI21))) (And.intro (@tI3) (And.intro (@tI5) (@tI53))))) (And.intro (And.intro (And.intro (@tI82) (And.intro (@tI9) (@tI90))) (And.intro (@tS22) (And.intro (@tS28) (@tS31)))) (And.intro (And.intro (@tS49) (And.intro (@tS54) (@tS57))) (And.intro (And.intro (@tS86) (@tS9)) (And.intro (@tc22) (@tc27)))))))) (And.intro (And.intro (And.intro (And.intro (And.intro (And.intro (@tc28) (And.intro (@tc3) (@tc31))) (And.intro (@tc34) (And.intro (@tc39) (@tc4)))) (And.intro (And.intro (@tc41) (And.intro (@tc46) (@tc5))) (And.intro (@tc53) (And.intro (@tc54) (@tc56))))) (And.intro (And.intro (And.intro (@tc57) (And.intro (@tc74) (@tc86))) (And.intro (@tc9) (And.intro (@tf27_0) (@tf27_1)))) (And.intro (And.intro (@tf34_0) (And.intro (@tf34_1) (@tf34_2))) (And.intro (@tf39_0) (And.intro (@tf39_1) (@tf41_0)))))) (And.intro (And.intro (And.intro (And.intro (@tf41_1) (And.intro (@tf46_0) (@tf46_1))) (And.intro (@tf46_2) (And.intro (@tf46_3) (@tf56_0)))) (And.intro (And.intro (@tf56_1) (And.intro (@tk22) (@tk27))) (And.intro (@tk28) (And.intro (@tk3) (@tk31))))) (And.intro (And.intro (And.intro (@tk34) (And.intro (@tk39) (@tk4))) (And.intro (@tk41) (And.intro (@tk46) (@tk5)))) (And.intro (And.intro (@tk53) (And.intro (@tk54) (@tk56))) (And.intro (And.intro (@tk57) (@tk74)) (And.intro (@tk86) (@tk9))))))) (And.intro (And.intro (And.intro (And.intro (And.intro (@tl22) (And.intro (@tl28) (@tl31))) (And.intro (@tl49) (And.intro (@tl54) (@tl9)))) (And.intro (And.intro (@tp27) (And.intro (@tp34) (@tp39))) (And.intro (@tp41) (And.intro (@tp46) (@tp74))))) (And.intro (And.intro (And.intro (@ts21) (And.intro (@ts22) (@ts28))) (And.intro (@ts3) (And.intro (@ts31) (@ts49)))) (And.intro (And.intro (@ts5) (And.intro (@ts53) (@ts54))) (And.intro (And.intro (@ts57) (@ts82)) (And.intro (@ts86) (@ts9)))))) (And.intro (And.intro (And.intro (And.intro (@ts90) (And.intro (@ty3) (@ty34))) (And.intro (@ty4) (And.intro (@ty46) (@ty5)))) (And.intro (And.intro (@ty9) (And.intro (@tz22) (@tz27))) (And.intro (@tz28) (And.intro (@tz3) (@tz31))))) (And.intro (And.intro (And.intro (@tz34) (And.intro (@tz39) (@tz4))) (And.intro (@tz41) (And.intro (@tz46) (@tz5)))) (And.intro (And.intro (@tz53) (And.intro (@tz54) (@tz56))) (And.intro (And.intro (@tz57) (@tz74)) (And.intro (@tz86) (@tz9))))))))
end Go.Proofs.YtncbbbappadcfaaDoor.Sx
