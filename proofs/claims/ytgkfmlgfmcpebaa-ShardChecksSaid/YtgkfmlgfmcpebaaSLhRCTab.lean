/- Part 15 of the texts of this claim: a symbolic executor and contracts of functions. -/
import Derived.Test.YtgkfmlgfmcpebaaSLhRCUse
namespace Go.Proofs.Ytgkfmlgfmcpebaa.Sx
open Go
theorem _root_.Go.Proofs.Try.mixed : Try.prog.follows .mixedOrders = true := by kernel_rfl
theorem cb10 : callsB Try.prog 10 = true := by kernel_rfl
theorem cb11 : callsB Try.prog 11 = true := by kernel_rfl
theorem cb12 : callsB Try.prog 12 = true := by kernel_rfl
theorem cb13 : callsB Try.prog 13 = true := by kernel_rfl
theorem cb14 : callsB Try.prog 14 = true := by kernel_rfl
theorem cb15 : callsB Try.prog 15 = true := by kernel_rfl
theorem cb16 : callsB Try.prog 16 = true := by kernel_rfl
theorem cb17 : callsB Try.prog 17 = true := by kernel_rfl
theorem cb18 : callsB Try.prog 18 = true := by kernel_rfl
theorem cb19 : callsB Try.prog 19 = true := by kernel_rfl
theorem cb2 : callsB Try.prog 2 = true := by kernel_rfl
theorem cb20 : callsB Try.prog 20 = true := by kernel_rfl
theorem cb21 : callsB Try.prog 21 = true := by kernel_rfl
theorem cb22 : callsB Try.prog 22 = true := by kernel_rfl
theorem cb23 : callsB Try.prog 23 = true := by kernel_rfl
theorem cb24 : callsB Try.prog 24 = true := by kernel_rfl
theorem cb25 : callsB Try.prog 25 = true := by kernel_rfl
theorem cb26 : callsB Try.prog 26 = true := by kernel_rfl
theorem cb27 : callsB Try.prog 27 = true := by kernel_rfl
theorem cb28 : callsB Try.prog 28 = true := by kernel_rfl
theorem cb29 : callsB Try.prog 29 = true := by kernel_rfl
theorem cb3 : callsB Try.prog 3 = true := by kernel_rfl
theorem cb30 : callsB Try.prog 30 = true := by kernel_rfl
theorem cb31 : callsB Try.prog 31 = true := by kernel_rfl
theorem cb32 : callsB Try.prog 32 = true := by kernel_rfl
theorem cb33 : callsB Try.prog 33 = true := by kernel_rfl
theorem cb34 : callsB Try.prog 34 = true := by kernel_rfl
theorem cb35 : callsB Try.prog 35 = true := by kernel_rfl
theorem cb36 : callsB Try.prog 36 = true := by kernel_rfl
theorem cb37 : callsB Try.prog 37 = true := by kernel_rfl
theorem cb38 : callsB Try.prog 38 = true := by kernel_rfl
theorem cb39 : callsB Try.prog 39 = true := by kernel_rfl
theorem cb4 : callsB Try.prog 4 = true := by kernel_rfl
theorem cb40 : callsB Try.prog 40 = true := by kernel_rfl
theorem cb41 : callsB Try.prog 41 = true := by kernel_rfl
theorem cb42 : callsB Try.prog 42 = true := by kernel_rfl
theorem cb43 : callsB Try.prog 43 = true := by kernel_rfl
theorem cb44 : callsB Try.prog 44 = true := by kernel_rfl
theorem cb45 : callsB Try.prog 45 = true := by kernel_rfl
theorem cb46 : callsB Try.prog 46 = true := by kernel_rfl
theorem cb47 : callsB Try.prog 47 = true := by kernel_rfl
theorem cb48 : callsB Try.prog 48 = true := by kernel_rfl
theorem cb49 : callsB Try.prog 49 = true := by kernel_rfl
theorem cb5 : callsB Try.prog 5 = true := by kernel_rfl
theorem cb50 : callsB Try.prog 50 = true := by kernel_rfl
theorem cb51 : callsB Try.prog 51 = true := by kernel_rfl
theorem cb52 : callsB Try.prog 52 = true := by kernel_rfl
theorem cb53 : callsB Try.prog 53 = true := by kernel_rfl
theorem cb54 : callsB Try.prog 54 = true := by kernel_rfl
theorem cb55 : callsB Try.prog 55 = true := by kernel_rfl
theorem cb56 : callsB Try.prog 56 = true := by kernel_rfl
theorem cb57 : callsB Try.prog 57 = true := by kernel_rfl
theorem cb58 : callsB Try.prog 58 = true := by kernel_rfl
theorem cb59 : callsB Try.prog 59 = true := by kernel_rfl
theorem cb6 : callsB Try.prog 6 = true := by kernel_rfl
theorem cb60 : callsB Try.prog 60 = true := by kernel_rfl
theorem cb61 : callsB Try.prog 61 = true := by kernel_rfl
theorem cb62 : callsB Try.prog 62 = true := by kernel_rfl
theorem cb63 : callsB Try.prog 63 = true := by kernel_rfl
theorem cb7 : callsB Try.prog 7 = true := by kernel_rfl
theorem cb8 : callsB Try.prog 8 = true := by kernel_rfl
theorem cb9 : callsB Try.prog 9 = true := by kernel_rfl
theorem tA22 : arrT Try.prog 22 = none := by kernel_rfl
theorem tA23 : arrT Try.prog 23 = none := by kernel_rfl
theorem tA27 : arrT Try.prog 27 = none := by kernel_rfl
theorem tA29 : arrT Try.prog 29 = none := by kernel_rfl
theorem tA37 : arrT Try.prog 37 = none := by kernel_rfl
theorem tA47 : arrT Try.prog 47 = none := by kernel_rfl
theorem tA49 : arrT Try.prog 49 = none := by kernel_rfl
theorem tA51 : arrT Try.prog 51 = none := by kernel_rfl
theorem tA60 : arrT Try.prog 60 = none := by kernel_rfl
theorem tA61 : arrT Try.prog 61 = some (8, 3) := by kernel_rfl
theorem tA69 : arrT Try.prog 69 = none := by kernel_rfl
theorem tI3 : intT Try.prog 3 = some .i64 := by kernel_rfl
theorem tI81 : intT Try.prog 81 = some .u64 := by kernel_rfl
theorem tS22 : slcT Try.prog 22 = some 3 := by kernel_rfl
theorem tS23 : slcT Try.prog 23 = some 49 := by kernel_rfl
theorem tS29 : slcT Try.prog 29 = some 22 := by kernel_rfl
theorem tS37 : slcT Try.prog 37 = some 29 := by kernel_rfl
theorem tS51 : slcT Try.prog 51 = some 23 := by kernel_rfl
theorem tS60 : slcT Try.prog 60 = some 4 := by kernel_rfl
theorem tS61 : slcT Try.prog 61 = none := by kernel_rfl
theorem tb4 : isBoolT Try.prog 4 = true := by kernel_rfl
theorem tc22 : zeroC Try.prog 22 = some [.slice none 0 0] := by kernel_rfl
theorem tc23 : zeroC Try.prog 23 = some [.slice none 0 0] := by kernel_rfl
theorem tc27 : zeroC Try.prog 27 = some [.slice none 0 0, .int .i64 0] := by kernel_rfl
theorem tc29 : zeroC Try.prog 29 = some [.slice none 0 0] := by kernel_rfl
theorem tc3 : zeroC Try.prog 3 = some [.int .i64 0] := by kernel_rfl
theorem tc4 : zeroC Try.prog 4 = some [.bool false] := by kernel_rfl
theorem tc47 : zeroC Try.prog 47 = some [.string ⟨#[]⟩, .string ⟨#[]⟩] := by kernel_rfl
theorem tc49 : zeroC Try.prog 49 = some [.string ⟨#[]⟩, .string ⟨#[]⟩, .int .i64 0, .int .i64 0] := by kernel_rfl
theorem tc61 : zeroC Try.prog 61 = some [.int .i64 0, .int .i64 0, .int .i64 0, .int .i64 0, .int .i64 0, .int .i64 0, .int .i64 0, .int .i64 0] := by kernel_rfl
theorem tc64 : zeroC Try.prog 64 = some [.nilFunc] := by kernel_rfl
theorem tc69 : zeroC Try.prog 69 = some [.string ⟨#[]⟩, .string ⟨#[]⟩, .int .i64 0, .int .i64 0, .int .i64 0, .int .i64 0, .int .i64 0, .slice none 0 0] := by kernel_rfl
theorem tc9 : zeroC Try.prog 9 = some [.string ⟨#[]⟩] := by kernel_rfl
theorem tf27_0 : fOff Try.prog 27 0 = some (0, 22) := by kernel_rfl
theorem tf27_1 : fOff Try.prog 27 1 = some (1, 3) := by kernel_rfl
theorem tf47_0 : fOff Try.prog 47 0 = some (0, 9) := by kernel_rfl
theorem tf47_1 : fOff Try.prog 47 1 = some (1, 9) := by kernel_rfl
theorem tf49_0 : fOff Try.prog 49 0 = some (0, 47) := by kernel_rfl
theorem tf49_1 : fOff Try.prog 49 1 = some (2, 3) := by kernel_rfl
theorem tf49_2 : fOff Try.prog 49 2 = some (3, 3) := by kernel_rfl
theorem tk22 : kindT Try.prog 22 = some false := by kernel_rfl
theorem tk23 : kindT Try.prog 23 = some false := by kernel_rfl
theorem tk27 : kindT Try.prog 27 = some true := by kernel_rfl
theorem tk29 : kindT Try.prog 29 = some false := by kernel_rfl
theorem tk3 : kindT Try.prog 3 = some false := by kernel_rfl
theorem tk4 : kindT Try.prog 4 = some false := by kernel_rfl
theorem tk47 : kindT Try.prog 47 = some true := by kernel_rfl
theorem tk49 : kindT Try.prog 49 = some true := by kernel_rfl
theorem tk61 : kindT Try.prog 61 = some true := by kernel_rfl
theorem tk64 : kindT Try.prog 64 = some false := by kernel_rfl
theorem tk69 : kindT Try.prog 69 = some true := by kernel_rfl
theorem tk9 : kindT Try.prog 9 = some false := by kernel_rfl
theorem tl22 : isSliceT Try.prog 22 = true := by kernel_rfl
theorem tl23 : isSliceT Try.prog 23 = true := by kernel_rfl
theorem tl29 : isSliceT Try.prog 29 = true := by kernel_rfl
theorem tl37 : isSliceT Try.prog 37 = true := by kernel_rfl
theorem tl51 : isSliceT Try.prog 51 = true := by kernel_rfl
theorem tl9 : isSliceT Try.prog 9 = false := by kernel_rfl
theorem tp27 : placesT Try.prog 27 = some [(0, 1, false), (1, 1, false)] := by kernel_rfl
theorem tp47 : placesT Try.prog 47 = some [(0, 1, false), (1, 1, false)] := by kernel_rfl
theorem tp49 : placesT Try.prog 49 = some [(0, 2, true), (2, 1, false), (3, 1, false)] := by kernel_rfl
theorem tp69 : placesT Try.prog 69 = some [(0, 2, true), (2, 1, false), (3, 1, false), (4, 1, false), (5, 1, false), (6, 1, false), (7, 1, false)] := by kernel_rfl
theorem ts22 : isStrT Try.prog 22 = false := by kernel_rfl
theorem ts23 : isStrT Try.prog 23 = false := by kernel_rfl
theorem ts29 : isStrT Try.prog 29 = false := by kernel_rfl
theorem ts3 : isStrT Try.prog 3 = false := by kernel_rfl
theorem ts37 : isStrT Try.prog 37 = false := by kernel_rfl
theorem ts51 : isStrT Try.prog 51 = false := by kernel_rfl
theorem ts60 : isStrT Try.prog 60 = false := by kernel_rfl
theorem ts61 : isStrT Try.prog 61 = false := by kernel_rfl
theorem ts81 : isStrT Try.prog 81 = false := by kernel_rfl
theorem ts9 : isStrT Try.prog 9 = true := by kernel_rfl
theorem ty22 : byO Try.prog 22 = some 24 := by kernel_rfl
theorem ty23 : byO Try.prog 23 = some 24 := by kernel_rfl
theorem ty29 : byO Try.prog 29 = some 24 := by kernel_rfl
theorem ty3 : byO Try.prog 3 = some 8 := by kernel_rfl
theorem ty4 : byO Try.prog 4 = some 1 := by kernel_rfl
theorem ty49 : byO Try.prog 49 = some 48 := by kernel_rfl
theorem tz22 : szO Try.prog 22 = some 1 := by kernel_rfl
theorem tz23 : szO Try.prog 23 = some 1 := by kernel_rfl
theorem tz27 : szO Try.prog 27 = some 2 := by kernel_rfl
theorem tz29 : szO Try.prog 29 = some 1 := by kernel_rfl
theorem tz3 : szO Try.prog 3 = some 1 := by kernel_rfl
theorem tz4 : szO Try.prog 4 = some 1 := by kernel_rfl
theorem tz47 : szO Try.prog 47 = some 2 := by kernel_rfl
theorem tz49 : szO Try.prog 49 = some 4 := by kernel_rfl
theorem tz61 : szO Try.prog 61 = some 8 := by kernel_rfl
theorem tz64 : szO Try.prog 64 = some 1 := by kernel_rfl
theorem tz69 : szO Try.prog 69 = some 8 := by kernel_rfl
theorem tz9 : szO Try.prog 9 = some 1 := by kernel_rfl
set_option linter.defProp false
def sxB := And.intro (And.intro (And.intro (And.intro (And.intro (And.intro (And.intro (@loadX.eq_1) (@loadX.eq_2)) (And.intro (@loadX.eq_3) (And.intro (@loadX.eq_4) (@loadX.eq_5)))) (And.intro (And.intro (@loadX.eq_6) (@fldA.eq_1)) (And.intro (@fldA.eq_2) (And.intro (@fldA.eq_3) (@isPt_p))))) (And.intro (And.intro (And.intro (@addP_p) (@List.toList_toArray.{0})) (And.intro (@stepG.eq_1) (And.intro (@stepG.eq_2) (@fin.eq_1)))) (And.intro (And.intro (@fin.eq_2) (And.intro (@fin.eq_3) (@fin.eq_4))) (And.intro (@fin.eq_5) (And.intro (@fin.eq_6) (@fin.eq_7)))))) (And.intro (And.intro (And.intro (And.intro (@finG.eq_1) (@finG.eq_2)) (And.intro (@finG.eq_3) (And.intro (@finG.eq_4) (@brv_true)))) (And.intro (And.intro (@brv_false) (And.intro (@condK.eq_1) (@rowS.eq_1))) (And.intro (@rowS.eq_2) (And.intro (@mentL_append) (@mentL_ext))))) (And.intro (And.intro (And.intro (@mentL_extf) (@one_bool)) (And.intro (@one_int) (And.intro (@one_str) (@one_ptr)))) (And.intro (And.intro (@one_sli) (And.intro (@one_map) (@one_fun))) (And.intro (@one_nf) (And.intro (@one_ni) (@one_if))))))) (And.intro (And.intro (And.intro (And.intro (And.intro (@one_agg) (@one_tup)) (And.intro (@List.getElem?_cons_zero.{0}) (And.intro (@List.getElem?_cons_succ.{0}) (@List.drop_zero.{0})))) (And.intro (And.intro (@List.drop_succ_cons.{0}) (@List.take_zero.{0})) (And.intro (@List.take_succ_cons.{0}) (And.intro (@List.take_nil.{0}) (@List.drop_nil.{0}))))) (And.intro (And.intro (And.intro (@List.map_cons.{0, 0}) (@List.map_nil.{0, 0})) (And.intro (@List.length_cons.{0}) (And.intro (@List.length_nil.{0}) (@List.append_nil.{0})))) (And.intro (And.intro (@List.cons_append.{0}) (And.intro (@List.nil_append.{0}) (@List.set_cons_zero.{0}))) (And.intro (@List.set_cons_succ.{0}) (And.intro (@List.all_cons.{0}) (@List.all_nil.{0})))))) (And.intro (And.intro (And.intro (And.intro (@List.mem_cons.{0}) (@List.not_mem_nil.{0})) (And.intro (@Option.bind_some.{0, 0}) (And.intro (@Option.map_some.{0, 0}) (@Option.map_none.{0, 0})))) (And.intro (And.intro (@true_and) (And.intro (@and_true) (@and_self))) (And.intro (@true_implies) (And.intro (@false_implies) (@imp_self))))) (And.intro (And.intro (And.intro (@Bool.cond_false_right) (@Bool.cond_true_left)) (And.intro (@beq_true) (And.intro (@beq_false) (@Bool.not_eq_true')))) (And.intro (And.intro (@Bool.not_true) (And.intro (@Bool.not_false) (@Bool.true_and))) (And.intro (@Bool.and_true) (And.intro (@Bool.false_and) (@Bool.and_false)))))))) (And.intro (And.intro (And.intro (And.intro (And.intro (And.intro (@Bool.or_false) (@Bool.false_or)) (And.intro (@Bool.or_true) (And.intro (@Bool.true_or) (@decide_true)))) (And.intro (And.intro (@decide_false) (@Bool.false_eq_true)) (And.intro (@Bool.true_eq_false) (And.intro (@false_or) (@true_or))))) (And.intro (And.intro (And.intro (@or_true) (@or_false)) (And.intro (@or_self) (And.intro (@List.contains_nil.{0}) (@List.contains_cons.{0})))) (And.intro (And.intro (@List.size_toArray.{0}) (And.intro (@List.getElem?_toArray.{0}) (@Option.isSome_some.{0}))) (And.intro (@Option.isSome_none.{0}) (And.intro (@Nat.zero_add) (@Nat.add_zero)))))) (And.intro (And.intro (And.intro (And.intro (@Int.toNat_natCast) (@okR.eq_1)) (And.intro (@okR.eq_2) (And.intro (@okR.eq_3) (@okR.eq_4)))) (And.intro (And.intro (@okR.eq_5) (And.intro (@okR.eq_6) (@finD.eq_1))) (And.intro (@finD.eq_2) (And.intro (@finD.eq_3) (@finD.eq_4))))) (And.intro (And.intro (And.intro (@finD.eq_5) (@finD.eq_6)) (And.intro (@finD.eq_7) (And.intro (@finGD.eq_1) (@finGD.eq_2)))) (And.intro (And.intro (@finGD.eq_3) (And.intro (@finGD.eq_4) (@stepGD.eq_1))) (And.intro (@stepGD.eq_2) (And.intro (@isSl_s) (@slen_s))))))) (And.intro (And.intro (And.intro (And.intro (And.intro (@scap_s) (@nilS_s)) (And.intro (@Option.isNone_none.{0}) (And.intro (@Option.isNone_some.{0}) (@vc.eq_1)))) (And.intro (And.intro (@vc.eq_2) (And.intro (@vc.eq_3) (@vc.eq_4))) (And.intro (@vc.eq_5) (And.intro (@vc.eq_7) (@vc.eq_8))))) (And.intro (And.intro (And.intro (@vc.eq_9) (@vc.eq_10)) (And.intro (@vc.eq_11) (And.intro (@vc.eq_12) (@vc.eq_13)))) (And.intro (And.intro (@seqK_false) (And.intro (@seqK_true) (@vcX_marks))) (And.intro (@vc_exit) (And.intro (@vcX_blk) (@vcX_code)))))) (And.intro (And.intro (And.intro (And.intro (@vcX_stop) (@aggA_nil)) (And.intro (@aggA_cons) (And.intro (@slcG_gd) (@slcG_ext)))) (And.intro (And.intro (@slcG_slo) (And.intro (@slcG_own) (@cellsG.eq_1))) (And.intro (@cellsG.eq_2) (And.intro (@putA.eq_1) (@putA.eq_2))))) (And.intro (And.intro (And.intro (@hold_eq.{1}) (@vc.eq_14)) (And.intro (@lookM_tup) (And.intro (@eq_self.{1}) (@forall_eq.{1})))) (And.intro (And.intro (@forall_eq_or_imp.{1}) (And.intro (@implies_true.{1}) (@implies_true.{0}))) (And.intro (@beq_self_eq_true.{0}) (And.intro (@forall_const.{1}) (@forall_const.{0}))))))))
def sxD := And.intro (And.intro (And.intro (And.intro (And.intro (And.intro (@dstO.eq_def) (@normA.eq_def)) (And.intro (@normG.eq_def) (And.intro (@normP.eq_def) (@nilR.eq_def)))) (And.intro (And.intro (@fieldR.eq_def) (And.intro (@addOb.eq_def) (@loadH.eq_def))) (And.intro (@storeH.eq_def) (And.intro (@zeroR.eq_def) (@fldV.eq_def))))) (And.intro (And.intro (And.intro (@storeX.eq_def) (@loadV.eq_def)) (And.intro (@AV.ptr?.eq_def) (And.intro (@tOp.eq_def) (@put1.eq_def)))) (And.intro (And.intro (@put2.eq_def) (And.intro (@pickV.eq_def) (@binV.eq_def))) (And.intro (@binW.eq_def) (And.intro (@intV.eq_def) (@strV.eq_def)))))) (And.intro (And.intro (And.intro (And.intro (@boolV.eq_def) (@nilV.eq_def)) (And.intro (@unV1.eq_def) (And.intro (@unV.eq_def) (@selV.eq_def)))) (And.intro (And.intro (@extR.eq_def) (And.intro (@ev.eq_def) (@evC.eq_def))) (And.intro (@callR.eq_def) (And.intro (@bltR.eq_def) (@srcA.eq_def))))) (And.intro (And.intro (And.intro (@lenR.eq_def) (@lenV.eq_def)) (And.intro (@minV.eq_def) (And.intro (@maxV.eq_def) (@St.put.eq_def)))) (And.intro (And.intro (@AV.val.eq_def) (And.intro (@unG.eq_def) (@guardB.eq_def))) (And.intro (@gslot.eq_def) (And.intro (@loadR.eq_def) (@storeR.eq_def))))))) (And.intro (And.intro (And.intro (And.intro (And.intro (@oneC.eq_def) (@tupA.eq_def)) (And.intro (@cellsA.eq_def) (And.intro (@mkF.eq_def) (@strH.eq_def)))) (And.intro (And.intro (@convX.eq_def) (And.intro (@boxR.eq_def) (@plT.eq_def))) (And.intro (@buildSR.eq_def) (And.intro (@partC.eq_def) (@makeR.eq_def))))) (And.intro (And.intro (And.intro (@fieldX.eq_def) (@fieldO.eq_def)) (And.intro (@idxR.eq_def) (And.intro (@idxA.eq_def) (@indV.eq_def)))) (And.intro (And.intro (@slcR.eq_def) (And.intro (@slcO.eq_def) (@bndO.eq_def))) (And.intro (@conV.eq_def) (And.intro (@cutB.eq_def) (@cutC.eq_def)))))) (And.intro (And.intro (And.intro (And.intro (@cutP.eq_def) (@joinH.eq_def)) (And.intro (@reachK.eq_def) (And.intro (@mentO.eq_def) (@tupR.eq_def)))) (And.intro (And.intro (@NewD.av.eq_def) (And.intro (@eqV.eq_def) (@eqC.eq_def))) (And.intro (@looksK.eq_def) (And.intro (@addrL.eq_def) (@ptrK.eq_def))))) (And.intro (And.intro (And.intro (@sloK.eq_def) (@Op.operands.eq_def)) (And.intro (@Call.operands.eq_def) (And.intro (@awayB.eq_def) (@cutO.eq_def)))) (And.intro (And.intro (@ownK.eq_def) (And.intro (@selV_true) (@selV_false))) (And.intro (@opAt_arr) (And.intro (@opAt_0) (@opAt_S)))))))
def sxE := And.intro (And.intro (And.intro (And.intro (And.intro (And.intro (@normL.eq_1) (And.intro (@normL.eq_2) (@lk.eq_1))) (And.intro (@lk.eq_2) (And.intro (@lkH.eq_1) (@lkH.eq_2)))) (And.intro (And.intro (@upH.eq_1) (And.intro (@upH.eq_2) (@allOne.eq_1))) (And.intro (@allOne.eq_2) (And.intro (@vals.eq_1) (@vals.eq_2))))) (And.intro (And.intro (And.intro (@vals.eq_3) (And.intro (@bytesA.eq_1) (@bytesA.eq_2))) (And.intro (@bytesA.eq_3) (And.intro (@buildL.eq_1) (@buildL.eq_2)))) (And.intro (And.intro (@plN.eq_1) (And.intro (@plN.eq_2) (@repN.eq_1))) (And.intro (And.intro (@repN.eq_2) (@AV.ment.eq_1)) (And.intro (@AV.ment.eq_2) (@AV.ment.eq_3)))))) (And.intro (And.intro (And.intro (And.intro (@AV.ment.eq_4) (And.intro (@AV.ment.eq_5) (@AV.ment.eq_6))) (And.intro (@AV.ment.eq_7) (And.intro (@AV.ment.eq_8) (@mentL.eq_1)))) (And.intro (And.intro (@mentL.eq_2) (And.intro (@mentE.eq_1) (@mentE.eq_2))) (And.intro (@mentH.eq_1) (And.intro (@mentH.eq_2) (@hasK.eq_1))))) (And.intro (And.intro (And.intro (@hasK.eq_2) (And.intro (@AV.kill.eq_1) (@AV.kill.eq_2))) (And.intro (@AV.kill.eq_3) (And.intro (@AV.kill.eq_4) (@AV.kill.eq_5)))) (And.intro (And.intro (@AV.kill.eq_6) (And.intro (@AV.kill.eq_7) (@AV.kill.eq_8))) (And.intro (And.intro (@killL.eq_1) (@killL.eq_2)) (And.intro (@killE.eq_1) (@killE.eq_2))))))) (And.intro (And.intro (And.intro (And.intro (And.intro (@killH.eq_1) (And.intro (@killH.eq_2) (@killEs.eq_1))) (And.intro (@killEs.eq_2) (And.intro (@killHs.eq_1) (@killHs.eq_2)))) (And.intro (And.intro (@popTo.eq_1) (And.intro (@popTo.eq_2) (@popTo.eq_3))) (And.intro (@hasBlk.eq_1) (And.intro (@hasBlk.eq_2) (@hasBlk.eq_3))))) (And.intro (And.intro (And.intro (@argEnv.eq_1) (And.intro (@argEnv.eq_2) (@subH.eq_1))) (And.intro (@subH.eq_2) (And.intro (@dropH.eq_1) (@dropH.eq_2)))) (And.intro (And.intro (@cellsK.eq_1) (And.intro (@cellsK.eq_2) (@newKeys.eq_1))) (And.intro (And.intro (@newKeys.eq_2) (@keysH.eq_1)) (And.intro (@keysH.eq_2) (@inB.eq_1)))))) (And.intro (And.intro (And.intro (And.intro (@inB.eq_2) (And.intro (@eqL.eq_1) (@eqL.eq_2))) (And.intro (@keysOf.eq_1) (And.intro (@keysOf.eq_2) (@looksL.eq_1)))) (And.intro (And.intro (@looksL.eq_2) (And.intro (@disj.eq_1) (@disj.eq_2))) (And.intro (@subE.eq_1) (And.intro (@subE.eq_2) (@subHp.eq_1))))) (And.intro (And.intro (And.intro (@subHp.eq_2) (And.intro (@keepLt.eq_1) (@keepLt.eq_2))) (And.intro (@forgetD.eq_1) (And.intro (@forgetD.eq_2) (@marksOf.eq_1)))) (And.intro (And.intro (@marksOf.eq_2) (And.intro (@marksOf.eq_3) (@headId.eq_1))) (And.intro (And.intro (@headId.eq_2) (@headId.eq_3)) (And.intro (@headId.eq_4) (@headId.eq_5)))))))
def sxO := And.intro (And.intro (And.intro (@decide_eq_true_eq) (And.intro (@decide_eq_false_iff_not) (@Bool.or_eq_true))) (And.intro (@Bool.or_eq_false_iff) (And.intro (@Bool.and_eq_true) (@Bool.and_eq_false_iff)))) (And.intro (And.intro (@Bool.not_eq_true) (And.intro (@Bool.not_eq_true') (@Bool.not_eq_false'))) (And.intro (@Int.toNat_natCast) (And.intro (@ne_eq.{1}) (@maxLen.eq_1))))
def sxTab := And.intro (And.intro (And.intro (And.intro (And.intro (And.intro (And.intro (@cb10) (@cb11)) (And.intro (@cb12) (@cb13))) (And.intro (And.intro (@cb14) (@cb15)) (And.intro (@cb16) (And.intro (@cb17) (@cb18))))) (And.intro (And.intro (And.intro (@cb19) (@cb2)) (And.intro (@cb20) (And.intro (@cb21) (@cb22)))) (And.intro (And.intro (@cb23) (@cb24)) (And.intro (@cb25) (And.intro (@cb26) (@cb27)))))) (And.intro (And.intro (And.intro (And.intro (@cb28) (@cb29)) (And.intro (@cb3) (@cb30))) (And.intro (And.intro (@cb31) (@cb32)) (And.intro (@cb33) (And.intro (@cb34) (@cb35))))) (And.intro (And.intro (And.intro (@cb36) (@cb37)) (And.intro (@cb38) (And.intro (@cb39) (@cb4)))) (And.intro (And.intro (@cb40) (@cb41)) (And.intro (@cb42) (And.intro (@cb43) (@cb44))))))) (And.intro (And.intro (And.intro (And.intro (And.intro (@cb45) (@cb46)) (And.intro (@cb47) (@cb48))) (And.intro (And.intro (@cb49) (@cb5)) (And.intro (@cb50) (And.intro (@cb51) (@cb52))))) (And.intro (And.intro (And.intro (@cb53) (@cb54)) (And.intro (@cb55) (And.intro (@cb56) (@cb57)))) (And.intro (And.intro (@cb58) (@cb59)) (And.intro (@cb6) (And.intro (@cb60) (@cb61)))))) (And.intro (And.intro (And.intro (And.intro (@cb62) (@cb63)) (And.intro (@cb7) (@cb8))) (And.intro (And.intro (@cb9) (@tA22)) (And.intro (@tA23) (And.intro (@tA27) (@tA29))))) (And.intro (And.intro (And.intro (@tA37) (@tA47)) (And.intro (@tA49) (And.intro (@tA51) (@tA60)))) (And.intro (And.intro (@tA61) (@tA69)) (And.intro (@tI3) (And.intro (@tI81) (@tS22)))))))) (And.intro (And.intro (And.intro (And.intro (And.intro (And.intro (@tS23) (@tS29)) (And.intro (@tS37) (@tS51))) (And.intro (And.intro (@tS60) (@tS61)) (And.intro (@tb4) (And.intro (@tc22) (@tc23))))) (And.intro (And.intro (And.intro (@tc27) (@tc29)) (And.intro (@tc3) (And.intro (@tc4) (@tc47)))) (And.intro (And.intro (@tc49) (@tc61)) (And.intro (@tc64) (And.intro (@tc69) (@tc9)))))) (And.intro (And.intro (And.intro (And.intro (@tf27_0) (@tf27_1)) (And.intro (@tf47_0) (@tf47_1))) (And.intro (And.intro (@tf49_0) (@tf49_1)) (And.intro (@tf49_2) (And.intro (@tk22) (@tk23))))) (And.intro (And.intro (And.intro (@tk27) (@tk29)) (And.intro (@tk3) (And.intro (@tk4) (@tk47)))) (And.intro (And.intro (@tk49) (@tk61)) (And.intro (@tk64) (And.intro (@tk69) (@tk9))))))) (And.intro (And.intro (And.intro (And.intro (And.intro (@tl22) (@tl23)) (And.intro (@tl29) (@tl37))) (And.intro (And.intro (@tl51) (@tl9)) (And.intro (@tp27) (And.intro (@tp47) (@tp49))))) (And.intro (And.intro (And.intro (@tp69) (@ts22)) (And.intro (@ts23) (And.intro (@ts29) (@ts3)))) (And.intro (And.intro (@ts37) (@ts51)) (And.intro (@ts60) (And.intro (@ts61) (@ts81)))))) (And.intro (And.intro (And.intro (And.intro (@ts9) (@ty22)) (And.intro (@ty23) (@ty29))) (And.intro (And.intro (@ty3) (@ty4)) (And.intro (@ty49) (And.intro (@tz22) (@tz23))))) (And.intro (And.intro (And.intro (@tz27) (@tz29)) (And.intro (@tz3) (And.intro (@tz4) (@tz47)))) (And.intro (And.intro (@tz49) (@tz61)) (And.intro (@tz64) (And.intro (@tz69) (@tz9))))))))
end Go.Proofs.Ytgkfmlgfmcpebaa.Sx
