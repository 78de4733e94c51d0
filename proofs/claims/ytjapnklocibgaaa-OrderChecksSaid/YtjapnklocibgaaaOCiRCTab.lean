/- Part 15 of the texts of this claim: a symbolic executor and contracts of functions. -/
import Derived.Test.YtjapnklocibgaaaOCiRCUse
namespace Go.Proofs.Ytjapnklocibgaaa.Sx
open Go
theorem _root_.Go.Proofs.Try.mixed:Try.prog.follows .mixedOrders=true:=by kernel_rfl
theorem cb10:callsB Try.prog 10=true:=by kernel_rfl
theorem cb100:callsB Try.prog 100=true:=by kernel_rfl
theorem cb101:callsB Try.prog 101=true:=by kernel_rfl
theorem cb102:callsB Try.prog 102=true:=by kernel_rfl
theorem cb103:callsB Try.prog 103=true:=by kernel_rfl
theorem cb104:callsB Try.prog 104=true:=by kernel_rfl
theorem cb105:callsB Try.prog 105=true:=by kernel_rfl
theorem cb106:callsB Try.prog 106=true:=by kernel_rfl
theorem cb107:callsB Try.prog 107=true:=by kernel_rfl
theorem cb109:callsB Try.prog 109=true:=by kernel_rfl
theorem cb11:callsB Try.prog 11=true:=by kernel_rfl
theorem cb12:callsB Try.prog 12=true:=by kernel_rfl
theorem cb13:callsB Try.prog 13=true:=by kernel_rfl
theorem cb14:callsB Try.prog 14=true:=by kernel_rfl
theorem cb15:callsB Try.prog 15=true:=by kernel_rfl
theorem cb16:callsB Try.prog 16=true:=by kernel_rfl
theorem cb17:callsB Try.prog 17=true:=by kernel_rfl
theorem cb18:callsB Try.prog 18=true:=by kernel_rfl
theorem cb19:callsB Try.prog 19=true:=by kernel_rfl
theorem cb2:callsB Try.prog 2=true:=by kernel_rfl
theorem cb20:callsB Try.prog 20=true:=by kernel_rfl
theorem cb21:callsB Try.prog 21=true:=by kernel_rfl
theorem cb22:callsB Try.prog 22=true:=by kernel_rfl
theorem cb23:callsB Try.prog 23=true:=by kernel_rfl
theorem cb24:callsB Try.prog 24=true:=by kernel_rfl
theorem cb25:callsB Try.prog 25=true:=by kernel_rfl
theorem cb26:callsB Try.prog 26=true:=by kernel_rfl
theorem cb27:callsB Try.prog 27=true:=by kernel_rfl
theorem cb28:callsB Try.prog 28=true:=by kernel_rfl
theorem cb29:callsB Try.prog 29=true:=by kernel_rfl
theorem cb3:callsB Try.prog 3=true:=by kernel_rfl
theorem cb30:callsB Try.prog 30=true:=by kernel_rfl
theorem cb31:callsB Try.prog 31=true:=by kernel_rfl
theorem cb32:callsB Try.prog 32=true:=by kernel_rfl
theorem cb33:callsB Try.prog 33=true:=by kernel_rfl
theorem cb34:callsB Try.prog 34=true:=by kernel_rfl
theorem cb35:callsB Try.prog 35=true:=by kernel_rfl
theorem cb36:callsB Try.prog 36=true:=by kernel_rfl
theorem cb37:callsB Try.prog 37=true:=by kernel_rfl
theorem cb38:callsB Try.prog 38=true:=by kernel_rfl
theorem cb39:callsB Try.prog 39=true:=by kernel_rfl
theorem cb4:callsB Try.prog 4=true:=by kernel_rfl
theorem cb40:callsB Try.prog 40=true:=by kernel_rfl
theorem cb41:callsB Try.prog 41=true:=by kernel_rfl
theorem cb42:callsB Try.prog 42=true:=by kernel_rfl
theorem cb43:callsB Try.prog 43=true:=by kernel_rfl
theorem cb44:callsB Try.prog 44=true:=by kernel_rfl
theorem cb45:callsB Try.prog 45=true:=by kernel_rfl
theorem cb46:callsB Try.prog 46=true:=by kernel_rfl
theorem cb47:callsB Try.prog 47=true:=by kernel_rfl
theorem cb48:callsB Try.prog 48=true:=by kernel_rfl
theorem cb49:callsB Try.prog 49=true:=by kernel_rfl
theorem cb5:callsB Try.prog 5=true:=by kernel_rfl
theorem cb50:callsB Try.prog 50=true:=by kernel_rfl
theorem cb51:callsB Try.prog 51=true:=by kernel_rfl
theorem cb52:callsB Try.prog 52=true:=by kernel_rfl
theorem cb53:callsB Try.prog 53=true:=by kernel_rfl
theorem cb54:callsB Try.prog 54=true:=by kernel_rfl
theorem cb55:callsB Try.prog 55=true:=by kernel_rfl
theorem cb56:callsB Try.prog 56=true:=by kernel_rfl
theorem cb57:callsB Try.prog 57=true:=by kernel_rfl
theorem cb58:callsB Try.prog 58=true:=by kernel_rfl
theorem cb59:callsB Try.prog 59=true:=by kernel_rfl
theorem cb6:callsB Try.prog 6=true:=by kernel_rfl
theorem cb60:callsB Try.prog 60=true:=by kernel_rfl
theorem cb61:callsB Try.prog 61=true:=by kernel_rfl
theorem cb62:callsB Try.prog 62=true:=by kernel_rfl
theorem cb63:callsB Try.prog 63=true:=by kernel_rfl
theorem cb64:callsB Try.prog 64=true:=by kernel_rfl
theorem cb65:callsB Try.prog 65=true:=by kernel_rfl
theorem cb66:callsB Try.prog 66=true:=by kernel_rfl
theorem cb67:callsB Try.prog 67=true:=by kernel_rfl
theorem cb68:callsB Try.prog 68=true:=by kernel_rfl
theorem cb69:callsB Try.prog 69=true:=by kernel_rfl
theorem cb7:callsB Try.prog 7=true:=by kernel_rfl
theorem cb70:callsB Try.prog 70=true:=by kernel_rfl
theorem cb71:callsB Try.prog 71=true:=by kernel_rfl
theorem cb72:callsB Try.prog 72=true:=by kernel_rfl
theorem cb73:callsB Try.prog 73=true:=by kernel_rfl
theorem cb74:callsB Try.prog 74=true:=by kernel_rfl
theorem cb75:callsB Try.prog 75=true:=by kernel_rfl
theorem cb76:callsB Try.prog 76=true:=by kernel_rfl
theorem cb77:callsB Try.prog 77=true:=by kernel_rfl
theorem cb78:callsB Try.prog 78=true:=by kernel_rfl
theorem cb79:callsB Try.prog 79=true:=by kernel_rfl
theorem cb8:callsB Try.prog 8=true:=by kernel_rfl
theorem cb80:callsB Try.prog 80=true:=by kernel_rfl
theorem cb81:callsB Try.prog 81=true:=by kernel_rfl
theorem cb82:callsB Try.prog 82=true:=by kernel_rfl
theorem cb83:callsB Try.prog 83=true:=by kernel_rfl
theorem cb84:callsB Try.prog 84=true:=by kernel_rfl
theorem cb85:callsB Try.prog 85=true:=by kernel_rfl
theorem cb86:callsB Try.prog 86=true:=by kernel_rfl
theorem cb87:callsB Try.prog 87=true:=by kernel_rfl
theorem cb88:callsB Try.prog 88=true:=by kernel_rfl
theorem cb89:callsB Try.prog 89=true:=by kernel_rfl
theorem cb9:callsB Try.prog 9=true:=by kernel_rfl
theorem cb90:callsB Try.prog 90=true:=by kernel_rfl
theorem cb91:callsB Try.prog 91=true:=by kernel_rfl
theorem cb92:callsB Try.prog 92=true:=by kernel_rfl
theorem cb93:callsB Try.prog 93=true:=by kernel_rfl
theorem cb94:callsB Try.prog 94=true:=by kernel_rfl
theorem cb95:callsB Try.prog 95=true:=by kernel_rfl
theorem cb96:callsB Try.prog 96=true:=by kernel_rfl
theorem cb97:callsB Try.prog 97=true:=by kernel_rfl
theorem cb98:callsB Try.prog 98=true:=by kernel_rfl
theorem cb99:callsB Try.prog 99=true:=by kernel_rfl
theorem tA22:arrT Try.prog 22=none:=by kernel_rfl
theorem tA25:arrT Try.prog 25=none:=by kernel_rfl
theorem tA26:arrT Try.prog 26=none:=by kernel_rfl
theorem tA31:arrT Try.prog 31=none:=by kernel_rfl
theorem tA32:arrT Try.prog 32=none:=by kernel_rfl
theorem tA34:arrT Try.prog 34=none:=by kernel_rfl
theorem tA44:arrT Try.prog 44=none:=by kernel_rfl
theorem tA46:arrT Try.prog 46=none:=by kernel_rfl
theorem tA56:arrT Try.prog 56=none:=by kernel_rfl
theorem tA60:arrT Try.prog 60=none:=by kernel_rfl
theorem tA66:arrT Try.prog 66=none:=by kernel_rfl
theorem tA81:arrT Try.prog 81=none:=by kernel_rfl
theorem tA85:arrT Try.prog 85=none:=by kernel_rfl
theorem tA9:arrT Try.prog 9=none:=by kernel_rfl
theorem tI3:intT Try.prog 3=some .i64:=by kernel_rfl
theorem tI48:intT Try.prog 48=none:=by kernel_rfl
theorem tI5:intT Try.prog 5=some .u8:=by kernel_rfl
theorem tI55:intT Try.prog 55=some .u32:=by kernel_rfl
theorem tI88:intT Try.prog 88=some .u64:=by kernel_rfl
theorem tI89:intT Try.prog 89=some .u64:=by kernel_rfl
theorem tI9:intT Try.prog 9=none:=by kernel_rfl
theorem tS22:slcT Try.prog 22=some 3:=by kernel_rfl
theorem tS26:slcT Try.prog 26=some 46:=by kernel_rfl
theorem tS31:slcT Try.prog 31=some 55:=by kernel_rfl
theorem tS32:slcT Try.prog 32=some 55:=by kernel_rfl
theorem tS48:slcT Try.prog 48=some 5:=by kernel_rfl
theorem tS56:slcT Try.prog 56=some 26:=by kernel_rfl
theorem tS60:slcT Try.prog 60=some 22:=by kernel_rfl
theorem tS66:slcT Try.prog 66=some 34:=by kernel_rfl
theorem tS81:slcT Try.prog 81=some 9:=by kernel_rfl
theorem tS85:slcT Try.prog 85=some 4:=by kernel_rfl
theorem tS9:slcT Try.prog 9=none:=by kernel_rfl
theorem tb4:isBoolT Try.prog 4=true:=by kernel_rfl
theorem tc22:zeroC Try.prog 22=some [.slice none 0 0]:=by kernel_rfl
theorem tc25:zeroC Try.prog 25=some [.slice none 0 0,.int .i64 0]:=by kernel_rfl
theorem tc26:zeroC Try.prog 26=some [.slice none 0 0]:=by kernel_rfl
theorem tc3:zeroC Try.prog 3=some [.int .i64 0]:=by kernel_rfl
theorem tc31:zeroC Try.prog 31=some [.slice none 0 0]:=by kernel_rfl
theorem tc32:zeroC Try.prog 32=some [.slice none 0 0]:=by kernel_rfl
theorem tc34:zeroC Try.prog 34=some [.slice none 0 0,.slice none 0 0]:=by kernel_rfl
theorem tc4:zeroC Try.prog 4=some [.bool false]:=by kernel_rfl
theorem tc44:zeroC Try.prog 44=some [.string ⟨#[]⟩,.string ⟨#[]⟩]:=by kernel_rfl
theorem tc46:zeroC Try.prog 46=some [.string ⟨#[]⟩,.string ⟨#[]⟩,.slice none 0 0,.slice none 0 0,.int .i64 0]:=by kernel_rfl
theorem tc5:zeroC Try.prog 5=some [.int .u8 0]:=by kernel_rfl
theorem tc55:zeroC Try.prog 55=some [.int .u32 0]:=by kernel_rfl
theorem tc66:zeroC Try.prog 66=some [.slice none 0 0]:=by kernel_rfl
theorem tc9:zeroC Try.prog 9=some [.string ⟨#[]⟩]:=by kernel_rfl
theorem tf25_0:fOff Try.prog 25 0=some (0,22):=by kernel_rfl
theorem tf25_1:fOff Try.prog 25 1=some (1,3):=by kernel_rfl
theorem tf34_0:fOff Try.prog 34 0=some (0,32):=by kernel_rfl
theorem tf34_1:fOff Try.prog 34 1=some (1,32):=by kernel_rfl
theorem tf44_0:fOff Try.prog 44 0=some (0,9):=by kernel_rfl
theorem tf44_1:fOff Try.prog 44 1=some (1,9):=by kernel_rfl
theorem tf46_0:fOff Try.prog 46 0=some (0,44):=by kernel_rfl
theorem tf46_1:fOff Try.prog 46 1=some (2,34):=by kernel_rfl
theorem tf46_2:fOff Try.prog 46 2=some (4,3):=by kernel_rfl
theorem tk22:kindT Try.prog 22=some false:=by kernel_rfl
theorem tk25:kindT Try.prog 25=some true:=by kernel_rfl
theorem tk26:kindT Try.prog 26=some false:=by kernel_rfl
theorem tk3:kindT Try.prog 3=some false:=by kernel_rfl
theorem tk31:kindT Try.prog 31=some false:=by kernel_rfl
theorem tk32:kindT Try.prog 32=some false:=by kernel_rfl
theorem tk34:kindT Try.prog 34=some true:=by kernel_rfl
theorem tk4:kindT Try.prog 4=some false:=by kernel_rfl
theorem tk44:kindT Try.prog 44=some true:=by kernel_rfl
theorem tk46:kindT Try.prog 46=some true:=by kernel_rfl
theorem tk5:kindT Try.prog 5=some false:=by kernel_rfl
theorem tk55:kindT Try.prog 55=some false:=by kernel_rfl
theorem tk66:kindT Try.prog 66=some false:=by kernel_rfl
theorem tk9:kindT Try.prog 9=some false:=by kernel_rfl
theorem tl22:isSliceT Try.prog 22=true:=by kernel_rfl
theorem tl26:isSliceT Try.prog 26=true:=by kernel_rfl
theorem tl31:isSliceT Try.prog 31=true:=by kernel_rfl
theorem tl32:isSliceT Try.prog 32=true:=by kernel_rfl
theorem tl56:isSliceT Try.prog 56=true:=by kernel_rfl
theorem tl60:isSliceT Try.prog 60=true:=by kernel_rfl
theorem tl81:isSliceT Try.prog 81=true:=by kernel_rfl
theorem tl9:isSliceT Try.prog 9=false:=by kernel_rfl
theorem tp25:placesT Try.prog 25=some [(0,1,false),(1,1,false)]:=by kernel_rfl
theorem tp34:placesT Try.prog 34=some [(0,1,false),(1,1,false)]:=by kernel_rfl
theorem tp44:placesT Try.prog 44=some [(0,1,false),(1,1,false)]:=by kernel_rfl
theorem tp46:placesT Try.prog 46=some [(0,2,true),(2,2,true),(4,1,false)]:=by kernel_rfl
theorem ts22:isStrT Try.prog 22=false:=by kernel_rfl
theorem ts26:isStrT Try.prog 26=false:=by kernel_rfl
theorem ts3:isStrT Try.prog 3=false:=by kernel_rfl
theorem ts31:isStrT Try.prog 31=false:=by kernel_rfl
theorem ts32:isStrT Try.prog 32=false:=by kernel_rfl
theorem ts48:isStrT Try.prog 48=false:=by kernel_rfl
theorem ts5:isStrT Try.prog 5=false:=by kernel_rfl
theorem ts55:isStrT Try.prog 55=false:=by kernel_rfl
theorem ts56:isStrT Try.prog 56=false:=by kernel_rfl
theorem ts60:isStrT Try.prog 60=false:=by kernel_rfl
theorem ts66:isStrT Try.prog 66=false:=by kernel_rfl
theorem ts81:isStrT Try.prog 81=false:=by kernel_rfl
theorem ts85:isStrT Try.prog 85=false:=by kernel_rfl
theorem ts88:isStrT Try.prog 88=false:=by kernel_rfl
theorem ts89:isStrT Try.prog 89=false:=by kernel_rfl
theorem ts9:isStrT Try.prog 9=true:=by kernel_rfl
theorem ty22:byO Try.prog 22=some 24:=by kernel_rfl
theorem ty26:byO Try.prog 26=some 24:=by kernel_rfl
theorem ty3:byO Try.prog 3=some 8:=by kernel_rfl
theorem ty34:byO Try.prog 34=some 48:=by kernel_rfl
theorem ty4:byO Try.prog 4=some 1:=by kernel_rfl
theorem ty46:byO Try.prog 46=some 88:=by kernel_rfl
theorem ty5:byO Try.prog 5=some 1:=by kernel_rfl
theorem ty55:byO Try.prog 55=some 4:=by kernel_rfl
theorem ty9:byO Try.prog 9=some 16:=by kernel_rfl
theorem tz22:szO Try.prog 22=some 1:=by kernel_rfl
theorem tz25:szO Try.prog 25=some 2:=by kernel_rfl
theorem tz26:szO Try.prog 26=some 1:=by kernel_rfl
theorem tz3:szO Try.prog 3=some 1:=by kernel_rfl
theorem tz31:szO Try.prog 31=some 1:=by kernel_rfl
theorem tz32:szO Try.prog 32=some 1:=by kernel_rfl
theorem tz34:szO Try.prog 34=some 2:=by kernel_rfl
theorem tz4:szO Try.prog 4=some 1:=by kernel_rfl
theorem tz44:szO Try.prog 44=some 2:=by kernel_rfl
theorem tz46:szO Try.prog 46=some 5:=by kernel_rfl
theorem tz5:szO Try.prog 5=some 1:=by kernel_rfl
theorem tz55:szO Try.prog 55=some 1:=by kernel_rfl
theorem tz66:szO Try.prog 66=some 1:=by kernel_rfl
theorem tz9:szO Try.prog 9=some 1:=by kernel_rfl
set_option linter.defProp false
def sxB:=And.intro (And.intro (And.intro (And.intro (And.intro (And.intro (And.intro (@loadX.eq_1) (@loadX.eq_2)) (And.intro (@loadX.eq_3) (And.intro (@loadX.eq_4) (@loadX.eq_5)))) (And.intro (And.intro (@loadX.eq_6) (@fldA.eq_1)) (And.intro (@fldA.eq_2) (And.intro (@fldA.eq_3) (@isPt_p))))) (And.intro (And.intro (And.intro (@addP_p) (@List.toList_toArray.{0})) (And.intro (@stepG.eq_1) (And.intro (@stepG.eq_2) (@fin.eq_1)))) (And.intro (And.intro (@fin.eq_2) (And.intro (@fin.eq_3) (@fin.eq_4))) (And.intro (@fin.eq_5) (And.intro (@fin.eq_6) (@fin.eq_7)))))) (And.intro (And.intro (And.intro (And.intro (@finG.eq_1) (@finG.eq_2)) (And.intro (@finG.eq_3) (And.intro (@finG.eq_4) (@brv_true)))) (And.intro (And.intro (@brv_false) (And.intro (@condK.eq_1) (@rowS.eq_1))) (And.intro (@rowS.eq_2) (And.intro (@mentL_append) (@mentL_ext))))) (And.intro (And.intro (And.intro (@mentL_extf) (@one_bool)) (And.intro (@one_int) (And.intro (@one_str) (@one_ptr)))) (And.intro (And.intro (@one_sli) (And.intro (@one_map) (@one_fun))) (And.intro (@one_nf) (And.intro (@one_ni) (@one_if))))))) (And.intro (And.intro (And.intro (And.intro (And.intro (@one_agg) (@one_tup)) (And.intro (@List.getElem?_cons_zero.{0}) (And.intro (@List.getElem?_cons_succ.{0}) (@List.drop_zero.{0})))) (And.intro (And.intro (@List.drop_succ_cons.{0}) (@List.take_zero.{0})) (And.intro (@List.take_succ_cons.{0}) (And.intro (@List.take_nil.{0}) (@List.drop_nil.{0}))))) (And.intro (And.intro (And.intro (@List.map_cons.{0,0}) (@List.map_nil.{0,0})) (And.intro (@List.length_cons.{0}) (And.intro (@List.length_nil.{0}) (@List.append_nil.{0})))) (And.intro (And.intro (@List.cons_append.{0}) (And.intro (@List.nil_append.{0}) (@List.set_cons_zero.{0}))) (And.intro (@List.set_cons_succ.{0}) (And.intro (@List.all_cons.{0}) (@List.all_nil.{0})))))) (And.intro (And.intro (And.intro (And.intro (@List.mem_cons.{0}) (@List.not_mem_nil.{0})) (And.intro (@Option.bind_some.{0,0}) (And.intro (@Option.map_some.{0,0}) (@Option.map_none.{0,0})))) (And.intro (And.intro (@true_and) (And.intro (@and_true) (@and_self))) (And.intro (@true_implies) (And.intro (@false_implies) (@imp_self))))) (And.intro (And.intro (And.intro (@Bool.cond_false_right) (@Bool.cond_true_left)) (And.intro (@beq_true) (And.intro (@beq_false) (@Bool.not_eq_true')))) (And.intro (And.intro (@Bool.not_true) (And.intro (@Bool.not_false) (@Bool.true_and))) (And.intro (@Bool.and_true) (And.intro (@Bool.false_and) (@Bool.and_false)))))))) (And.intro (And.intro (And.intro (And.intro (And.intro (And.intro (@Bool.or_false) (@Bool.false_or)) (And.intro (@Bool.or_true) (And.intro (@Bool.true_or) (@decide_true)))) (And.intro (And.intro (@decide_false) (@Bool.false_eq_true)) (And.intro (@Bool.true_eq_false) (And.intro (@false_or) (@true_or))))) (And.intro (And.intro (And.intro (@or_true) (@or_false)) (And.intro (@or_self) (And.intro (@List.contains_nil.{0}) (@List.contains_cons.{0})))) (And.intro (And.intro (@List.size_toArray.{0}) (And.intro (@List.getElem?_toArray.{0}) (@Option.isSome_some.{0}))) (And.intro (@Option.isSome_none.{0}) (And.intro (@Nat.zero_add) (@Nat.add_zero)))))) (And.intro (And.intro (And.intro (And.intro (@Int.toNat_natCast) (@okR.eq_1)) (And.intro (@okR.eq_2) (And.intro (@okR.eq_3) (@okR.eq_4)))) (And.intro (And.intro (@okR.eq_5) (And.intro (@okR.eq_6) (@finD.eq_1))) (And.intro (@finD.eq_2) (And.intro (@finD.eq_3) (@finD.eq_4))))) (And.intro (And.intro (And.intro (@finD.eq_5) (@finD.eq_6)) (And.intro (@finD.eq_7) (And.intro (@finGD.eq_1) (@finGD.eq_2)))) (And.intro (And.intro (@finGD.eq_3) (And.intro (@finGD.eq_4) (@stepGD.eq_1))) (And.intro (@stepGD.eq_2) (And.intro (@isSl_s) (@slen_s))))))) (And.intro (And.intro (And.intro (And.intro (And.intro (@scap_s) (@nilS_s)) (And.intro (@Option.isNone_none.{0}) (And.intro (@Option.isNone_some.{0}) (@vc.eq_1)))) (And.intro (And.intro (@vc.eq_2) (And.intro (@vc.eq_3) (@vc.eq_4))) (And.intro (@vc.eq_5) (And.intro (@vc.eq_7) (@vc.eq_8))))) (And.intro (And.intro (And.intro (@vc.eq_9) (@vc.eq_10)) (And.intro (@vc.eq_11) (And.intro (@vc.eq_12) (@vc.eq_13)))) (And.intro (And.intro (@seqK_false) (And.intro (@seqK_true) (@vcX_marks))) (And.intro (@vc_exit) (And.intro (@vcX_blk) (@vcX_code)))))) (And.intro (And.intro (And.intro (And.intro (@vcX_stop) (@aggA_nil)) (And.intro (@aggA_cons) (And.intro (@slcG_gd) (@slcG_ext)))) (And.intro (And.intro (@slcG_slo) (And.intro (@slcG_own) (@cellsG.eq_1))) (And.intro (@cellsG.eq_2) (And.intro (@putA.eq_1) (@putA.eq_2))))) (And.intro (And.intro (And.intro (@hold_eq.{1}) (@vc.eq_14)) (And.intro (@lookM_tup) (And.intro (@eq_self.{1}) (@forall_eq.{1})))) (And.intro (And.intro (@forall_eq_or_imp.{1}) (And.intro (@implies_true.{1}) (@implies_true.{0}))) (And.intro (@beq_self_eq_true.{0}) (And.intro (@forall_const.{1}) (@forall_const.{0}))))))))
def sxD:=And.intro (And.intro (And.intro (And.intro (And.intro (And.intro (@dstO.eq_def) (@normA.eq_def)) (And.intro (@normG.eq_def) (And.intro (@normP.eq_def) (@nilR.eq_def)))) (And.intro (And.intro (@nilA.eq_def) (And.intro (@fieldR.eq_def) (@addOb.eq_def))) (And.intro (@loadH.eq_def) (And.intro (@storeH.eq_def) (@zeroR.eq_def))))) (And.intro (And.intro (And.intro (@fldV.eq_def) (And.intro (@storeX.eq_def) (@loadV.eq_def))) (And.intro (@AV.ptr?.eq_def) (And.intro (@tOp.eq_def) (@put1.eq_def)))) (And.intro (And.intro (@put2.eq_def) (And.intro (@pickV.eq_def) (@binV.eq_def))) (And.intro (@binW.eq_def) (And.intro (@intV.eq_def) (@strV.eq_def)))))) (And.intro (And.intro (And.intro (And.intro (@boolV.eq_def) (@nilV.eq_def)) (And.intro (@unV1.eq_def) (And.intro (@unV.eq_def) (@selV.eq_def)))) (And.intro (And.intro (@extR.eq_def) (And.intro (@ev.eq_def) (@evC.eq_def))) (And.intro (@callR.eq_def) (And.intro (@bltR.eq_def) (@srcA.eq_def))))) (And.intro (And.intro (And.intro (@lenR.eq_def) (And.intro (@lenV.eq_def) (@minV.eq_def))) (And.intro (@maxV.eq_def) (And.intro (@St.put.eq_def) (@AV.val.eq_def)))) (And.intro (And.intro (@unG.eq_def) (And.intro (@guardB.eq_def) (@gslot.eq_def))) (And.intro (@loadR.eq_def) (And.intro (@storeR.eq_def) (@oneC.eq_def))))))) (And.intro (And.intro (And.intro (And.intro (And.intro (@tupA.eq_def) (@cellsA.eq_def)) (And.intro (@mkF.eq_def) (And.intro (@strH.eq_def) (@convX.eq_def)))) (And.intro (And.intro (@boxR.eq_def) (And.intro (@plT.eq_def) (@buildSR.eq_def))) (And.intro (@partC.eq_def) (And.intro (@makeR.eq_def) (@fieldX.eq_def))))) (And.intro (And.intro (And.intro (@fieldO.eq_def) (And.intro (@idxR.eq_def) (@idxA.eq_def))) (And.intro (@indV.eq_def) (And.intro (@slcR.eq_def) (@slcO.eq_def)))) (And.intro (And.intro (@bndO.eq_def) (And.intro (@conV.eq_def) (@cutB.eq_def))) (And.intro (@cutC.eq_def) (And.intro (@cutP.eq_def) (@joinH.eq_def)))))) (And.intro (And.intro (And.intro (And.intro (@reachK.eq_def) (And.intro (@mentO.eq_def) (@tupR.eq_def))) (And.intro (@NewD.av.eq_def) (And.intro (@eqV.eq_def) (@eqC.eq_def)))) (And.intro (And.intro (@looksK.eq_def) (And.intro (@addrL.eq_def) (@ptrK.eq_def))) (And.intro (@sloK.eq_def) (And.intro (@Op.operands.eq_def) (@Call.operands.eq_def))))) (And.intro (And.intro (And.intro (@awayB.eq_def) (And.intro (@cutO.eq_def) (@ownK.eq_def))) (And.intro (@mentD.eq_def) (And.intro (@offL.eq_def) (@offP.eq_def)))) (And.intro (And.intro (@lkuR.eq_def) (And.intro (@selV_true) (@selV_false))) (And.intro (@opAt_arr) (And.intro (@opAt_0) (@opAt_S)))))))
def sxE:=And.intro (And.intro (And.intro (And.intro (And.intro (And.intro (@normL.eq_1) (And.intro (@normL.eq_2) (@lk.eq_1))) (And.intro (@lk.eq_2) (And.intro (@lkH.eq_1) (@lkH.eq_2)))) (And.intro (And.intro (@upH.eq_1) (And.intro (@upH.eq_2) (@allOne.eq_1))) (And.intro (And.intro (@allOne.eq_2) (@vals.eq_1)) (And.intro (@vals.eq_2) (@vals.eq_3))))) (And.intro (And.intro (And.intro (@bytesA.eq_1) (And.intro (@bytesA.eq_2) (@bytesA.eq_3))) (And.intro (@buildL.eq_1) (And.intro (@buildL.eq_2) (@plN.eq_1)))) (And.intro (And.intro (@plN.eq_2) (And.intro (@repN.eq_1) (@repN.eq_2))) (And.intro (And.intro (@AV.ment.eq_1) (@AV.ment.eq_2)) (And.intro (@AV.ment.eq_3) (@AV.ment.eq_4)))))) (And.intro (And.intro (And.intro (And.intro (@AV.ment.eq_5) (And.intro (@AV.ment.eq_6) (@AV.ment.eq_7))) (And.intro (@AV.ment.eq_8) (And.intro (@AV.ment.eq_9) (@mentL.eq_1)))) (And.intro (And.intro (@mentL.eq_2) (And.intro (@mentE.eq_1) (@mentE.eq_2))) (And.intro (And.intro (@mentH.eq_1) (@mentH.eq_2)) (And.intro (@hasK.eq_1) (@hasK.eq_2))))) (And.intro (And.intro (And.intro (@AV.kill.eq_1) (And.intro (@AV.kill.eq_2) (@AV.kill.eq_3))) (And.intro (@AV.kill.eq_4) (And.intro (@AV.kill.eq_5) (@AV.kill.eq_6)))) (And.intro (And.intro (@AV.kill.eq_7) (And.intro (@AV.kill.eq_8) (@AV.kill.eq_9))) (And.intro (And.intro (@killL.eq_1) (@killL.eq_2)) (And.intro (@killE.eq_1) (@killE.eq_2))))))) (And.intro (And.intro (And.intro (And.intro (And.intro (@killH.eq_1) (And.intro (@killH.eq_2) (@killEs.eq_1))) (And.intro (@killEs.eq_2) (And.intro (@killHs.eq_1) (@killHs.eq_2)))) (And.intro (And.intro (@popTo.eq_1) (And.intro (@popTo.eq_2) (@popTo.eq_3))) (And.intro (And.intro (@hasBlk.eq_1) (@hasBlk.eq_2)) (And.intro (@hasBlk.eq_3) (@argEnv.eq_1))))) (And.intro (And.intro (And.intro (@argEnv.eq_2) (And.intro (@subH.eq_1) (@subH.eq_2))) (And.intro (@dropH.eq_1) (And.intro (@dropH.eq_2) (@cellsK.eq_1)))) (And.intro (And.intro (@cellsK.eq_2) (And.intro (@newKeys.eq_1) (@newKeys.eq_2))) (And.intro (And.intro (@keysH.eq_1) (@keysH.eq_2)) (And.intro (@inB.eq_1) (@inB.eq_2)))))) (And.intro (And.intro (And.intro (And.intro (@eqL.eq_1) (And.intro (@eqL.eq_2) (@keysOf.eq_1))) (And.intro (@keysOf.eq_2) (And.intro (@looksL.eq_1) (@looksL.eq_2)))) (And.intro (And.intro (@disj.eq_1) (And.intro (@disj.eq_2) (@subE.eq_1))) (And.intro (And.intro (@subE.eq_2) (@subHp.eq_1)) (And.intro (@subHp.eq_2) (@keepLt.eq_1))))) (And.intro (And.intro (And.intro (@keepLt.eq_2) (And.intro (@forgetD.eq_1) (@forgetD.eq_2))) (And.intro (@marksOf.eq_1) (And.intro (@marksOf.eq_2) (@marksOf.eq_3)))) (And.intro (And.intro (@headId.eq_1) (And.intro (@headId.eq_2) (@headId.eq_3))) (And.intro (And.intro (@headId.eq_4) (@headId.eq_5)) (And.intro (@cellsD.eq_1) (@cellsD.eq_2)))))))
def sxO:=And.intro (And.intro (And.intro (@decide_eq_true_eq) (And.intro (@decide_eq_false_iff_not) (@Bool.or_eq_true))) (And.intro (@Bool.or_eq_false_iff) (And.intro (@Bool.and_eq_true) (@Bool.and_eq_false_iff)))) (And.intro (And.intro (@Bool.not_eq_true) (And.intro (@Bool.not_eq_true') (@Bool.not_eq_false'))) (And.intro (@Int.toNat_natCast) (And.intro (@ne_eq.{1}) (@maxLen.eq_1))))
def sxTab:=And.intro (And.intro (And.intro (And.intro (And.intro (And.intro (And.intro (@cb10) (And.intro (@cb100) (@cb101))) (And.intro (And.intro (@cb102) (@cb103)) (And.intro (@cb104) (@cb105)))) (And.intro (And.intro (@cb106) (And.intro (@cb107) (@cb109))) (And.intro (And.intro (@cb11) (@cb12)) (And.intro (@cb13) (@cb14))))) (And.intro (And.intro (And.intro (@cb15) (And.intro (@cb16) (@cb17))) (And.intro (And.intro (@cb18) (@cb19)) (And.intro (@cb2) (@cb20)))) (And.intro (And.intro (@cb21) (And.intro (@cb22) (@cb23))) (And.intro (And.intro (@cb24) (@cb25)) (And.intro (@cb26) (@cb27)))))) (And.intro (And.intro (And.intro (And.intro (@cb28) (And.intro (@cb29) (@cb3))) (And.intro (And.intro (@cb30) (@cb31)) (And.intro (@cb32) (@cb33)))) (And.intro (And.intro (@cb34) (And.intro (@cb35) (@cb36))) (And.intro (And.intro (@cb37) (@cb38)) (And.intro (@cb39) (@cb4))))) (And.intro (And.intro (And.intro (@cb40) (And.intro (@cb41) (@cb42))) (And.intro (And.intro (@cb43) (@cb44)) (And.intro (@cb45) (@cb46)))) (And.intro (And.intro (And.intro (@cb47) (@cb48)) (And.intro (@cb49) (@cb5))) (And.intro (And.intro (@cb50) (@cb51)) (And.intro (@cb52) (@cb53))))))) (And.intro (And.intro (And.intro (And.intro (And.intro (@cb54) (And.intro (@cb55) (@cb56))) (And.intro (And.intro (@cb57) (@cb58)) (And.intro (@cb59) (@cb6)))) (And.intro (And.intro (@cb60) (And.intro (@cb61) (@cb62))) (And.intro (And.intro (@cb63) (@cb64)) (And.intro (@cb65) (@cb66))))) (And.intro (And.intro (And.intro (@cb67) (And.intro (@cb68) (@cb69))) (And.intro (And.intro (@cb7) (@cb70)) (And.intro (@cb71) (@cb72)))) (And.intro (And.intro (@cb73) (And.intro (@cb74) (@cb75))) (And.intro (And.intro (@cb76) (@cb77)) (And.intro (@cb78) (@cb79)))))) (And.intro (And.intro (And.intro (And.intro (@cb8) (And.intro (@cb80) (@cb81))) (And.intro (And.intro (@cb82) (@cb83)) (And.intro (@cb84) (@cb85)))) (And.intro (And.intro (@cb86) (And.intro (@cb87) (@cb88))) (And.intro (And.intro (@cb89) (@cb9)) (And.intro (@cb90) (@cb91))))) (And.intro (And.intro (And.intro (@cb92) (And.intro (@cb93) (@cb94))) (And.intro (And.intro (@cb95) (@cb96)) (And.intro (@cb97) (@cb98)))) (And.intro (And.intro (And.intro (@cb99) (@tA22)) (And.intro (@tA25) (@tA26))) (And.intro (And.intro (@tA31) (@tA32)) (And.intro (@tA34) (@tA44)))))))) (And.intro (And.intro (And.intro (And.intro (And.intro (And.intro (@tA46) (And.intro (@tA56) (@tA60))) (And.intro (And.intro (@tA66) (@tA81)) (And.intro (@tA85) (@tA9)))) (And.intro (And.intro (@tI3) (And.intro (@tI48) (@tI5))) (And.intro (And.intro (@tI55) (@tI88)) (And.intro (@tI89) (@tI9))))) (And.intro (And.intro (And.intro (@tS22) (And.intro (@tS26) (@tS31))) (And.intro (And.intro (@tS32) (@tS48)) (And.intro (@tS56) (@tS60)))) (And.intro (And.intro (@tS66) (And.intro (@tS81) (@tS85))) (And.intro (And.intro (@tS9) (@tb4)) (And.intro (@tc22) (@tc25)))))) (And.intro (And.intro (And.intro (And.intro (@tc26) (And.intro (@tc3) (@tc31))) (And.intro (And.intro (@tc32) (@tc34)) (And.intro (@tc4) (@tc44)))) (And.intro (And.intro (@tc46) (And.intro (@tc5) (@tc55))) (And.intro (And.intro (@tc66) (@tc9)) (And.intro (@tf25_0) (@tf25_1))))) (And.intro (And.intro (And.intro (@tf34_0) (And.intro (@tf34_1) (@tf44_0))) (And.intro (And.intro (@tf44_1) (@tf46_0)) (And.intro (@tf46_1) (@tf46_2)))) (And.intro (And.intro (And.intro (@tk22) (@tk25)) (And.intro (@tk26) (@tk3))) (And.intro (And.intro (@tk31) (@tk32)) (And.intro (@tk34) (@tk4))))))) (And.intro (And.intro (And.intro (And.intro (And.intro (@tk44) (And.intro (@tk46) (@tk5))) (And.intro (And.intro (@tk55) (@tk66)) (And.intro (@tk9) (@tl22)))) (And.intro (And.intro (@tl26) (And.intro (@tl31) (@tl32))) (And.intro (And.intro (@tl56) (@tl60)) (And.intro (@tl81) (@tl9))))) (And.intro (And.intro (And.intro (@tp25) (And.intro (@tp34) (@tp44))) (And.intro (And.intro (@tp46) (@ts22)) (And.intro (@ts26) (@ts3)))) (And.intro (And.intro (@ts31) (And.intro (@ts32) (@ts48))) (And.intro (And.intro (@ts5) (@ts55)) (And.intro (@ts56) (@ts60)))))) (And.intro (And.intro (And.intro (And.intro (@ts66) (And.intro (@ts81) (@ts85))) (And.intro (And.intro (@ts88) (@ts89)) (And.intro (@ts9) (@ty22)))) (And.intro (And.intro (@ty26) (And.intro (@ty3) (@ty34))) (And.intro (And.intro (@ty4) (@ty46)) (And.intro (@ty5) (@ty55))))) (And.intro (And.intro (And.intro (@ty9) (And.intro (@tz22) (@tz25))) (And.intro (And.intro (@tz26) (@tz3)) (And.intro (@tz31) (@tz32)))) (And.intro (And.intro (And.intro (@tz34) (@tz4)) (And.intro (@tz44) (@tz46))) (And.intro (And.intro (@tz5) (@tz55)) (And.intro (@tz66) (@tz9))))))))
end Go.Proofs.Ytjapnklocibgaaa.Sx
