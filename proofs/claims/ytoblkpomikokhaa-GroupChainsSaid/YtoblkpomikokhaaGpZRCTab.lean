/- Part 15 of the texts of this claim: a symbolic executor and contracts of functions. -/
import Derived.Test.YtoblkpomikokhaaGpZRCUse
namespace Go.Proofs.Ytoblkpomikokhaa.Sx
open Go
theorem _root_.Go.Proofs.Try.mixed:Try.prog.follows .mixedOrders=true:=by kernel_rfl
theorem cb10:callsB Try.prog 10=true:=by kernel_rfl
theorem cb11:callsB Try.prog 11=true:=by kernel_rfl
theorem cb12:callsB Try.prog 12=true:=by kernel_rfl
theorem cb13:callsB Try.prog 13=true:=by kernel_rfl
theorem cb14:callsB Try.prog 14=true:=by kernel_rfl
theorem cb15:callsB Try.prog 15=true:=by kernel_rfl
theorem cb16:callsB Try.prog 16=true:=by kernel_rfl
theorem cb17:callsB Try.prog 17=true:=by kernel_rfl
theorem cb18:callsB Try.prog 18=true:=by kernel_rfl
theorem cb19:callsB Try.prog 19=true:=by kernel_rfl
theorem cb2:callsB Try.prog 2=true:=by kernel_rfl
theorem cb20:callsB Try.prog 20=true:=by kernel_rfl
theorem cb21:callsB Try.prog 21=true:=by kernel_rfl
theorem cb22:callsB Try.prog 22=true:=by kernel_rfl
theorem cb23:callsB Try.prog 23=true:=by kernel_rfl
theorem cb24:callsB Try.prog 24=true:=by kernel_rfl
theorem cb25:callsB Try.prog 25=true:=by kernel_rfl
theorem cb26:callsB Try.prog 26=true:=by kernel_rfl
theorem cb27:callsB Try.prog 27=true:=by kernel_rfl
theorem cb28:callsB Try.prog 28=true:=by kernel_rfl
theorem cb29:callsB Try.prog 29=true:=by kernel_rfl
theorem cb3:callsB Try.prog 3=true:=by kernel_rfl
theorem cb30:callsB Try.prog 30=true:=by kernel_rfl
theorem cb31:callsB Try.prog 31=true:=by kernel_rfl
theorem cb32:callsB Try.prog 32=true:=by kernel_rfl
theorem cb33:callsB Try.prog 33=true:=by kernel_rfl
theorem cb34:callsB Try.prog 34=true:=by kernel_rfl
theorem cb35:callsB Try.prog 35=true:=by kernel_rfl
theorem cb36:callsB Try.prog 36=true:=by kernel_rfl
theorem cb37:callsB Try.prog 37=true:=by kernel_rfl
theorem cb38:callsB Try.prog 38=true:=by kernel_rfl
theorem cb39:callsB Try.prog 39=true:=by kernel_rfl
theorem cb4:callsB Try.prog 4=true:=by kernel_rfl
theorem cb40:callsB Try.prog 40=true:=by kernel_rfl
theorem cb41:callsB Try.prog 41=true:=by kernel_rfl
theorem cb42:callsB Try.prog 42=true:=by kernel_rfl
theorem cb43:callsB Try.prog 43=true:=by kernel_rfl
theorem cb44:callsB Try.prog 44=true:=by kernel_rfl
theorem cb45:callsB Try.prog 45=true:=by kernel_rfl
theorem cb46:callsB Try.prog 46=true:=by kernel_rfl
theorem cb47:callsB Try.prog 47=true:=by kernel_rfl
theorem cb48:callsB Try.prog 48=true:=by kernel_rfl
theorem cb49:callsB Try.prog 49=true:=by kernel_rfl
theorem cb5:callsB Try.prog 5=true:=by kernel_rfl
theorem cb50:callsB Try.prog 50=true:=by kernel_rfl
theorem cb51:callsB Try.prog 51=true:=by kernel_rfl
theorem cb52:callsB Try.prog 52=true:=by kernel_rfl
theorem cb53:callsB Try.prog 53=true:=by kernel_rfl
theorem cb54:callsB Try.prog 54=true:=by kernel_rfl
theorem cb55:callsB Try.prog 55=true:=by kernel_rfl
theorem cb56:callsB Try.prog 56=true:=by kernel_rfl
theorem cb57:callsB Try.prog 57=true:=by kernel_rfl
theorem cb58:callsB Try.prog 58=true:=by kernel_rfl
theorem cb59:callsB Try.prog 59=true:=by kernel_rfl
theorem cb6:callsB Try.prog 6=true:=by kernel_rfl
theorem cb60:callsB Try.prog 60=true:=by kernel_rfl
theorem cb61:callsB Try.prog 61=true:=by kernel_rfl
theorem cb62:callsB Try.prog 62=true:=by kernel_rfl
theorem cb63:callsB Try.prog 63=true:=by kernel_rfl
theorem cb64:callsB Try.prog 64=true:=by kernel_rfl
theorem cb65:callsB Try.prog 65=true:=by kernel_rfl
theorem cb66:callsB Try.prog 66=true:=by kernel_rfl
theorem cb67:callsB Try.prog 67=true:=by kernel_rfl
theorem cb68:callsB Try.prog 68=true:=by kernel_rfl
theorem cb69:callsB Try.prog 69=true:=by kernel_rfl
theorem cb7:callsB Try.prog 7=true:=by kernel_rfl
theorem cb70:callsB Try.prog 70=true:=by kernel_rfl
theorem cb71:callsB Try.prog 71=true:=by kernel_rfl
theorem cb72:callsB Try.prog 72=true:=by kernel_rfl
theorem cb74:callsB Try.prog 74=true:=by kernel_rfl
theorem cb75:callsB Try.prog 75=true:=by kernel_rfl
theorem cb76:callsB Try.prog 76=true:=by kernel_rfl
theorem cb77:callsB Try.prog 77=true:=by kernel_rfl
theorem cb78:callsB Try.prog 78=true:=by kernel_rfl
theorem cb79:callsB Try.prog 79=true:=by kernel_rfl
theorem cb8:callsB Try.prog 8=true:=by kernel_rfl
theorem cb80:callsB Try.prog 80=true:=by kernel_rfl
theorem cb81:callsB Try.prog 81=true:=by kernel_rfl
theorem cb82:callsB Try.prog 82=true:=by kernel_rfl
theorem cb84:callsB Try.prog 84=true:=by kernel_rfl
theorem cb85:callsB Try.prog 85=true:=by kernel_rfl
theorem cb86:callsB Try.prog 86=true:=by kernel_rfl
theorem cb88:callsB Try.prog 88=true:=by kernel_rfl
theorem cb89:callsB Try.prog 89=true:=by kernel_rfl
theorem cb9:callsB Try.prog 9=true:=by kernel_rfl
theorem cb90:callsB Try.prog 90=true:=by kernel_rfl
theorem cb91:callsB Try.prog 91=true:=by kernel_rfl
theorem cb92:callsB Try.prog 92=true:=by kernel_rfl
theorem cb93:callsB Try.prog 93=true:=by kernel_rfl
theorem cb94:callsB Try.prog 94=true:=by kernel_rfl
theorem cb95:callsB Try.prog 95=true:=by kernel_rfl
theorem cb97:callsB Try.prog 97=true:=by kernel_rfl
theorem cb98:callsB Try.prog 98=true:=by kernel_rfl
theorem cb99:callsB Try.prog 99=true:=by kernel_rfl
theorem tA116:arrT Try.prog 116=some (256,4):=by kernel_rfl
theorem tA22:arrT Try.prog 22=none:=by kernel_rfl
theorem tA24:arrT Try.prog 24=none:=by kernel_rfl
theorem tA25:arrT Try.prog 25=none:=by kernel_rfl
theorem tA31:arrT Try.prog 31=none:=by kernel_rfl
theorem tA32:arrT Try.prog 32=none:=by kernel_rfl
theorem tA34:arrT Try.prog 34=none:=by kernel_rfl
theorem tA38:arrT Try.prog 38=none:=by kernel_rfl
theorem tA42:arrT Try.prog 42=none:=by kernel_rfl
theorem tA44:arrT Try.prog 44=none:=by kernel_rfl
theorem tA48:arrT Try.prog 48=none:=by kernel_rfl
theorem tA50:arrT Try.prog 50=none:=by kernel_rfl
theorem tA53:arrT Try.prog 53=none:=by kernel_rfl
theorem tA61:arrT Try.prog 61=none:=by kernel_rfl
theorem tA67:arrT Try.prog 67=none:=by kernel_rfl
theorem tA74:arrT Try.prog 74=none:=by kernel_rfl
theorem tA75:arrT Try.prog 75=none:=by kernel_rfl
theorem tA79:arrT Try.prog 79=some (64,3):=by kernel_rfl
theorem tA9:arrT Try.prog 9=none:=by kernel_rfl
theorem tA98:arrT Try.prog 98=some (256,4):=by kernel_rfl
theorem tI120:intT Try.prog 120=none:=by kernel_rfl
theorem tI128:intT Try.prog 128=some .u32:=by kernel_rfl
theorem tI21:intT Try.prog 21=some .i32:=by kernel_rfl
theorem tI3:intT Try.prog 3=some .i64:=by kernel_rfl
theorem tI5:intT Try.prog 5=some .u8:=by kernel_rfl
theorem tI9:intT Try.prog 9=none:=by kernel_rfl
theorem tI94:intT Try.prog 94=none:=by kernel_rfl
theorem tS116:slcT Try.prog 116=none:=by kernel_rfl
theorem tS22:slcT Try.prog 22=some 9:=by kernel_rfl
theorem tS25:slcT Try.prog 25=some 3:=by kernel_rfl
theorem tS32:slcT Try.prog 32=some 74:=by kernel_rfl
theorem tS42:slcT Try.prog 42=some 34:=by kernel_rfl
theorem tS44:slcT Try.prog 44=some 50:=by kernel_rfl
theorem tS48:slcT Try.prog 48=some 4:=by kernel_rfl
theorem tS53:slcT Try.prog 53=some 48:=by kernel_rfl
theorem tS61:slcT Try.prog 61=some 42:=by kernel_rfl
theorem tS75:slcT Try.prog 75=some 24:=by kernel_rfl
theorem tS79:slcT Try.prog 79=none:=by kernel_rfl
theorem tS9:slcT Try.prog 9=none:=by kernel_rfl
theorem tS95:slcT Try.prog 95=some 5:=by kernel_rfl
theorem tS98:slcT Try.prog 98=none:=by kernel_rfl
theorem tb4:isBoolT Try.prog 4=true:=by kernel_rfl
theorem tc116:zeroC Try.prog 116=some (List.replicate 256 (.bool false)):=by kernel_rfl
theorem tc22:zeroC Try.prog 22=some [.slice none 0 0]:=by kernel_rfl
theorem tc24:zeroC Try.prog 24=some [.string ⟨#[]⟩,.slice none 0 0]:=by kernel_rfl
theorem tc25:zeroC Try.prog 25=some [.slice none 0 0]:=by kernel_rfl
theorem tc3:zeroC Try.prog 3=some [.int .i64 0]:=by kernel_rfl
theorem tc31:zeroC Try.prog 31=some [.string ⟨#[]⟩,.string ⟨#[]⟩]:=by kernel_rfl
theorem tc32:zeroC Try.prog 32=some [.slice none 0 0]:=by kernel_rfl
theorem tc34:zeroC Try.prog 34=some [.string ⟨#[]⟩,.string ⟨#[]⟩,.int .i64 0,.string ⟨#[]⟩,.slice none 0 0]:=by kernel_rfl
theorem tc38:zeroC Try.prog 38=some [.slice none 0 0,.int .i64 0]:=by kernel_rfl
theorem tc4:zeroC Try.prog 4=some [.bool false]:=by kernel_rfl
theorem tc42:zeroC Try.prog 42=some [.slice none 0 0]:=by kernel_rfl
theorem tc48:zeroC Try.prog 48=some [.slice none 0 0]:=by kernel_rfl
theorem tc5:zeroC Try.prog 5=some [.int .u8 0]:=by kernel_rfl
theorem tc50:zeroC Try.prog 50=some [.string ⟨#[]⟩,.slice none 0 0,.slice none 0 0]:=by kernel_rfl
theorem tc67:zeroC Try.prog 67=some [.string ⟨#[]⟩,.string ⟨#[]⟩,.int .i64 0,.int .i64 0,.int .i64 0,.int .i64 0,.int .i64 0,.slice none 0 0]:=by kernel_rfl
theorem tc74:zeroC Try.prog 74=some [.string ⟨#[]⟩,.string ⟨#[]⟩,.int .i64 0]:=by kernel_rfl
theorem tc79:zeroC Try.prog 79=some (List.replicate 64 (.int .i64 0)):=by kernel_rfl
theorem tc9:zeroC Try.prog 9=some [.string ⟨#[]⟩]:=by kernel_rfl
theorem tc94:zeroC Try.prog 94=some [.pointer none]:=by kernel_rfl
theorem tc95:zeroC Try.prog 95=some [.slice none 0 0]:=by kernel_rfl
theorem tc97:zeroC Try.prog 97=some [.pointer none,.slice none 0 0]:=by kernel_rfl
theorem tc98:zeroC Try.prog 98=some (List.replicate 256 (.bool false)):=by kernel_rfl
theorem tf24_0:fOff Try.prog 24 0=some (0,9):=by kernel_rfl
theorem tf24_1:fOff Try.prog 24 1=some (1,22):=by kernel_rfl
theorem tf31_0:fOff Try.prog 31 0=some (0,9):=by kernel_rfl
theorem tf31_1:fOff Try.prog 31 1=some (1,9):=by kernel_rfl
theorem tf34_0:fOff Try.prog 34 0=some (0,31):=by kernel_rfl
theorem tf34_1:fOff Try.prog 34 1=some (2,3):=by kernel_rfl
theorem tf34_2:fOff Try.prog 34 2=some (3,9):=by kernel_rfl
theorem tf34_3:fOff Try.prog 34 3=some (4,32):=by kernel_rfl
theorem tf38_0:fOff Try.prog 38 0=some (0,25):=by kernel_rfl
theorem tf38_1:fOff Try.prog 38 1=some (1,3):=by kernel_rfl
theorem tf50_0:fOff Try.prog 50 0=some (0,24):=by kernel_rfl
theorem tf50_1:fOff Try.prog 50 1=some (2,25):=by kernel_rfl
theorem tf74_0:fOff Try.prog 74 0=some (0,9):=by kernel_rfl
theorem tf74_1:fOff Try.prog 74 1=some (1,9):=by kernel_rfl
theorem tf97_0:fOff Try.prog 97 0=some (0,94):=by kernel_rfl
theorem tf97_1:fOff Try.prog 97 1=some (1,95):=by kernel_rfl
theorem tk116:kindT Try.prog 116=some true:=by kernel_rfl
theorem tk22:kindT Try.prog 22=some false:=by kernel_rfl
theorem tk24:kindT Try.prog 24=some true:=by kernel_rfl
theorem tk25:kindT Try.prog 25=some false:=by kernel_rfl
theorem tk3:kindT Try.prog 3=some false:=by kernel_rfl
theorem tk31:kindT Try.prog 31=some true:=by kernel_rfl
theorem tk32:kindT Try.prog 32=some false:=by kernel_rfl
theorem tk34:kindT Try.prog 34=some true:=by kernel_rfl
theorem tk38:kindT Try.prog 38=some true:=by kernel_rfl
theorem tk4:kindT Try.prog 4=some false:=by kernel_rfl
theorem tk42:kindT Try.prog 42=some false:=by kernel_rfl
theorem tk48:kindT Try.prog 48=some false:=by kernel_rfl
theorem tk5:kindT Try.prog 5=some false:=by kernel_rfl
theorem tk50:kindT Try.prog 50=some true:=by kernel_rfl
theorem tk67:kindT Try.prog 67=some true:=by kernel_rfl
theorem tk74:kindT Try.prog 74=some true:=by kernel_rfl
theorem tk79:kindT Try.prog 79=some true:=by kernel_rfl
theorem tk9:kindT Try.prog 9=some false:=by kernel_rfl
theorem tk94:kindT Try.prog 94=some false:=by kernel_rfl
theorem tk95:kindT Try.prog 95=some false:=by kernel_rfl
theorem tk97:kindT Try.prog 97=some true:=by kernel_rfl
theorem tk98:kindT Try.prog 98=some true:=by kernel_rfl
theorem tl22:isSliceT Try.prog 22=true:=by kernel_rfl
theorem tl25:isSliceT Try.prog 25=true:=by kernel_rfl
theorem tl32:isSliceT Try.prog 32=true:=by kernel_rfl
theorem tl42:isSliceT Try.prog 42=true:=by kernel_rfl
theorem tl44:isSliceT Try.prog 44=true:=by kernel_rfl
theorem tl56:isSliceT Try.prog 56=false:=by kernel_rfl
theorem tl61:isSliceT Try.prog 61=true:=by kernel_rfl
theorem tl75:isSliceT Try.prog 75=true:=by kernel_rfl
theorem tl9:isSliceT Try.prog 9=false:=by kernel_rfl
theorem tl95:isSliceT Try.prog 95=true:=by kernel_rfl
theorem tp24:placesT Try.prog 24=some [(0,1,false),(1,1,false)]:=by kernel_rfl
theorem tp31:placesT Try.prog 31=some [(0,1,false),(1,1,false)]:=by kernel_rfl
theorem tp34:placesT Try.prog 34=some [(0,2,true),(2,1,false),(3,1,false),(4,1,false)]:=by kernel_rfl
theorem tp38:placesT Try.prog 38=some [(0,1,false),(1,1,false)]:=by kernel_rfl
theorem tp50:placesT Try.prog 50=some [(0,2,true),(2,1,false)]:=by kernel_rfl
theorem tp67:placesT Try.prog 67=some [(0,2,true),(2,1,false),(3,1,false),(4,1,false),(5,1,false),(6,1,false),(7,1,false)]:=by kernel_rfl
theorem tp74:placesT Try.prog 74=some [(0,1,false),(1,1,false),(2,1,false)]:=by kernel_rfl
theorem ts116:isStrT Try.prog 116=false:=by kernel_rfl
theorem ts120:isStrT Try.prog 120=false:=by kernel_rfl
theorem ts128:isStrT Try.prog 128=false:=by kernel_rfl
theorem ts21:isStrT Try.prog 21=false:=by kernel_rfl
theorem ts22:isStrT Try.prog 22=false:=by kernel_rfl
theorem ts25:isStrT Try.prog 25=false:=by kernel_rfl
theorem ts3:isStrT Try.prog 3=false:=by kernel_rfl
theorem ts32:isStrT Try.prog 32=false:=by kernel_rfl
theorem ts42:isStrT Try.prog 42=false:=by kernel_rfl
theorem ts44:isStrT Try.prog 44=false:=by kernel_rfl
theorem ts48:isStrT Try.prog 48=false:=by kernel_rfl
theorem ts5:isStrT Try.prog 5=false:=by kernel_rfl
theorem ts53:isStrT Try.prog 53=false:=by kernel_rfl
theorem ts56:isStrT Try.prog 56=false:=by kernel_rfl
theorem ts61:isStrT Try.prog 61=false:=by kernel_rfl
theorem ts75:isStrT Try.prog 75=false:=by kernel_rfl
theorem ts79:isStrT Try.prog 79=false:=by kernel_rfl
theorem ts9:isStrT Try.prog 9=true:=by kernel_rfl
theorem ts94:isStrT Try.prog 94=false:=by kernel_rfl
theorem ts95:isStrT Try.prog 95=false:=by kernel_rfl
theorem ts98:isStrT Try.prog 98=false:=by kernel_rfl
theorem ty24:byO Try.prog 24=some 40:=by kernel_rfl
theorem ty3:byO Try.prog 3=some 8:=by kernel_rfl
theorem ty34:byO Try.prog 34=some 80:=by kernel_rfl
theorem ty4:byO Try.prog 4=some 1:=by kernel_rfl
theorem ty42:byO Try.prog 42=some 24:=by kernel_rfl
theorem ty48:byO Try.prog 48=some 24:=by kernel_rfl
theorem ty5:byO Try.prog 5=some 1:=by kernel_rfl
theorem ty50:byO Try.prog 50=some 64:=by kernel_rfl
theorem ty74:byO Try.prog 74=some 40:=by kernel_rfl
theorem ty9:byO Try.prog 9=some 16:=by kernel_rfl
theorem tz116:szO Try.prog 116=some 256:=by kernel_rfl
theorem tz22:szO Try.prog 22=some 1:=by kernel_rfl
theorem tz24:szO Try.prog 24=some 2:=by kernel_rfl
theorem tz25:szO Try.prog 25=some 1:=by kernel_rfl
theorem tz3:szO Try.prog 3=some 1:=by kernel_rfl
theorem tz31:szO Try.prog 31=some 2:=by kernel_rfl
theorem tz32:szO Try.prog 32=some 1:=by kernel_rfl
theorem tz34:szO Try.prog 34=some 5:=by kernel_rfl
theorem tz38:szO Try.prog 38=some 2:=by kernel_rfl
theorem tz4:szO Try.prog 4=some 1:=by kernel_rfl
theorem tz42:szO Try.prog 42=some 1:=by kernel_rfl
theorem tz48:szO Try.prog 48=some 1:=by kernel_rfl
theorem tz5:szO Try.prog 5=some 1:=by kernel_rfl
theorem tz50:szO Try.prog 50=some 3:=by kernel_rfl
theorem tz67:szO Try.prog 67=some 8:=by kernel_rfl
theorem tz74:szO Try.prog 74=some 3:=by kernel_rfl
theorem tz79:szO Try.prog 79=some 64:=by kernel_rfl
theorem tz9:szO Try.prog 9=some 1:=by kernel_rfl
theorem tz94:szO Try.prog 94=some 1:=by kernel_rfl
theorem tz95:szO Try.prog 95=some 1:=by kernel_rfl
theorem tz97:szO Try.prog 97=some 2:=by kernel_rfl
theorem tz98:szO Try.prog 98=some 256:=by kernel_rfl
set_option linter.defProp false
def sxB:=And.intro (And.intro (And.intro (And.intro (And.intro (And.intro (And.intro (@loadX.eq_1) (@loadX.eq_2)) (And.intro (@loadX.eq_3) (And.intro (@loadX.eq_4) (@loadX.eq_5)))) (And.intro (And.intro (@loadX.eq_6) (@fldA.eq_1)) (And.intro (@fldA.eq_2) (And.intro (@fldA.eq_3) (@isPt_p))))) (And.intro (And.intro (And.intro (@addP_p) (@List.toList_toArray.{0})) (And.intro (@stepG.eq_1) (And.intro (@stepG.eq_2) (@fin.eq_1)))) (And.intro (And.intro (@fin.eq_2) (And.intro (@fin.eq_3) (@fin.eq_4))) (And.intro (@fin.eq_5) (And.intro (@fin.eq_6) (@fin.eq_7)))))) (And.intro (And.intro (And.intro (And.intro (@finG.eq_1) (@finG.eq_2)) (And.intro (@finG.eq_3) (And.intro (@finG.eq_4) (@brv_true)))) (And.intro (And.intro (@brv_false) (And.intro (@condK.eq_1) (@rowS.eq_1))) (And.intro (@rowS.eq_2) (And.intro (@mentL_append) (@mentL_ext))))) (And.intro (And.intro (And.intro (@mentL_extf) (@one_bool)) (And.intro (@one_int) (And.intro (@one_str) (@one_ptr)))) (And.intro (And.intro (@one_sli) (And.intro (@one_map) (@one_fun))) (And.intro (@one_nf) (And.intro (@one_ni) (@one_if))))))) (And.intro (And.intro (And.intro (And.intro (And.intro (@one_agg) (@one_tup)) (And.intro (@List.getElem?_cons_zero.{0}) (And.intro (@List.getElem?_cons_succ.{0}) (@List.drop_zero.{0})))) (And.intro (And.intro (@List.drop_succ_cons.{0}) (@List.take_zero.{0})) (And.intro (@List.take_succ_cons.{0}) (And.intro (@List.take_nil.{0}) (@List.drop_nil.{0}))))) (And.intro (And.intro (And.intro (@List.map_cons.{0,0}) (@List.map_nil.{0,0})) (And.intro (@List.length_cons.{0}) (And.intro (@List.length_nil.{0}) (@List.append_nil.{0})))) (And.intro (And.intro (@List.cons_append.{0}) (And.intro (@List.nil_append.{0}) (@List.set_cons_zero.{0}))) (And.intro (@List.set_cons_succ.{0}) (And.intro (@List.all_cons.{0}) (@List.all_nil.{0})))))) (And.intro (And.intro (And.intro (And.intro (@List.mem_cons.{0}) (@List.not_mem_nil.{0})) (And.intro (@Option.bind_some.{0,0}) (And.intro (@Option.map_some.{0,0}) (@Option.map_none.{0,0})))) (And.intro (And.intro (@true_and) (And.intro (@and_true) (@and_self))) (And.intro (@true_implies) (And.intro (@false_implies) (@imp_self))))) (And.intro (And.intro (And.intro (@Bool.cond_false_right) (@Bool.cond_true_left)) (And.intro (@beq_true) (And.intro (@beq_false) (@Bool.not_eq_true')))) (And.intro (And.intro (@Bool.not_true) (And.intro (@Bool.not_false) (@Bool.true_and))) (And.intro (@Bool.and_true) (And.intro (@Bool.false_and) (@Bool.and_false)))))))) (And.intro (And.intro (And.intro (And.intro (And.intro (And.intro (@Bool.or_false) (@Bool.false_or)) (And.intro (@Bool.or_true) (And.intro (@Bool.true_or) (@decide_true)))) (And.intro (And.intro (@decide_false) (@Bool.false_eq_true)) (And.intro (@Bool.true_eq_false) (And.intro (@false_or) (@true_or))))) (And.intro (And.intro (And.intro (@or_true) (@or_false)) (And.intro (@or_self) (And.intro (@List.contains_nil.{0}) (@List.contains_cons.{0})))) (And.intro (And.intro (@List.size_toArray.{0}) (And.intro (@List.getElem?_toArray.{0}) (@Option.isSome_some.{0}))) (And.intro (@Option.isSome_none.{0}) (And.intro (@Nat.zero_add) (@Nat.add_zero)))))) (And.intro (And.intro (And.intro (And.intro (@Int.toNat_natCast) (@okR.eq_1)) (And.intro (@okR.eq_2) (And.intro (@okR.eq_3) (@okR.eq_4)))) (And.intro (And.intro (@okR.eq_5) (And.intro (@okR.eq_6) (@finD.eq_1))) (And.intro (@finD.eq_2) (And.intro (@finD.eq_3) (@finD.eq_4))))) (And.intro (And.intro (And.intro (@finD.eq_5) (@finD.eq_6)) (And.intro (@finD.eq_7) (And.intro (@finGD.eq_1) (@finGD.eq_2)))) (And.intro (And.intro (@finGD.eq_3) (And.intro (@finGD.eq_4) (@stepGD.eq_1))) (And.intro (@stepGD.eq_2) (And.intro (@isSl_s) (@slen_s))))))) (And.intro (And.intro (And.intro (And.intro (And.intro (@scap_s) (@nilS_s)) (And.intro (@Option.isNone_none.{0}) (And.intro (@Option.isNone_some.{0}) (@vc.eq_1)))) (And.intro (And.intro (@vc.eq_2) (And.intro (@vc.eq_3) (@vc.eq_4))) (And.intro (@vc.eq_5) (And.intro (@vc.eq_7) (@vc.eq_8))))) (And.intro (And.intro (And.intro (@vc.eq_9) (@vc.eq_10)) (And.intro (@vc.eq_11) (And.intro (@vc.eq_12) (@vc.eq_13)))) (And.intro (And.intro (@seqK_false) (And.intro (@seqK_true) (@vcX_marks))) (And.intro (@vc_exit) (And.intro (@vcX_blk) (@vcX_code)))))) (And.intro (And.intro (And.intro (And.intro (@vcX_stop) (@aggA_nil)) (And.intro (@aggA_cons) (And.intro (@slcG_gd) (@slcG_ext)))) (And.intro (And.intro (@slcG_slo) (And.intro (@slcG_own) (@cellsG.eq_1))) (And.intro (@cellsG.eq_2) (And.intro (@putA.eq_1) (@putA.eq_2))))) (And.intro (And.intro (And.intro (@hold_eq.{1}) (@vc.eq_14)) (And.intro (@lookM_tup) (And.intro (@eq_self.{1}) (@forall_eq.{1})))) (And.intro (And.intro (@forall_eq_or_imp.{1}) (And.intro (@implies_true.{1}) (@implies_true.{0}))) (And.intro (@beq_self_eq_true.{0}) (And.intro (@forall_const.{1}) (@forall_const.{0}))))))))
def sxD:=And.intro (And.intro (And.intro (And.intro (And.intro (And.intro (@dstO.eq_def) (@normA.eq_def)) (And.intro (@normG.eq_def) (And.intro (@normP.eq_def) (@nilR.eq_def)))) (And.intro (And.intro (@nilA.eq_def) (And.intro (@fieldR.eq_def) (@addOb.eq_def))) (And.intro (@loadH.eq_def) (And.intro (@storeH.eq_def) (@zeroR.eq_def))))) (And.intro (And.intro (And.intro (@fldV.eq_def) (And.intro (@storeX.eq_def) (@loadV.eq_def))) (And.intro (@AV.ptr?.eq_def) (And.intro (@tOp.eq_def) (@put1.eq_def)))) (And.intro (And.intro (@put2.eq_def) (And.intro (@pickV.eq_def) (@binV.eq_def))) (And.intro (@binW.eq_def) (And.intro (@intV.eq_def) (@strV.eq_def)))))) (And.intro (And.intro (And.intro (And.intro (@boolV.eq_def) (@nilV.eq_def)) (And.intro (@unV1.eq_def) (And.intro (@unV.eq_def) (@selV.eq_def)))) (And.intro (And.intro (@extR.eq_def) (And.intro (@ev.eq_def) (@evC.eq_def))) (And.intro (@callR.eq_def) (And.intro (@bltR.eq_def) (@srcA.eq_def))))) (And.intro (And.intro (And.intro (@lenR.eq_def) (And.intro (@lenV.eq_def) (@minV.eq_def))) (And.intro (@maxV.eq_def) (And.intro (@St.put.eq_def) (@AV.val.eq_def)))) (And.intro (And.intro (@unG.eq_def) (And.intro (@guardB.eq_def) (@gslot.eq_def))) (And.intro (@loadR.eq_def) (And.intro (@storeR.eq_def) (@oneC.eq_def))))))) (And.intro (And.intro (And.intro (And.intro (And.intro (@tupA.eq_def) (@cellsA.eq_def)) (And.intro (@mkF.eq_def) (And.intro (@strH.eq_def) (@convX.eq_def)))) (And.intro (And.intro (@boxR.eq_def) (And.intro (@plT.eq_def) (@buildSR.eq_def))) (And.intro (@partC.eq_def) (And.intro (@makeR.eq_def) (@fieldX.eq_def))))) (And.intro (And.intro (And.intro (@fieldO.eq_def) (And.intro (@idxR.eq_def) (@idxA.eq_def))) (And.intro (@indV.eq_def) (And.intro (@slcR.eq_def) (@slcO.eq_def)))) (And.intro (And.intro (@bndO.eq_def) (And.intro (@conV.eq_def) (@cutB.eq_def))) (And.intro (@cutC.eq_def) (And.intro (@cutP.eq_def) (@joinH.eq_def)))))) (And.intro (And.intro (And.intro (And.intro (@reachK.eq_def) (And.intro (@mentO.eq_def) (@tupR.eq_def))) (And.intro (@NewD.av.eq_def) (And.intro (@eqV.eq_def) (@eqC.eq_def)))) (And.intro (And.intro (@looksK.eq_def) (And.intro (@addrL.eq_def) (@ptrK.eq_def))) (And.intro (@sloK.eq_def) (And.intro (@Op.operands.eq_def) (@Call.operands.eq_def))))) (And.intro (And.intro (And.intro (@awayB.eq_def) (And.intro (@cutO.eq_def) (@ownK.eq_def))) (And.intro (@mentD.eq_def) (And.intro (@offL.eq_def) (@offP.eq_def)))) (And.intro (And.intro (@lkuR.eq_def) (And.intro (@selV_true) (@selV_false))) (And.intro (@opAt_arr) (And.intro (@opAt_0) (@opAt_S)))))))
def sxE:=And.intro (And.intro (And.intro (And.intro (And.intro (And.intro (@normL.eq_1) (And.intro (@normL.eq_2) (@lk.eq_1))) (And.intro (@lk.eq_2) (And.intro (@lkH.eq_1) (@lkH.eq_2)))) (And.intro (And.intro (@upH.eq_1) (And.intro (@upH.eq_2) (@allOne.eq_1))) (And.intro (And.intro (@allOne.eq_2) (@vals.eq_1)) (And.intro (@vals.eq_2) (@vals.eq_3))))) (And.intro (And.intro (And.intro (@bytesA.eq_1) (And.intro (@bytesA.eq_2) (@bytesA.eq_3))) (And.intro (@buildL.eq_1) (And.intro (@buildL.eq_2) (@plN.eq_1)))) (And.intro (And.intro (@plN.eq_2) (And.intro (@repN.eq_1) (@repN.eq_2))) (And.intro (And.intro (@AV.ment.eq_1) (@AV.ment.eq_2)) (And.intro (@AV.ment.eq_3) (@AV.ment.eq_4)))))) (And.intro (And.intro (And.intro (And.intro (@AV.ment.eq_5) (And.intro (@AV.ment.eq_6) (@AV.ment.eq_7))) (And.intro (@AV.ment.eq_8) (And.intro (@AV.ment.eq_9) (@mentL.eq_1)))) (And.intro (And.intro (@mentL.eq_2) (And.intro (@mentE.eq_1) (@mentE.eq_2))) (And.intro (And.intro (@mentH.eq_1) (@mentH.eq_2)) (And.intro (@hasK.eq_1) (@hasK.eq_2))))) (And.intro (And.intro (And.intro (@AV.kill.eq_1) (And.intro (@AV.kill.eq_2) (@AV.kill.eq_3))) (And.intro (@AV.kill.eq_4) (And.intro (@AV.kill.eq_5) (@AV.kill.eq_6)))) (And.intro (And.intro (@AV.kill.eq_7) (And.intro (@AV.kill.eq_8) (@AV.kill.eq_9))) (And.intro (And.intro (@killL.eq_1) (@killL.eq_2)) (And.intro (@killE.eq_1) (@killE.eq_2))))))) (And.intro (And.intro (And.intro (And.intro (And.intro (@killH.eq_1) (And.intro (@killH.eq_2) (@killEs.eq_1))) (And.intro (@killEs.eq_2) (And.intro (@killHs.eq_1) (@killHs.eq_2)))) (And.intro (And.intro (@popTo.eq_1) (And.intro (@popTo.eq_2) (@popTo.eq_3))) (And.intro (And.intro (@hasBlk.eq_1) (@hasBlk.eq_2)) (And.intro (@hasBlk.eq_3) (@argEnv.eq_1))))) (And.intro (And.intro (And.intro (@argEnv.eq_2) (And.intro (@subH.eq_1) (@subH.eq_2))) (And.intro (@dropH.eq_1) (And.intro (@dropH.eq_2) (@cellsK.eq_1)))) (And.intro (And.intro (@cellsK.eq_2) (And.intro (@newKeys.eq_1) (@newKeys.eq_2))) (And.intro (And.intro (@keysH.eq_1) (@keysH.eq_2)) (And.intro (@inB.eq_1) (@inB.eq_2)))))) (And.intro (And.intro (And.intro (And.intro (@eqL.eq_1) (And.intro (@eqL.eq_2) (@keysOf.eq_1))) (And.intro (@keysOf.eq_2) (And.intro (@looksL.eq_1) (@looksL.eq_2)))) (And.intro (And.intro (@disj.eq_1) (And.intro (@disj.eq_2) (@subE.eq_1))) (And.intro (And.intro (@subE.eq_2) (@subHp.eq_1)) (And.intro (@subHp.eq_2) (@keepLt.eq_1))))) (And.intro (And.intro (And.intro (@keepLt.eq_2) (And.intro (@forgetD.eq_1) (@forgetD.eq_2))) (And.intro (@marksOf.eq_1) (And.intro (@marksOf.eq_2) (@marksOf.eq_3)))) (And.intro (And.intro (@headId.eq_1) (And.intro (@headId.eq_2) (@headId.eq_3))) (And.intro (And.intro (@headId.eq_4) (@headId.eq_5)) (And.intro (@cellsD.eq_1) (@cellsD.eq_2)))))))
def sxO:=And.intro (And.intro (And.intro (@decide_eq_true_eq) (And.intro (@decide_eq_false_iff_not) (@Bool.or_eq_true))) (And.intro (@Bool.or_eq_false_iff) (And.intro (@Bool.and_eq_true) (@Bool.and_eq_false_iff)))) (And.intro (And.intro (@Bool.not_eq_true) (And.intro (@Bool.not_eq_true') (@Bool.not_eq_false'))) (And.intro (@Int.toNat_natCast) (And.intro (@ne_eq.{1}) (@maxLen.eq_1))))
def sxTab:=And.intro (And.intro (And.intro (And.intro (And.intro (And.intro (And.intro (And.intro (@cb10) (@cb11)) (And.intro (@cb12) (@cb13))) (And.intro (And.intro (@cb14) (@cb15)) (And.intro (@cb16) (@cb17)))) (And.intro (And.intro (And.intro (@cb18) (@cb19)) (And.intro (@cb2) (@cb20))) (And.intro (And.intro (@cb21) (@cb22)) (And.intro (@cb23) (@cb24))))) (And.intro (And.intro (And.intro (And.intro (@cb25) (@cb26)) (And.intro (@cb27) (@cb28))) (And.intro (And.intro (@cb29) (@cb3)) (And.intro (@cb30) (@cb31)))) (And.intro (And.intro (And.intro (@cb32) (@cb33)) (And.intro (@cb34) (@cb35))) (And.intro (And.intro (@cb36) (@cb37)) (And.intro (@cb38) (And.intro (@cb39) (@cb4))))))) (And.intro (And.intro (And.intro (And.intro (And.intro (@cb40) (@cb41)) (And.intro (@cb42) (@cb43))) (And.intro (And.intro (@cb44) (@cb45)) (And.intro (@cb46) (@cb47)))) (And.intro (And.intro (And.intro (@cb48) (@cb49)) (And.intro (@cb5) (@cb50))) (And.intro (And.intro (@cb51) (@cb52)) (And.intro (@cb53) (@cb54))))) (And.intro (And.intro (And.intro (And.intro (@cb55) (@cb56)) (And.intro (@cb57) (@cb58))) (And.intro (And.intro (@cb59) (@cb6)) (And.intro (@cb60) (@cb61)))) (And.intro (And.intro (And.intro (@cb62) (@cb63)) (And.intro (@cb64) (@cb65))) (And.intro (And.intro (@cb66) (@cb67)) (And.intro (@cb68) (And.intro (@cb69) (@cb7)))))))) (And.intro (And.intro (And.intro (And.intro (And.intro (And.intro (@cb70) (@cb71)) (And.intro (@cb72) (@cb74))) (And.intro (And.intro (@cb75) (@cb76)) (And.intro (@cb77) (@cb78)))) (And.intro (And.intro (And.intro (@cb79) (@cb8)) (And.intro (@cb80) (@cb81))) (And.intro (And.intro (@cb82) (@cb84)) (And.intro (@cb85) (@cb86))))) (And.intro (And.intro (And.intro (And.intro (@cb88) (@cb89)) (And.intro (@cb9) (@cb90))) (And.intro (And.intro (@cb91) (@cb92)) (And.intro (@cb93) (@cb94)))) (And.intro (And.intro (And.intro (@cb95) (@cb97)) (And.intro (@cb98) (@cb99))) (And.intro (And.intro (@tA116) (@tA22)) (And.intro (@tA24) (And.intro (@tA25) (@tA31))))))) (And.intro (And.intro (And.intro (And.intro (And.intro (@tA32) (@tA34)) (And.intro (@tA38) (@tA42))) (And.intro (And.intro (@tA44) (@tA48)) (And.intro (@tA50) (@tA53)))) (And.intro (And.intro (And.intro (@tA61) (@tA67)) (And.intro (@tA74) (@tA75))) (And.intro (And.intro (@tA79) (@tA9)) (And.intro (@tA98) (And.intro (@tI120) (@tI128)))))) (And.intro (And.intro (And.intro (And.intro (@tI21) (@tI3)) (And.intro (@tI5) (@tI9))) (And.intro (And.intro (@tI94) (@tS116)) (And.intro (@tS22) (@tS25)))) (And.intro (And.intro (And.intro (@tS32) (@tS42)) (And.intro (@tS44) (@tS48))) (And.intro (And.intro (@tS53) (@tS61)) (And.intro (@tS75) (And.intro (@tS79) (@tS9))))))))) (And.intro (And.intro (And.intro (And.intro (And.intro (And.intro (And.intro (@tS95) (@tS98)) (And.intro (@tb4) (@tc116))) (And.intro (And.intro (@tc22) (@tc24)) (And.intro (@tc25) (@tc3)))) (And.intro (And.intro (And.intro (@tc31) (@tc32)) (And.intro (@tc34) (@tc38))) (And.intro (And.intro (@tc4) (@tc42)) (And.intro (@tc48) (@tc5))))) (And.intro (And.intro (And.intro (And.intro (@tc50) (@tc67)) (And.intro (@tc74) (@tc79))) (And.intro (And.intro (@tc9) (@tc94)) (And.intro (@tc95) (@tc97)))) (And.intro (And.intro (And.intro (@tc98) (@tf24_0)) (And.intro (@tf24_1) (@tf31_0))) (And.intro (And.intro (@tf31_1) (@tf34_0)) (And.intro (@tf34_1) (And.intro (@tf34_2) (@tf34_3))))))) (And.intro (And.intro (And.intro (And.intro (And.intro (@tf38_0) (@tf38_1)) (And.intro (@tf50_0) (@tf50_1))) (And.intro (And.intro (@tf74_0) (@tf74_1)) (And.intro (@tf97_0) (@tf97_1)))) (And.intro (And.intro (And.intro (@tk116) (@tk22)) (And.intro (@tk24) (@tk25))) (And.intro (And.intro (@tk3) (@tk31)) (And.intro (@tk32) (@tk34))))) (And.intro (And.intro (And.intro (And.intro (@tk38) (@tk4)) (And.intro (@tk42) (@tk48))) (And.intro (And.intro (@tk5) (@tk50)) (And.intro (@tk67) (@tk74)))) (And.intro (And.intro (And.intro (@tk79) (@tk9)) (And.intro (@tk94) (@tk95))) (And.intro (And.intro (@tk97) (@tk98)) (And.intro (@tl22) (And.intro (@tl25) (@tl32)))))))) (And.intro (And.intro (And.intro (And.intro (And.intro (And.intro (@tl42) (@tl44)) (And.intro (@tl56) (@tl61))) (And.intro (And.intro (@tl75) (@tl9)) (And.intro (@tl95) (@tp24)))) (And.intro (And.intro (And.intro (@tp31) (@tp34)) (And.intro (@tp38) (@tp50))) (And.intro (And.intro (@tp67) (@tp74)) (And.intro (@ts116) (@ts120))))) (And.intro (And.intro (And.intro (And.intro (@ts128) (@ts21)) (And.intro (@ts22) (@ts25))) (And.intro (And.intro (@ts3) (@ts32)) (And.intro (@ts42) (@ts44)))) (And.intro (And.intro (And.intro (@ts48) (@ts5)) (And.intro (@ts53) (@ts56))) (And.intro (And.intro (@ts61) (@ts75)) (And.intro (@ts79) (And.intro (@ts9) (@ts94))))))) (And.intro (And.intro (And.intro (And.intro (And.intro (@ts95) (@ts98)) (And.intro (@ty24) (@ty3))) (And.intro (And.intro (@ty34) (@ty4)) (And.intro (@ty42) (@ty48)))) (And.intro (And.intro (And.intro (@ty5) (@ty50)) (And.intro (@ty74) (@ty9))) (And.intro (And.intro (@tz116) (@tz22)) (And.intro (@tz24) (And.intro (@tz25) (@tz3)))))) (And.intro (And.intro (And.intro (And.intro (@tz31) (@tz32)) (And.intro (@tz34) (@tz38))) (And.intro (And.intro (@tz4) (@tz42)) (And.intro (@tz48) (@tz5)))) (And.intro (And.intro (And.intro (@tz50) (@tz67)) (And.intro (@tz74) (@tz79))) (And.intro (And.intro (@tz9) (@tz94)) (And.intro (@tz95) (And.intro (@tz97) (@tz98)))))))))
end Go.Proofs.Ytoblkpomikokhaa.Sx
