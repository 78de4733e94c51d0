/- Part 15 of the texts of this claim: a symbolic executor and contracts of functions. -/
import Derived.Test.YtoblkpomikokhaaGreatGqGRCUse
namespace Go.Proofs.YtoblkpomikokhaaGreat.Sx
open Go
theorem _root_.Go.Proofs.Tryz.mixed:Tryz.prog.follows .mixedOrders=true:=by kernel_rfl
theorem cb10:callsB Tryz.prog 10=true:=by kernel_rfl
theorem cb100:callsB Tryz.prog 100=true:=by kernel_rfl
theorem cb101:callsB Tryz.prog 101=true:=by kernel_rfl
theorem cb103:callsB Tryz.prog 103=true:=by kernel_rfl
theorem cb104:callsB Tryz.prog 104=true:=by kernel_rfl
theorem cb105:callsB Tryz.prog 105=true:=by kernel_rfl
theorem cb11:callsB Tryz.prog 11=true:=by kernel_rfl
theorem cb12:callsB Tryz.prog 12=true:=by kernel_rfl
theorem cb13:callsB Tryz.prog 13=true:=by kernel_rfl
theorem cb14:callsB Tryz.prog 14=true:=by kernel_rfl
theorem cb15:callsB Tryz.prog 15=true:=by kernel_rfl
theorem cb16:callsB Tryz.prog 16=true:=by kernel_rfl
theorem cb17:callsB Tryz.prog 17=true:=by kernel_rfl
theorem cb18:callsB Tryz.prog 18=true:=by kernel_rfl
theorem cb19:callsB Tryz.prog 19=true:=by kernel_rfl
theorem cb2:callsB Tryz.prog 2=true:=by kernel_rfl
theorem cb20:callsB Tryz.prog 20=true:=by kernel_rfl
theorem cb21:callsB Tryz.prog 21=true:=by kernel_rfl
theorem cb22:callsB Tryz.prog 22=true:=by kernel_rfl
theorem cb23:callsB Tryz.prog 23=true:=by kernel_rfl
theorem cb24:callsB Tryz.prog 24=true:=by kernel_rfl
theorem cb25:callsB Tryz.prog 25=true:=by kernel_rfl
theorem cb26:callsB Tryz.prog 26=true:=by kernel_rfl
theorem cb27:callsB Tryz.prog 27=true:=by kernel_rfl
theorem cb28:callsB Tryz.prog 28=true:=by kernel_rfl
theorem cb29:callsB Tryz.prog 29=true:=by kernel_rfl
theorem cb3:callsB Tryz.prog 3=true:=by kernel_rfl
theorem cb30:callsB Tryz.prog 30=true:=by kernel_rfl
theorem cb31:callsB Tryz.prog 31=true:=by kernel_rfl
theorem cb32:callsB Tryz.prog 32=true:=by kernel_rfl
theorem cb33:callsB Tryz.prog 33=true:=by kernel_rfl
theorem cb34:callsB Tryz.prog 34=true:=by kernel_rfl
theorem cb35:callsB Tryz.prog 35=true:=by kernel_rfl
theorem cb36:callsB Tryz.prog 36=true:=by kernel_rfl
theorem cb37:callsB Tryz.prog 37=true:=by kernel_rfl
theorem cb38:callsB Tryz.prog 38=true:=by kernel_rfl
theorem cb39:callsB Tryz.prog 39=true:=by kernel_rfl
theorem cb4:callsB Tryz.prog 4=true:=by kernel_rfl
theorem cb40:callsB Tryz.prog 40=true:=by kernel_rfl
theorem cb41:callsB Tryz.prog 41=true:=by kernel_rfl
theorem cb42:callsB Tryz.prog 42=true:=by kernel_rfl
theorem cb43:callsB Tryz.prog 43=true:=by kernel_rfl
theorem cb44:callsB Tryz.prog 44=true:=by kernel_rfl
theorem cb45:callsB Tryz.prog 45=true:=by kernel_rfl
theorem cb46:callsB Tryz.prog 46=true:=by kernel_rfl
theorem cb47:callsB Tryz.prog 47=true:=by kernel_rfl
theorem cb48:callsB Tryz.prog 48=true:=by kernel_rfl
theorem cb49:callsB Tryz.prog 49=true:=by kernel_rfl
theorem cb5:callsB Tryz.prog 5=true:=by kernel_rfl
theorem cb50:callsB Tryz.prog 50=true:=by kernel_rfl
theorem cb51:callsB Tryz.prog 51=true:=by kernel_rfl
theorem cb52:callsB Tryz.prog 52=true:=by kernel_rfl
theorem cb53:callsB Tryz.prog 53=true:=by kernel_rfl
theorem cb54:callsB Tryz.prog 54=true:=by kernel_rfl
theorem cb55:callsB Tryz.prog 55=true:=by kernel_rfl
theorem cb56:callsB Tryz.prog 56=true:=by kernel_rfl
theorem cb57:callsB Tryz.prog 57=true:=by kernel_rfl
theorem cb58:callsB Tryz.prog 58=true:=by kernel_rfl
theorem cb59:callsB Tryz.prog 59=true:=by kernel_rfl
theorem cb6:callsB Tryz.prog 6=true:=by kernel_rfl
theorem cb60:callsB Tryz.prog 60=true:=by kernel_rfl
theorem cb61:callsB Tryz.prog 61=true:=by kernel_rfl
theorem cb62:callsB Tryz.prog 62=true:=by kernel_rfl
theorem cb63:callsB Tryz.prog 63=true:=by kernel_rfl
theorem cb64:callsB Tryz.prog 64=true:=by kernel_rfl
theorem cb65:callsB Tryz.prog 65=true:=by kernel_rfl
theorem cb66:callsB Tryz.prog 66=true:=by kernel_rfl
theorem cb67:callsB Tryz.prog 67=true:=by kernel_rfl
theorem cb68:callsB Tryz.prog 68=true:=by kernel_rfl
theorem cb69:callsB Tryz.prog 69=true:=by kernel_rfl
theorem cb7:callsB Tryz.prog 7=true:=by kernel_rfl
theorem cb70:callsB Tryz.prog 70=true:=by kernel_rfl
theorem cb71:callsB Tryz.prog 71=true:=by kernel_rfl
theorem cb72:callsB Tryz.prog 72=true:=by kernel_rfl
theorem cb73:callsB Tryz.prog 73=true:=by kernel_rfl
theorem cb74:callsB Tryz.prog 74=true:=by kernel_rfl
theorem cb75:callsB Tryz.prog 75=true:=by kernel_rfl
theorem cb76:callsB Tryz.prog 76=true:=by kernel_rfl
theorem cb77:callsB Tryz.prog 77=true:=by kernel_rfl
theorem cb78:callsB Tryz.prog 78=true:=by kernel_rfl
theorem cb79:callsB Tryz.prog 79=true:=by kernel_rfl
theorem cb8:callsB Tryz.prog 8=true:=by kernel_rfl
theorem cb80:callsB Tryz.prog 80=true:=by kernel_rfl
theorem cb81:callsB Tryz.prog 81=true:=by kernel_rfl
theorem cb82:callsB Tryz.prog 82=true:=by kernel_rfl
theorem cb83:callsB Tryz.prog 83=true:=by kernel_rfl
theorem cb84:callsB Tryz.prog 84=true:=by kernel_rfl
theorem cb85:callsB Tryz.prog 85=true:=by kernel_rfl
theorem cb86:callsB Tryz.prog 86=true:=by kernel_rfl
theorem cb87:callsB Tryz.prog 87=true:=by kernel_rfl
theorem cb88:callsB Tryz.prog 88=true:=by kernel_rfl
theorem cb89:callsB Tryz.prog 89=true:=by kernel_rfl
theorem cb9:callsB Tryz.prog 9=true:=by kernel_rfl
theorem cb91:callsB Tryz.prog 91=true:=by kernel_rfl
theorem cb92:callsB Tryz.prog 92=true:=by kernel_rfl
theorem cb93:callsB Tryz.prog 93=true:=by kernel_rfl
theorem cb95:callsB Tryz.prog 95=true:=by kernel_rfl
theorem cb97:callsB Tryz.prog 97=true:=by kernel_rfl
theorem cb98:callsB Tryz.prog 98=true:=by kernel_rfl
theorem cb99:callsB Tryz.prog 99=true:=by kernel_rfl
theorem tA103:arrT Tryz.prog 103=some (256,4):=by kernel_rfl
theorem tA120:arrT Tryz.prog 120=some (256,4):=by kernel_rfl
theorem tA22:arrT Tryz.prog 22=none:=by kernel_rfl
theorem tA25:arrT Tryz.prog 25=none:=by kernel_rfl
theorem tA26:arrT Tryz.prog 26=none:=by kernel_rfl
theorem tA29:arrT Tryz.prog 29=none:=by kernel_rfl
theorem tA30:arrT Tryz.prog 30=none:=by kernel_rfl
theorem tA32:arrT Tryz.prog 32=none:=by kernel_rfl
theorem tA35:arrT Tryz.prog 35=none:=by kernel_rfl
theorem tA39:arrT Tryz.prog 39=none:=by kernel_rfl
theorem tA41:arrT Tryz.prog 41=none:=by kernel_rfl
theorem tA43:arrT Tryz.prog 43=none:=by kernel_rfl
theorem tA49:arrT Tryz.prog 49=none:=by kernel_rfl
theorem tA51:arrT Tryz.prog 51=none:=by kernel_rfl
theorem tA57:arrT Tryz.prog 57=none:=by kernel_rfl
theorem tA58:arrT Tryz.prog 58=none:=by kernel_rfl
theorem tA62:arrT Tryz.prog 62=some (64,3):=by kernel_rfl
theorem tA88:arrT Tryz.prog 88=none:=by kernel_rfl
theorem tA9:arrT Tryz.prog 9=none:=by kernel_rfl
theorem tI124:intT Tryz.prog 124=none:=by kernel_rfl
theorem tI129:intT Tryz.prog 129=some .u32:=by kernel_rfl
theorem tI21:intT Tryz.prog 21=some .i32:=by kernel_rfl
theorem tI3:intT Tryz.prog 3=some .i64:=by kernel_rfl
theorem tI5:intT Tryz.prog 5=some .u8:=by kernel_rfl
theorem tI9:intT Tryz.prog 9=none:=by kernel_rfl
theorem tI99:intT Tryz.prog 99=none:=by kernel_rfl
theorem tS100:slcT Tryz.prog 100=some 5:=by kernel_rfl
theorem tS103:slcT Tryz.prog 103=none:=by kernel_rfl
theorem tS120:slcT Tryz.prog 120=none:=by kernel_rfl
theorem tS22:slcT Tryz.prog 22=some 3:=by kernel_rfl
theorem tS26:slcT Tryz.prog 26=some 32:=by kernel_rfl
theorem tS30:slcT Tryz.prog 30=some 57:=by kernel_rfl
theorem tS35:slcT Tryz.prog 35=some 43:=by kernel_rfl
theorem tS39:slcT Tryz.prog 39=some 9:=by kernel_rfl
theorem tS49:slcT Tryz.prog 49=some 51:=by kernel_rfl
theorem tS51:slcT Tryz.prog 51=some 4:=by kernel_rfl
theorem tS58:slcT Tryz.prog 58=some 41:=by kernel_rfl
theorem tS62:slcT Tryz.prog 62=none:=by kernel_rfl
theorem tS9:slcT Tryz.prog 9=none:=by kernel_rfl
theorem tb4:isBoolT Tryz.prog 4=true:=by kernel_rfl
theorem tc100:zeroC Tryz.prog 100=some [.slice none 0 0]:=by kernel_rfl
theorem tc102:zeroC Tryz.prog 102=some [.pointer none,.slice none 0 0]:=by kernel_rfl
theorem tc103:zeroC Tryz.prog 103=some (List.replicate 256 (.bool false)):=by kernel_rfl
theorem tc120:zeroC Tryz.prog 120=some (List.replicate 256 (.bool false)):=by kernel_rfl
theorem tc22:zeroC Tryz.prog 22=some [.slice none 0 0]:=by kernel_rfl
theorem tc25:zeroC Tryz.prog 25=some [.slice none 0 0,.int .i64 0]:=by kernel_rfl
theorem tc29:zeroC Tryz.prog 29=some [.string ⟨#[]⟩,.string ⟨#[]⟩]:=by kernel_rfl
theorem tc3:zeroC Tryz.prog 3=some [.int .i64 0]:=by kernel_rfl
theorem tc30:zeroC Tryz.prog 30=some [.slice none 0 0]:=by kernel_rfl
theorem tc32:zeroC Tryz.prog 32=some [.string ⟨#[]⟩,.string ⟨#[]⟩,.int .i64 0,.string ⟨#[]⟩,.slice none 0 0]:=by kernel_rfl
theorem tc39:zeroC Tryz.prog 39=some [.slice none 0 0]:=by kernel_rfl
theorem tc4:zeroC Tryz.prog 4=some [.bool false]:=by kernel_rfl
theorem tc41:zeroC Tryz.prog 41=some [.string ⟨#[]⟩,.slice none 0 0]:=by kernel_rfl
theorem tc43:zeroC Tryz.prog 43=some [.string ⟨#[]⟩,.slice none 0 0,.slice none 0 0]:=by kernel_rfl
theorem tc5:zeroC Tryz.prog 5=some [.int .u8 0]:=by kernel_rfl
theorem tc51:zeroC Tryz.prog 51=some [.slice none 0 0]:=by kernel_rfl
theorem tc57:zeroC Tryz.prog 57=some [.string ⟨#[]⟩,.string ⟨#[]⟩,.int .i64 0]:=by kernel_rfl
theorem tc58:zeroC Tryz.prog 58=some [.slice none 0 0]:=by kernel_rfl
theorem tc62:zeroC Tryz.prog 62=some (List.replicate 64 (.int .i64 0)):=by kernel_rfl
theorem tc88:zeroC Tryz.prog 88=some [.string ⟨#[]⟩,.string ⟨#[]⟩,.int .i64 0,.int .i64 0,.int .i64 0,.int .i64 0,.int .i64 0,.slice none 0 0]:=by kernel_rfl
theorem tc9:zeroC Tryz.prog 9=some [.string ⟨#[]⟩]:=by kernel_rfl
theorem tc99:zeroC Tryz.prog 99=some [.pointer none]:=by kernel_rfl
theorem tf102_0:fOff Tryz.prog 102 0=some (0,99):=by kernel_rfl
theorem tf102_1:fOff Tryz.prog 102 1=some (1,100):=by kernel_rfl
theorem tf25_0:fOff Tryz.prog 25 0=some (0,22):=by kernel_rfl
theorem tf25_1:fOff Tryz.prog 25 1=some (1,3):=by kernel_rfl
theorem tf29_0:fOff Tryz.prog 29 0=some (0,9):=by kernel_rfl
theorem tf29_1:fOff Tryz.prog 29 1=some (1,9):=by kernel_rfl
theorem tf32_0:fOff Tryz.prog 32 0=some (0,29):=by kernel_rfl
theorem tf32_1:fOff Tryz.prog 32 1=some (2,3):=by kernel_rfl
theorem tf32_2:fOff Tryz.prog 32 2=some (3,9):=by kernel_rfl
theorem tf32_3:fOff Tryz.prog 32 3=some (4,30):=by kernel_rfl
theorem tf41_0:fOff Tryz.prog 41 0=some (0,9):=by kernel_rfl
theorem tf41_1:fOff Tryz.prog 41 1=some (1,39):=by kernel_rfl
theorem tf43_0:fOff Tryz.prog 43 0=some (0,41):=by kernel_rfl
theorem tf43_1:fOff Tryz.prog 43 1=some (2,22):=by kernel_rfl
theorem tf57_0:fOff Tryz.prog 57 0=some (0,9):=by kernel_rfl
theorem tf57_1:fOff Tryz.prog 57 1=some (1,9):=by kernel_rfl
theorem tk100:kindT Tryz.prog 100=some false:=by kernel_rfl
theorem tk102:kindT Tryz.prog 102=some true:=by kernel_rfl
theorem tk103:kindT Tryz.prog 103=some true:=by kernel_rfl
theorem tk120:kindT Tryz.prog 120=some true:=by kernel_rfl
theorem tk22:kindT Tryz.prog 22=some false:=by kernel_rfl
theorem tk25:kindT Tryz.prog 25=some true:=by kernel_rfl
theorem tk29:kindT Tryz.prog 29=some true:=by kernel_rfl
theorem tk3:kindT Tryz.prog 3=some false:=by kernel_rfl
theorem tk30:kindT Tryz.prog 30=some false:=by kernel_rfl
theorem tk32:kindT Tryz.prog 32=some true:=by kernel_rfl
theorem tk39:kindT Tryz.prog 39=some false:=by kernel_rfl
theorem tk4:kindT Tryz.prog 4=some false:=by kernel_rfl
theorem tk41:kindT Tryz.prog 41=some true:=by kernel_rfl
theorem tk43:kindT Tryz.prog 43=some true:=by kernel_rfl
theorem tk5:kindT Tryz.prog 5=some false:=by kernel_rfl
theorem tk51:kindT Tryz.prog 51=some false:=by kernel_rfl
theorem tk57:kindT Tryz.prog 57=some true:=by kernel_rfl
theorem tk58:kindT Tryz.prog 58=some false:=by kernel_rfl
theorem tk62:kindT Tryz.prog 62=some true:=by kernel_rfl
theorem tk88:kindT Tryz.prog 88=some true:=by kernel_rfl
theorem tk9:kindT Tryz.prog 9=some false:=by kernel_rfl
theorem tk99:kindT Tryz.prog 99=some false:=by kernel_rfl
theorem tl100:isSliceT Tryz.prog 100=true:=by kernel_rfl
theorem tl22:isSliceT Tryz.prog 22=true:=by kernel_rfl
theorem tl26:isSliceT Tryz.prog 26=true:=by kernel_rfl
theorem tl30:isSliceT Tryz.prog 30=true:=by kernel_rfl
theorem tl35:isSliceT Tryz.prog 35=true:=by kernel_rfl
theorem tl39:isSliceT Tryz.prog 39=true:=by kernel_rfl
theorem tl58:isSliceT Tryz.prog 58=true:=by kernel_rfl
theorem tl9:isSliceT Tryz.prog 9=false:=by kernel_rfl
theorem tp25:placesT Tryz.prog 25=some [(0,1,false),(1,1,false)]:=by kernel_rfl
theorem tp29:placesT Tryz.prog 29=some [(0,1,false),(1,1,false)]:=by kernel_rfl
theorem tp32:placesT Tryz.prog 32=some [(0,2,true),(2,1,false),(3,1,false),(4,1,false)]:=by kernel_rfl
theorem tp41:placesT Tryz.prog 41=some [(0,1,false),(1,1,false)]:=by kernel_rfl
theorem tp43:placesT Tryz.prog 43=some [(0,2,true),(2,1,false)]:=by kernel_rfl
theorem tp57:placesT Tryz.prog 57=some [(0,1,false),(1,1,false),(2,1,false)]:=by kernel_rfl
theorem tp88:placesT Tryz.prog 88=some [(0,2,true),(2,1,false),(3,1,false),(4,1,false),(5,1,false),(6,1,false),(7,1,false)]:=by kernel_rfl
theorem ts100:isStrT Tryz.prog 100=false:=by kernel_rfl
theorem ts103:isStrT Tryz.prog 103=false:=by kernel_rfl
theorem ts120:isStrT Tryz.prog 120=false:=by kernel_rfl
theorem ts124:isStrT Tryz.prog 124=false:=by kernel_rfl
theorem ts129:isStrT Tryz.prog 129=false:=by kernel_rfl
theorem ts21:isStrT Tryz.prog 21=false:=by kernel_rfl
theorem ts22:isStrT Tryz.prog 22=false:=by kernel_rfl
theorem ts26:isStrT Tryz.prog 26=false:=by kernel_rfl
theorem ts3:isStrT Tryz.prog 3=false:=by kernel_rfl
theorem ts30:isStrT Tryz.prog 30=false:=by kernel_rfl
theorem ts35:isStrT Tryz.prog 35=false:=by kernel_rfl
theorem ts39:isStrT Tryz.prog 39=false:=by kernel_rfl
theorem ts49:isStrT Tryz.prog 49=false:=by kernel_rfl
theorem ts5:isStrT Tryz.prog 5=false:=by kernel_rfl
theorem ts51:isStrT Tryz.prog 51=false:=by kernel_rfl
theorem ts58:isStrT Tryz.prog 58=false:=by kernel_rfl
theorem ts62:isStrT Tryz.prog 62=false:=by kernel_rfl
theorem ts9:isStrT Tryz.prog 9=true:=by kernel_rfl
theorem ts99:isStrT Tryz.prog 99=false:=by kernel_rfl
theorem ty3:byO Tryz.prog 3=some 8:=by kernel_rfl
theorem ty32:byO Tryz.prog 32=some 80:=by kernel_rfl
theorem ty4:byO Tryz.prog 4=some 1:=by kernel_rfl
theorem ty41:byO Tryz.prog 41=some 40:=by kernel_rfl
theorem ty43:byO Tryz.prog 43=some 64:=by kernel_rfl
theorem ty5:byO Tryz.prog 5=some 1:=by kernel_rfl
theorem ty51:byO Tryz.prog 51=some 24:=by kernel_rfl
theorem ty57:byO Tryz.prog 57=some 40:=by kernel_rfl
theorem ty9:byO Tryz.prog 9=some 16:=by kernel_rfl
theorem tz100:szO Tryz.prog 100=some 1:=by kernel_rfl
theorem tz102:szO Tryz.prog 102=some 2:=by kernel_rfl
theorem tz103:szO Tryz.prog 103=some 256:=by kernel_rfl
theorem tz120:szO Tryz.prog 120=some 256:=by kernel_rfl
theorem tz22:szO Tryz.prog 22=some 1:=by kernel_rfl
theorem tz25:szO Tryz.prog 25=some 2:=by kernel_rfl
theorem tz29:szO Tryz.prog 29=some 2:=by kernel_rfl
theorem tz3:szO Tryz.prog 3=some 1:=by kernel_rfl
theorem tz30:szO Tryz.prog 30=some 1:=by kernel_rfl
theorem tz32:szO Tryz.prog 32=some 5:=by kernel_rfl
theorem tz39:szO Tryz.prog 39=some 1:=by kernel_rfl
theorem tz4:szO Tryz.prog 4=some 1:=by kernel_rfl
theorem tz41:szO Tryz.prog 41=some 2:=by kernel_rfl
theorem tz43:szO Tryz.prog 43=some 3:=by kernel_rfl
theorem tz5:szO Tryz.prog 5=some 1:=by kernel_rfl
theorem tz51:szO Tryz.prog 51=some 1:=by kernel_rfl
theorem tz57:szO Tryz.prog 57=some 3:=by kernel_rfl
theorem tz58:szO Tryz.prog 58=some 1:=by kernel_rfl
theorem tz62:szO Tryz.prog 62=some 64:=by kernel_rfl
theorem tz88:szO Tryz.prog 88=some 8:=by kernel_rfl
theorem tz9:szO Tryz.prog 9=some 1:=by kernel_rfl
theorem tz99:szO Tryz.prog 99=some 1:=by kernel_rfl
set_option linter.defProp false
def sxB:=And.intro (And.intro (And.intro (And.intro (And.intro (And.intro (And.intro (@loadX.eq_1) (@loadX.eq_2)) (And.intro (@loadX.eq_3) (And.intro (@loadX.eq_4) (@loadX.eq_5)))) (And.intro (And.intro (@loadX.eq_6) (@fldA.eq_1)) (And.intro (@fldA.eq_2) (And.intro (@fldA.eq_3) (@isPt_p))))) (And.intro (And.intro (And.intro (@addP_p) (@List.toList_toArray.{0})) (And.intro (@stepG.eq_1) (And.intro (@stepG.eq_2) (@fin.eq_1)))) (And.intro (And.intro (@fin.eq_2) (And.intro (@fin.eq_3) (@fin.eq_4))) (And.intro (@fin.eq_5) (And.intro (@fin.eq_6) (@fin.eq_7)))))) (And.intro (And.intro (And.intro (And.intro (@finG.eq_1) (@finG.eq_2)) (And.intro (@finG.eq_3) (And.intro (@finG.eq_4) (@brv_true)))) (And.intro (And.intro (@brv_false) (And.intro (@condK.eq_1) (@rowS.eq_1))) (And.intro (@rowS.eq_2) (And.intro (@mentL_append) (@mentL_ext))))) (And.intro (And.intro (And.intro (@mentL_extf) (@one_bool)) (And.intro (@one_int) (And.intro (@one_str) (@one_ptr)))) (And.intro (And.intro (@one_sli) (And.intro (@one_map) (@one_fun))) (And.intro (@one_nf) (And.intro (@one_ni) (@one_if))))))) (And.intro (And.intro (And.intro (And.intro (And.intro (@one_agg) (@one_tup)) (And.intro (@List.getElem?_cons_zero.{0}) (And.intro (@List.getElem?_cons_succ.{0}) (@List.drop_zero.{0})))) (And.intro (And.intro (@List.drop_succ_cons.{0}) (@List.take_zero.{0})) (And.intro (@List.take_succ_cons.{0}) (And.intro (@List.take_nil.{0}) (@List.drop_nil.{0}))))) (And.intro (And.intro (And.intro (@List.map_cons.{0,0}) (@List.map_nil.{0,0})) (And.intro (@List.length_cons.{0}) (And.intro (@List.length_nil.{0}) (@List.append_nil.{0})))) (And.intro (And.intro (@List.cons_append.{0}) (And.intro (@List.nil_append.{0}) (@List.set_cons_zero.{0}))) (And.intro (@List.set_cons_succ.{0}) (And.intro (@List.all_cons.{0}) (@List.all_nil.{0})))))) (And.intro (And.intro (And.intro (And.intro (@List.mem_cons.{0}) (@List.not_mem_nil.{0})) (And.intro (@Option.bind_some.{0,0}) (And.intro (@Option.map_some.{0,0}) (@Option.map_none.{0,0})))) (And.intro (And.intro (@true_and) (And.intro (@and_true) (@and_self))) (And.intro (@true_implies) (And.intro (@false_implies) (@imp_self))))) (And.intro (And.intro (And.intro (@Bool.cond_false_right) (@Bool.cond_true_left)) (And.intro (@beq_true) (And.intro (@beq_false) (@Bool.not_eq_true')))) (And.intro (And.intro (@Bool.not_true) (And.intro (@Bool.not_false) (@Bool.true_and))) (And.intro (@Bool.and_true) (And.intro (@Bool.false_and) (@Bool.and_false)))))))) (And.intro (And.intro (And.intro (And.intro (And.intro (And.intro (@Bool.or_false) (@Bool.false_or)) (And.intro (@Bool.or_true) (And.intro (@Bool.true_or) (@decide_true)))) (And.intro (And.intro (@decide_false) (@Bool.false_eq_true)) (And.intro (@Bool.true_eq_false) (And.intro (@false_or) (@true_or))))) (And.intro (And.intro (And.intro (@or_true) (@or_false)) (And.intro (@or_self) (And.intro (@List.contains_nil.{0}) (@List.contains_cons.{0})))) (And.intro (And.intro (@List.size_toArray.{0}) (And.intro (@List.getElem?_toArray.{0}) (@Option.isSome_some.{0}))) (And.intro (@Option.isSome_none.{0}) (And.intro (@Nat.zero_add) (@Nat.add_zero)))))) (And.intro (And.intro (And.intro (And.intro (@Int.toNat_natCast) (@okR.eq_1)) (And.intro (@okR.eq_2) (And.intro (@okR.eq_3) (@okR.eq_4)))) (And.intro (And.intro (@okR.eq_5) (And.intro (@okR.eq_6) (@finD.eq_1))) (And.intro (@finD.eq_2) (And.intro (@finD.eq_3) (@finD.eq_4))))) (And.intro (And.intro (And.intro (@finD.eq_5) (@finD.eq_6)) (And.intro (@finD.eq_7) (And.intro (@finGD.eq_1) (@finGD.eq_2)))) (And.intro (And.intro (@finGD.eq_3) (And.intro (@finGD.eq_4) (@stepGD.eq_1))) (And.intro (@stepGD.eq_2) (And.intro (@isSl_s) (@slen_s))))))) (And.intro (And.intro (And.intro (And.intro (And.intro (@scap_s) (@nilS_s)) (And.intro (@Option.isNone_none.{0}) (And.intro (@Option.isNone_some.{0}) (@vc.eq_1)))) (And.intro (And.intro (@vc.eq_2) (And.intro (@vc.eq_3) (@vc.eq_4))) (And.intro (@vc.eq_5) (And.intro (@vc.eq_7) (@vc.eq_8))))) (And.intro (And.intro (And.intro (@vc.eq_9) (@vc.eq_10)) (And.intro (@vc.eq_11) (And.intro (@vc.eq_12) (@vc.eq_13)))) (And.intro (And.intro (@seqK_false) (And.intro (@seqK_true) (@vcX_marks))) (And.intro (@vc_exit) (And.intro (@vcX_blk) (@vcX_code)))))) (And.intro (And.intro (And.intro (And.intro (@vcX_stop) (@aggA_nil)) (And.intro (@aggA_cons) (And.intro (@slcG_gd) (@slcG_ext)))) (And.intro (And.intro (@slcG_slo) (And.intro (@slcG_own) (@cellsG.eq_1))) (And.intro (@cellsG.eq_2) (And.intro (@putA.eq_1) (@putA.eq_2))))) (And.intro (And.intro (And.intro (@hold_eq.{1}) (@vc.eq_14)) (And.intro (@lookM_tup) (And.intro (@eq_self.{1}) (@forall_eq.{1})))) (And.intro (And.intro (@forall_eq_or_imp.{1}) (And.intro (@implies_true.{1}) (@implies_true.{0}))) (And.intro (@beq_self_eq_true.{0}) (And.intro (@forall_const.{1}) (@forall_const.{0}))))))))
def sxD:=And.intro (And.intro (And.intro (And.intro (And.intro (And.intro (@dstO.eq_def) (@normA.eq_def)) (And.intro (@normG.eq_def) (And.intro (@normP.eq_def) (@nilR.eq_def)))) (And.intro (And.intro (@nilA.eq_def) (And.intro (@fieldR.eq_def) (@addOb.eq_def))) (And.intro (@loadH.eq_def) (And.intro (@storeH.eq_def) (@zeroR.eq_def))))) (And.intro (And.intro (And.intro (@fldV.eq_def) (And.intro (@storeX.eq_def) (@loadV.eq_def))) (And.intro (@AV.ptr?.eq_def) (And.intro (@tOp.eq_def) (@put1.eq_def)))) (And.intro (And.intro (@put2.eq_def) (And.intro (@pickV.eq_def) (@binV.eq_def))) (And.intro (@binW.eq_def) (And.intro (@intV.eq_def) (@strV.eq_def)))))) (And.intro (And.intro (And.intro (And.intro (@boolV.eq_def) (@nilV.eq_def)) (And.intro (@unV1.eq_def) (And.intro (@unV.eq_def) (@selV.eq_def)))) (And.intro (And.intro (@extR.eq_def) (And.intro (@ev.eq_def) (@evC.eq_def))) (And.intro (@callR.eq_def) (And.intro (@bltR.eq_def) (@srcA.eq_def))))) (And.intro (And.intro (And.intro (@lenR.eq_def) (And.intro (@lenV.eq_def) (@minV.eq_def))) (And.intro (@maxV.eq_def) (And.intro (@St.put.eq_def) (@AV.val.eq_def)))) (And.intro (And.intro (@unG.eq_def) (And.intro (@guardB.eq_def) (@gslot.eq_def))) (And.intro (@loadR.eq_def) (And.intro (@storeR.eq_def) (@oneC.eq_def))))))) (And.intro (And.intro (And.intro (And.intro (And.intro (@tupA.eq_def) (@cellsA.eq_def)) (And.intro (@mkF.eq_def) (And.intro (@strH.eq_def) (@convX.eq_def)))) (And.intro (And.intro (@boxR.eq_def) (And.intro (@plT.eq_def) (@buildSR.eq_def))) (And.intro (@partC.eq_def) (And.intro (@makeR.eq_def) (@fieldX.eq_def))))) (And.intro (And.intro (And.intro (@fieldO.eq_def) (And.intro (@idxR.eq_def) (@idxA.eq_def))) (And.intro (@indV.eq_def) (And.intro (@slcR.eq_def) (@slcO.eq_def)))) (And.intro (And.intro (@bndO.eq_def) (And.intro (@conV.eq_def) (@cutB.eq_def))) (And.intro (@cutC.eq_def) (And.intro (@cutP.eq_def) (@joinH.eq_def)))))) (And.intro (And.intro (And.intro (And.intro (@reachK.eq_def) (And.intro (@mentO.eq_def) (@tupR.eq_def))) (And.intro (@NewD.av.eq_def) (And.intro (@eqV.eq_def) (@eqC.eq_def)))) (And.intro (And.intro (@looksK.eq_def) (And.intro (@addrL.eq_def) (@ptrK.eq_def))) (And.intro (@sloK.eq_def) (And.intro (@Op.operands.eq_def) (@Call.operands.eq_def))))) (And.intro (And.intro (And.intro (@awayB.eq_def) (And.intro (@cutO.eq_def) (@ownK.eq_def))) (And.intro (@mentD.eq_def) (And.intro (@offL.eq_def) (@offP.eq_def)))) (And.intro (And.intro (@lkuR.eq_def) (And.intro (@selV_true) (@selV_false))) (And.intro (@opAt_arr) (And.intro (@opAt_0) (@opAt_S)))))))
def sxE:=And.intro (And.intro (And.intro (And.intro (And.intro (And.intro (@normL.eq_1) (And.intro (@normL.eq_2) (@lk.eq_1))) (And.intro (@lk.eq_2) (And.intro (@lkH.eq_1) (@lkH.eq_2)))) (And.intro (And.intro (@upH.eq_1) (And.intro (@upH.eq_2) (@allOne.eq_1))) (And.intro (And.intro (@allOne.eq_2) (@vals.eq_1)) (And.intro (@vals.eq_2) (@vals.eq_3))))) (And.intro (And.intro (And.intro (@bytesA.eq_1) (And.intro (@bytesA.eq_2) (@bytesA.eq_3))) (And.intro (@buildL.eq_1) (And.intro (@buildL.eq_2) (@plN.eq_1)))) (And.intro (And.intro (@plN.eq_2) (And.intro (@repN.eq_1) (@repN.eq_2))) (And.intro (And.intro (@AV.ment.eq_1) (@AV.ment.eq_2)) (And.intro (@AV.ment.eq_3) (@AV.ment.eq_4)))))) (And.intro (And.intro (And.intro (And.intro (@AV.ment.eq_5) (And.intro (@AV.ment.eq_6) (@AV.ment.eq_7))) (And.intro (@AV.ment.eq_8) (And.intro (@AV.ment.eq_9) (@mentL.eq_1)))) (And.intro (And.intro (@mentL.eq_2) (And.intro (@mentE.eq_1) (@mentE.eq_2))) (And.intro (And.intro (@mentH.eq_1) (@mentH.eq_2)) (And.intro (@hasK.eq_1) (@hasK.eq_2))))) (And.intro (And.intro (And.intro (@AV.kill.eq_1) (And.intro (@AV.kill.eq_2) (@AV.kill.eq_3))) (And.intro (@AV.kill.eq_4) (And.intro (@AV.kill.eq_5) (@AV.kill.eq_6)))) (And.intro (And.intro (@AV.kill.eq_7) (And.intro (@AV.kill.eq_8) (@AV.kill.eq_9))) (And.intro (And.intro (@killL.eq_1) (@killL.eq_2)) (And.intro (@killE.eq_1) (@killE.eq_2))))))) (And.intro (And.intro (And.intro (And.intro (And.intro (@killH.eq_1) (And.intro (@killH.eq_2) (@killEs.eq_1))) (And.intro (@killEs.eq_2) (And.intro (@killHs.eq_1) (@killHs.eq_2)))) (And.intro (And.intro (@popTo.eq_1) (And.intro (@popTo.eq_2) (@popTo.eq_3))) (And.intro (And.intro (@hasBlk.eq_1) (@hasBlk.eq_2)) (And.intro (@hasBlk.eq_3) (@argEnv.eq_1))))) (And.intro (And.intro (And.intro (@argEnv.eq_2) (And.intro (@subH.eq_1) (@subH.eq_2))) (And.intro (@dropH.eq_1) (And.intro (@dropH.eq_2) (@cellsK.eq_1)))) (And.intro (And.intro (@cellsK.eq_2) (And.intro (@newKeys.eq_1) (@newKeys.eq_2))) (And.intro (And.intro (@keysH.eq_1) (@keysH.eq_2)) (And.intro (@inB.eq_1) (@inB.eq_2)))))) (And.intro (And.intro (And.intro (And.intro (@eqL.eq_1) (And.intro (@eqL.eq_2) (@keysOf.eq_1))) (And.intro (@keysOf.eq_2) (And.intro (@looksL.eq_1) (@looksL.eq_2)))) (And.intro (And.intro (@disj.eq_1) (And.intro (@disj.eq_2) (@subE.eq_1))) (And.intro (And.intro (@subE.eq_2) (@subHp.eq_1)) (And.intro (@subHp.eq_2) (@keepLt.eq_1))))) (And.intro (And.intro (And.intro (@keepLt.eq_2) (And.intro (@forgetD.eq_1) (@forgetD.eq_2))) (And.intro (@marksOf.eq_1) (And.intro (@marksOf.eq_2) (@marksOf.eq_3)))) (And.intro (And.intro (@headId.eq_1) (And.intro (@headId.eq_2) (@headId.eq_3))) (And.intro (And.intro (@headId.eq_4) (@headId.eq_5)) (And.intro (@cellsD.eq_1) (@cellsD.eq_2)))))))
def sxO:=And.intro (And.intro (And.intro (@decide_eq_true_eq) (And.intro (@decide_eq_false_iff_not) (@Bool.or_eq_true))) (And.intro (@Bool.or_eq_false_iff) (And.intro (@Bool.and_eq_true) (@Bool.and_eq_false_iff)))) (And.intro (And.intro (@Bool.not_eq_true) (And.intro (@Bool.not_eq_true') (@Bool.not_eq_false'))) (And.intro (@Int.toNat_natCast) (And.intro (@ne_eq.{1}) (@maxLen.eq_1))))
def sxTab:=And.intro (And.intro (And.intro (And.intro (And.intro (And.intro (And.intro (And.intro (@cb10) (@cb100)) (And.intro (@cb101) (@cb103))) (And.intro (And.intro (@cb104) (@cb105)) (And.intro (@cb11) (@cb12)))) (And.intro (And.intro (And.intro (@cb13) (@cb14)) (And.intro (@cb15) (@cb16))) (And.intro (And.intro (@cb17) (@cb18)) (And.intro (@cb19) (@cb2))))) (And.intro (And.intro (And.intro (And.intro (@cb20) (@cb21)) (And.intro (@cb22) (@cb23))) (And.intro (And.intro (@cb24) (@cb25)) (And.intro (@cb26) (@cb27)))) (And.intro (And.intro (And.intro (@cb28) (@cb29)) (And.intro (@cb3) (@cb30))) (And.intro (And.intro (@cb31) (@cb32)) (And.intro (@cb33) (And.intro (@cb34) (@cb35))))))) (And.intro (And.intro (And.intro (And.intro (And.intro (@cb36) (@cb37)) (And.intro (@cb38) (@cb39))) (And.intro (And.intro (@cb4) (@cb40)) (And.intro (@cb41) (@cb42)))) (And.intro (And.intro (And.intro (@cb43) (@cb44)) (And.intro (@cb45) (@cb46))) (And.intro (And.intro (@cb47) (@cb48)) (And.intro (@cb49) (@cb5))))) (And.intro (And.intro (And.intro (And.intro (@cb50) (@cb51)) (And.intro (@cb52) (@cb53))) (And.intro (And.intro (@cb54) (@cb55)) (And.intro (@cb56) (@cb57)))) (And.intro (And.intro (And.intro (@cb58) (@cb59)) (And.intro (@cb6) (@cb60))) (And.intro (And.intro (@cb61) (@cb62)) (And.intro (@cb63) (And.intro (@cb64) (@cb65)))))))) (And.intro (And.intro (And.intro (And.intro (And.intro (And.intro (@cb66) (@cb67)) (And.intro (@cb68) (@cb69))) (And.intro (And.intro (@cb7) (@cb70)) (And.intro (@cb71) (@cb72)))) (And.intro (And.intro (And.intro (@cb73) (@cb74)) (And.intro (@cb75) (@cb76))) (And.intro (And.intro (@cb77) (@cb78)) (And.intro (@cb79) (@cb8))))) (And.intro (And.intro (And.intro (And.intro (@cb80) (@cb81)) (And.intro (@cb82) (@cb83))) (And.intro (And.intro (@cb84) (@cb85)) (And.intro (@cb86) (@cb87)))) (And.intro (And.intro (And.intro (@cb88) (@cb89)) (And.intro (@cb9) (@cb91))) (And.intro (And.intro (@cb92) (@cb93)) (And.intro (@cb95) (And.intro (@cb97) (@cb98))))))) (And.intro (And.intro (And.intro (And.intro (And.intro (@cb99) (@tA103)) (And.intro (@tA120) (@tA22))) (And.intro (And.intro (@tA25) (@tA26)) (And.intro (@tA29) (@tA30)))) (And.intro (And.intro (And.intro (@tA32) (@tA35)) (And.intro (@tA39) (@tA41))) (And.intro (And.intro (@tA43) (@tA49)) (And.intro (@tA51) (@tA57))))) (And.intro (And.intro (And.intro (And.intro (@tA58) (@tA62)) (And.intro (@tA88) (@tA9))) (And.intro (And.intro (@tI124) (@tI129)) (And.intro (@tI21) (@tI3)))) (And.intro (And.intro (And.intro (@tI5) (@tI9)) (And.intro (@tI99) (@tS100))) (And.intro (And.intro (@tS103) (@tS120)) (And.intro (@tS22) (And.intro (@tS26) (@tS30))))))))) (And.intro (And.intro (And.intro (And.intro (And.intro (And.intro (And.intro (@tS35) (@tS39)) (And.intro (@tS49) (@tS51))) (And.intro (And.intro (@tS58) (@tS62)) (And.intro (@tS9) (@tb4)))) (And.intro (And.intro (And.intro (@tc100) (@tc102)) (And.intro (@tc103) (@tc120))) (And.intro (And.intro (@tc22) (@tc25)) (And.intro (@tc29) (@tc3))))) (And.intro (And.intro (And.intro (And.intro (@tc30) (@tc32)) (And.intro (@tc39) (@tc4))) (And.intro (And.intro (@tc41) (@tc43)) (And.intro (@tc5) (@tc51)))) (And.intro (And.intro (And.intro (@tc57) (@tc58)) (And.intro (@tc62) (@tc88))) (And.intro (And.intro (@tc9) (@tc99)) (And.intro (@tf102_0) (And.intro (@tf102_1) (@tf25_0))))))) (And.intro (And.intro (And.intro (And.intro (And.intro (@tf25_1) (@tf29_0)) (And.intro (@tf29_1) (@tf32_0))) (And.intro (And.intro (@tf32_1) (@tf32_2)) (And.intro (@tf32_3) (@tf41_0)))) (And.intro (And.intro (And.intro (@tf41_1) (@tf43_0)) (And.intro (@tf43_1) (@tf57_0))) (And.intro (And.intro (@tf57_1) (@tk100)) (And.intro (@tk102) (@tk103))))) (And.intro (And.intro (And.intro (And.intro (@tk120) (@tk22)) (And.intro (@tk25) (@tk29))) (And.intro (And.intro (@tk3) (@tk30)) (And.intro (@tk32) (@tk39)))) (And.intro (And.intro (And.intro (@tk4) (@tk41)) (And.intro (@tk43) (@tk5))) (And.intro (And.intro (@tk51) (@tk57)) (And.intro (@tk58) (And.intro (@tk62) (@tk88)))))))) (And.intro (And.intro (And.intro (And.intro (And.intro (And.intro (@tk9) (@tk99)) (And.intro (@tl100) (@tl22))) (And.intro (And.intro (@tl26) (@tl30)) (And.intro (@tl35) (@tl39)))) (And.intro (And.intro (And.intro (@tl58) (@tl9)) (And.intro (@tp25) (@tp29))) (And.intro (And.intro (@tp32) (@tp41)) (And.intro (@tp43) (@tp57))))) (And.intro (And.intro (And.intro (And.intro (@tp88) (@ts100)) (And.intro (@ts103) (@ts120))) (And.intro (And.intro (@ts124) (@ts129)) (And.intro (@ts21) (@ts22)))) (And.intro (And.intro (And.intro (@ts26) (@ts3)) (And.intro (@ts30) (@ts35))) (And.intro (And.intro (@ts39) (@ts49)) (And.intro (@ts5) (And.intro (@ts51) (@ts58))))))) (And.intro (And.intro (And.intro (And.intro (And.intro (@ts62) (@ts9)) (And.intro (@ts99) (@ty3))) (And.intro (And.intro (@ty32) (@ty4)) (And.intro (@ty41) (@ty43)))) (And.intro (And.intro (And.intro (@ty5) (@ty51)) (And.intro (@ty57) (@ty9))) (And.intro (And.intro (@tz100) (@tz102)) (And.intro (@tz103) (And.intro (@tz120) (@tz22)))))) (And.intro (And.intro (And.intro (And.intro (@tz25) (@tz29)) (And.intro (@tz3) (@tz30))) (And.intro (And.intro (@tz32) (@tz39)) (And.intro (@tz4) (@tz41)))) (And.intro (And.intro (And.intro (@tz43) (@tz5)) (And.intro (@tz51) (@tz57))) (And.intro (And.intro (@tz58) (@tz62)) (And.intro (@tz88) (And.intro (@tz9) (@tz99)))))))))
end Go.Proofs.YtoblkpomikokhaaGreat.Sx
