/- Part 15 of the texts of this claim: a symbolic executor and contracts of functions. -/
import Derived.Test.YtbclgnojcnkehaaGreatPuCRCUse
namespace Go.Proofs.YtbclgnojcnkehaaGreat.Sx
open Go
theorem _root_.Go.Proofs.Tryz.mixed:Tryz.prog.follows .mixedOrders=true:=by kernel_rfl
theorem cb10:callsB Tryz.prog 10=true:=by kernel_rfl
theorem cb100:callsB Tryz.prog 100=true:=by kernel_rfl
theorem cb101:callsB Tryz.prog 101=true:=by kernel_rfl
theorem cb102:callsB Tryz.prog 102=true:=by kernel_rfl
theorem cb103:callsB Tryz.prog 103=true:=by kernel_rfl
theorem cb104:callsB Tryz.prog 104=true:=by kernel_rfl
theorem cb105:callsB Tryz.prog 105=true:=by kernel_rfl
theorem cb106:callsB Tryz.prog 106=true:=by kernel_rfl
theorem cb107:callsB Tryz.prog 107=true:=by kernel_rfl
theorem cb108:callsB Tryz.prog 108=true:=by kernel_rfl
theorem cb109:callsB Tryz.prog 109=true:=by kernel_rfl
theorem cb11:callsB Tryz.prog 11=true:=by kernel_rfl
theorem cb110:callsB Tryz.prog 110=true:=by kernel_rfl
theorem cb111:callsB Tryz.prog 111=true:=by kernel_rfl
theorem cb112:callsB Tryz.prog 112=true:=by kernel_rfl
theorem cb113:callsB Tryz.prog 113=true:=by kernel_rfl
theorem cb114:callsB Tryz.prog 114=true:=by kernel_rfl
theorem cb115:callsB Tryz.prog 115=true:=by kernel_rfl
theorem cb116:callsB Tryz.prog 116=true:=by kernel_rfl
theorem cb117:callsB Tryz.prog 117=true:=by kernel_rfl
theorem cb118:callsB Tryz.prog 118=true:=by kernel_rfl
theorem cb119:callsB Tryz.prog 119=true:=by kernel_rfl
theorem cb12:callsB Tryz.prog 12=true:=by kernel_rfl
theorem cb120:callsB Tryz.prog 120=true:=by kernel_rfl
theorem cb121:callsB Tryz.prog 121=true:=by kernel_rfl
theorem cb122:callsB Tryz.prog 122=true:=by kernel_rfl
theorem cb123:callsB Tryz.prog 123=true:=by kernel_rfl
theorem cb124:callsB Tryz.prog 124=true:=by kernel_rfl
theorem cb125:callsB Tryz.prog 125=true:=by kernel_rfl
theorem cb126:callsB Tryz.prog 126=true:=by kernel_rfl
theorem cb127:callsB Tryz.prog 127=true:=by kernel_rfl
theorem cb128:callsB Tryz.prog 128=true:=by kernel_rfl
theorem cb129:callsB Tryz.prog 129=true:=by kernel_rfl
theorem cb13:callsB Tryz.prog 13=true:=by kernel_rfl
theorem cb130:callsB Tryz.prog 130=true:=by kernel_rfl
theorem cb131:callsB Tryz.prog 131=true:=by kernel_rfl
theorem cb132:callsB Tryz.prog 132=true:=by kernel_rfl
theorem cb133:callsB Tryz.prog 133=true:=by kernel_rfl
theorem cb134:callsB Tryz.prog 134=true:=by kernel_rfl
theorem cb135:callsB Tryz.prog 135=true:=by kernel_rfl
theorem cb136:callsB Tryz.prog 136=true:=by kernel_rfl
theorem cb137:callsB Tryz.prog 137=true:=by kernel_rfl
theorem cb138:callsB Tryz.prog 138=true:=by kernel_rfl
theorem cb139:callsB Tryz.prog 139=true:=by kernel_rfl
theorem cb14:callsB Tryz.prog 14=true:=by kernel_rfl
theorem cb140:callsB Tryz.prog 140=true:=by kernel_rfl
theorem cb141:callsB Tryz.prog 141=true:=by kernel_rfl
theorem cb142:callsB Tryz.prog 142=true:=by kernel_rfl
theorem cb143:callsB Tryz.prog 143=true:=by kernel_rfl
theorem cb144:callsB Tryz.prog 144=true:=by kernel_rfl
theorem cb145:callsB Tryz.prog 145=true:=by kernel_rfl
theorem cb146:callsB Tryz.prog 146=true:=by kernel_rfl
theorem cb147:callsB Tryz.prog 147=true:=by kernel_rfl
theorem cb148:callsB Tryz.prog 148=true:=by kernel_rfl
theorem cb149:callsB Tryz.prog 149=true:=by kernel_rfl
theorem cb15:callsB Tryz.prog 15=true:=by kernel_rfl
theorem cb150:callsB Tryz.prog 150=true:=by kernel_rfl
theorem cb151:callsB Tryz.prog 151=true:=by kernel_rfl
theorem cb152:callsB Tryz.prog 152=true:=by kernel_rfl
theorem cb153:callsB Tryz.prog 153=true:=by kernel_rfl
theorem cb154:callsB Tryz.prog 154=true:=by kernel_rfl
theorem cb155:callsB Tryz.prog 155=true:=by kernel_rfl
theorem cb156:callsB Tryz.prog 156=true:=by kernel_rfl
theorem cb157:callsB Tryz.prog 157=true:=by kernel_rfl
theorem cb158:callsB Tryz.prog 158=true:=by kernel_rfl
theorem cb159:callsB Tryz.prog 159=true:=by kernel_rfl
theorem cb16:callsB Tryz.prog 16=true:=by kernel_rfl
theorem cb160:callsB Tryz.prog 160=true:=by kernel_rfl
theorem cb161:callsB Tryz.prog 161=true:=by kernel_rfl
theorem cb162:callsB Tryz.prog 162=true:=by kernel_rfl
theorem cb163:callsB Tryz.prog 163=true:=by kernel_rfl
theorem cb164:callsB Tryz.prog 164=true:=by kernel_rfl
theorem cb165:callsB Tryz.prog 165=true:=by kernel_rfl
theorem cb166:callsB Tryz.prog 166=true:=by kernel_rfl
theorem cb167:callsB Tryz.prog 167=true:=by kernel_rfl
theorem cb168:callsB Tryz.prog 168=true:=by kernel_rfl
theorem cb169:callsB Tryz.prog 169=true:=by kernel_rfl
theorem cb17:callsB Tryz.prog 17=true:=by kernel_rfl
theorem cb170:callsB Tryz.prog 170=true:=by kernel_rfl
theorem cb171:callsB Tryz.prog 171=true:=by kernel_rfl
theorem cb172:callsB Tryz.prog 172=true:=by kernel_rfl
theorem cb18:callsB Tryz.prog 18=true:=by kernel_rfl
theorem cb19:callsB Tryz.prog 19=true:=by kernel_rfl
theorem cb2:callsB Tryz.prog 2=true:=by kernel_rfl
theorem cb20:callsB Tryz.prog 20=true:=by kernel_rfl
theorem cb21:callsB Tryz.prog 21=true:=by kernel_rfl
theorem cb22:callsB Tryz.prog 22=true:=by kernel_rfl
theorem cb23:callsB Tryz.prog 23=true:=by kernel_rfl
theorem cb24:callsB Tryz.prog 24=true:=by kernel_rfl
theorem cb25:callsB Tryz.prog 25=true:=by kernel_rfl
theorem cb26:callsB Tryz.prog 26=true:=by kernel_rfl
theorem cb27:callsB Tryz.prog 27=true:=by kernel_rfl
theorem cb28:callsB Tryz.prog 28=true:=by kernel_rfl
theorem cb29:callsB Tryz.prog 29=true:=by kernel_rfl
theorem cb3:callsB Tryz.prog 3=true:=by kernel_rfl
theorem cb30:callsB Tryz.prog 30=true:=by kernel_rfl
theorem cb31:callsB Tryz.prog 31=true:=by kernel_rfl
theorem cb32:callsB Tryz.prog 32=true:=by kernel_rfl
theorem cb33:callsB Tryz.prog 33=true:=by kernel_rfl
theorem cb34:callsB Tryz.prog 34=true:=by kernel_rfl
theorem cb35:callsB Tryz.prog 35=true:=by kernel_rfl
theorem cb36:callsB Tryz.prog 36=true:=by kernel_rfl
theorem cb37:callsB Tryz.prog 37=true:=by kernel_rfl
theorem cb38:callsB Tryz.prog 38=true:=by kernel_rfl
theorem cb39:callsB Tryz.prog 39=true:=by kernel_rfl
theorem cb4:callsB Tryz.prog 4=true:=by kernel_rfl
theorem cb40:callsB Tryz.prog 40=true:=by kernel_rfl
theorem cb41:callsB Tryz.prog 41=true:=by kernel_rfl
theorem cb42:callsB Tryz.prog 42=true:=by kernel_rfl
theorem cb43:callsB Tryz.prog 43=true:=by kernel_rfl
theorem cb44:callsB Tryz.prog 44=true:=by kernel_rfl
theorem cb45:callsB Tryz.prog 45=true:=by kernel_rfl
theorem cb46:callsB Tryz.prog 46=true:=by kernel_rfl
theorem cb47:callsB Tryz.prog 47=true:=by kernel_rfl
theorem cb48:callsB Tryz.prog 48=true:=by kernel_rfl
theorem cb49:callsB Tryz.prog 49=true:=by kernel_rfl
theorem cb5:callsB Tryz.prog 5=true:=by kernel_rfl
theorem cb50:callsB Tryz.prog 50=true:=by kernel_rfl
theorem cb51:callsB Tryz.prog 51=true:=by kernel_rfl
theorem cb52:callsB Tryz.prog 52=true:=by kernel_rfl
theorem cb53:callsB Tryz.prog 53=true:=by kernel_rfl
theorem cb54:callsB Tryz.prog 54=true:=by kernel_rfl
theorem cb55:callsB Tryz.prog 55=true:=by kernel_rfl
theorem cb56:callsB Tryz.prog 56=true:=by kernel_rfl
theorem cb57:callsB Tryz.prog 57=true:=by kernel_rfl
theorem cb58:callsB Tryz.prog 58=true:=by kernel_rfl
theorem cb59:callsB Tryz.prog 59=true:=by kernel_rfl
theorem cb6:callsB Tryz.prog 6=true:=by kernel_rfl
theorem cb60:callsB Tryz.prog 60=true:=by kernel_rfl
theorem cb61:callsB Tryz.prog 61=true:=by kernel_rfl
theorem cb62:callsB Tryz.prog 62=true:=by kernel_rfl
theorem cb63:callsB Tryz.prog 63=true:=by kernel_rfl
theorem cb64:callsB Tryz.prog 64=true:=by kernel_rfl
theorem cb65:callsB Tryz.prog 65=true:=by kernel_rfl
theorem cb66:callsB Tryz.prog 66=true:=by kernel_rfl
theorem cb67:callsB Tryz.prog 67=true:=by kernel_rfl
theorem cb68:callsB Tryz.prog 68=true:=by kernel_rfl
theorem cb69:callsB Tryz.prog 69=true:=by kernel_rfl
theorem cb7:callsB Tryz.prog 7=true:=by kernel_rfl
theorem cb70:callsB Tryz.prog 70=true:=by kernel_rfl
theorem cb71:callsB Tryz.prog 71=true:=by kernel_rfl
theorem cb72:callsB Tryz.prog 72=true:=by kernel_rfl
theorem cb73:callsB Tryz.prog 73=true:=by kernel_rfl
theorem cb74:callsB Tryz.prog 74=true:=by kernel_rfl
theorem cb75:callsB Tryz.prog 75=true:=by kernel_rfl
theorem cb76:callsB Tryz.prog 76=true:=by kernel_rfl
theorem cb77:callsB Tryz.prog 77=true:=by kernel_rfl
theorem cb78:callsB Tryz.prog 78=true:=by kernel_rfl
theorem cb79:callsB Tryz.prog 79=true:=by kernel_rfl
theorem cb8:callsB Tryz.prog 8=true:=by kernel_rfl
theorem cb80:callsB Tryz.prog 80=true:=by kernel_rfl
theorem cb81:callsB Tryz.prog 81=true:=by kernel_rfl
theorem cb82:callsB Tryz.prog 82=true:=by kernel_rfl
theorem cb83:callsB Tryz.prog 83=true:=by kernel_rfl
theorem cb84:callsB Tryz.prog 84=true:=by kernel_rfl
theorem cb85:callsB Tryz.prog 85=true:=by kernel_rfl
theorem cb86:callsB Tryz.prog 86=true:=by kernel_rfl
theorem cb87:callsB Tryz.prog 87=true:=by kernel_rfl
theorem cb88:callsB Tryz.prog 88=true:=by kernel_rfl
theorem cb89:callsB Tryz.prog 89=true:=by kernel_rfl
theorem cb9:callsB Tryz.prog 9=true:=by kernel_rfl
theorem cb90:callsB Tryz.prog 90=true:=by kernel_rfl
theorem cb91:callsB Tryz.prog 91=true:=by kernel_rfl
theorem cb92:callsB Tryz.prog 92=true:=by kernel_rfl
theorem cb93:callsB Tryz.prog 93=true:=by kernel_rfl
theorem cb94:callsB Tryz.prog 94=true:=by kernel_rfl
theorem cb95:callsB Tryz.prog 95=true:=by kernel_rfl
theorem cb96:callsB Tryz.prog 96=true:=by kernel_rfl
theorem cb97:callsB Tryz.prog 97=true:=by kernel_rfl
theorem cb98:callsB Tryz.prog 98=true:=by kernel_rfl
theorem cb99:callsB Tryz.prog 99=true:=by kernel_rfl
theorem tA127:arrT Tryz.prog 127=none:=by kernel_rfl
theorem tA22:arrT Tryz.prog 22=none:=by kernel_rfl
theorem tA23:arrT Tryz.prog 23=none:=by kernel_rfl
theorem tA24:arrT Tryz.prog 24=none:=by kernel_rfl
theorem tA25:arrT Tryz.prog 25=none:=by kernel_rfl
theorem tA27:arrT Tryz.prog 27=none:=by kernel_rfl
theorem tA31:arrT Tryz.prog 31=none:=by kernel_rfl
theorem tA33:arrT Tryz.prog 33=none:=by kernel_rfl
theorem tA40:arrT Tryz.prog 40=none:=by kernel_rfl
theorem tA51:arrT Tryz.prog 51=none:=by kernel_rfl
theorem tA64:arrT Tryz.prog 64=some (2,3):=by kernel_rfl
theorem tA65:arrT Tryz.prog 65=none:=by kernel_rfl
theorem tA73:arrT Tryz.prog 73=none:=by kernel_rfl
theorem tA9:arrT Tryz.prog 9=none:=by kernel_rfl
theorem tI121:intT Tryz.prog 121=some .u64:=by kernel_rfl
theorem tI122:intT Tryz.prog 122=some .u64:=by kernel_rfl
theorem tI3:intT Tryz.prog 3=some .i64:=by kernel_rfl
theorem tI5:intT Tryz.prog 5=some .u8:=by kernel_rfl
theorem tI75:intT Tryz.prog 75=some .u32:=by kernel_rfl
theorem tS127:slcT Tryz.prog 127=some 25:=by kernel_rfl
theorem tS22:slcT Tryz.prog 22=some 3:=by kernel_rfl
theorem tS23:slcT Tryz.prog 23=some 27:=by kernel_rfl
theorem tS24:slcT Tryz.prog 24=some 75:=by kernel_rfl
theorem tS25:slcT Tryz.prog 25=some 75:=by kernel_rfl
theorem tS64:slcT Tryz.prog 64=none:=by kernel_rfl
theorem tS65:slcT Tryz.prog 65=some 64:=by kernel_rfl
theorem tS73:slcT Tryz.prog 73=some 41:=by kernel_rfl
theorem tS9:slcT Tryz.prog 9=none:=by kernel_rfl
theorem tb4:isBoolT Tryz.prog 4=true:=by kernel_rfl
theorem tc22:zeroC Tryz.prog 22=some [.slice none 0 0]:=by kernel_rfl
theorem tc23:zeroC Tryz.prog 23=some [.slice none 0 0]:=by kernel_rfl
theorem tc24:zeroC Tryz.prog 24=some [.slice none 0 0]:=by kernel_rfl
theorem tc25:zeroC Tryz.prog 25=some [.slice none 0 0]:=by kernel_rfl
theorem tc27:zeroC Tryz.prog 27=some [.slice none 0 0,.slice none 0 0]:=by kernel_rfl
theorem tc3:zeroC Tryz.prog 3=some [.int .i64 0]:=by kernel_rfl
theorem tc31:zeroC Tryz.prog 31=some [.slice none 0 0,.int .i64 0]:=by kernel_rfl
theorem tc33:zeroC Tryz.prog 33=some [.slice none 0 0]:=by kernel_rfl
theorem tc40:zeroC Tryz.prog 40=some [.slice none 0 0,.slice none 0 0,.slice none 0 0]:=by kernel_rfl
theorem tc41:zeroC Tryz.prog 41=some [.int .i64 0]:=by kernel_rfl
theorem tc51:zeroC Tryz.prog 51=some [.slice none 0 0,.slice none 0 0,.slice none 0 0,.slice none 0 0]:=by kernel_rfl
theorem tc64:zeroC Tryz.prog 64=some [.int .i64 0,.int .i64 0]:=by kernel_rfl
theorem tc75:zeroC Tryz.prog 75=some [.int .u32 0]:=by kernel_rfl
theorem tf27_0:fOff Tryz.prog 27 0=some (0,25):=by kernel_rfl
theorem tf27_1:fOff Tryz.prog 27 1=some (1,25):=by kernel_rfl
theorem tf31_0:fOff Tryz.prog 31 0=some (0,22):=by kernel_rfl
theorem tf31_1:fOff Tryz.prog 31 1=some (1,3):=by kernel_rfl
theorem tf33_0:fOff Tryz.prog 33 0=some (0,22):=by kernel_rfl
theorem tf40_0:fOff Tryz.prog 40 0=some (0,33):=by kernel_rfl
theorem tf40_1:fOff Tryz.prog 40 1=some (1,22):=by kernel_rfl
theorem tf40_2:fOff Tryz.prog 40 2=some (2,23):=by kernel_rfl
theorem tf51_0:fOff Tryz.prog 51 0=some (0,27):=by kernel_rfl
theorem tf51_1:fOff Tryz.prog 51 1=some (2,27):=by kernel_rfl
theorem tk22:kindT Tryz.prog 22=some false:=by kernel_rfl
theorem tk23:kindT Tryz.prog 23=some false:=by kernel_rfl
theorem tk24:kindT Tryz.prog 24=some false:=by kernel_rfl
theorem tk25:kindT Tryz.prog 25=some false:=by kernel_rfl
theorem tk27:kindT Tryz.prog 27=some true:=by kernel_rfl
theorem tk3:kindT Tryz.prog 3=some false:=by kernel_rfl
theorem tk31:kindT Tryz.prog 31=some true:=by kernel_rfl
theorem tk33:kindT Tryz.prog 33=some true:=by kernel_rfl
theorem tk40:kindT Tryz.prog 40=some true:=by kernel_rfl
theorem tk41:kindT Tryz.prog 41=some false:=by kernel_rfl
theorem tk51:kindT Tryz.prog 51=some true:=by kernel_rfl
theorem tk64:kindT Tryz.prog 64=some true:=by kernel_rfl
theorem tk75:kindT Tryz.prog 75=some false:=by kernel_rfl
theorem tl127:isSliceT Tryz.prog 127=true:=by kernel_rfl
theorem tl22:isSliceT Tryz.prog 22=true:=by kernel_rfl
theorem tl23:isSliceT Tryz.prog 23=true:=by kernel_rfl
theorem tl24:isSliceT Tryz.prog 24=true:=by kernel_rfl
theorem tl25:isSliceT Tryz.prog 25=true:=by kernel_rfl
theorem tl65:isSliceT Tryz.prog 65=true:=by kernel_rfl
theorem tl73:isSliceT Tryz.prog 73=true:=by kernel_rfl
theorem tp27:placesT Tryz.prog 27=some [(0,1,false),(1,1,false)]:=by kernel_rfl
theorem tp31:placesT Tryz.prog 31=some [(0,1,false),(1,1,false)]:=by kernel_rfl
theorem tp33:placesT Tryz.prog 33=some [(0,1,false)]:=by kernel_rfl
theorem tp40:placesT Tryz.prog 40=some [(0,1,true),(1,1,false),(2,1,false)]:=by kernel_rfl
theorem tp51:placesT Tryz.prog 51=some [(0,2,true),(2,2,true)]:=by kernel_rfl
theorem ts121:isStrT Tryz.prog 121=false:=by kernel_rfl
theorem ts122:isStrT Tryz.prog 122=false:=by kernel_rfl
theorem ts127:isStrT Tryz.prog 127=false:=by kernel_rfl
theorem ts22:isStrT Tryz.prog 22=false:=by kernel_rfl
theorem ts23:isStrT Tryz.prog 23=false:=by kernel_rfl
theorem ts24:isStrT Tryz.prog 24=false:=by kernel_rfl
theorem ts25:isStrT Tryz.prog 25=false:=by kernel_rfl
theorem ts3:isStrT Tryz.prog 3=false:=by kernel_rfl
theorem ts5:isStrT Tryz.prog 5=false:=by kernel_rfl
theorem ts64:isStrT Tryz.prog 64=false:=by kernel_rfl
theorem ts65:isStrT Tryz.prog 65=false:=by kernel_rfl
theorem ts73:isStrT Tryz.prog 73=false:=by kernel_rfl
theorem ts75:isStrT Tryz.prog 75=false:=by kernel_rfl
theorem ts9:isStrT Tryz.prog 9=true:=by kernel_rfl
theorem ty25:byO Tryz.prog 25=some 24:=by kernel_rfl
theorem ty27:byO Tryz.prog 27=some 48:=by kernel_rfl
theorem ty3:byO Tryz.prog 3=some 8:=by kernel_rfl
theorem ty41:byO Tryz.prog 41=some 8:=by kernel_rfl
theorem ty64:byO Tryz.prog 64=some 16:=by kernel_rfl
theorem ty75:byO Tryz.prog 75=some 4:=by kernel_rfl
theorem tz22:szO Tryz.prog 22=some 1:=by kernel_rfl
theorem tz23:szO Tryz.prog 23=some 1:=by kernel_rfl
theorem tz24:szO Tryz.prog 24=some 1:=by kernel_rfl
theorem tz25:szO Tryz.prog 25=some 1:=by kernel_rfl
theorem tz27:szO Tryz.prog 27=some 2:=by kernel_rfl
theorem tz3:szO Tryz.prog 3=some 1:=by kernel_rfl
theorem tz31:szO Tryz.prog 31=some 2:=by kernel_rfl
theorem tz33:szO Tryz.prog 33=some 1:=by kernel_rfl
theorem tz40:szO Tryz.prog 40=some 3:=by kernel_rfl
theorem tz41:szO Tryz.prog 41=some 1:=by kernel_rfl
theorem tz51:szO Tryz.prog 51=some 4:=by kernel_rfl
theorem tz64:szO Tryz.prog 64=some 2:=by kernel_rfl
theorem tz75:szO Tryz.prog 75=some 1:=by kernel_rfl
set_option linter.defProp false
def sxB:=And.intro (And.intro (And.intro (And.intro (And.intro (And.intro (And.intro (@loadX.eq_1) (@loadX.eq_2)) (And.intro (@loadX.eq_3) (And.intro (@loadX.eq_4) (@loadX.eq_5)))) (And.intro (And.intro (@loadX.eq_6) (@fldA.eq_1)) (And.intro (@fldA.eq_2) (And.intro (@fldA.eq_3) (@isPt_p))))) (And.intro (And.intro (And.intro (@addP_p) (@List.toList_toArray.{0})) (And.intro (@stepG.eq_1) (And.intro (@stepG.eq_2) (@fin.eq_1)))) (And.intro (And.intro (@fin.eq_2) (And.intro (@fin.eq_3) (@fin.eq_4))) (And.intro (@fin.eq_5) (And.intro (@fin.eq_6) (@fin.eq_7)))))) (And.intro (And.intro (And.intro (And.intro (@finG.eq_1) (@finG.eq_2)) (And.intro (@finG.eq_3) (And.intro (@finG.eq_4) (@brv_true)))) (And.intro (And.intro (@brv_false) (And.intro (@condK.eq_1) (@rowS.eq_1))) (And.intro (@rowS.eq_2) (And.intro (@mentL_append) (@mentL_ext))))) (And.intro (And.intro (And.intro (@mentL_extf) (@one_bool)) (And.intro (@one_int) (And.intro (@one_str) (@one_ptr)))) (And.intro (And.intro (@one_sli) (And.intro (@one_map) (@one_fun))) (And.intro (@one_nf) (And.intro (@one_ni) (@one_if))))))) (And.intro (And.intro (And.intro (And.intro (And.intro (@one_agg) (@one_tup)) (And.intro (@List.getElem?_cons_zero.{0}) (And.intro (@List.getElem?_cons_succ.{0}) (@List.drop_zero.{0})))) (And.intro (And.intro (@List.drop_succ_cons.{0}) (@List.take_zero.{0})) (And.intro (@List.take_succ_cons.{0}) (And.intro (@List.take_nil.{0}) (@List.drop_nil.{0}))))) (And.intro (And.intro (And.intro (@List.map_cons.{0,0}) (@List.map_nil.{0,0})) (And.intro (@List.length_cons.{0}) (And.intro (@List.length_nil.{0}) (@List.append_nil.{0})))) (And.intro (And.intro (@List.cons_append.{0}) (And.intro (@List.nil_append.{0}) (@List.set_cons_zero.{0}))) (And.intro (@List.set_cons_succ.{0}) (And.intro (@List.all_cons.{0}) (@List.all_nil.{0})))))) (And.intro (And.intro (And.intro (And.intro (@List.mem_cons.{0}) (@List.not_mem_nil.{0})) (And.intro (@Option.bind_some.{0,0}) (And.intro (@Option.map_some.{0,0}) (@Option.map_none.{0,0})))) (And.intro (And.intro (@true_and) (And.intro (@and_true) (@and_self))) (And.intro (@true_implies) (And.intro (@false_implies) (@imp_self))))) (And.intro (And.intro (And.intro (@Bool.cond_false_right) (@Bool.cond_true_left)) (And.intro (@beq_true) (And.intro (@beq_false) (@Bool.not_eq_true')))) (And.intro (And.intro (@Bool.not_true) (And.intro (@Bool.not_false) (@Bool.true_and))) (And.intro (@Bool.and_true) (And.intro (@Bool.false_and) (@Bool.and_false)))))))) (And.intro (And.intro (And.intro (And.intro (And.intro (And.intro (@Bool.or_false) (@Bool.false_or)) (And.intro (@Bool.or_true) (And.intro (@Bool.true_or) (@decide_true)))) (And.intro (And.intro (@decide_false) (@Bool.false_eq_true)) (And.intro (@Bool.true_eq_false) (And.intro (@false_or) (@true_or))))) (And.intro (And.intro (And.intro (@or_true) (@or_false)) (And.intro (@or_self) (And.intro (@List.contains_nil.{0}) (@List.contains_cons.{0})))) (And.intro (And.intro (@List.size_toArray.{0}) (And.intro (@List.getElem?_toArray.{0}) (@Option.isSome_some.{0}))) (And.intro (@Option.isSome_none.{0}) (And.intro (@Nat.zero_add) (@Nat.add_zero)))))) (And.intro (And.intro (And.intro (And.intro (@Int.toNat_natCast) (@okR.eq_1)) (And.intro (@okR.eq_2) (And.intro (@okR.eq_3) (@okR.eq_4)))) (And.intro (And.intro (@okR.eq_5) (And.intro (@okR.eq_6) (@finD.eq_1))) (And.intro (@finD.eq_2) (And.intro (@finD.eq_3) (@finD.eq_4))))) (And.intro (And.intro (And.intro (@finD.eq_5) (@finD.eq_6)) (And.intro (@finD.eq_7) (And.intro (@finGD.eq_1) (@finGD.eq_2)))) (And.intro (And.intro (@finGD.eq_3) (And.intro (@finGD.eq_4) (@stepGD.eq_1))) (And.intro (@stepGD.eq_2) (And.intro (@isSl_s) (@slen_s))))))) (And.intro (And.intro (And.intro (And.intro (And.intro (@scap_s) (@nilS_s)) (And.intro (@Option.isNone_none.{0}) (And.intro (@Option.isNone_some.{0}) (@vc.eq_1)))) (And.intro (And.intro (@vc.eq_2) (And.intro (@vc.eq_3) (@vc.eq_4))) (And.intro (@vc.eq_5) (And.intro (@vc.eq_7) (@vc.eq_8))))) (And.intro (And.intro (And.intro (@vc.eq_9) (@vc.eq_10)) (And.intro (@vc.eq_11) (And.intro (@vc.eq_12) (@vc.eq_13)))) (And.intro (And.intro (@seqK_false) (And.intro (@seqK_true) (@vcX_marks))) (And.intro (@vc_exit) (And.intro (@vcX_blk) (@vcX_code)))))) (And.intro (And.intro (And.intro (And.intro (@vcX_stop) (@aggA_nil)) (And.intro (@aggA_cons) (And.intro (@slcG_gd) (@slcG_ext)))) (And.intro (And.intro (@slcG_slo) (And.intro (@slcG_own) (@cellsG.eq_1))) (And.intro (@cellsG.eq_2) (And.intro (@putA.eq_1) (@putA.eq_2))))) (And.intro (And.intro (And.intro (@hold_eq.{1}) (@vc.eq_14)) (And.intro (@lookM_tup) (And.intro (@eq_self.{1}) (@forall_eq.{1})))) (And.intro (And.intro (@forall_eq_or_imp.{1}) (And.intro (@implies_true.{1}) (@implies_true.{0}))) (And.intro (@beq_self_eq_true.{0}) (And.intro (@forall_const.{1}) (@forall_const.{0}))))))))
def sxD:=And.intro (And.intro (And.intro (And.intro (And.intro (And.intro (@dstO.eq_def) (@normA.eq_def)) (And.intro (@normG.eq_def) (And.intro (@normP.eq_def) (@nilR.eq_def)))) (And.intro (And.intro (@fieldR.eq_def) (And.intro (@addOb.eq_def) (@loadH.eq_def))) (And.intro (@storeH.eq_def) (And.intro (@zeroR.eq_def) (@fldV.eq_def))))) (And.intro (And.intro (And.intro (@storeX.eq_def) (@loadV.eq_def)) (And.intro (@AV.ptr?.eq_def) (And.intro (@tOp.eq_def) (@put1.eq_def)))) (And.intro (And.intro (@put2.eq_def) (And.intro (@pickV.eq_def) (@binV.eq_def))) (And.intro (@binW.eq_def) (And.intro (@intV.eq_def) (@strV.eq_def)))))) (And.intro (And.intro (And.intro (And.intro (@boolV.eq_def) (@nilV.eq_def)) (And.intro (@unV1.eq_def) (And.intro (@unV.eq_def) (@selV.eq_def)))) (And.intro (And.intro (@extR.eq_def) (And.intro (@ev.eq_def) (@evC.eq_def))) (And.intro (@callR.eq_def) (And.intro (@bltR.eq_def) (@srcA.eq_def))))) (And.intro (And.intro (And.intro (@lenR.eq_def) (@lenV.eq_def)) (And.intro (@minV.eq_def) (And.intro (@maxV.eq_def) (@St.put.eq_def)))) (And.intro (And.intro (@AV.val.eq_def) (And.intro (@unG.eq_def) (@guardB.eq_def))) (And.intro (@gslot.eq_def) (And.intro (@loadR.eq_def) (@storeR.eq_def))))))) (And.intro (And.intro (And.intro (And.intro (And.intro (@oneC.eq_def) (@tupA.eq_def)) (And.intro (@cellsA.eq_def) (And.intro (@mkF.eq_def) (@strH.eq_def)))) (And.intro (And.intro (@convX.eq_def) (And.intro (@boxR.eq_def) (@plT.eq_def))) (And.intro (@buildSR.eq_def) (And.intro (@partC.eq_def) (@makeR.eq_def))))) (And.intro (And.intro (And.intro (@fieldX.eq_def) (@fieldO.eq_def)) (And.intro (@idxR.eq_def) (And.intro (@idxA.eq_def) (@indV.eq_def)))) (And.intro (And.intro (@slcR.eq_def) (And.intro (@slcO.eq_def) (@bndO.eq_def))) (And.intro (@conV.eq_def) (And.intro (@cutB.eq_def) (@cutC.eq_def)))))) (And.intro (And.intro (And.intro (And.intro (@cutP.eq_def) (@joinH.eq_def)) (And.intro (@reachK.eq_def) (And.intro (@mentO.eq_def) (@tupR.eq_def)))) (And.intro (And.intro (@NewD.av.eq_def) (And.intro (@eqV.eq_def) (@eqC.eq_def))) (And.intro (@looksK.eq_def) (And.intro (@addrL.eq_def) (@ptrK.eq_def))))) (And.intro (And.intro (And.intro (@sloK.eq_def) (@Op.operands.eq_def)) (And.intro (@Call.operands.eq_def) (And.intro (@awayB.eq_def) (@cutO.eq_def)))) (And.intro (And.intro (@ownK.eq_def) (And.intro (@selV_true) (@selV_false))) (And.intro (@opAt_arr) (And.intro (@opAt_0) (@opAt_S)))))))
def sxE:=And.intro (And.intro (And.intro (And.intro (And.intro (And.intro (@normL.eq_1) (And.intro (@normL.eq_2) (@lk.eq_1))) (And.intro (@lk.eq_2) (And.intro (@lkH.eq_1) (@lkH.eq_2)))) (And.intro (And.intro (@upH.eq_1) (And.intro (@upH.eq_2) (@allOne.eq_1))) (And.intro (@allOne.eq_2) (And.intro (@vals.eq_1) (@vals.eq_2))))) (And.intro (And.intro (And.intro (@vals.eq_3) (And.intro (@bytesA.eq_1) (@bytesA.eq_2))) (And.intro (@bytesA.eq_3) (And.intro (@buildL.eq_1) (@buildL.eq_2)))) (And.intro (And.intro (@plN.eq_1) (And.intro (@plN.eq_2) (@repN.eq_1))) (And.intro (And.intro (@repN.eq_2) (@AV.ment.eq_1)) (And.intro (@AV.ment.eq_2) (@AV.ment.eq_3)))))) (And.intro (And.intro (And.intro (And.intro (@AV.ment.eq_4) (And.intro (@AV.ment.eq_5) (@AV.ment.eq_6))) (And.intro (@AV.ment.eq_7) (And.intro (@AV.ment.eq_8) (@mentL.eq_1)))) (And.intro (And.intro (@mentL.eq_2) (And.intro (@mentE.eq_1) (@mentE.eq_2))) (And.intro (@mentH.eq_1) (And.intro (@mentH.eq_2) (@hasK.eq_1))))) (And.intro (And.intro (And.intro (@hasK.eq_2) (And.intro (@AV.kill.eq_1) (@AV.kill.eq_2))) (And.intro (@AV.kill.eq_3) (And.intro (@AV.kill.eq_4) (@AV.kill.eq_5)))) (And.intro (And.intro (@AV.kill.eq_6) (And.intro (@AV.kill.eq_7) (@AV.kill.eq_8))) (And.intro (And.intro (@killL.eq_1) (@killL.eq_2)) (And.intro (@killE.eq_1) (@killE.eq_2))))))) (And.intro (And.intro (And.intro (And.intro (And.intro (@killH.eq_1) (And.intro (@killH.eq_2) (@killEs.eq_1))) (And.intro (@killEs.eq_2) (And.intro (@killHs.eq_1) (@killHs.eq_2)))) (And.intro (And.intro (@popTo.eq_1) (And.intro (@popTo.eq_2) (@popTo.eq_3))) (And.intro (@hasBlk.eq_1) (And.intro (@hasBlk.eq_2) (@hasBlk.eq_3))))) (And.intro (And.intro (And.intro (@argEnv.eq_1) (And.intro (@argEnv.eq_2) (@subH.eq_1))) (And.intro (@subH.eq_2) (And.intro (@dropH.eq_1) (@dropH.eq_2)))) (And.intro (And.intro (@cellsK.eq_1) (And.intro (@cellsK.eq_2) (@newKeys.eq_1))) (And.intro (And.intro (@newKeys.eq_2) (@keysH.eq_1)) (And.intro (@keysH.eq_2) (@inB.eq_1)))))) (And.intro (And.intro (And.intro (And.intro (@inB.eq_2) (And.intro (@eqL.eq_1) (@eqL.eq_2))) (And.intro (@keysOf.eq_1) (And.intro (@keysOf.eq_2) (@looksL.eq_1)))) (And.intro (And.intro (@looksL.eq_2) (And.intro (@disj.eq_1) (@disj.eq_2))) (And.intro (@subE.eq_1) (And.intro (@subE.eq_2) (@subHp.eq_1))))) (And.intro (And.intro (And.intro (@subHp.eq_2) (And.intro (@keepLt.eq_1) (@keepLt.eq_2))) (And.intro (@forgetD.eq_1) (And.intro (@forgetD.eq_2) (@marksOf.eq_1)))) (And.intro (And.intro (@marksOf.eq_2) (And.intro (@marksOf.eq_3) (@headId.eq_1))) (And.intro (And.intro (@headId.eq_2) (@headId.eq_3)) (And.intro (@headId.eq_4) (@headId.eq_5)))))))
def sxO:=And.intro (And.intro (And.intro (@decide_eq_true_eq) (And.intro (@decide_eq_false_iff_not) (@Bool.or_eq_true))) (And.intro (@Bool.or_eq_false_iff) (And.intro (@Bool.and_eq_true) (@Bool.and_eq_false_iff)))) (And.intro (And.intro (@Bool.not_eq_true) (And.intro (@Bool.not_eq_true') (@Bool.not_eq_false'))) (And.intro (@Int.toNat_natCast) (And.intro (@ne_eq.{1}) (@maxLen.eq_1))))
def sxTab:=And.intro (And.intro (And.intro (And.intro (And.intro (And.intro (And.intro (And.intro (@cb10) (@cb100)) (And.intro (@cb101) (@cb102))) (And.intro (And.intro (@cb103) (@cb104)) (And.intro (@cb105) (@cb106)))) (And.intro (And.intro (And.intro (@cb107) (@cb108)) (And.intro (@cb109) (@cb11))) (And.intro (And.intro (@cb110) (@cb111)) (And.intro (@cb112) (And.intro (@cb113) (@cb114)))))) (And.intro (And.intro (And.intro (And.intro (@cb115) (@cb116)) (And.intro (@cb117) (@cb118))) (And.intro (And.intro (@cb119) (@cb12)) (And.intro (@cb120) (And.intro (@cb121) (@cb122))))) (And.intro (And.intro (And.intro (@cb123) (@cb124)) (And.intro (@cb125) (@cb126))) (And.intro (And.intro (@cb127) (@cb128)) (And.intro (@cb129) (And.intro (@cb13) (@cb130))))))) (And.intro (And.intro (And.intro (And.intro (And.intro (@cb131) (@cb132)) (And.intro (@cb133) (@cb134))) (And.intro (And.intro (@cb135) (@cb136)) (And.intro (@cb137) (@cb138)))) (And.intro (And.intro (And.intro (@cb139) (@cb14)) (And.intro (@cb140) (@cb141))) (And.intro (And.intro (@cb142) (@cb143)) (And.intro (@cb144) (And.intro (@cb145) (@cb146)))))) (And.intro (And.intro (And.intro (And.intro (@cb147) (@cb148)) (And.intro (@cb149) (@cb15))) (And.intro (And.intro (@cb150) (@cb151)) (And.intro (@cb152) (And.intro (@cb153) (@cb154))))) (And.intro (And.intro (And.intro (@cb155) (@cb156)) (And.intro (@cb157) (@cb158))) (And.intro (And.intro (@cb159) (@cb16)) (And.intro (@cb160) (And.intro (@cb161) (@cb162)))))))) (And.intro (And.intro (And.intro (And.intro (And.intro (And.intro (@cb163) (@cb164)) (And.intro (@cb165) (@cb166))) (And.intro (And.intro (@cb167) (@cb168)) (And.intro (@cb169) (@cb17)))) (And.intro (And.intro (And.intro (@cb170) (@cb171)) (And.intro (@cb172) (@cb18))) (And.intro (And.intro (@cb19) (@cb2)) (And.intro (@cb20) (And.intro (@cb21) (@cb22)))))) (And.intro (And.intro (And.intro (And.intro (@cb23) (@cb24)) (And.intro (@cb25) (@cb26))) (And.intro (And.intro (@cb27) (@cb28)) (And.intro (@cb29) (And.intro (@cb3) (@cb30))))) (And.intro (And.intro (And.intro (@cb31) (@cb32)) (And.intro (@cb33) (@cb34))) (And.intro (And.intro (@cb35) (@cb36)) (And.intro (@cb37) (And.intro (@cb38) (@cb39))))))) (And.intro (And.intro (And.intro (And.intro (And.intro (@cb4) (@cb40)) (And.intro (@cb41) (@cb42))) (And.intro (And.intro (@cb43) (@cb44)) (And.intro (@cb45) (@cb46)))) (And.intro (And.intro (And.intro (@cb47) (@cb48)) (And.intro (@cb49) (@cb5))) (And.intro (And.intro (@cb50) (@cb51)) (And.intro (@cb52) (And.intro (@cb53) (@cb54)))))) (And.intro (And.intro (And.intro (And.intro (@cb55) (@cb56)) (And.intro (@cb57) (@cb58))) (And.intro (And.intro (@cb59) (@cb6)) (And.intro (@cb60) (And.intro (@cb61) (@cb62))))) (And.intro (And.intro (And.intro (@cb63) (@cb64)) (And.intro (@cb65) (@cb66))) (And.intro (And.intro (@cb67) (@cb68)) (And.intro (@cb69) (And.intro (@cb7) (@cb70))))))))) (And.intro (And.intro (And.intro (And.intro (And.intro (And.intro (And.intro (@cb71) (@cb72)) (And.intro (@cb73) (@cb74))) (And.intro (And.intro (@cb75) (@cb76)) (And.intro (@cb77) (@cb78)))) (And.intro (And.intro (And.intro (@cb79) (@cb8)) (And.intro (@cb80) (@cb81))) (And.intro (And.intro (@cb82) (@cb83)) (And.intro (@cb84) (And.intro (@cb85) (@cb86)))))) (And.intro (And.intro (And.intro (And.intro (@cb87) (@cb88)) (And.intro (@cb89) (@cb9))) (And.intro (And.intro (@cb90) (@cb91)) (And.intro (@cb92) (And.intro (@cb93) (@cb94))))) (And.intro (And.intro (And.intro (@cb95) (@cb96)) (And.intro (@cb97) (@cb98))) (And.intro (And.intro (@cb99) (@tA127)) (And.intro (@tA22) (And.intro (@tA23) (@tA24))))))) (And.intro (And.intro (And.intro (And.intro (And.intro (@tA25) (@tA27)) (And.intro (@tA31) (@tA33))) (And.intro (And.intro (@tA40) (@tA51)) (And.intro (@tA64) (@tA65)))) (And.intro (And.intro (And.intro (@tA73) (@tA9)) (And.intro (@tI121) (@tI122))) (And.intro (And.intro (@tI3) (@tI5)) (And.intro (@tI75) (And.intro (@tS127) (@tS22)))))) (And.intro (And.intro (And.intro (And.intro (@tS23) (@tS24)) (And.intro (@tS25) (@tS64))) (And.intro (And.intro (@tS65) (@tS73)) (And.intro (@tS9) (And.intro (@tb4) (@tc22))))) (And.intro (And.intro (And.intro (@tc23) (@tc24)) (And.intro (@tc25) (@tc27))) (And.intro (And.intro (@tc3) (@tc31)) (And.intro (@tc33) (And.intro (@tc40) (@tc41)))))))) (And.intro (And.intro (And.intro (And.intro (And.intro (And.intro (@tc51) (@tc64)) (And.intro (@tc75) (@tf27_0))) (And.intro (And.intro (@tf27_1) (@tf31_0)) (And.intro (@tf31_1) (@tf33_0)))) (And.intro (And.intro (And.intro (@tf40_0) (@tf40_1)) (And.intro (@tf40_2) (@tf51_0))) (And.intro (And.intro (@tf51_1) (@tk22)) (And.intro (@tk23) (And.intro (@tk24) (@tk25)))))) (And.intro (And.intro (And.intro (And.intro (@tk27) (@tk3)) (And.intro (@tk31) (@tk33))) (And.intro (And.intro (@tk40) (@tk41)) (And.intro (@tk51) (And.intro (@tk64) (@tk75))))) (And.intro (And.intro (And.intro (@tl127) (@tl22)) (And.intro (@tl23) (@tl24))) (And.intro (And.intro (@tl25) (@tl65)) (And.intro (@tl73) (And.intro (@tp27) (@tp31))))))) (And.intro (And.intro (And.intro (And.intro (And.intro (@tp33) (@tp40)) (And.intro (@tp51) (@ts121))) (And.intro (And.intro (@ts122) (@ts127)) (And.intro (@ts22) (And.intro (@ts23) (@ts24))))) (And.intro (And.intro (And.intro (@ts25) (@ts3)) (And.intro (@ts5) (@ts64))) (And.intro (And.intro (@ts65) (@ts73)) (And.intro (@ts75) (And.intro (@ts9) (@ty25)))))) (And.intro (And.intro (And.intro (And.intro (@ty27) (@ty3)) (And.intro (@ty41) (@ty64))) (And.intro (And.intro (@ty75) (@tz22)) (And.intro (@tz23) (And.intro (@tz24) (@tz25))))) (And.intro (And.intro (And.intro (@tz27) (@tz3)) (And.intro (@tz31) (@tz33))) (And.intro (And.intro (@tz40) (@tz41)) (And.intro (@tz51) (And.intro (@tz64) (@tz75)))))))))
theorem sF{p q:Prop}(h:q)(e:p=q:=by (try simp (maxSteps:=1000000) only [hf,↓hold_pre,awayP,runOps,regK,step1,newK,genR,appR,obl,buildR,Value.cells,closeK,keepH,outV,retK,ret1,retC,RetV,Option.getD,runD,stepD,afterK,undef,simprocAttr,sxB,↓sxD,sxE,sxTab]);rfl):p:=Eq.mpr e h
theorem sU{p q:Prop}(h:q)(e:p=q:=by (try simp (maxSteps:=1000000) only [↓hold_pre,awayP,runOps,regK,step1,newK,genR,appR,obl,buildR,Value.cells,closeK,keepH,outV,retK,ret1,retC,RetV,Option.getD,runD,stepD,afterK,undef,simprocAttr,sxB,↓sxD,sxE,sxTab]);rfl):p:=Eq.mpr e h
theorem sV{p q:Prop}(h:q)(e:p=q:=by (try simp (maxSteps:=1000000) only [hb0,hf,↓hold_pre,awayP,runOps,regK,step1,newK,genR,appR,obl,buildR,Value.cells,closeK,keepH,outV,retK,ret1,retC,RetV,Option.getD,runD,stepD,afterK,undef,simprocAttr,sxB,↓sxD,sxE,sxTab]);rfl):p:=Eq.mpr e h
theorem sW{p q:Prop}(h:q)(e:p=q:=by (try simp (maxSteps:=1000000) only [hb0,↓hold_pre,awayP,runOps,regK,step1,newK,genR,appR,obl,buildR,Value.cells,closeK,keepH,outV,retK,ret1,retC,RetV,Option.getD,runD,stepD,afterK,undef,simprocAttr,sxB,↓sxD,sxE,sxTab]);rfl):p:=Eq.mpr e h
theorem oB{p q:Prop}(k:q)(h:p:=by (try simp only[sxO]at *);omega):p∧q:=⟨h,k⟩
theorem tT:True:=True.intro
theorem A2{a0 a1:Prop}(ha0:a0)(ha1:a1):a0∧a1:=⟨ha0,ha1⟩
theorem A3{a0 a1 a2:Prop}(ha0:a0)(ha1:a1)(ha2:a2):a0∧a1∧a2:=⟨ha0,ha1,ha2⟩
theorem A4{a0 a1 a2 a3:Prop}(ha0:a0)(ha1:a1)(ha2:a2)(ha3:a3):a0∧a1∧a2∧a3:=⟨ha0,ha1,ha2,ha3⟩
theorem A5{a0 a1 a2 a3 a4:Prop}(ha0:a0)(ha1:a1)(ha2:a2)(ha3:a3)(ha4:a4):a0∧a1∧a2∧a3∧a4:=⟨ha0,ha1,ha2,ha3,ha4⟩
theorem A6{a0 a1 a2 a3 a4 a5:Prop}(ha0:a0)(ha1:a1)(ha2:a2)(ha3:a3)(ha4:a4)(ha5:a5):a0∧a1∧a2∧a3∧a4∧a5:=⟨ha0,ha1,ha2,ha3,ha4,ha5⟩
theorem A7{a0 a1 a2 a3 a4 a5 a6:Prop}(ha0:a0)(ha1:a1)(ha2:a2)(ha3:a3)(ha4:a4)(ha5:a5)(ha6:a6):a0∧a1∧a2∧a3∧a4∧a5∧a6:=⟨ha0,ha1,ha2,ha3,ha4,ha5,ha6⟩
theorem A8{a0 a1 a2 a3 a4 a5 a6 a7:Prop}(ha0:a0)(ha1:a1)(ha2:a2)(ha3:a3)(ha4:a4)(ha5:a5)(ha6:a6)(ha7:a7):a0∧a1∧a2∧a3∧a4∧a5∧a6∧a7:=⟨ha0,ha1,ha2,ha3,ha4,ha5,ha6,ha7⟩
theorem A9{a0 a1 a2 a3 a4 a5 a6 a7 a8:Prop}(ha0:a0)(ha1:a1)(ha2:a2)(ha3:a3)(ha4:a4)(ha5:a5)(ha6:a6)(ha7:a7)(ha8:a8):a0∧a1∧a2∧a3∧a4∧a5∧a6∧a7∧a8:=⟨ha0,ha1,ha2,ha3,ha4,ha5,ha6,ha7,ha8⟩
theorem A10{a0 a1 a2 a3 a4 a5 a6 a7 a8 a9:Prop}(ha0:a0)(ha1:a1)(ha2:a2)(ha3:a3)(ha4:a4)(ha5:a5)(ha6:a6)(ha7:a7)(ha8:a8)(ha9:a9):a0∧a1∧a2∧a3∧a4∧a5∧a6∧a7∧a8∧a9:=⟨ha0,ha1,ha2,ha3,ha4,ha5,ha6,ha7,ha8,ha9⟩
theorem A11{a0 a1 a2 a3 a4 a5 a6 a7 a8 a9 a10:Prop}(ha0:a0)(ha1:a1)(ha2:a2)(ha3:a3)(ha4:a4)(ha5:a5)(ha6:a6)(ha7:a7)(ha8:a8)(ha9:a9)(ha10:a10):a0∧a1∧a2∧a3∧a4∧a5∧a6∧a7∧a8∧a9∧a10:=⟨ha0,ha1,ha2,ha3,ha4,ha5,ha6,ha7,ha8,ha9,ha10⟩
theorem A12{a0 a1 a2 a3 a4 a5 a6 a7 a8 a9 a10 a11:Prop}(ha0:a0)(ha1:a1)(ha2:a2)(ha3:a3)(ha4:a4)(ha5:a5)(ha6:a6)(ha7:a7)(ha8:a8)(ha9:a9)(ha10:a10)(ha11:a11):a0∧a1∧a2∧a3∧a4∧a5∧a6∧a7∧a8∧a9∧a10∧a11:=⟨ha0,ha1,ha2,ha3,ha4,ha5,ha6,ha7,ha8,ha9,ha10,ha11⟩
def fstD:List Oper→Nat
 | []=>0
 | o :: r=>match o.dst with|some d=>d|none=>fstD r
theorem isE{P:Program}{ops:Array Oper}{s:St}{K:St→Prop}(d:Nat)(_:Nat.beq (fstD ops.toList) d=true)(h:DrawK P ops s K):DrawK P ops s K:=h
def rP:Nat→Nat→List Nat→List (Nat×List Nat)→List (Nat×List Nat)
 | _,0,_,t=>t
 | a,n+1,c,t=>(a,c) :: rP (a+1) n c t
def rgL:Nat→Nat→List Nat→List Nat
 | _,0,t=>t
 | a,n+1,t=>a :: rgL (a+1) n t
def addA:List Nat→List Nat→List Nat
 | [],acc=>acc
 | x :: r,acc=>addA r (if acc.contains x then acc else x :: acc)
def ancE(A:List (List Nat)):List Edge→List Nat→List Nat
 | [],acc=>acc
 | e :: r,acc=>ancE A r (if Region.binds .any e then addA (e.on :: A.getD e.on []) acc else acc)
def ancF:List Oper→List (List Nat)→List (List Nat)
 | [],A=>A
 | o :: r,A=>ancF r (A++[ancE A o.after.toList []])
theorem dR{P:Program}{ops:Array Oper}{s:St}{K:St→Prop}(pl:List (Nat×List Nat))(ds qs:List Nat){pl':List (Nat×List Nat)}{ds':List Nat}
  (h:runD P ops.toList pl' K {env:=forgetD ds' s.env,hp:=s.hp,M:=s.M,kb:=s.kb,fx:=s.fx,fr:=s.fr})
  (e1:pl=pl':=by (try simp only[rP,Nat.reduceAdd]);rfl) (e2:ds=ds':=by (try simp only[rgL,Nat.reduceAdd]);rfl)
  (h1:sepB ops (ancF ops.toList [])=true:=by kernel_rfl) (h2:planB ops (ancF ops.toList []) pl (Array.replicate ops.size false)=true:=by kernel_rfl) (h3:pl.length=ops.size:=by kernel_rfl)
  (h4:dstsB ds qs (ancF ops.toList []) ops=true:=by kernel_rfl) (h5:noMent s.env qs:=by repeat' first|exact trivial|refine And.intro rfl ?_):DrawK P ops s K:=by
 subst e1 e2
 exact draw_rule pl _ ds qs h1 h2 h3 h4 h5 h
structure CQ (f:FuncId) (p:Prop):Prop where
 get:p
section
variable {P:Program}{f:FuncId}{args:List AV}{s:St}{d:Option Nat}{K:St→Prop}{H:Hp}{M:Mem}{mv:List Nat}{KS:AV→Hp→Mem→Prop}
theorem yA(h:CQ f (CallK P f args s d K)):CallK P f args s d K:=h.get
theorem yB(h:CQ f (CallK0 P f args s d K)):CallK0 P f args s d K:=h.get
theorem yN(h:CQ f (CallS P f args [] s.M [] (afterK s d [] K)))(e:subH s.hp (reachK s.hp (mentL args))=[]:=by kernel_rfl):CallK P f args s d K:=callA_nil e h.get
theorem yM(h:CQ f (CallS P f args [] s.M [] (afterK s d [] K)))(e:subH s.hp (reachK s.hp (mentL args))=[]:=by kernel_rfl):CallK0 P f args s d K:=callA0_nil e h.get
theorem yC(h:CQ f (CallS P f args H M mv KS)):CallS P f args H M mv KS:=h.get
end
theorem kI(f:FuncId){p:Prop}(h:p):CQ f p:=⟨h⟩
section
variable {P:Program}(f:FuncId){args:List AV}{s:St}{d:Option Nat}{K:St→Prop}{H:Hp}{M:Mem}{mv:List Nat}{KS:AV→Hp→Mem→Prop}
theorem kH(h:CallS P f args (subH s.hp (reachK s.hp (mentL args))) s.M [] (afterK s d (subH s.hp (reachK s.hp (mentL args))) K)):CQ f (CallK P f args s d K):=⟨callA h⟩
theorem kG(h:CallS P f args (subH s.hp (reachK s.hp (mentL args))) s.M [] (afterK s d (subH s.hp (reachK s.hp (mentL args))) K)):CQ f (CallK0 P f args s d K):=⟨callA0 h⟩
theorem kS(h:CallS P f args H M mv KS):CQ f (CallS P f args H M mv KS):=⟨h⟩
end
end Go.Proofs.YtbclgnojcnkehaaGreat.Sx
