/- Part 15 of the texts of this claim: a symbolic executor and contracts of functions. -/
import Derived.Test.YtiipiciemgdaeaaGreatCvTRCUse
namespace Go.Proofs.YtiipiciemgdaeaaGreat.Sx
open Go
theorem _root_.Go.Proofs.Tryz.mixed:Tryz.prog.follows .mixedOrders=true:=by kernel_rfl
theorem cb10:callsB Tryz.prog 10=true:=by kernel_rfl
theorem cb100:callsB Tryz.prog 100=true:=by kernel_rfl
theorem cb101:callsB Tryz.prog 101=true:=by kernel_rfl
theorem cb102:callsB Tryz.prog 102=true:=by kernel_rfl
theorem cb103:callsB Tryz.prog 103=true:=by kernel_rfl
theorem cb104:callsB Tryz.prog 104=true:=by kernel_rfl
theorem cb105:callsB Tryz.prog 105=true:=by kernel_rfl
theorem cb106:callsB Tryz.prog 106=true:=by kernel_rfl
theorem cb107:callsB Tryz.prog 107=true:=by kernel_rfl
theorem cb108:callsB Tryz.prog 108=true:=by kernel_rfl
theorem cb109:callsB Tryz.prog 109=true:=by kernel_rfl
theorem cb11:callsB Tryz.prog 11=true:=by kernel_rfl
theorem cb110:callsB Tryz.prog 110=true:=by kernel_rfl
theorem cb111:callsB Tryz.prog 111=true:=by kernel_rfl
theorem cb112:callsB Tryz.prog 112=true:=by kernel_rfl
theorem cb113:callsB Tryz.prog 113=true:=by kernel_rfl
theorem cb114:callsB Tryz.prog 114=true:=by kernel_rfl
theorem cb115:callsB Tryz.prog 115=true:=by kernel_rfl
theorem cb116:callsB Tryz.prog 116=true:=by kernel_rfl
theorem cb117:callsB Tryz.prog 117=true:=by kernel_rfl
theorem cb118:callsB Tryz.prog 118=true:=by kernel_rfl
theorem cb119:callsB Tryz.prog 119=true:=by kernel_rfl
theorem cb12:callsB Tryz.prog 12=true:=by kernel_rfl
theorem cb120:callsB Tryz.prog 120=true:=by kernel_rfl
theorem cb121:callsB Tryz.prog 121=true:=by kernel_rfl
theorem cb122:callsB Tryz.prog 122=true:=by kernel_rfl
theorem cb123:callsB Tryz.prog 123=true:=by kernel_rfl
theorem cb124:callsB Tryz.prog 124=true:=by kernel_rfl
theorem cb125:callsB Tryz.prog 125=true:=by kernel_rfl
theorem cb126:callsB Tryz.prog 126=true:=by kernel_rfl
theorem cb127:callsB Tryz.prog 127=true:=by kernel_rfl
theorem cb128:callsB Tryz.prog 128=true:=by kernel_rfl
theorem cb129:callsB Tryz.prog 129=true:=by kernel_rfl
theorem cb13:callsB Tryz.prog 13=true:=by kernel_rfl
theorem cb130:callsB Tryz.prog 130=true:=by kernel_rfl
theorem cb131:callsB Tryz.prog 131=true:=by kernel_rfl
theorem cb132:callsB Tryz.prog 132=true:=by kernel_rfl
theorem cb133:callsB Tryz.prog 133=true:=by kernel_rfl
theorem cb134:callsB Tryz.prog 134=true:=by kernel_rfl
theorem cb135:callsB Tryz.prog 135=true:=by kernel_rfl
theorem cb136:callsB Tryz.prog 136=true:=by kernel_rfl
theorem cb137:callsB Tryz.prog 137=true:=by kernel_rfl
theorem cb138:callsB Tryz.prog 138=true:=by kernel_rfl
theorem cb139:callsB Tryz.prog 139=true:=by kernel_rfl
theorem cb14:callsB Tryz.prog 14=true:=by kernel_rfl
theorem cb140:callsB Tryz.prog 140=true:=by kernel_rfl
theorem cb141:callsB Tryz.prog 141=true:=by kernel_rfl
theorem cb142:callsB Tryz.prog 142=true:=by kernel_rfl
theorem cb143:callsB Tryz.prog 143=true:=by kernel_rfl
theorem cb144:callsB Tryz.prog 144=true:=by kernel_rfl
theorem cb145:callsB Tryz.prog 145=true:=by kernel_rfl
theorem cb146:callsB Tryz.prog 146=true:=by kernel_rfl
theorem cb147:callsB Tryz.prog 147=true:=by kernel_rfl
theorem cb148:callsB Tryz.prog 148=true:=by kernel_rfl
theorem cb149:callsB Tryz.prog 149=true:=by kernel_rfl
theorem cb15:callsB Tryz.prog 15=true:=by kernel_rfl
theorem cb150:callsB Tryz.prog 150=true:=by kernel_rfl
theorem cb151:callsB Tryz.prog 151=true:=by kernel_rfl
theorem cb152:callsB Tryz.prog 152=true:=by kernel_rfl
theorem cb153:callsB Tryz.prog 153=true:=by kernel_rfl
theorem cb154:callsB Tryz.prog 154=true:=by kernel_rfl
theorem cb155:callsB Tryz.prog 155=true:=by kernel_rfl
theorem cb156:callsB Tryz.prog 156=true:=by kernel_rfl
theorem cb157:callsB Tryz.prog 157=true:=by kernel_rfl
theorem cb158:callsB Tryz.prog 158=true:=by kernel_rfl
theorem cb159:callsB Tryz.prog 159=true:=by kernel_rfl
theorem cb16:callsB Tryz.prog 16=true:=by kernel_rfl
theorem cb160:callsB Tryz.prog 160=true:=by kernel_rfl
theorem cb161:callsB Tryz.prog 161=true:=by kernel_rfl
theorem cb162:callsB Tryz.prog 162=true:=by kernel_rfl
theorem cb163:callsB Tryz.prog 163=true:=by kernel_rfl
theorem cb164:callsB Tryz.prog 164=true:=by kernel_rfl
theorem cb165:callsB Tryz.prog 165=true:=by kernel_rfl
theorem cb166:callsB Tryz.prog 166=true:=by kernel_rfl
theorem cb167:callsB Tryz.prog 167=true:=by kernel_rfl
theorem cb168:callsB Tryz.prog 168=true:=by kernel_rfl
theorem cb169:callsB Tryz.prog 169=true:=by kernel_rfl
theorem cb17:callsB Tryz.prog 17=true:=by kernel_rfl
theorem cb170:callsB Tryz.prog 170=true:=by kernel_rfl
theorem cb171:callsB Tryz.prog 171=true:=by kernel_rfl
theorem cb172:callsB Tryz.prog 172=true:=by kernel_rfl
theorem cb173:callsB Tryz.prog 173=true:=by kernel_rfl
theorem cb174:callsB Tryz.prog 174=true:=by kernel_rfl
theorem cb175:callsB Tryz.prog 175=true:=by kernel_rfl
theorem cb176:callsB Tryz.prog 176=true:=by kernel_rfl
theorem cb177:callsB Tryz.prog 177=true:=by kernel_rfl
theorem cb178:callsB Tryz.prog 178=true:=by kernel_rfl
theorem cb179:callsB Tryz.prog 179=true:=by kernel_rfl
theorem cb18:callsB Tryz.prog 18=true:=by kernel_rfl
theorem cb180:callsB Tryz.prog 180=true:=by kernel_rfl
theorem cb181:callsB Tryz.prog 181=true:=by kernel_rfl
theorem cb182:callsB Tryz.prog 182=true:=by kernel_rfl
theorem cb183:callsB Tryz.prog 183=true:=by kernel_rfl
theorem cb184:callsB Tryz.prog 184=true:=by kernel_rfl
theorem cb185:callsB Tryz.prog 185=true:=by kernel_rfl
theorem cb186:callsB Tryz.prog 186=true:=by kernel_rfl
theorem cb187:callsB Tryz.prog 187=true:=by kernel_rfl
theorem cb188:callsB Tryz.prog 188=true:=by kernel_rfl
theorem cb189:callsB Tryz.prog 189=true:=by kernel_rfl
theorem cb19:callsB Tryz.prog 19=true:=by kernel_rfl
theorem cb2:callsB Tryz.prog 2=true:=by kernel_rfl
theorem cb20:callsB Tryz.prog 20=true:=by kernel_rfl
theorem cb21:callsB Tryz.prog 21=true:=by kernel_rfl
theorem cb22:callsB Tryz.prog 22=true:=by kernel_rfl
theorem cb23:callsB Tryz.prog 23=true:=by kernel_rfl
theorem cb24:callsB Tryz.prog 24=true:=by kernel_rfl
theorem cb25:callsB Tryz.prog 25=true:=by kernel_rfl
theorem cb26:callsB Tryz.prog 26=true:=by kernel_rfl
theorem cb27:callsB Tryz.prog 27=true:=by kernel_rfl
theorem cb28:callsB Tryz.prog 28=true:=by kernel_rfl
theorem cb29:callsB Tryz.prog 29=true:=by kernel_rfl
theorem cb3:callsB Tryz.prog 3=true:=by kernel_rfl
theorem cb30:callsB Tryz.prog 30=true:=by kernel_rfl
theorem cb31:callsB Tryz.prog 31=true:=by kernel_rfl
theorem cb32:callsB Tryz.prog 32=true:=by kernel_rfl
theorem cb33:callsB Tryz.prog 33=true:=by kernel_rfl
theorem cb34:callsB Tryz.prog 34=true:=by kernel_rfl
theorem cb35:callsB Tryz.prog 35=true:=by kernel_rfl
theorem cb36:callsB Tryz.prog 36=true:=by kernel_rfl
theorem cb37:callsB Tryz.prog 37=true:=by kernel_rfl
theorem cb38:callsB Tryz.prog 38=true:=by kernel_rfl
theorem cb39:callsB Tryz.prog 39=true:=by kernel_rfl
theorem cb4:callsB Tryz.prog 4=true:=by kernel_rfl
theorem cb40:callsB Tryz.prog 40=true:=by kernel_rfl
theorem cb41:callsB Tryz.prog 41=true:=by kernel_rfl
theorem cb42:callsB Tryz.prog 42=true:=by kernel_rfl
theorem cb43:callsB Tryz.prog 43=true:=by kernel_rfl
theorem cb44:callsB Tryz.prog 44=true:=by kernel_rfl
theorem cb45:callsB Tryz.prog 45=true:=by kernel_rfl
theorem cb46:callsB Tryz.prog 46=true:=by kernel_rfl
theorem cb47:callsB Tryz.prog 47=true:=by kernel_rfl
theorem cb48:callsB Tryz.prog 48=true:=by kernel_rfl
theorem cb49:callsB Tryz.prog 49=true:=by kernel_rfl
theorem cb5:callsB Tryz.prog 5=true:=by kernel_rfl
theorem cb50:callsB Tryz.prog 50=true:=by kernel_rfl
theorem cb51:callsB Tryz.prog 51=true:=by kernel_rfl
theorem cb52:callsB Tryz.prog 52=true:=by kernel_rfl
theorem cb53:callsB Tryz.prog 53=true:=by kernel_rfl
theorem cb54:callsB Tryz.prog 54=true:=by kernel_rfl
theorem cb55:callsB Tryz.prog 55=true:=by kernel_rfl
theorem cb56:callsB Tryz.prog 56=true:=by kernel_rfl
theorem cb57:callsB Tryz.prog 57=true:=by kernel_rfl
theorem cb58:callsB Tryz.prog 58=true:=by kernel_rfl
theorem cb59:callsB Tryz.prog 59=true:=by kernel_rfl
theorem cb6:callsB Tryz.prog 6=true:=by kernel_rfl
theorem cb60:callsB Tryz.prog 60=true:=by kernel_rfl
theorem cb61:callsB Tryz.prog 61=true:=by kernel_rfl
theorem cb62:callsB Tryz.prog 62=true:=by kernel_rfl
theorem cb63:callsB Tryz.prog 63=true:=by kernel_rfl
theorem cb64:callsB Tryz.prog 64=true:=by kernel_rfl
theorem cb65:callsB Tryz.prog 65=true:=by kernel_rfl
theorem cb66:callsB Tryz.prog 66=true:=by kernel_rfl
theorem cb67:callsB Tryz.prog 67=true:=by kernel_rfl
theorem cb68:callsB Tryz.prog 68=true:=by kernel_rfl
theorem cb69:callsB Tryz.prog 69=true:=by kernel_rfl
theorem cb7:callsB Tryz.prog 7=true:=by kernel_rfl
theorem cb70:callsB Tryz.prog 70=true:=by kernel_rfl
theorem cb71:callsB Tryz.prog 71=true:=by kernel_rfl
theorem cb72:callsB Tryz.prog 72=true:=by kernel_rfl
theorem cb73:callsB Tryz.prog 73=true:=by kernel_rfl
theorem cb74:callsB Tryz.prog 74=true:=by kernel_rfl
theorem cb75:callsB Tryz.prog 75=true:=by kernel_rfl
theorem cb76:callsB Tryz.prog 76=true:=by kernel_rfl
theorem cb77:callsB Tryz.prog 77=true:=by kernel_rfl
theorem cb78:callsB Tryz.prog 78=true:=by kernel_rfl
theorem cb79:callsB Tryz.prog 79=true:=by kernel_rfl
theorem cb8:callsB Tryz.prog 8=true:=by kernel_rfl
theorem cb80:callsB Tryz.prog 80=true:=by kernel_rfl
theorem cb81:callsB Tryz.prog 81=true:=by kernel_rfl
theorem cb82:callsB Tryz.prog 82=true:=by kernel_rfl
theorem cb83:callsB Tryz.prog 83=true:=by kernel_rfl
theorem cb84:callsB Tryz.prog 84=true:=by kernel_rfl
theorem cb85:callsB Tryz.prog 85=true:=by kernel_rfl
theorem cb86:callsB Tryz.prog 86=true:=by kernel_rfl
theorem cb87:callsB Tryz.prog 87=true:=by kernel_rfl
theorem cb88:callsB Tryz.prog 88=true:=by kernel_rfl
theorem cb89:callsB Tryz.prog 89=true:=by kernel_rfl
theorem cb9:callsB Tryz.prog 9=true:=by kernel_rfl
theorem cb90:callsB Tryz.prog 90=true:=by kernel_rfl
theorem cb91:callsB Tryz.prog 91=true:=by kernel_rfl
theorem cb92:callsB Tryz.prog 92=true:=by kernel_rfl
theorem cb93:callsB Tryz.prog 93=true:=by kernel_rfl
theorem cb94:callsB Tryz.prog 94=true:=by kernel_rfl
theorem cb95:callsB Tryz.prog 95=true:=by kernel_rfl
theorem cb96:callsB Tryz.prog 96=true:=by kernel_rfl
theorem cb97:callsB Tryz.prog 97=true:=by kernel_rfl
theorem cb98:callsB Tryz.prog 98=true:=by kernel_rfl
theorem cb99:callsB Tryz.prog 99=true:=by kernel_rfl
theorem tA22:arrT Tryz.prog 22=none:=by kernel_rfl
theorem tA25:arrT Tryz.prog 25=none:=by kernel_rfl
theorem tA27:arrT Tryz.prog 27=none:=by kernel_rfl
theorem tA28:arrT Tryz.prog 28=none:=by kernel_rfl
theorem tA29:arrT Tryz.prog 29=none:=by kernel_rfl
theorem tA30:arrT Tryz.prog 30=none:=by kernel_rfl
theorem tA32:arrT Tryz.prog 32=none:=by kernel_rfl
theorem tA34:arrT Tryz.prog 34=none:=by kernel_rfl
theorem tA35:arrT Tryz.prog 35=none:=by kernel_rfl
theorem tA37:arrT Tryz.prog 37=none:=by kernel_rfl
theorem tA53:arrT Tryz.prog 53=none:=by kernel_rfl
theorem tA61:arrT Tryz.prog 61=none:=by kernel_rfl
theorem tA70:arrT Tryz.prog 70=none:=by kernel_rfl
theorem tA86:arrT Tryz.prog 86=none:=by kernel_rfl
theorem tA88:arrT Tryz.prog 88=none:=by kernel_rfl
theorem tA9:arrT Tryz.prog 9=none:=by kernel_rfl
theorem tI130:intT Tryz.prog 130=some .u64:=by kernel_rfl
theorem tI137:intT Tryz.prog 137=some .u64:=by kernel_rfl
theorem tI3:intT Tryz.prog 3=some .i64:=by kernel_rfl
theorem tI5:intT Tryz.prog 5=some .u8:=by kernel_rfl
theorem tI79:intT Tryz.prog 79=some .u32:=by kernel_rfl
theorem tS22:slcT Tryz.prog 22=some 3:=by kernel_rfl
theorem tS28:slcT Tryz.prog 28=some 32:=by kernel_rfl
theorem tS29:slcT Tryz.prog 29=some 79:=by kernel_rfl
theorem tS30:slcT Tryz.prog 30=some 79:=by kernel_rfl
theorem tS35:slcT Tryz.prog 35=some 4:=by kernel_rfl
theorem tS86:slcT Tryz.prog 86=some 30:=by kernel_rfl
theorem tS9:slcT Tryz.prog 9=none:=by kernel_rfl
theorem tb4:isBoolT Tryz.prog 4=true:=by kernel_rfl
theorem tc107:zeroC Tryz.prog 107=some [.nilFunc]:=by kernel_rfl
theorem tc108:zeroC Tryz.prog 108=some [.nilFunc]:=by kernel_rfl
theorem tc22:zeroC Tryz.prog 22=some [.slice none 0 0]:=by kernel_rfl
theorem tc25:zeroC Tryz.prog 25=some [.slice none 0 0,.int .i64 0]:=by kernel_rfl
theorem tc27:zeroC Tryz.prog 27=some [.slice none 0 0]:=by kernel_rfl
theorem tc28:zeroC Tryz.prog 28=some [.slice none 0 0]:=by kernel_rfl
theorem tc29:zeroC Tryz.prog 29=some [.slice none 0 0]:=by kernel_rfl
theorem tc3:zeroC Tryz.prog 3=some [.int .i64 0]:=by kernel_rfl
theorem tc30:zeroC Tryz.prog 30=some [.slice none 0 0]:=by kernel_rfl
theorem tc32:zeroC Tryz.prog 32=some [.slice none 0 0,.slice none 0 0]:=by kernel_rfl
theorem tc34:zeroC Tryz.prog 34=some [.slice none 0 0,.slice none 0 0,.slice none 0 0,.slice none 0 0]:=by kernel_rfl
theorem tc35:zeroC Tryz.prog 35=some [.slice none 0 0]:=by kernel_rfl
theorem tc37:zeroC Tryz.prog 37=some [.slice none 0 0,.slice none 0 0,.slice none 0 0,.slice none 0 0,.slice none 0 0,.slice none 0 0,.slice none 0 0,.slice none 0 0,.int .i64 0,.slice none 0 0,.slice none 0 0]:=by kernel_rfl
theorem tc4:zeroC Tryz.prog 4=some [.bool false]:=by kernel_rfl
theorem tc53:zeroC Tryz.prog 53=some [.slice none 0 0,.slice none 0 0,.slice none 0 0]:=by kernel_rfl
theorem tc61:zeroC Tryz.prog 61=some [.bool false,.int .i64 0,.slice none 0 0,.slice none 0 0]:=by kernel_rfl
theorem tc70:zeroC Tryz.prog 70=some [.slice none 0 0,.slice none 0 0,.slice none 0 0,.slice none 0 0,.slice none 0 0,.slice none 0 0]:=by kernel_rfl
theorem tc79:zeroC Tryz.prog 79=some [.int .u32 0]:=by kernel_rfl
theorem tc86:zeroC Tryz.prog 86=some [.slice none 0 0]:=by kernel_rfl
theorem tc88:zeroC Tryz.prog 88=some [.slice none 0 0,.slice none 0 0,.slice none 0 0,.slice none 0 0,.slice none 0 0,.slice none 0 0,.slice none 0 0,.slice none 0 0,.int .i64 0,.slice none 0 0,.slice none 0 0,.slice none 0 0,.slice none 0 0,.slice none 0 0,.slice none 0 0,.slice none 0 0,.slice none 0 0,.slice none 0 0]:=by kernel_rfl
theorem tf25_0:fOff Tryz.prog 25 0=some (0,22):=by kernel_rfl
theorem tf25_1:fOff Tryz.prog 25 1=some (1,3):=by kernel_rfl
theorem tf27_0:fOff Tryz.prog 27 0=some (0,22):=by kernel_rfl
theorem tf32_0:fOff Tryz.prog 32 0=some (0,30):=by kernel_rfl
theorem tf32_1:fOff Tryz.prog 32 1=some (1,30):=by kernel_rfl
theorem tf34_0:fOff Tryz.prog 34 0=some (0,32):=by kernel_rfl
theorem tf34_1:fOff Tryz.prog 34 1=some (2,32):=by kernel_rfl
theorem tf37_0:fOff Tryz.prog 37 0=some (0,27):=by kernel_rfl
theorem tf37_1:fOff Tryz.prog 37 1=some (1,28):=by kernel_rfl
theorem tf37_2:fOff Tryz.prog 37 2=some (2,34):=by kernel_rfl
theorem tf37_3:fOff Tryz.prog 37 3=some (6,32):=by kernel_rfl
theorem tf37_4:fOff Tryz.prog 37 4=some (8,3):=by kernel_rfl
theorem tf37_5:fOff Tryz.prog 37 5=some (9,22):=by kernel_rfl
theorem tf37_6:fOff Tryz.prog 37 6=some (10,35):=by kernel_rfl
theorem tf53_0:fOff Tryz.prog 53 0=some (0,27):=by kernel_rfl
theorem tf53_1:fOff Tryz.prog 53 1=some (1,22):=by kernel_rfl
theorem tf53_2:fOff Tryz.prog 53 2=some (2,28):=by kernel_rfl
theorem tf61_0:fOff Tryz.prog 61 0=some (0,4):=by kernel_rfl
theorem tf61_1:fOff Tryz.prog 61 1=some (1,3):=by kernel_rfl
theorem tf61_2:fOff Tryz.prog 61 2=some (2,32):=by kernel_rfl
theorem tf70_0:fOff Tryz.prog 70 0=some (0,32):=by kernel_rfl
theorem tf70_1:fOff Tryz.prog 70 1=some (2,32):=by kernel_rfl
theorem tf70_2:fOff Tryz.prog 70 2=some (4,32):=by kernel_rfl
theorem tf88_0:fOff Tryz.prog 88 0=some (0,37):=by kernel_rfl
theorem tf88_1:fOff Tryz.prog 88 1=some (11,22):=by kernel_rfl
theorem tf88_2:fOff Tryz.prog 88 2=some (12,86):=by kernel_rfl
theorem tf88_3:fOff Tryz.prog 88 3=some (13,22):=by kernel_rfl
theorem tf88_4:fOff Tryz.prog 88 4=some (14,22):=by kernel_rfl
theorem tf88_5:fOff Tryz.prog 88 5=some (15,30):=by kernel_rfl
theorem tf88_6:fOff Tryz.prog 88 6=some (16,32):=by kernel_rfl
theorem tk107:kindT Tryz.prog 107=some false:=by kernel_rfl
theorem tk108:kindT Tryz.prog 108=some false:=by kernel_rfl
theorem tk22:kindT Tryz.prog 22=some false:=by kernel_rfl
theorem tk25:kindT Tryz.prog 25=some true:=by kernel_rfl
theorem tk27:kindT Tryz.prog 27=some true:=by kernel_rfl
theorem tk28:kindT Tryz.prog 28=some false:=by kernel_rfl
theorem tk29:kindT Tryz.prog 29=some false:=by kernel_rfl
theorem tk3:kindT Tryz.prog 3=some false:=by kernel_rfl
theorem tk30:kindT Tryz.prog 30=some false:=by kernel_rfl
theorem tk32:kindT Tryz.prog 32=some true:=by kernel_rfl
theorem tk34:kindT Tryz.prog 34=some true:=by kernel_rfl
theorem tk35:kindT Tryz.prog 35=some false:=by kernel_rfl
theorem tk37:kindT Tryz.prog 37=some true:=by kernel_rfl
theorem tk4:kindT Tryz.prog 4=some false:=by kernel_rfl
theorem tk53:kindT Tryz.prog 53=some true:=by kernel_rfl
theorem tk61:kindT Tryz.prog 61=some true:=by kernel_rfl
theorem tk70:kindT Tryz.prog 70=some true:=by kernel_rfl
theorem tk79:kindT Tryz.prog 79=some false:=by kernel_rfl
theorem tk86:kindT Tryz.prog 86=some false:=by kernel_rfl
theorem tk88:kindT Tryz.prog 88=some true:=by kernel_rfl
theorem tl22:isSliceT Tryz.prog 22=true:=by kernel_rfl
theorem tl28:isSliceT Tryz.prog 28=true:=by kernel_rfl
theorem tl29:isSliceT Tryz.prog 29=true:=by kernel_rfl
theorem tl30:isSliceT Tryz.prog 30=true:=by kernel_rfl
theorem tl35:isSliceT Tryz.prog 35=true:=by kernel_rfl
theorem tl86:isSliceT Tryz.prog 86=true:=by kernel_rfl
theorem tp25:placesT Tryz.prog 25=some [(0,1,false),(1,1,false)]:=by kernel_rfl
theorem tp27:placesT Tryz.prog 27=some [(0,1,false)]:=by kernel_rfl
theorem tp32:placesT Tryz.prog 32=some [(0,1,false),(1,1,false)]:=by kernel_rfl
theorem tp34:placesT Tryz.prog 34=some [(0,2,true),(2,2,true)]:=by kernel_rfl
theorem tp37:placesT Tryz.prog 37=some [(0,1,true),(1,1,false),(2,4,true),(6,2,true),(8,1,false),(9,1,false),(10,1,false)]:=by kernel_rfl
theorem tp53:placesT Tryz.prog 53=some [(0,1,true),(1,1,false),(2,1,false)]:=by kernel_rfl
theorem tp61:placesT Tryz.prog 61=some [(0,1,false),(1,1,false),(2,2,true)]:=by kernel_rfl
theorem tp70:placesT Tryz.prog 70=some [(0,2,true),(2,2,true),(4,2,true)]:=by kernel_rfl
theorem tp88:placesT Tryz.prog 88=some [(0,11,true),(11,1,false),(12,1,false),(13,1,false),(14,1,false),(15,1,false),(16,2,true)]:=by kernel_rfl
theorem ts130:isStrT Tryz.prog 130=false:=by kernel_rfl
theorem ts137:isStrT Tryz.prog 137=false:=by kernel_rfl
theorem ts22:isStrT Tryz.prog 22=false:=by kernel_rfl
theorem ts28:isStrT Tryz.prog 28=false:=by kernel_rfl
theorem ts29:isStrT Tryz.prog 29=false:=by kernel_rfl
theorem ts3:isStrT Tryz.prog 3=false:=by kernel_rfl
theorem ts30:isStrT Tryz.prog 30=false:=by kernel_rfl
theorem ts35:isStrT Tryz.prog 35=false:=by kernel_rfl
theorem ts5:isStrT Tryz.prog 5=false:=by kernel_rfl
theorem ts79:isStrT Tryz.prog 79=false:=by kernel_rfl
theorem ts86:isStrT Tryz.prog 86=false:=by kernel_rfl
theorem ts9:isStrT Tryz.prog 9=true:=by kernel_rfl
theorem ty3:byO Tryz.prog 3=some 8:=by kernel_rfl
theorem ty30:byO Tryz.prog 30=some 24:=by kernel_rfl
theorem ty32:byO Tryz.prog 32=some 48:=by kernel_rfl
theorem ty4:byO Tryz.prog 4=some 1:=by kernel_rfl
theorem ty79:byO Tryz.prog 79=some 4:=by kernel_rfl
theorem tz107:szO Tryz.prog 107=some 1:=by kernel_rfl
theorem tz108:szO Tryz.prog 108=some 1:=by kernel_rfl
theorem tz22:szO Tryz.prog 22=some 1:=by kernel_rfl
theorem tz25:szO Tryz.prog 25=some 2:=by kernel_rfl
theorem tz27:szO Tryz.prog 27=some 1:=by kernel_rfl
theorem tz28:szO Tryz.prog 28=some 1:=by kernel_rfl
theorem tz29:szO Tryz.prog 29=some 1:=by kernel_rfl
theorem tz3:szO Tryz.prog 3=some 1:=by kernel_rfl
theorem tz30:szO Tryz.prog 30=some 1:=by kernel_rfl
theorem tz32:szO Tryz.prog 32=some 2:=by kernel_rfl
theorem tz34:szO Tryz.prog 34=some 4:=by kernel_rfl
theorem tz35:szO Tryz.prog 35=some 1:=by kernel_rfl
theorem tz37:szO Tryz.prog 37=some 11:=by kernel_rfl
theorem tz4:szO Tryz.prog 4=some 1:=by kernel_rfl
theorem tz53:szO Tryz.prog 53=some 3:=by kernel_rfl
theorem tz61:szO Tryz.prog 61=some 4:=by kernel_rfl
theorem tz70:szO Tryz.prog 70=some 6:=by kernel_rfl
theorem tz79:szO Tryz.prog 79=some 1:=by kernel_rfl
theorem tz86:szO Tryz.prog 86=some 1:=by kernel_rfl
theorem tz88:szO Tryz.prog 88=some 18:=by kernel_rfl
set_option linter.defProp false
def sxB:=And.intro (And.intro (And.intro (And.intro (And.intro (And.intro (And.intro (@loadX.eq_1) (@loadX.eq_2)) (And.intro (@loadX.eq_3) (And.intro (@loadX.eq_4) (@loadX.eq_5)))) (And.intro (And.intro (@loadX.eq_6) (@fldA.eq_1)) (And.intro (@fldA.eq_2) (And.intro (@fldA.eq_3) (@isPt_p))))) (And.intro (And.intro (And.intro (@addP_p) (@List.toList_toArray.{0})) (And.intro (@stepG.eq_1) (And.intro (@stepG.eq_2) (@fin.eq_1)))) (And.intro (And.intro (@fin.eq_2) (And.intro (@fin.eq_3) (@fin.eq_4))) (And.intro (@fin.eq_5) (And.intro (@fin.eq_6) (@fin.eq_7)))))) (And.intro (And.intro (And.intro (And.intro (@finG.eq_1) (@finG.eq_2)) (And.intro (@finG.eq_3) (And.intro (@finG.eq_4) (@brv_true)))) (And.intro (And.intro (@brv_false) (And.intro (@condK.eq_1) (@rowS.eq_1))) (And.intro (@rowS.eq_2) (And.intro (@mentL_append) (@mentL_ext))))) (And.intro (And.intro (And.intro (@mentL_extf) (@one_bool)) (And.intro (@one_int) (And.intro (@one_str) (@one_ptr)))) (And.intro (And.intro (@one_sli) (And.intro (@one_map) (@one_fun))) (And.intro (@one_nf) (And.intro (@one_ni) (@one_if))))))) (And.intro (And.intro (And.intro (And.intro (And.intro (@one_agg) (@one_tup)) (And.intro (@List.getElem?_cons_zero.{0}) (And.intro (@List.getElem?_cons_succ.{0}) (@List.drop_zero.{0})))) (And.intro (And.intro (@List.drop_succ_cons.{0}) (@List.take_zero.{0})) (And.intro (@List.take_succ_cons.{0}) (And.intro (@List.take_nil.{0}) (@List.drop_nil.{0}))))) (And.intro (And.intro (And.intro (@List.map_cons.{0,0}) (@List.map_nil.{0,0})) (And.intro (@List.length_cons.{0}) (And.intro (@List.length_nil.{0}) (@List.append_nil.{0})))) (And.intro (And.intro (@List.cons_append.{0}) (And.intro (@List.nil_append.{0}) (@List.set_cons_zero.{0}))) (And.intro (@List.set_cons_succ.{0}) (And.intro (@List.all_cons.{0}) (@List.all_nil.{0})))))) (And.intro (And.intro (And.intro (And.intro (@List.mem_cons.{0}) (@List.not_mem_nil.{0})) (And.intro (@Option.bind_some.{0,0}) (And.intro (@Option.map_some.{0,0}) (@Option.map_none.{0,0})))) (And.intro (And.intro (@true_and) (And.intro (@and_true) (@and_self))) (And.intro (@true_implies) (And.intro (@false_implies) (@imp_self))))) (And.intro (And.intro (And.intro (@Bool.cond_false_right) (@Bool.cond_true_left)) (And.intro (@beq_true) (And.intro (@beq_false) (@Bool.not_eq_true')))) (And.intro (And.intro (@Bool.not_true) (And.intro (@Bool.not_false) (@Bool.true_and))) (And.intro (@Bool.and_true) (And.intro (@Bool.false_and) (@Bool.and_false)))))))) (And.intro (And.intro (And.intro (And.intro (And.intro (And.intro (@Bool.or_false) (@Bool.false_or)) (And.intro (@Bool.or_true) (And.intro (@Bool.true_or) (@decide_true)))) (And.intro (And.intro (@decide_false) (@Bool.false_eq_true)) (And.intro (@Bool.true_eq_false) (And.intro (@false_or) (@true_or))))) (And.intro (And.intro (And.intro (@or_true) (@or_false)) (And.intro (@or_self) (And.intro (@List.contains_nil.{0}) (@List.contains_cons.{0})))) (And.intro (And.intro (@List.size_toArray.{0}) (And.intro (@List.getElem?_toArray.{0}) (@Option.isSome_some.{0}))) (And.intro (@Option.isSome_none.{0}) (And.intro (@Nat.zero_add) (@Nat.add_zero)))))) (And.intro (And.intro (And.intro (And.intro (@Int.toNat_natCast) (@okR.eq_1)) (And.intro (@okR.eq_2) (And.intro (@okR.eq_3) (@okR.eq_4)))) (And.intro (And.intro (@okR.eq_5) (And.intro (@okR.eq_6) (@finD.eq_1))) (And.intro (@finD.eq_2) (And.intro (@finD.eq_3) (@finD.eq_4))))) (And.intro (And.intro (And.intro (@finD.eq_5) (@finD.eq_6)) (And.intro (@finD.eq_7) (And.intro (@finGD.eq_1) (@finGD.eq_2)))) (And.intro (And.intro (@finGD.eq_3) (And.intro (@finGD.eq_4) (@stepGD.eq_1))) (And.intro (@stepGD.eq_2) (And.intro (@isSl_s) (@slen_s))))))) (And.intro (And.intro (And.intro (And.intro (And.intro (@scap_s) (@nilS_s)) (And.intro (@Option.isNone_none.{0}) (And.intro (@Option.isNone_some.{0}) (@vc.eq_1)))) (And.intro (And.intro (@vc.eq_2) (And.intro (@vc.eq_3) (@vc.eq_4))) (And.intro (@vc.eq_5) (And.intro (@vc.eq_7) (@vc.eq_8))))) (And.intro (And.intro (And.intro (@vc.eq_9) (@vc.eq_10)) (And.intro (@vc.eq_11) (And.intro (@vc.eq_12) (@vc.eq_13)))) (And.intro (And.intro (@seqK_false) (And.intro (@seqK_true) (@vcX_marks))) (And.intro (@vc_exit) (And.intro (@vcX_blk) (@vcX_code)))))) (And.intro (And.intro (And.intro (And.intro (@vcX_stop) (@aggA_nil)) (And.intro (@aggA_cons) (And.intro (@slcG_gd) (@slcG_ext)))) (And.intro (And.intro (@slcG_slo) (And.intro (@slcG_own) (@cellsG.eq_1))) (And.intro (@cellsG.eq_2) (And.intro (@putA.eq_1) (@putA.eq_2))))) (And.intro (And.intro (And.intro (@hold_eq.{1}) (@vc.eq_14)) (And.intro (@lookM_tup) (And.intro (@eq_self.{1}) (@forall_eq.{1})))) (And.intro (And.intro (@forall_eq_or_imp.{1}) (And.intro (@implies_true.{1}) (@implies_true.{0}))) (And.intro (@beq_self_eq_true.{0}) (And.intro (@forall_const.{1}) (@forall_const.{0}))))))))
def sxD:=And.intro (And.intro (And.intro (And.intro (And.intro (And.intro (@dstO.eq_def) (@normA.eq_def)) (And.intro (@normG.eq_def) (And.intro (@normP.eq_def) (@nilR.eq_def)))) (And.intro (And.intro (@nilA.eq_def) (And.intro (@fieldR.eq_def) (@addOb.eq_def))) (And.intro (@loadH.eq_def) (And.intro (@storeH.eq_def) (@zeroR.eq_def))))) (And.intro (And.intro (And.intro (@fldV.eq_def) (And.intro (@storeX.eq_def) (@loadV.eq_def))) (And.intro (@AV.ptr?.eq_def) (And.intro (@tOp.eq_def) (@put1.eq_def)))) (And.intro (And.intro (@put2.eq_def) (And.intro (@pickV.eq_def) (@binV.eq_def))) (And.intro (@binW.eq_def) (And.intro (@intV.eq_def) (@strV.eq_def)))))) (And.intro (And.intro (And.intro (And.intro (@boolV.eq_def) (@nilV.eq_def)) (And.intro (@unV1.eq_def) (And.intro (@unV.eq_def) (@selV.eq_def)))) (And.intro (And.intro (@extR.eq_def) (And.intro (@ev.eq_def) (@evC.eq_def))) (And.intro (@callR.eq_def) (And.intro (@bltR.eq_def) (@srcA.eq_def))))) (And.intro (And.intro (And.intro (@lenR.eq_def) (And.intro (@lenV.eq_def) (@minV.eq_def))) (And.intro (@maxV.eq_def) (And.intro (@St.put.eq_def) (@AV.val.eq_def)))) (And.intro (And.intro (@unG.eq_def) (And.intro (@guardB.eq_def) (@gslot.eq_def))) (And.intro (@loadR.eq_def) (And.intro (@storeR.eq_def) (@oneC.eq_def))))))) (And.intro (And.intro (And.intro (And.intro (And.intro (@tupA.eq_def) (@cellsA.eq_def)) (And.intro (@mkF.eq_def) (And.intro (@strH.eq_def) (@convX.eq_def)))) (And.intro (And.intro (@boxR.eq_def) (And.intro (@plT.eq_def) (@buildSR.eq_def))) (And.intro (@partC.eq_def) (And.intro (@makeR.eq_def) (@fieldX.eq_def))))) (And.intro (And.intro (And.intro (@fieldO.eq_def) (And.intro (@idxR.eq_def) (@idxA.eq_def))) (And.intro (@indV.eq_def) (And.intro (@slcR.eq_def) (@slcO.eq_def)))) (And.intro (And.intro (@bndO.eq_def) (And.intro (@conV.eq_def) (@cutB.eq_def))) (And.intro (@cutC.eq_def) (And.intro (@cutP.eq_def) (@joinH.eq_def)))))) (And.intro (And.intro (And.intro (And.intro (@reachK.eq_def) (@mentO.eq_def)) (And.intro (@tupR.eq_def) (And.intro (@NewD.av.eq_def) (@eqV.eq_def)))) (And.intro (And.intro (@eqC.eq_def) (And.intro (@looksK.eq_def) (@addrL.eq_def))) (And.intro (@ptrK.eq_def) (And.intro (@sloK.eq_def) (@Op.operands.eq_def))))) (And.intro (And.intro (And.intro (@Call.operands.eq_def) (And.intro (@awayB.eq_def) (@cutO.eq_def))) (And.intro (@ownK.eq_def) (And.intro (@mentD.eq_def) (@offL.eq_def)))) (And.intro (And.intro (@offP.eq_def) (And.intro (@selV_true) (@selV_false))) (And.intro (@opAt_arr) (And.intro (@opAt_0) (@opAt_S)))))))
def sxE:=And.intro (And.intro (And.intro (And.intro (And.intro (And.intro (@normL.eq_1) (And.intro (@normL.eq_2) (@lk.eq_1))) (And.intro (@lk.eq_2) (And.intro (@lkH.eq_1) (@lkH.eq_2)))) (And.intro (And.intro (@upH.eq_1) (And.intro (@upH.eq_2) (@allOne.eq_1))) (And.intro (And.intro (@allOne.eq_2) (@vals.eq_1)) (And.intro (@vals.eq_2) (@vals.eq_3))))) (And.intro (And.intro (And.intro (@bytesA.eq_1) (And.intro (@bytesA.eq_2) (@bytesA.eq_3))) (And.intro (@buildL.eq_1) (And.intro (@buildL.eq_2) (@plN.eq_1)))) (And.intro (And.intro (@plN.eq_2) (And.intro (@repN.eq_1) (@repN.eq_2))) (And.intro (And.intro (@AV.ment.eq_1) (@AV.ment.eq_2)) (And.intro (@AV.ment.eq_3) (@AV.ment.eq_4)))))) (And.intro (And.intro (And.intro (And.intro (@AV.ment.eq_5) (And.intro (@AV.ment.eq_6) (@AV.ment.eq_7))) (And.intro (@AV.ment.eq_8) (And.intro (@AV.ment.eq_9) (@mentL.eq_1)))) (And.intro (And.intro (@mentL.eq_2) (And.intro (@mentE.eq_1) (@mentE.eq_2))) (And.intro (And.intro (@mentH.eq_1) (@mentH.eq_2)) (And.intro (@hasK.eq_1) (@hasK.eq_2))))) (And.intro (And.intro (And.intro (@AV.kill.eq_1) (And.intro (@AV.kill.eq_2) (@AV.kill.eq_3))) (And.intro (@AV.kill.eq_4) (And.intro (@AV.kill.eq_5) (@AV.kill.eq_6)))) (And.intro (And.intro (@AV.kill.eq_7) (And.intro (@AV.kill.eq_8) (@AV.kill.eq_9))) (And.intro (And.intro (@killL.eq_1) (@killL.eq_2)) (And.intro (@killE.eq_1) (@killE.eq_2))))))) (And.intro (And.intro (And.intro (And.intro (And.intro (@killH.eq_1) (And.intro (@killH.eq_2) (@killEs.eq_1))) (And.intro (@killEs.eq_2) (And.intro (@killHs.eq_1) (@killHs.eq_2)))) (And.intro (And.intro (@popTo.eq_1) (And.intro (@popTo.eq_2) (@popTo.eq_3))) (And.intro (And.intro (@hasBlk.eq_1) (@hasBlk.eq_2)) (And.intro (@hasBlk.eq_3) (@argEnv.eq_1))))) (And.intro (And.intro (And.intro (@argEnv.eq_2) (And.intro (@subH.eq_1) (@subH.eq_2))) (And.intro (@dropH.eq_1) (And.intro (@dropH.eq_2) (@cellsK.eq_1)))) (And.intro (And.intro (@cellsK.eq_2) (And.intro (@newKeys.eq_1) (@newKeys.eq_2))) (And.intro (And.intro (@keysH.eq_1) (@keysH.eq_2)) (And.intro (@inB.eq_1) (@inB.eq_2)))))) (And.intro (And.intro (And.intro (And.intro (@eqL.eq_1) (And.intro (@eqL.eq_2) (@keysOf.eq_1))) (And.intro (@keysOf.eq_2) (And.intro (@looksL.eq_1) (@looksL.eq_2)))) (And.intro (And.intro (@disj.eq_1) (And.intro (@disj.eq_2) (@subE.eq_1))) (And.intro (And.intro (@subE.eq_2) (@subHp.eq_1)) (And.intro (@subHp.eq_2) (@keepLt.eq_1))))) (And.intro (And.intro (And.intro (@keepLt.eq_2) (And.intro (@forgetD.eq_1) (@forgetD.eq_2))) (And.intro (@marksOf.eq_1) (And.intro (@marksOf.eq_2) (@marksOf.eq_3)))) (And.intro (And.intro (@headId.eq_1) (And.intro (@headId.eq_2) (@headId.eq_3))) (And.intro (And.intro (@headId.eq_4) (@headId.eq_5)) (And.intro (@cellsD.eq_1) (@cellsD.eq_2)))))))
def sxO:=And.intro (And.intro (And.intro (@decide_eq_true_eq) (And.intro (@decide_eq_false_iff_not) (@Bool.or_eq_true))) (And.intro (@Bool.or_eq_false_iff) (And.intro (@Bool.and_eq_true) (@Bool.and_eq_false_iff)))) (And.intro (And.intro (@Bool.not_eq_true) (And.intro (@Bool.not_eq_true') (@Bool.not_eq_false'))) (And.intro (@Int.toNat_natCast) (And.intro (@ne_eq.{1}) (@maxLen.eq_1))))
def sxTab:=And.intro (And.intro (And.intro (And.intro (And.intro (And.intro (And.intro (And.intro (@cb10) (@cb100)) (And.intro (@cb101) (And.intro (@cb102) (@cb103)))) (And.intro (And.intro (@cb104) (@cb105)) (And.intro (@cb106) (And.intro (@cb107) (@cb108))))) (And.intro (And.intro (And.intro (@cb109) (@cb11)) (And.intro (@cb110) (And.intro (@cb111) (@cb112)))) (And.intro (And.intro (@cb113) (And.intro (@cb114) (@cb115))) (And.intro (@cb116) (And.intro (@cb117) (@cb118)))))) (And.intro (And.intro (And.intro (And.intro (@cb119) (@cb12)) (And.intro (@cb120) (And.intro (@cb121) (@cb122)))) (And.intro (And.intro (@cb123) (@cb124)) (And.intro (@cb125) (And.intro (@cb126) (@cb127))))) (And.intro (And.intro (And.intro (@cb128) (@cb129)) (And.intro (@cb13) (And.intro (@cb130) (@cb131)))) (And.intro (And.intro (@cb132) (And.intro (@cb133) (@cb134))) (And.intro (@cb135) (And.intro (@cb136) (@cb137))))))) (And.intro (And.intro (And.intro (And.intro (And.intro (@cb138) (@cb139)) (And.intro (@cb14) (And.intro (@cb140) (@cb141)))) (And.intro (And.intro (@cb142) (@cb143)) (And.intro (@cb144) (And.intro (@cb145) (@cb146))))) (And.intro (And.intro (And.intro (@cb147) (@cb148)) (And.intro (@cb149) (And.intro (@cb15) (@cb150)))) (And.intro (And.intro (@cb151) (And.intro (@cb152) (@cb153))) (And.intro (@cb154) (And.intro (@cb155) (@cb156)))))) (And.intro (And.intro (And.intro (And.intro (@cb157) (@cb158)) (And.intro (@cb159) (And.intro (@cb16) (@cb160)))) (And.intro (And.intro (@cb161) (@cb162)) (And.intro (@cb163) (And.intro (@cb164) (@cb165))))) (And.intro (And.intro (And.intro (@cb166) (@cb167)) (And.intro (@cb168) (And.intro (@cb169) (@cb17)))) (And.intro (And.intro (@cb170) (And.intro (@cb171) (@cb172))) (And.intro (@cb173) (And.intro (@cb174) (@cb175)))))))) (And.intro (And.intro (And.intro (And.intro (And.intro (And.intro (@cb176) (@cb177)) (And.intro (@cb178) (And.intro (@cb179) (@cb18)))) (And.intro (And.intro (@cb180) (@cb181)) (And.intro (@cb182) (And.intro (@cb183) (@cb184))))) (And.intro (And.intro (And.intro (@cb185) (@cb186)) (And.intro (@cb187) (And.intro (@cb188) (@cb189)))) (And.intro (And.intro (@cb19) (And.intro (@cb2) (@cb20))) (And.intro (@cb21) (And.intro (@cb22) (@cb23)))))) (And.intro (And.intro (And.intro (And.intro (@cb24) (@cb25)) (And.intro (@cb26) (And.intro (@cb27) (@cb28)))) (And.intro (And.intro (@cb29) (@cb3)) (And.intro (@cb30) (And.intro (@cb31) (@cb32))))) (And.intro (And.intro (And.intro (@cb33) (@cb34)) (And.intro (@cb35) (And.intro (@cb36) (@cb37)))) (And.intro (And.intro (@cb38) (And.intro (@cb39) (@cb4))) (And.intro (@cb40) (And.intro (@cb41) (@cb42))))))) (And.intro (And.intro (And.intro (And.intro (And.intro (@cb43) (@cb44)) (And.intro (@cb45) (And.intro (@cb46) (@cb47)))) (And.intro (And.intro (@cb48) (@cb49)) (And.intro (@cb5) (And.intro (@cb50) (@cb51))))) (And.intro (And.intro (And.intro (@cb52) (@cb53)) (And.intro (@cb54) (And.intro (@cb55) (@cb56)))) (And.intro (And.intro (@cb57) (And.intro (@cb58) (@cb59))) (And.intro (@cb6) (And.intro (@cb60) (@cb61)))))) (And.intro (And.intro (And.intro (And.intro (@cb62) (@cb63)) (And.intro (@cb64) (And.intro (@cb65) (@cb66)))) (And.intro (And.intro (@cb67) (And.intro (@cb68) (@cb69))) (And.intro (@cb7) (And.intro (@cb70) (@cb71))))) (And.intro (And.intro (And.intro (@cb72) (@cb73)) (And.intro (@cb74) (And.intro (@cb75) (@cb76)))) (And.intro (And.intro (@cb77) (And.intro (@cb78) (@cb79))) (And.intro (@cb8) (And.intro (@cb80) (@cb81))))))))) (And.intro (And.intro (And.intro (And.intro (And.intro (And.intro (And.intro (@cb82) (@cb83)) (And.intro (@cb84) (And.intro (@cb85) (@cb86)))) (And.intro (And.intro (@cb87) (@cb88)) (And.intro (@cb89) (And.intro (@cb9) (@cb90))))) (And.intro (And.intro (And.intro (@cb91) (@cb92)) (And.intro (@cb93) (And.intro (@cb94) (@cb95)))) (And.intro (And.intro (@cb96) (And.intro (@cb97) (@cb98))) (And.intro (@cb99) (And.intro (@tA22) (@tA25)))))) (And.intro (And.intro (And.intro (And.intro (@tA27) (@tA28)) (And.intro (@tA29) (And.intro (@tA30) (@tA32)))) (And.intro (And.intro (@tA34) (@tA35)) (And.intro (@tA37) (And.intro (@tA53) (@tA61))))) (And.intro (And.intro (And.intro (@tA70) (@tA86)) (And.intro (@tA88) (And.intro (@tA9) (@tI130)))) (And.intro (And.intro (@tI137) (And.intro (@tI3) (@tI5))) (And.intro (@tI79) (And.intro (@tS22) (@tS28))))))) (And.intro (And.intro (And.intro (And.intro (And.intro (@tS29) (@tS30)) (And.intro (@tS35) (And.intro (@tS86) (@tS9)))) (And.intro (And.intro (@tb4) (@tc107)) (And.intro (@tc108) (And.intro (@tc22) (@tc25))))) (And.intro (And.intro (And.intro (@tc27) (@tc28)) (And.intro (@tc29) (And.intro (@tc3) (@tc30)))) (And.intro (And.intro (@tc32) (And.intro (@tc34) (@tc35))) (And.intro (@tc37) (And.intro (@tc4) (@tc53)))))) (And.intro (And.intro (And.intro (And.intro (@tc61) (@tc70)) (And.intro (@tc79) (And.intro (@tc86) (@tc88)))) (And.intro (And.intro (@tf25_0) (And.intro (@tf25_1) (@tf27_0))) (And.intro (@tf32_0) (And.intro (@tf32_1) (@tf34_0))))) (And.intro (And.intro (And.intro (@tf34_1) (@tf37_0)) (And.intro (@tf37_1) (And.intro (@tf37_2) (@tf37_3)))) (And.intro (And.intro (@tf37_4) (And.intro (@tf37_5) (@tf37_6))) (And.intro (@tf53_0) (And.intro (@tf53_1) (@tf53_2)))))))) (And.intro (And.intro (And.intro (And.intro (And.intro (And.intro (@tf61_0) (@tf61_1)) (And.intro (@tf61_2) (And.intro (@tf70_0) (@tf70_1)))) (And.intro (And.intro (@tf70_2) (@tf88_0)) (And.intro (@tf88_1) (And.intro (@tf88_2) (@tf88_3))))) (And.intro (And.intro (And.intro (@tf88_4) (@tf88_5)) (And.intro (@tf88_6) (And.intro (@tk107) (@tk108)))) (And.intro (And.intro (@tk22) (And.intro (@tk25) (@tk27))) (And.intro (@tk28) (And.intro (@tk29) (@tk3)))))) (And.intro (And.intro (And.intro (And.intro (@tk30) (@tk32)) (And.intro (@tk34) (And.intro (@tk35) (@tk37)))) (And.intro (And.intro (@tk4) (@tk53)) (And.intro (@tk61) (And.intro (@tk70) (@tk79))))) (And.intro (And.intro (And.intro (@tk86) (@tk88)) (And.intro (@tl22) (And.intro (@tl28) (@tl29)))) (And.intro (And.intro (@tl30) (And.intro (@tl35) (@tl86))) (And.intro (@tp25) (And.intro (@tp27) (@tp32))))))) (And.intro (And.intro (And.intro (And.intro (And.intro (@tp34) (@tp37)) (And.intro (@tp53) (And.intro (@tp61) (@tp70)))) (And.intro (And.intro (@tp88) (@ts130)) (And.intro (@ts137) (And.intro (@ts22) (@ts28))))) (And.intro (And.intro (And.intro (@ts29) (@ts3)) (And.intro (@ts30) (And.intro (@ts35) (@ts5)))) (And.intro (And.intro (@ts79) (And.intro (@ts86) (@ts9))) (And.intro (@ty3) (And.intro (@ty30) (@ty32)))))) (And.intro (And.intro (And.intro (And.intro (@ty4) (@ty79)) (And.intro (@tz107) (And.intro (@tz108) (@tz22)))) (And.intro (And.intro (@tz25) (And.intro (@tz27) (@tz28))) (And.intro (@tz29) (And.intro (@tz3) (@tz30))))) (And.intro (And.intro (And.intro (@tz32) (@tz34)) (And.intro (@tz35) (And.intro (@tz37) (@tz4)))) (And.intro (And.intro (@tz53) (And.intro (@tz61) (@tz70))) (And.intro (@tz79) (And.intro (@tz86) (@tz88)))))))))
theorem sF{p q:Prop}(h:q)(e:p=q:=by (try simp (maxSteps:=1000000) only [hf,↓hold_pre,awayP,runOps,regK,step1,newK,genR,appR,obl,buildR,Value.cells,closeK,keepH,outV,retK,ret1,retC,RetV,Option.getD,runD,stepD,afterK,undef,simprocAttr,sxB,↓sxD,sxE,sxTab]);rfl):p:=Eq.mpr e h
theorem sU{p q:Prop}(h:q)(e:p=q:=by (try simp (maxSteps:=1000000) only [↓hold_pre,awayP,runOps,regK,step1,newK,genR,appR,obl,buildR,Value.cells,closeK,keepH,outV,retK,ret1,retC,RetV,Option.getD,runD,stepD,afterK,undef,simprocAttr,sxB,↓sxD,sxE,sxTab]);rfl):p:=Eq.mpr e h
theorem sV{p q:Prop}(h:q)(e:p=q:=by (try simp (maxSteps:=1000000) only [hb0,hf,↓hold_pre,awayP,runOps,regK,step1,newK,genR,appR,obl,buildR,Value.cells,closeK,keepH,outV,retK,ret1,retC,RetV,Option.getD,runD,stepD,afterK,undef,simprocAttr,sxB,↓sxD,sxE,sxTab]);rfl):p:=Eq.mpr e h
theorem sW{p q:Prop}(h:q)(e:p=q:=by (try simp (maxSteps:=1000000) only [hb0,↓hold_pre,awayP,runOps,regK,step1,newK,genR,appR,obl,buildR,Value.cells,closeK,keepH,outV,retK,ret1,retC,RetV,Option.getD,runD,stepD,afterK,undef,simprocAttr,sxB,↓sxD,sxE,sxTab]);rfl):p:=Eq.mpr e h
theorem oB{p q:Prop}(k:q)(h:p:=by (try simp only[sxO]at *);omega):p∧q:=⟨h,k⟩
theorem tT:True:=True.intro
theorem A2{a0 a1:Prop}(ha0:a0)(ha1:a1):a0∧a1:=⟨ha0,ha1⟩
theorem A3{a0 a1 a2:Prop}(ha0:a0)(ha1:a1)(ha2:a2):a0∧a1∧a2:=⟨ha0,ha1,ha2⟩
theorem A4{a0 a1 a2 a3:Prop}(ha0:a0)(ha1:a1)(ha2:a2)(ha3:a3):a0∧a1∧a2∧a3:=⟨ha0,ha1,ha2,ha3⟩
theorem A5{a0 a1 a2 a3 a4:Prop}(ha0:a0)(ha1:a1)(ha2:a2)(ha3:a3)(ha4:a4):a0∧a1∧a2∧a3∧a4:=⟨ha0,ha1,ha2,ha3,ha4⟩
theorem A6{a0 a1 a2 a3 a4 a5:Prop}(ha0:a0)(ha1:a1)(ha2:a2)(ha3:a3)(ha4:a4)(ha5:a5):a0∧a1∧a2∧a3∧a4∧a5:=⟨ha0,ha1,ha2,ha3,ha4,ha5⟩
theorem A7{a0 a1 a2 a3 a4 a5 a6:Prop}(ha0:a0)(ha1:a1)(ha2:a2)(ha3:a3)(ha4:a4)(ha5:a5)(ha6:a6):a0∧a1∧a2∧a3∧a4∧a5∧a6:=⟨ha0,ha1,ha2,ha3,ha4,ha5,ha6⟩
theorem A8{a0 a1 a2 a3 a4 a5 a6 a7:Prop}(ha0:a0)(ha1:a1)(ha2:a2)(ha3:a3)(ha4:a4)(ha5:a5)(ha6:a6)(ha7:a7):a0∧a1∧a2∧a3∧a4∧a5∧a6∧a7:=⟨ha0,ha1,ha2,ha3,ha4,ha5,ha6,ha7⟩
theorem A9{a0 a1 a2 a3 a4 a5 a6 a7 a8:Prop}(ha0:a0)(ha1:a1)(ha2:a2)(ha3:a3)(ha4:a4)(ha5:a5)(ha6:a6)(ha7:a7)(ha8:a8):a0∧a1∧a2∧a3∧a4∧a5∧a6∧a7∧a8:=⟨ha0,ha1,ha2,ha3,ha4,ha5,ha6,ha7,ha8⟩
theorem A10{a0 a1 a2 a3 a4 a5 a6 a7 a8 a9:Prop}(ha0:a0)(ha1:a1)(ha2:a2)(ha3:a3)(ha4:a4)(ha5:a5)(ha6:a6)(ha7:a7)(ha8:a8)(ha9:a9):a0∧a1∧a2∧a3∧a4∧a5∧a6∧a7∧a8∧a9:=⟨ha0,ha1,ha2,ha3,ha4,ha5,ha6,ha7,ha8,ha9⟩
theorem A11{a0 a1 a2 a3 a4 a5 a6 a7 a8 a9 a10:Prop}(ha0:a0)(ha1:a1)(ha2:a2)(ha3:a3)(ha4:a4)(ha5:a5)(ha6:a6)(ha7:a7)(ha8:a8)(ha9:a9)(ha10:a10):a0∧a1∧a2∧a3∧a4∧a5∧a6∧a7∧a8∧a9∧a10:=⟨ha0,ha1,ha2,ha3,ha4,ha5,ha6,ha7,ha8,ha9,ha10⟩
theorem A12{a0 a1 a2 a3 a4 a5 a6 a7 a8 a9 a10 a11:Prop}(ha0:a0)(ha1:a1)(ha2:a2)(ha3:a3)(ha4:a4)(ha5:a5)(ha6:a6)(ha7:a7)(ha8:a8)(ha9:a9)(ha10:a10)(ha11:a11):a0∧a1∧a2∧a3∧a4∧a5∧a6∧a7∧a8∧a9∧a10∧a11:=⟨ha0,ha1,ha2,ha3,ha4,ha5,ha6,ha7,ha8,ha9,ha10,ha11⟩
def fstD:List Oper→Nat
 | []=>0
 | o :: r=>match o.dst with|some d=>d|none=>fstD r
theorem isE{P:Program}{ops:Array Oper}{s:St}{K:St→Prop}(d:Nat)(_:Nat.beq (fstD ops.toList) d=true)(h:DrawK P ops s K):DrawK P ops s K:=h
def rP:Nat→Nat→List Nat→List (Nat×List Nat)→List (Nat×List Nat)
 | _,0,_,t=>t
 | a,n+1,c,t=>(a,c) :: rP (a+1) n c t
def rgL:Nat→Nat→List Nat→List Nat
 | _,0,t=>t
 | a,n+1,t=>a :: rgL (a+1) n t
def addA:List Nat→List Nat→List Nat
 | [],acc=>acc
 | x :: r,acc=>addA r (if acc.contains x then acc else x :: acc)
def ancE(A:List (List Nat)):List Edge→List Nat→List Nat
 | [],acc=>acc
 | e :: r,acc=>ancE A r (if Region.binds .any e then addA (e.on :: A.getD e.on []) acc else acc)
def ancF:List Oper→List (List Nat)→List (List Nat)
 | [],A=>A
 | o :: r,A=>ancF r (A++[ancE A o.after.toList []])
theorem dR{P:Program}{ops:Array Oper}{s:St}{K:St→Prop}(pl:List (Nat×List Nat))(ds qs:List Nat){pl':List (Nat×List Nat)}{ds':List Nat}
  (h:runD P ops.toList pl' K {env:=forgetD ds' s.env,hp:=s.hp,M:=s.M,kb:=s.kb,fx:=s.fx,fr:=s.fr})
  (e1:pl=pl':=by (try simp only[rP,Nat.reduceAdd]);rfl) (e2:ds=ds':=by (try simp only[rgL,Nat.reduceAdd]);rfl)
  (h1:sepB ops (ancF ops.toList [])=true:=by kernel_rfl) (h2:planB ops (ancF ops.toList []) pl (Array.replicate ops.size false)=true:=by kernel_rfl) (h3:pl.length=ops.size:=by kernel_rfl)
  (h4:dstsB ds qs (ancF ops.toList []) ops=true:=by kernel_rfl) (h5:noMent s.env qs:=by repeat' first|exact trivial|refine And.intro rfl ?_):DrawK P ops s K:=by
 subst e1 e2
 exact draw_rule pl _ ds qs h1 h2 h3 h4 h5 h
structure CQ (f:FuncId) (p:Prop):Prop where
 get:p
section
variable {P:Program}{f:FuncId}{args:List AV}{s:St}{d:Option Nat}{K:St→Prop}{H:Hp}{M:Mem}{mv:List Nat}{KS:AV→Hp→Mem→Prop}
theorem yA(h:CQ f (CallK P f args s d K)):CallK P f args s d K:=h.get
theorem yB(h:CQ f (CallK0 P f args s d K)):CallK0 P f args s d K:=h.get
theorem yN(h:CQ f (CallS P f args [] s.M [] (afterK s d [] K)))(e:subH s.hp (reachK s.hp (mentL args))=[]:=by kernel_rfl):CallK P f args s d K:=callA_nil e h.get
theorem yM(h:CQ f (CallS P f args [] s.M [] (afterK s d [] K)))(e:subH s.hp (reachK s.hp (mentL args))=[]:=by kernel_rfl):CallK0 P f args s d K:=callA0_nil e h.get
theorem yC(h:CQ f (CallS P f args H M mv KS)):CallS P f args H M mv KS:=h.get
end
theorem kI(f:FuncId){p:Prop}(h:p):CQ f p:=⟨h⟩
section
variable {P:Program}(f:FuncId){args:List AV}{s:St}{d:Option Nat}{K:St→Prop}{H:Hp}{M:Mem}{mv:List Nat}{KS:AV→Hp→Mem→Prop}
theorem kH(h:CallS P f args (subH s.hp (reachK s.hp (mentL args))) s.M [] (afterK s d (subH s.hp (reachK s.hp (mentL args))) K)):CQ f (CallK P f args s d K):=⟨callA h⟩
theorem kG(h:CallS P f args (subH s.hp (reachK s.hp (mentL args))) s.M [] (afterK s d (subH s.hp (reachK s.hp (mentL args))) K)):CQ f (CallK0 P f args s d K):=⟨callA0 h⟩
theorem kS(h:CallS P f args H M mv KS):CQ f (CallS P f args H M mv KS):=⟨h⟩
end
structure Hd (q:Prop):Prop where
 g:q
theorem wS{p q:Prop}(h:q)(e:Hd q→p:=by (intro hq;(try with_reducible refine Fz.of ?_);refine sF ?_;(repeat' ((first|refine oB ?_|fail)<;>refine sF ?_<;>try with_reducible exact tT));exact hq.g)):p:=e ⟨h⟩
theorem wT{r p q:Prop}(g:r)(h:q)(e:r→Hd q→p:=by (intro hf hq;(try with_reducible refine Fz.of ?_);refine sF ?_;(repeat' ((first|refine oB ?_|fail)<;>refine sF ?_<;>try with_reducible exact tT));exact hq.g)):p:=e g ⟨h⟩
section
variable {P:Program}(f:FuncId){args:List AV}{s:St}{d:Option Nat}{K:St→Prop}
theorem kN(h:CallS P f args [] s.M [] (afterK s d [] K))(e:subH s.hp (reachK s.hp (mentL args))=[]:=by kernel_rfl):CallK P f args s d K:=callA_nil e h
theorem kM(h:CallS P f args [] s.M [] (afterK s d [] K))(e:subH s.hp (reachK s.hp (mentL args))=[]:=by kernel_rfl):CallK0 P f args s d K:=callA0_nil e h
theorem yH(h:CallS P f args (subH s.hp (reachK s.hp (mentL args))) s.M [] (afterK s d (subH s.hp (reachK s.hp (mentL args))) K)):CallK P f args s d K:=callA h
theorem yG(h:CallS P f args (subH s.hp (reachK s.hp (mentL args))) s.M [] (afterK s d (subH s.hp (reachK s.hp (mentL args))) K)):CallK0 P f args s d K:=callA0 h
end
end Go.Proofs.YtiipiciemgdaeaaGreat.Sx
