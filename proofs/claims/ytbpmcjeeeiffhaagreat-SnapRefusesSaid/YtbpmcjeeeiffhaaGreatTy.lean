import Derived.Test.YtbpmcjeeeiffhaaGreatProg
import Derived.Test.YtbpmcjeeeiffhaaGreatK8
import Derived.KernelRfl
namespace Go.Proofs.YtbpmcjeeeiffhaaGreat
open Go.Pk
noncomputable def Ty:Nat→Option TI:=tyOf Tryz.prog [24,38,101]
theorem T1:Ty 1=some ⟨1,8,[.nilFunc], .other,false⟩:=by kernel_rfl
theorem T2:Ty 2=some ⟨1,8,[.int .i64 0], .int .i64,false⟩:=by kernel_rfl
theorem T3:Ty 3=some ⟨1,8,[.int .i64 0], .int .i64,false⟩:=by kernel_rfl
theorem T4:Ty 4=some ⟨1,1,[.bool false], .bool,false⟩:=by kernel_rfl
theorem T5:Ty 5=some ⟨1,1,[.int .u8 0], .int .u8,false⟩:=by kernel_rfl
theorem T6:Ty 6=some ⟨1,1,[.int .u8 0], .int .u8,false⟩:=by kernel_rfl
theorem T7:Ty 7=some ⟨4,24,[.int .i64 0, .int .i64 0, .bool false, .int .u8 0], .struct [(0,2),(1,3),(2,4),(3,6)],false⟩:=by kernel_rfl
theorem T8:Ty 8=some ⟨4,24,[.int .i64 0, .int .i64 0, .bool false, .int .u8 0], .struct [(0,2),(1,3),(2,4),(3,6)],false⟩:=by kernel_rfl
theorem T9:Ty 9=some ⟨1,16,[.string .empty], .string,false⟩:=by kernel_rfl
theorem T10:Ty 10=some ⟨1,16,[.string .empty], .string,false⟩:=by kernel_rfl
theorem T11:Ty 11=some ⟨1,16,[.string .empty], .string,false⟩:=by kernel_rfl
theorem T12:Ty 12=some ⟨1,8,[.int .u64 0], .int .u64,false⟩:=by kernel_rfl
theorem T13:Ty 13=some ⟨2,24,[.string .empty, .int .u64 0], .struct [(0,9),(1,12)],false⟩:=by kernel_rfl
theorem T14:Ty 14=some ⟨2,24,[.string .empty, .int .u64 0], .struct [(0,9),(1,12)],false⟩:=by kernel_rfl
theorem T15:Ty 15=some ⟨1,8,[.pointer none], .pointer 222,false⟩:=by kernel_rfl
theorem T16:Ty 16=some ⟨1,8,[.pointer none], .pointer 225,false⟩:=by kernel_rfl
theorem T17:Ty 17=some ⟨1,8,[.pointer none], .pointer 234,false⟩:=by kernel_rfl
theorem T18:Ty 18=some ⟨1,8,[.pointer none], .struct [(0,17)],false⟩:=by kernel_rfl
theorem T19:Ty 19=some ⟨1,8,[.pointer none], .struct [(0,17)],false⟩:=by kernel_rfl
theorem T20:Ty 20=some ⟨1,16,[.nilIface], .other,false⟩:=by kernel_rfl
theorem T21:Ty 21=some ⟨1,4,[.int .i32 0], .int .i32,false⟩:=by kernel_rfl
theorem T22:Ty 22=some ⟨1,24,[.slice none 0 0], .slice 60,false⟩:=by kernel_rfl
theorem T23:Ty 23=some ⟨2,16,[.int .i64 0, .int .i64 0], .struct [(0,3),(1,3)],false⟩:=by kernel_rfl
theorem T24:Ty 24=some ⟨2,16,[.int .i64 0, .int .i64 0], .struct [(0,3),(1,3)],true⟩:=by kernel_rfl
theorem T25:Ty 25=some ⟨1,24,[.slice none 0 0], .slice 38,false⟩:=by kernel_rfl
theorem T26:Ty 26=some ⟨1,24,[.slice none 0 0], .slice 36,false⟩:=by kernel_rfl
theorem T27:Ty 27=some ⟨1,24,[.slice none 0 0], .slice 78,false⟩:=by kernel_rfl
theorem T28:Ty 28=some ⟨6,96,[.int .i64 0, .int .i64 0, .int .i64 0, .slice none 0 0, .slice none 0 0, .slice none 0 0], .struct [(0,3),(1,3),(2,3),(3,25),(4,26),(5,27)],false⟩:=by kernel_rfl
theorem T29:Ty 29=some ⟨6,96,[.int .i64 0, .int .i64 0, .int .i64 0, .slice none 0 0, .slice none 0 0, .slice none 0 0], .struct [(0,3),(1,3),(2,3),(3,25),(4,26),(5,27)],false⟩:=by kernel_rfl
theorem T30:Ty 30=some ⟨9,120,[.int .i64 0, .int .i64 0, .int .i64 0, .int .i64 0, .int .i64 0, .int .i64 0, .slice none 0 0, .slice none 0 0, .slice none 0 0], .struct [(0,3),(1,24),(3,29)],false⟩:=by kernel_rfl
theorem T31:Ty 31=some ⟨9,120,[.int .i64 0, .int .i64 0, .int .i64 0, .int .i64 0, .int .i64 0, .int .i64 0, .slice none 0 0, .slice none 0 0, .slice none 0 0], .struct [(0,3),(1,24),(3,29)],false⟩:=by kernel_rfl
theorem T32:Ty 32=some ⟨1,8,[.nilFunc], .other,false⟩:=by kernel_rfl
theorem T33:Ty 33=some ⟨1,8,[.nilFunc], .other,false⟩:=by kernel_rfl
theorem T34:Ty 34=some ⟨1,24,[.slice none 0 0], .slice 3,false⟩:=by kernel_rfl
theorem T35:Ty 35=some ⟨4,56,[.string .empty, .int .i64 0, .int .i64 0, .slice none 0 0], .struct [(0,9),(1,3),(2,3),(3,34)],false⟩:=by kernel_rfl
theorem T36:Ty 36=some ⟨4,56,[.string .empty, .int .i64 0, .int .i64 0, .slice none 0 0], .struct [(0,9),(1,3),(2,3),(3,34)],false⟩:=by kernel_rfl
theorem T37:Ty 37=some ⟨3,24,[.int .i64 0, .int .i64 0, .int .i64 0], .struct [(0,3),(1,3),(2,3)],false⟩:=by kernel_rfl
theorem T38:Ty 38=some ⟨3,24,[.int .i64 0, .int .i64 0, .int .i64 0], .struct [(0,3),(1,3),(2,3)],true⟩:=by kernel_rfl
theorem T39:Ty 39=some ⟨1,24,[.slice none 0 0], .slice 5,false⟩:=by kernel_rfl
theorem T40:Ty 40=some ⟨1,8,[.int .i64 0], .int .i64,false⟩:=by kernel_rfl
theorem T42:Ty 42=some ⟨1,8,[.nilFunc], .other,false⟩:=by kernel_rfl
theorem T43:Ty 43=some ⟨1,8,[.nilFunc], .other,false⟩:=by kernel_rfl
theorem T44:Ty 44=some ⟨1,8,[.nilFunc], .other,false⟩:=by kernel_rfl
theorem T45:Ty 45=some ⟨1,8,[.nilFunc], .other,false⟩:=by kernel_rfl
theorem T46:Ty 46=some ⟨1,8,[.nilFunc], .other,false⟩:=by kernel_rfl
theorem T47:Ty 47=some ⟨1,8,[.nilFunc], .other,false⟩:=by kernel_rfl
theorem T49:Ty 49=some ⟨1,8,[.nilFunc], .other,false⟩:=by kernel_rfl
theorem T51:Ty 51=some ⟨1,8,[.nilFunc], .other,false⟩:=by kernel_rfl
theorem T52:Ty 52=some ⟨1,8,[.nilFunc], .other,false⟩:=by kernel_rfl
theorem T53:Ty 53=some ⟨1,8,[.nilFunc], .other,false⟩:=by kernel_rfl
theorem T54:Ty 54=some ⟨1,8,[.nilFunc], .other,false⟩:=by kernel_rfl
theorem T55:Ty 55=some ⟨1,2,[.int .u16 0], .int .u16,false⟩:=by kernel_rfl
theorem T56:Ty 56=some ⟨1,8,[.nilFunc], .other,false⟩:=by kernel_rfl
theorem T57:Ty 57=some ⟨1,8,[.nilFunc], .other,false⟩:=by kernel_rfl
theorem T58:Ty 58=some ⟨1,8,[.nilFunc], .other,false⟩:=by kernel_rfl
theorem T59:Ty 59=some ⟨6,6,[.int .u8 0, .int .u8 0, .int .u8 0, .int .u8 0, .int .u8 0, .int .u8 0], .struct [(0,5),(1,5),(2,5),(3,5),(4,5),(5,5)],false⟩:=by kernel_rfl
theorem T60:Ty 60=some ⟨6,6,[.int .u8 0, .int .u8 0, .int .u8 0, .int .u8 0, .int .u8 0, .int .u8 0], .struct [(0,5),(1,5),(2,5),(3,5),(4,5),(5,5)],false⟩:=by kernel_rfl
theorem T61:Ty 61=some ⟨1,8,[.nilFunc], .other,false⟩:=by kernel_rfl
theorem T62:Ty 62=some ⟨3,32,[.int .i64 0, .int .i64 0, .string .empty], .struct [(0,3),(1,3),(2,9)],false⟩:=by kernel_rfl
theorem T63:Ty 63=some ⟨3,32,[.int .i64 0, .int .i64 0, .string .empty], .struct [(0,3),(1,3),(2,9)],false⟩:=by kernel_rfl
theorem T64:Ty 64=some ⟨5,48,[.int .i64 0, .int .i64 0, .int .i64 0, .int .i64 0, .string .empty], .struct [(0,3),(1,3),(2,63)],false⟩:=by kernel_rfl
theorem T65:Ty 65=some ⟨5,48,[.int .i64 0, .int .i64 0, .int .i64 0, .int .i64 0, .string .empty], .struct [(0,3),(1,3),(2,63)],false⟩:=by kernel_rfl
theorem T66:Ty 66=some ⟨1,8,[.nilFunc], .other,false⟩:=by kernel_rfl
theorem T67:Ty 67=some ⟨1,24,[.slice none 0 0], .slice 101,false⟩:=by kernel_rfl
theorem T68:Ty 68=some ⟨4,48,[.int .i64 0, .int .i64 0, .int .i64 0, .slice none 0 0], .struct [(0,40),(1,3),(2,3),(3,67)],false⟩:=by kernel_rfl
theorem T69:Ty 69=some ⟨4,48,[.int .i64 0, .int .i64 0, .int .i64 0, .slice none 0 0], .struct [(0,40),(1,3),(2,3),(3,67)],false⟩:=by kernel_rfl
theorem T71:Ty 71=some ⟨1,8,[.nilFunc], .other,false⟩:=by kernel_rfl
theorem T72:Ty 72=some ⟨1,8,[.nilFunc], .other,false⟩:=by kernel_rfl
theorem T73:Ty 73=some ⟨1,8,[.nilFunc], .other,false⟩:=by kernel_rfl
theorem T74:Ty 74=some ⟨1,8,[.nilFunc], .other,false⟩:=by kernel_rfl
theorem T75:Ty 75=some ⟨1,8,[.nilFunc], .other,false⟩:=by kernel_rfl
theorem T76:Ty 76=some ⟨3,24,[.int .i64 0, .int .i64 0, .int .i64 0], .array 3 3,false⟩:=by kernel_rfl
theorem T77:Ty 77=some ⟨6,64,[.int .i64 0, .int .i64 0, .int .i64 0, .int .i64 0, .int .i64 0, .slice none 0 0], .struct [(0,3),(1,3),(2,69)],false⟩:=by kernel_rfl
theorem T78:Ty 78=some ⟨6,64,[.int .i64 0, .int .i64 0, .int .i64 0, .int .i64 0, .int .i64 0, .slice none 0 0], .struct [(0,3),(1,3),(2,69)],false⟩:=by kernel_rfl
theorem T79:Ty 79=some ⟨1,8,[.nilFunc], .other,false⟩:=by kernel_rfl
theorem T80:Ty 80=some ⟨1,8,[.nilFunc], .other,false⟩:=by kernel_rfl
theorem T81:Ty 81=some ⟨6,64,[.int .i64 0, .int .i64 0, .int .i64 0, .int .i64 0, .int .i64 0, .slice none 0 0], .struct [(0,3),(1,3),(2,69)],false⟩:=by kernel_rfl
theorem T82:Ty 82=some ⟨1,8,[.int .i64 0], .struct [(0,40)],false⟩:=by kernel_rfl
theorem T83:Ty 83=some ⟨1,8,[.int .i64 0], .struct [(0,40)],false⟩:=by kernel_rfl
theorem T85:Ty 85=some ⟨1,8,[.pointer none], .pointer 87,false⟩:=by kernel_rfl
theorem T86:Ty 86=some ⟨2,32,[.slice none 0 0, .int .i64 0], .struct [(0,39),(1,3)],false⟩:=by kernel_rfl
theorem T87:Ty 87=some ⟨2,32,[.slice none 0 0, .int .i64 0], .struct [(0,39),(1,3)],false⟩:=by kernel_rfl
theorem T88:Ty 88=some ⟨1,8,[.nilFunc], .other,false⟩:=by kernel_rfl
theorem T89:Ty 89=some ⟨1,8,[.pointer none], .pointer 91,false⟩:=by kernel_rfl
theorem T90:Ty 90=some ⟨3,40,[.slice none 0 0, .int .i64 0, .int .i64 0], .struct [(0,39),(1,3),(2,40)],false⟩:=by kernel_rfl
theorem T91:Ty 91=some ⟨3,40,[.slice none 0 0, .int .i64 0, .int .i64 0], .struct [(0,39),(1,3),(2,40)],false⟩:=by kernel_rfl
theorem T92:Ty 92=some ⟨1,8,[.nilFunc], .other,false⟩:=by kernel_rfl
theorem T93:Ty 93=some ⟨1,8,[.nilFunc], .other,false⟩:=by kernel_rfl
theorem T94:Ty 94=some ⟨1,8,[.nilFunc], .other,false⟩:=by kernel_rfl
theorem T95:Ty 95=some ⟨1,8,[.nilFunc], .other,false⟩:=by kernel_rfl
theorem T96:Ty 96=some ⟨1,8,[.nilFunc], .other,false⟩:=by kernel_rfl
theorem T97:Ty 97=some ⟨1,8,[.nilFunc], .other,false⟩:=by kernel_rfl
theorem T98:Ty 98=some ⟨1,8,[.nilFunc], .other,false⟩:=by kernel_rfl
theorem T99:Ty 99=some ⟨1,8,[.nilFunc], .other,false⟩:=by kernel_rfl
theorem T100:Ty 100=some ⟨2,24,[.string .empty, .int .i64 0], .struct [(0,9),(1,3)],false⟩:=by kernel_rfl
theorem T101:Ty 101=some ⟨2,24,[.string .empty, .int .i64 0], .struct [(0,9),(1,3)],true⟩:=by kernel_rfl
theorem T102:Ty 102=some ⟨1,8,[.nilFunc], .other,false⟩:=by kernel_rfl
theorem T103:Ty 103=some ⟨1,8,[.nilFunc], .other,false⟩:=by kernel_rfl
theorem T104:Ty 104=some ⟨1,8,[.nilFunc], .other,false⟩:=by kernel_rfl
theorem T105:Ty 105=some ⟨1,8,[.nilFunc], .other,false⟩:=by kernel_rfl
theorem T106:Ty 106=some ⟨1,8,[.nilFunc], .other,false⟩:=by kernel_rfl
theorem T107:Ty 107=some ⟨1,8,[.nilFunc], .other,false⟩:=by kernel_rfl
theorem T108:Ty 108=some ⟨1,8,[.nilFunc], .other,false⟩:=by kernel_rfl
theorem T110:Ty 110=some ⟨1,8,[.nilFunc], .other,false⟩:=by kernel_rfl
theorem T112:Ty 112=some ⟨1,8,[.nilFunc], .other,false⟩:=by kernel_rfl
theorem T113:Ty 113=some ⟨1,8,[.nilFunc], .other,false⟩:=by kernel_rfl
theorem T114:Ty 114=some ⟨1,8,[.nilFunc], .other,false⟩:=by kernel_rfl
theorem T116:Ty 116=some ⟨1,8,[.nilFunc], .other,false⟩:=by kernel_rfl
theorem T117:Ty 117=some ⟨1,8,[.nilFunc], .other,false⟩:=by kernel_rfl
theorem T118:Ty 118=some ⟨1,24,[.slice none 0 0], .slice 39,false⟩:=by kernel_rfl
theorem T119:Ty 119=some ⟨1,8,[.nilFunc], .other,false⟩:=by kernel_rfl
theorem T120:Ty 120=some ⟨1,8,[.nilFunc], .other,false⟩:=by kernel_rfl
theorem T121:Ty 121=some ⟨1,8,[.nilFunc], .other,false⟩:=by kernel_rfl
theorem T122:Ty 122=some ⟨1,8,[.nilFunc], .other,false⟩:=by kernel_rfl
theorem T123:Ty 123=some ⟨1,8,[.nilFunc], .other,false⟩:=by kernel_rfl
theorem T124:Ty 124=some ⟨1,8,[.nilFunc], .other,false⟩:=by kernel_rfl
theorem T125:Ty 125=some ⟨1,8,[.nilFunc], .other,false⟩:=by kernel_rfl
theorem T126:Ty 126=some ⟨1,8,[.nilFunc], .other,false⟩:=by kernel_rfl
theorem T127:Ty 127=some ⟨1,8,[.nilFunc], .other,false⟩:=by kernel_rfl
theorem T128:Ty 128=some ⟨1,8,[.int .u64 0], .int .u64,false⟩:=by kernel_rfl
theorem T129:Ty 129=some ⟨1,8,[.nilFunc], .other,false⟩:=by kernel_rfl
theorem T130:Ty 130=some ⟨1,8,[.nilFunc], .other,false⟩:=by kernel_rfl
theorem T131:Ty 131=some ⟨1,8,[.nilFunc], .other,false⟩:=by kernel_rfl
theorem T132:Ty 132=some ⟨1,8,[.nilFunc], .other,false⟩:=by kernel_rfl
theorem T134:Ty 134=some ⟨1,8,[.nilFunc], .other,false⟩:=by kernel_rfl
theorem T136:Ty 136=some ⟨1,8,[.nilFunc], .other,false⟩:=by kernel_rfl
theorem T137:Ty 137=some ⟨1,8,[.nilFunc], .other,false⟩:=by kernel_rfl
theorem T138:Ty 138=some ⟨1,8,[.nilFunc], .other,false⟩:=by kernel_rfl
theorem T139:Ty 139=some ⟨1,8,[.nilFunc], .other,false⟩:=by kernel_rfl
theorem T140:Ty 140=some ⟨1,8,[.nilFunc], .other,false⟩:=by kernel_rfl
theorem T141:Ty 141=some ⟨1,8,[.nilFunc], .other,false⟩:=by kernel_rfl
theorem T143:Ty 143=some ⟨1,8,[.nilFunc], .other,false⟩:=by kernel_rfl
theorem T144:Ty 144=some ⟨1,8,[.nilFunc], .other,false⟩:=by kernel_rfl
theorem T145:Ty 145=some ⟨1,8,[.nilFunc], .other,false⟩:=by kernel_rfl
theorem T146:Ty 146=some ⟨1,8,[.nilFunc], .other,false⟩:=by kernel_rfl
theorem T147:Ty 147=some ⟨1,8,[.nilFunc], .other,false⟩:=by kernel_rfl
theorem T148:Ty 148=some ⟨1,8,[.nilFunc], .other,false⟩:=by kernel_rfl
theorem T150:Ty 150=some ⟨1,8,[.nilFunc], .other,false⟩:=by kernel_rfl
theorem T151:Ty 151=some ⟨1,8,[.nilFunc], .other,false⟩:=by kernel_rfl
theorem T153:Ty 153=some ⟨1,8,[.nilFunc], .other,false⟩:=by kernel_rfl
theorem T155:Ty 155=some ⟨1,8,[.nilFunc], .other,false⟩:=by kernel_rfl
theorem T156:Ty 156=some ⟨1,8,[.nilFunc], .other,false⟩:=by kernel_rfl
theorem T157:Ty 157=some ⟨1,8,[.nilFunc], .other,false⟩:=by kernel_rfl
theorem T158:Ty 158=some ⟨1,8,[.nilFunc], .other,false⟩:=by kernel_rfl
theorem T159:Ty 159=some ⟨1,8,[.nilFunc], .other,false⟩:=by kernel_rfl
theorem T160:Ty 160=some ⟨1,8,[.nilFunc], .other,false⟩:=by kernel_rfl
theorem T161:Ty 161=some ⟨1,8,[.nilFunc], .other,false⟩:=by kernel_rfl
theorem T162:Ty 162=some ⟨1,8,[.nilFunc], .other,false⟩:=by kernel_rfl
theorem T163:Ty 163=some ⟨1,8,[.nilFunc], .other,false⟩:=by kernel_rfl
theorem T164:Ty 164=some ⟨1,8,[.nilFunc], .other,false⟩:=by kernel_rfl
theorem T166:Ty 166=some ⟨1,8,[.nilFunc], .other,false⟩:=by kernel_rfl
theorem T168:Ty 168=some ⟨1,8,[.nilFunc], .other,false⟩:=by kernel_rfl
theorem T169:Ty 169=some ⟨1,8,[.int .i64 0], .struct [(0,40)],false⟩:=by kernel_rfl
theorem T170:Ty 170=some ⟨1,8,[.int .i64 0], .struct [(0,40)],false⟩:=by kernel_rfl
theorem T172:Ty 172=some ⟨2,32,[.slice none 0 0, .int .i64 0], .struct [(0,39),(1,3)],false⟩:=by kernel_rfl
theorem T173:Ty 173=some ⟨2,32,[.slice none 0 0, .int .i64 0], .struct [(0,39),(1,3)],false⟩:=by kernel_rfl
theorem T174:Ty 174=some ⟨1,8,[.int .u64 0], .int .u64,false⟩:=by kernel_rfl
theorem T175:Ty 175=some ⟨1,8,[.nilFunc], .other,false⟩:=by kernel_rfl
theorem T176:Ty 176=some ⟨1,8,[.nilFunc], .other,false⟩:=by kernel_rfl
theorem T177:Ty 177=some ⟨1,8,[.nilFunc], .other,false⟩:=by kernel_rfl
theorem T178:Ty 178=some ⟨1,8,[.nilFunc], .other,false⟩:=by kernel_rfl
theorem T179:Ty 179=some ⟨1,8,[.nilFunc], .other,false⟩:=by kernel_rfl
theorem T180:Ty 180=some ⟨1,8,[.nilFunc], .other,false⟩:=by kernel_rfl
theorem T181:Ty 181=some ⟨1,8,[.nilFunc], .other,false⟩:=by kernel_rfl
theorem T182:Ty 182=some ⟨1,8,[.nilFunc], .other,false⟩:=by kernel_rfl
theorem T183:Ty 183=some ⟨1,8,[.nilFunc], .other,false⟩:=by kernel_rfl
theorem T184:Ty 184=some ⟨1,8,[.nilFunc], .other,false⟩:=by kernel_rfl
theorem T185:Ty 185=some ⟨1,8,[.nilFunc], .other,false⟩:=by kernel_rfl
theorem T186:Ty 186=some ⟨1,8,[.nilFunc], .other,false⟩:=by kernel_rfl
theorem T187:Ty 187=some ⟨1,8,[.nilFunc], .other,false⟩:=by kernel_rfl
theorem T188:Ty 188=some ⟨1,8,[.nilFunc], .other,false⟩:=by kernel_rfl
theorem T189:Ty 189=some ⟨1,8,[.nilFunc], .other,false⟩:=by kernel_rfl
theorem T190:Ty 190=some ⟨1,8,[.nilFunc], .other,false⟩:=by kernel_rfl
theorem T192:Ty 192=some ⟨1,8,[.nilFunc], .other,false⟩:=by kernel_rfl
theorem T194:Ty 194=some ⟨1,8,[.nilFunc], .other,false⟩:=by kernel_rfl
theorem T195:Ty 195=some ⟨1,8,[.nilFunc], .other,false⟩:=by kernel_rfl
theorem T196:Ty 196=some ⟨1,8,[.nilFunc], .other,false⟩:=by kernel_rfl
theorem T197:Ty 197=some ⟨1,8,[.nilFunc], .other,false⟩:=by kernel_rfl
theorem T198:Ty 198=some ⟨1,8,[.pointer none], .pointer 173,false⟩:=by kernel_rfl
theorem T199:Ty 199=some ⟨1,8,[.nilFunc], .other,false⟩:=by kernel_rfl
theorem T200:Ty 200=some ⟨1,8,[.nilFunc], .other,false⟩:=by kernel_rfl
theorem T201:Ty 201=some ⟨1,8,[.nilFunc], .other,false⟩:=by kernel_rfl
theorem T203:Ty 203=some ⟨1,8,[.nilFunc], .other,false⟩:=by kernel_rfl
theorem T204:Ty 204=some ⟨1,8,[.nilFunc], .other,false⟩:=by kernel_rfl
theorem T205:Ty 205=some ⟨1,24,[.slice none 0 0], .slice 9,false⟩:=by kernel_rfl
theorem T206:Ty 206=some ⟨1,8,[.nilFunc], .other,false⟩:=by kernel_rfl
theorem T207:Ty 207=some ⟨1,8,[.nilFunc], .other,false⟩:=by kernel_rfl
theorem T208:Ty 208=some ⟨1,8,[.nilFunc], .other,false⟩:=by kernel_rfl
theorem T209:Ty 209=some ⟨1,8,[.nilFunc], .other,false⟩:=by kernel_rfl
theorem T210:Ty 210=some ⟨1,8,[.nilFunc], .other,false⟩:=by kernel_rfl
theorem T211:Ty 211=some ⟨1,8,[.nilFunc], .other,false⟩:=by kernel_rfl
theorem T212:Ty 212=some ⟨1,8,[.nilFunc], .other,false⟩:=by kernel_rfl
theorem T213:Ty 213=some ⟨1,8,[.nilFunc], .other,false⟩:=by kernel_rfl
theorem T215:Ty 215=some ⟨1,8,[.nilFunc], .other,false⟩:=by kernel_rfl
theorem T216:Ty 216=some ⟨1,8,[.nilFunc], .other,false⟩:=by kernel_rfl
theorem T217:Ty 217=some ⟨1,8,[.nilFunc], .other,false⟩:=by kernel_rfl
theorem T218:Ty 218=some ⟨1,8,[.nilFunc], .other,false⟩:=by kernel_rfl
theorem T219:Ty 219=some ⟨1,8,[.nilFunc], .other,false⟩:=by kernel_rfl
theorem T220:Ty 220=some ⟨1,8,[.nilFunc], .other,false⟩:=by kernel_rfl
theorem T221:Ty 221=some ⟨4,40,[.pointer none, .pointer none, .pointer none, .string .empty], .struct [(0,17),(1,17),(2,17),(3,9)],false⟩:=by kernel_rfl
theorem T222:Ty 222=some ⟨4,40,[.pointer none, .pointer none, .pointer none, .string .empty], .struct [(0,17),(1,17),(2,17),(3,9)],false⟩:=by kernel_rfl
theorem T223:Ty 223=some ⟨0,0,[], .array 0 16,false⟩:=by kernel_rfl
theorem T224:Ty 224=some ⟨0,0,[], .struct [(0,223)],false⟩:=by kernel_rfl
theorem T225:Ty 225=some ⟨0,0,[], .struct [(0,223)],false⟩:=by kernel_rfl
theorem T226:Ty 226=some ⟨1,4,[.int .u32 0], .int .u32,false⟩:=by kernel_rfl
theorem T227:Ty 227=some ⟨1,1,[.int .u8 0], .int .u8,false⟩:=by kernel_rfl
theorem T228:Ty 228=some ⟨1,1,[.int .u8 0], .int .u8,false⟩:=by kernel_rfl
theorem T229:Ty 229=some ⟨1,8,[.nilFunc], .other,false⟩:=by kernel_rfl
theorem T230:Ty 230=some ⟨1,8,[.pointer none], .pointer 5,false⟩:=by kernel_rfl
theorem T231:Ty 231=some ⟨1,4,[.int .i32 0], .int .i32,false⟩:=by kernel_rfl
theorem T232:Ty 232=some ⟨1,4,[.int .i32 0], .int .i32,false⟩:=by kernel_rfl
theorem T233:Ty 233=some ⟨11,48,[.int .u64 0, .int .u64 0, .int .u32 0, .int .u8 0, .int .u8 0, .int .u8 0, .int .u8 0, .nilFunc, .pointer none, .int .i32 0, .int .i32 0], .struct [(0,12),(1,12),(2,226),(3,227),(4,5),(5,5),(6,228),(7,229),(8,230),(9,231),(10,232)],false⟩:=by kernel_rfl
theorem T234:Ty 234=some ⟨11,48,[.int .u64 0, .int .u64 0, .int .u32 0, .int .u8 0, .int .u8 0, .int .u8 0, .int .u8 0, .nilFunc, .pointer none, .int .i32 0, .int .i32 0], .struct [(0,12),(1,12),(2,226),(3,227),(4,5),(5,5),(6,228),(7,229),(8,230),(9,231),(10,232)],false⟩:=by kernel_rfl
theorem T235:Ty 235=some ⟨1,8,[.pointer none], .other,false⟩:=by kernel_rfl
theorem TyB:(type_of% T1)∧(type_of% T2)∧(type_of% T3)∧(type_of% T4)∧(type_of% T5)∧(type_of% T6)∧(type_of% T7)∧(type_of% T8)∧(type_of% T9)∧(type_of% T10)∧(type_of% T11)∧(type_of% T12)∧(type_of% T13)∧(type_of% T14)∧(type_of% T15)∧(type_of% T16)∧(type_of% T17)∧(type_of% T18)∧(type_of% T19)∧(type_of% T20)∧(type_of% T21)∧(type_of% T22)∧(type_of% T23)∧(type_of% T24)∧(type_of% T25)∧(type_of% T26)∧(type_of% T27)∧(type_of% T28)∧(type_of% T29)∧(type_of% T30)∧(type_of% T31)∧(type_of% T32)∧(type_of% T33)∧(type_of% T34)∧(type_of% T35)∧(type_of% T36)∧(type_of% T37)∧(type_of% T38)∧(type_of% T39)∧(type_of% T40)∧(type_of% T42)∧(type_of% T43)∧(type_of% T44)∧(type_of% T45)∧(type_of% T46)∧(type_of% T47)∧(type_of% T49)∧(type_of% T51)∧(type_of% T52)∧(type_of% T53)∧(type_of% T54)∧(type_of% T55)∧(type_of% T56)∧(type_of% T57)∧(type_of% T58)∧(type_of% T59)∧(type_of% T60)∧(type_of% T61)∧(type_of% T62)∧(type_of% T63)∧(type_of% T64)∧(type_of% T65)∧(type_of% T66)∧(type_of% T67)∧(type_of% T68)∧(type_of% T69)∧(type_of% T71)∧(type_of% T72)∧(type_of% T73)∧(type_of% T74)∧(type_of% T75)∧(type_of% T76)∧(type_of% T77)∧(type_of% T78)∧(type_of% T79)∧(type_of% T80)∧(type_of% T81)∧(type_of% T82)∧(type_of% T83)∧(type_of% T85)∧(type_of% T86)∧(type_of% T87)∧(type_of% T88)∧(type_of% T89)∧(type_of% T90)∧(type_of% T91)∧(type_of% T92)∧(type_of% T93)∧(type_of% T94)∧(type_of% T95)∧(type_of% T96)∧(type_of% T97)∧(type_of% T98)∧(type_of% T99)∧(type_of% T100)∧(type_of% T101)∧(type_of% T102)∧(type_of% T103)∧(type_of% T104)∧(type_of% T105)∧(type_of% T106)∧(type_of% T107)∧(type_of% T108)∧(type_of% T110)∧(type_of% T112)∧(type_of% T113)∧(type_of% T114)∧(type_of% T116)∧(type_of% T117)∧(type_of% T118)∧(type_of% T119)∧(type_of% T120)∧(type_of% T121)∧(type_of% T122)∧(type_of% T123)∧(type_of% T124)∧(type_of% T125)∧(type_of% T126)∧(type_of% T127)∧(type_of% T128)∧(type_of% T129)∧(type_of% T130)∧(type_of% T131)∧(type_of% T132)∧(type_of% T134)∧(type_of% T136)∧(type_of% T137)∧(type_of% T138)∧(type_of% T139)∧(type_of% T140)∧(type_of% T141)∧(type_of% T143)∧(type_of% T144)∧(type_of% T145)∧(type_of% T146)∧(type_of% T147)∧(type_of% T148)∧(type_of% T150)∧(type_of% T151)∧(type_of% T153)∧(type_of% T155)∧(type_of% T156)∧(type_of% T157)∧(type_of% T158)∧(type_of% T159)∧(type_of% T160)∧(type_of% T161)∧(type_of% T162)∧(type_of% T163)∧(type_of% T164)∧(type_of% T166)∧(type_of% T168)∧(type_of% T169)∧(type_of% T170)∧(type_of% T172)∧(type_of% T173)∧(type_of% T174)∧(type_of% T175)∧(type_of% T176)∧(type_of% T177)∧(type_of% T178)∧(type_of% T179)∧(type_of% T180)∧(type_of% T181)∧(type_of% T182)∧(type_of% T183)∧(type_of% T184)∧(type_of% T185)∧(type_of% T186)∧(type_of% T187)∧(type_of% T188)∧(type_of% T189)∧(type_of% T190)∧(type_of% T192)∧(type_of% T194)∧(type_of% T195)∧(type_of% T196)∧(type_of% T197)∧(type_of% T198)∧(type_of% T199)∧(type_of% T200)∧(type_of% T201)∧(type_of% T203)∧(type_of% T204)∧(type_of% T205)∧(type_of% T206)∧(type_of% T207)∧(type_of% T208)∧(type_of% T209)∧(type_of% T210)∧(type_of% T211)∧(type_of% T212)∧(type_of% T213)∧(type_of% T215)∧(type_of% T216)∧(type_of% T217)∧(type_of% T218)∧(type_of% T219)∧(type_of% T220)∧(type_of% T221)∧(type_of% T222)∧(type_of% T223)∧(type_of% T224)∧(type_of% T225)∧(type_of% T226)∧(type_of% T227)∧(type_of% T228)∧(type_of% T229)∧(type_of% T230)∧(type_of% T231)∧(type_of% T232)∧(type_of% T233)∧(type_of% T234)∧type_of% T235:=⟨T1,⟨T2,⟨T3,⟨T4,⟨T5,⟨T6,⟨T7,⟨T8,⟨T9,⟨T10,⟨T11,⟨T12,⟨T13,⟨T14,⟨T15,⟨T16,⟨T17,⟨T18,⟨T19,⟨T20,⟨T21,⟨T22,⟨T23,⟨T24,⟨T25,⟨T26,⟨T27,⟨T28,⟨T29,⟨T30,⟨T31,⟨T32,⟨T33,⟨T34,⟨T35,⟨T36,⟨T37,⟨T38,⟨T39,⟨T40,⟨T42,⟨T43,⟨T44,⟨T45,⟨T46,⟨T47,⟨T49,⟨T51,⟨T52,⟨T53,⟨T54,⟨T55,⟨T56,⟨T57,⟨T58,⟨T59,⟨T60,⟨T61,⟨T62,⟨T63,⟨T64,⟨T65,⟨T66,⟨T67,⟨T68,⟨T69,⟨T71,⟨T72,⟨T73,⟨T74,⟨T75,⟨T76,⟨T77,⟨T78,⟨T79,⟨T80,⟨T81,⟨T82,⟨T83,⟨T85,⟨T86,⟨T87,⟨T88,⟨T89,⟨T90,⟨T91,⟨T92,⟨T93,⟨T94,⟨T95,⟨T96,⟨T97,⟨T98,⟨T99,⟨T100,⟨T101,⟨T102,⟨T103,⟨T104,⟨T105,⟨T106,⟨T107,⟨T108,⟨T110,⟨T112,⟨T113,⟨T114,⟨T116,⟨T117,⟨T118,⟨T119,⟨T120,⟨T121,⟨T122,⟨T123,⟨T124,⟨T125,⟨T126,⟨T127,⟨T128,⟨T129,⟨T130,⟨T131,⟨T132,⟨T134,⟨T136,⟨T137,⟨T138,⟨T139,⟨T140,⟨T141,⟨T143,⟨T144,⟨T145,⟨T146,⟨T147,⟨T148,⟨T150,⟨T151,⟨T153,⟨T155,⟨T156,⟨T157,⟨T158,⟨T159,⟨T160,⟨T161,⟨T162,⟨T163,⟨T164,⟨T166,⟨T168,⟨T169,⟨T170,⟨T172,⟨T173,⟨T174,⟨T175,⟨T176,⟨T177,⟨T178,⟨T179,⟨T180,⟨T181,⟨T182,⟨T183,⟨T184,⟨T185,⟨T186,⟨T187,⟨T188,⟨T189,⟨T190,⟨T192,⟨T194,⟨T195,⟨T196,⟨T197,⟨T198,⟨T199,⟨T200,⟨T201,⟨T203,⟨T204,⟨T205,⟨T206,⟨T207,⟨T208,⟨T209,⟨T210,⟨T211,⟨T212,⟨T213,⟨T215,⟨T216,⟨T217,⟨T218,⟨T219,⟨T220,⟨T221,⟨T222,⟨T223,⟨T224,⟨T225,⟨T226,⟨T227,⟨T228,⟨T229,⟨T230,⟨T231,⟨T232,⟨T233,⟨T234,T235⟩⟩⟩⟩⟩⟩⟩⟩⟩⟩⟩⟩⟩⟩⟩⟩⟩⟩⟩⟩⟩⟩⟩⟩⟩⟩⟩⟩⟩⟩⟩⟩⟩⟩⟩⟩⟩⟩⟩⟩⟩⟩⟩⟩⟩⟩⟩⟩⟩⟩⟩⟩⟩⟩⟩⟩⟩⟩⟩⟩⟩⟩⟩⟩⟩⟩⟩⟩⟩⟩⟩⟩⟩⟩⟩⟩⟩⟩⟩⟩⟩⟩⟩⟩⟩⟩⟩⟩⟩⟩⟩⟩⟩⟩⟩⟩⟩⟩⟩⟩⟩⟩⟩⟩⟩⟩⟩⟩⟩⟩⟩⟩⟩⟩⟩⟩⟩⟩⟩⟩⟩⟩⟩⟩⟩⟩⟩⟩⟩⟩⟩⟩⟩⟩⟩⟩⟩⟩⟩⟩⟩⟩⟩⟩⟩⟩⟩⟩⟩⟩⟩⟩⟩⟩⟩⟩⟩⟩⟩⟩⟩⟩⟩⟩⟩⟩⟩⟩⟩⟩⟩⟩⟩⟩⟩⟩⟩⟩⟩⟩⟩⟩⟩⟩⟩⟩⟩⟩⟩⟩⟩⟩⟩⟩⟩⟩⟩⟩⟩⟩⟩⟩⟩⟩⟩⟩⟩⟩⟩⟩⟩⟩⟩
open Go.Pk
theorem zB:type_of% (I pkS (I TyB (I implies_true.{0} (I implies_true.{1} (I @forall_const.{0} @forall_const.{1}))))):=I pkS (I TyB (I implies_true.{0} (I implies_true.{1} (I @forall_const.{0} @forall_const.{1}))))
theorem zY:type_of% (I zB (I pkY @bne_self_eq_false.{0})):=I zB (I pkY @bne_self_eq_false.{0})
theorem zq {R p q:Prop} (r:R) (h:q) (k:R→Wr q→p:=by(intro r z;first|(with_reducible first|refine zad _ _ ?_|refine zaE ?_|refine zaF ?_|refine zaY ?_|refine zaa ?_)|rw[zaB]|simp only[r,zY,Int.reduceEq,Int.reduceBEq,Int.reduceBNe,Nat.reduceSub,Nat.reduceEqDiff,Nat.reduceAdd,Nat.reduceMul,Nat.reduceLeDiff,Nat.reduceLT,Nat.reduceBEq,reduceCtorEq]|(with_reducible refine And.intro ?_ ?_;exact zI)|fail);exact z.h):p:=k r ⟨h⟩
theorem zq0 {p q:Prop} (h:q) (k:Wr q→p:=by(intro z;first|(with_reducible first|refine zad _ _ ?_|refine zaE ?_|refine zaF ?_|refine zaY ?_|refine zaa ?_)|rw[zaB]|simp only[zY,Int.reduceEq,Int.reduceBEq,Int.reduceBNe,Nat.reduceSub,Nat.reduceEqDiff,Nat.reduceAdd,Nat.reduceMul,Nat.reduceLeDiff,Nat.reduceLT,Nat.reduceBEq,reduceCtorEq]|(with_reducible refine And.intro ?_ ?_;exact zI)|fail);exact z.h):p:=k ⟨h⟩
theorem zu {R p q:Prop} (r:R) (h:q) (k:R→Wr q→p:=by(intro r z;first|(with_reducible first|refine zaE ?_|refine zaF ?_|refine zaY ?_|refine zaa ?_)|rw[zaB]|simp only[r,zY,Int.reduceEq,Int.reduceBEq,Int.reduceBNe,Nat.reduceSub,Nat.reduceEqDiff,Nat.reduceAdd,Nat.reduceMul,Nat.reduceLeDiff,Nat.reduceLT,Nat.reduceBEq,reduceCtorEq]|(with_reducible refine And.intro ?_ ?_;exact zI)|fail);exact z.h):p:=k r ⟨h⟩
theorem zu0 {p q:Prop} (h:q) (k:Wr q→p:=by(intro z;first|(with_reducible first|refine zaE ?_|refine zaF ?_|refine zaY ?_|refine zaa ?_)|rw[zaB]|simp only[zY,Int.reduceEq,Int.reduceBEq,Int.reduceBNe,Nat.reduceSub,Nat.reduceEqDiff,Nat.reduceAdd,Nat.reduceMul,Nat.reduceLeDiff,Nat.reduceLT,Nat.reduceBEq,reduceCtorEq]|(with_reducible refine And.intro ?_ ?_;exact zI)|fail);exact z.h):p:=k ⟨h⟩
theorem zd {R p:Prop} (r:R) (k:R→p:=by(intro r;first|(simp only[r,zY,Int.reduceEq,Int.reduceBEq,Int.reduceBNe,Nat.reduceSub,Nat.reduceEqDiff,Nat.reduceAdd,Nat.reduceMul,Nat.reduceLeDiff,Nat.reduceLT,Nat.reduceBEq,reduceCtorEq];done)|fail)):p:=k r
theorem zd0 {p:Prop} (k:p:=by(first|(simp only[zY,Int.reduceEq,Int.reduceBEq,Int.reduceBNe,Nat.reduceSub,Nat.reduceEqDiff,Nat.reduceAdd,Nat.reduceMul,Nat.reduceLeDiff,Nat.reduceLT,Nat.reduceBEq,reduceCtorEq];done)|fail)):p:=k
theorem zw {p q:Prop} (h:q) (k:q→p:=by intro z;(repeat(first|with_reducible refine zad _ _ ?_|with_reducible refine And.imp_right (zad _ _) ?_|with_reducible refine And.imp_right (And.imp_right (zad _ _)) ?_|with_reducible refine And.imp_right (And.imp_right (And.imp_right (zad _ _))) ?_|rw[zaB]|simp only[zB,Nat.reduceSub,Nat.reduceEqDiff,Nat.reduceAdd,Nat.reduceMul,Nat.reduceLeDiff,Nat.reduceLT,Nat.reduceBEq,reduceCtorEq]));exact z):p:=k h
end Go.Proofs.YtbpmcjeeeiffhaaGreat
