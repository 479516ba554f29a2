import Derived.Test.YtbpmcjeeeiffhaaGreatProg
import Derived.Test.YtbpmcjeeeiffhaaGreatK9
import Derived.KernelRfl
namespace Go.Proofs.YtbpmcjeeeiffhaaGreat
open Go.Pk
noncomputable def Ty:Nat→Option TI:=zuT Tryz.prog [24,38,101]
theorem T1:Ty 1=some ⟨1,8,[.nilFunc], .other,false⟩:=by kernel_rfl
theorem T2:Ty 2=some ⟨1,8,[.int .i64 0], .int .i64,false⟩:=by kernel_rfl
theorem T3:Ty 3=some ⟨1,8,[.int .i64 0], .int .i64,false⟩:=by kernel_rfl
theorem T4:Ty 4=some ⟨1,1,[.bool false], .bool,false⟩:=by kernel_rfl
theorem T5:Ty 5=some ⟨1,1,[.int .u8 0], .int .u8,false⟩:=by kernel_rfl
theorem T6:Ty 6=some ⟨1,1,[.int .u8 0], .int .u8,false⟩:=by kernel_rfl
theorem T7:Ty 7=some ⟨4,24,[.int .i64 0, .int .i64 0, .bool false, .int .u8 0], .struct [(0,2),(1,3),(2,4),(3,6)],false⟩:=by kernel_rfl
theorem T8:Ty 8=some ⟨4,24,[.int .i64 0, .int .i64 0, .bool false, .int .u8 0], .struct [(0,2),(1,3),(2,4),(3,6)],false⟩:=by kernel_rfl
theorem T9:Ty 9=some ⟨1,16,[.string .empty], .string,false⟩:=by kernel_rfl
theorem T10:Ty 10=some ⟨1,16,[.string .empty], .string,false⟩:=by kernel_rfl
theorem T11:Ty 11=some ⟨1,16,[.string .empty], .string,false⟩:=by kernel_rfl
theorem T12:Ty 12=some ⟨1,8,[.int .u64 0], .int .u64,false⟩:=by kernel_rfl
theorem T13:Ty 13=some ⟨2,24,[.string .empty, .int .u64 0], .struct [(0,9),(1,12)],false⟩:=by kernel_rfl
theorem T14:Ty 14=some ⟨2,24,[.string .empty, .int .u64 0], .struct [(0,9),(1,12)],false⟩:=by kernel_rfl
theorem T15:Ty 15=some ⟨1,8,[.pointer none], .pointer 222,false⟩:=by kernel_rfl
theorem T16:Ty 16=some ⟨1,8,[.pointer none], .pointer 225,false⟩:=by kernel_rfl
theorem T17:Ty 17=some ⟨1,8,[.pointer none], .pointer 234,false⟩:=by kernel_rfl
theorem T18:Ty 18=some ⟨1,8,[.pointer none], .struct [(0,17)],false⟩:=by kernel_rfl
theorem T19:Ty 19=some ⟨1,8,[.pointer none], .struct [(0,17)],false⟩:=by kernel_rfl
theorem T20:Ty 20=some ⟨1,16,[.nilIface], .other,false⟩:=by kernel_rfl
theorem T21:Ty 21=some ⟨1,4,[.int .i32 0], .int .i32,false⟩:=by kernel_rfl
theorem T22:Ty 22=some ⟨1,24,[.slice none 0 0], .slice 60,false⟩:=by kernel_rfl
theorem T23:Ty 23=some ⟨2,16,[.int .i64 0, .int .i64 0], .struct [(0,3),(1,3)],false⟩:=by kernel_rfl
theorem T24:Ty 24=some ⟨2,16,[.int .i64 0, .int .i64 0], .struct [(0,3),(1,3)],true⟩:=by kernel_rfl
theorem T25:Ty 25=some ⟨1,24,[.slice none 0 0], .slice 38,false⟩:=by kernel_rfl
theorem T26:Ty 26=some ⟨1,24,[.slice none 0 0], .slice 36,false⟩:=by kernel_rfl
theorem T27:Ty 27=some ⟨1,24,[.slice none 0 0], .slice 78,false⟩:=by kernel_rfl
theorem T28:Ty 28=some ⟨6,96,[.int .i64 0, .int .i64 0, .int .i64 0, .slice none 0 0, .slice none 0 0, .slice none 0 0], .struct [(0,3),(1,3),(2,3),(3,25),(4,26),(5,27)],false⟩:=by kernel_rfl
theorem T29:Ty 29=some ⟨6,96,[.int .i64 0, .int .i64 0, .int .i64 0, .slice none 0 0, .slice none 0 0, .slice none 0 0], .struct [(0,3),(1,3),(2,3),(3,25),(4,26),(5,27)],false⟩:=by kernel_rfl
theorem T30:Ty 30=some ⟨9,120,[.int .i64 0, .int .i64 0, .int .i64 0, .int .i64 0, .int .i64 0, .int .i64 0, .slice none 0 0, .slice none 0 0, .slice none 0 0], .struct [(0,3),(1,24),(3,29)],false⟩:=by kernel_rfl
theorem T31:Ty 31=some ⟨9,120,[.int .i64 0, .int .i64 0, .int .i64 0, .int .i64 0, .int .i64 0, .int .i64 0, .slice none 0 0, .slice none 0 0, .slice none 0 0], .struct [(0,3),(1,24),(3,29)],false⟩:=by kernel_rfl
theorem T32:Ty 32=some ⟨1,8,[.nilFunc], .other,false⟩:=by kernel_rfl
theorem T33:Ty 33=some ⟨1,8,[.nilFunc], .other,false⟩:=by kernel_rfl
theorem T34:Ty 34=some ⟨1,24,[.slice none 0 0], .slice 3,false⟩:=by kernel_rfl
theorem T35:Ty 35=some ⟨4,56,[.string .empty, .int .i64 0, .int .i64 0, .slice none 0 0], .struct [(0,9),(1,3),(2,3),(3,34)],false⟩:=by kernel_rfl
theorem T36:Ty 36=some ⟨4,56,[.string .empty, .int .i64 0, .int .i64 0, .slice none 0 0], .struct [(0,9),(1,3),(2,3),(3,34)],false⟩:=by kernel_rfl
theorem T37:Ty 37=some ⟨3,24,[.int .i64 0, .int .i64 0, .int .i64 0], .struct [(0,3),(1,3),(2,3)],false⟩:=by kernel_rfl
theorem T38:Ty 38=some ⟨3,24,[.int .i64 0, .int .i64 0, .int .i64 0], .struct [(0,3),(1,3),(2,3)],true⟩:=by kernel_rfl
theorem T39:Ty 39=some ⟨1,24,[.slice none 0 0], .slice 5,false⟩:=by kernel_rfl
theorem T40:Ty 40=some ⟨1,8,[.int .i64 0], .int .i64,false⟩:=by kernel_rfl
theorem T42:Ty 42=some ⟨1,8,[.nilFunc], .other,false⟩:=by kernel_rfl
theorem T43:Ty 43=some ⟨1,8,[.nilFunc], .other,false⟩:=by kernel_rfl
theorem T44:Ty 44=some ⟨1,8,[.nilFunc], .other,false⟩:=by kernel_rfl
theorem T45:Ty 45=some ⟨1,8,[.nilFunc], .other,false⟩:=by kernel_rfl
theorem T46:Ty 46=some ⟨1,8,[.nilFunc], .other,false⟩:=by kernel_rfl
theorem T47:Ty 47=some ⟨1,8,[.nilFunc], .other,false⟩:=by kernel_rfl
theorem T49:Ty 49=some ⟨1,8,[.nilFunc], .other,false⟩:=by kernel_rfl
theorem T51:Ty 51=some ⟨1,8,[.nilFunc], .other,false⟩:=by kernel_rfl
theorem T52:Ty 52=some ⟨1,8,[.nilFunc], .other,false⟩:=by kernel_rfl
theorem T53:Ty 53=some ⟨1,8,[.nilFunc], .other,false⟩:=by kernel_rfl
theorem T54:Ty 54=some ⟨1,8,[.nilFunc], .other,false⟩:=by kernel_rfl
theorem T55:Ty 55=some ⟨1,2,[.int .u16 0], .int .u16,false⟩:=by kernel_rfl
theorem T56:Ty 56=some ⟨1,8,[.nilFunc], .other,false⟩:=by kernel_rfl
theorem T57:Ty 57=some ⟨1,8,[.nilFunc], .other,false⟩:=by kernel_rfl
theorem T58:Ty 58=some ⟨1,8,[.nilFunc], .other,false⟩:=by kernel_rfl
theorem T59:Ty 59=some ⟨6,6,[.int .u8 0, .int .u8 0, .int .u8 0, .int .u8 0, .int .u8 0, .int .u8 0], .struct [(0,5),(1,5),(2,5),(3,5),(4,5),(5,5)],false⟩:=by kernel_rfl
theorem T60:Ty 60=some ⟨6,6,[.int .u8 0, .int .u8 0, .int .u8 0, .int .u8 0, .int .u8 0, .int .u8 0], .struct [(0,5),(1,5),(2,5),(3,5),(4,5),(5,5)],false⟩:=by kernel_rfl
theorem T61:Ty 61=some ⟨1,8,[.nilFunc], .other,false⟩:=by kernel_rfl
theorem T62:Ty 62=some ⟨3,32,[.int .i64 0, .int .i64 0, .string .empty], .struct [(0,3),(1,3),(2,9)],false⟩:=by kernel_rfl
theorem T63:Ty 63=some ⟨3,32,[.int .i64 0, .int .i64 0, .string .empty], .struct [(0,3),(1,3),(2,9)],false⟩:=by kernel_rfl
theorem T64:Ty 64=some ⟨5,48,[.int .i64 0, .int .i64 0, .int .i64 0, .int .i64 0, .string .empty], .struct [(0,3),(1,3),(2,63)],false⟩:=by kernel_rfl
theorem T65:Ty 65=some ⟨5,48,[.int .i64 0, .int .i64 0, .int .i64 0, .int .i64 0, .string .empty], .struct [(0,3),(1,3),(2,63)],false⟩:=by kernel_rfl
theorem T66:Ty 66=some ⟨1,8,[.nilFunc], .other,false⟩:=by kernel_rfl
theorem T67:Ty 67=some ⟨1,24,[.slice none 0 0], .slice 101,false⟩:=by kernel_rfl
theorem T68:Ty 68=some ⟨4,48,[.int .i64 0, .int .i64 0, .int .i64 0, .slice none 0 0], .struct [(0,40),(1,3),(2,3),(3,67)],false⟩:=by kernel_rfl
theorem T69:Ty 69=some ⟨4,48,[.int .i64 0, .int .i64 0, .int .i64 0, .slice none 0 0], .struct [(0,40),(1,3),(2,3),(3,67)],false⟩:=by kernel_rfl
theorem T71:Ty 71=some ⟨1,8,[.nilFunc], .other,false⟩:=by kernel_rfl
theorem T72:Ty 72=some ⟨1,8,[.nilFunc], .other,false⟩:=by kernel_rfl
theorem T73:Ty 73=some ⟨1,8,[.nilFunc], .other,false⟩:=by kernel_rfl
theorem T74:Ty 74=some ⟨1,8,[.nilFunc], .other,false⟩:=by kernel_rfl
theorem T75:Ty 75=some ⟨1,8,[.nilFunc], .other,false⟩:=by kernel_rfl
theorem T76:Ty 76=some ⟨3,24,[.int .i64 0, .int .i64 0, .int .i64 0], .array 3 3,false⟩:=by kernel_rfl
theorem T77:Ty 77=some ⟨6,64,[.int .i64 0, .int .i64 0, .int .i64 0, .int .i64 0, .int .i64 0, .slice none 0 0], .struct [(0,3),(1,3),(2,69)],false⟩:=by kernel_rfl
theorem T78:Ty 78=some ⟨6,64,[.int .i64 0, .int .i64 0, .int .i64 0, .int .i64 0, .int .i64 0, .slice none 0 0], .struct [(0,3),(1,3),(2,69)],false⟩:=by kernel_rfl
theorem T79:Ty 79=some ⟨1,8,[.nilFunc], .other,false⟩:=by kernel_rfl
theorem T80:Ty 80=some ⟨1,8,[.nilFunc], .other,false⟩:=by kernel_rfl
theorem T81:Ty 81=some ⟨6,64,[.int .i64 0, .int .i64 0, .int .i64 0, .int .i64 0, .int .i64 0, .slice none 0 0], .struct [(0,3),(1,3),(2,69)],false⟩:=by kernel_rfl
theorem T82:Ty 82=some ⟨1,8,[.int .i64 0], .struct [(0,40)],false⟩:=by kernel_rfl
theorem T83:Ty 83=some ⟨1,8,[.int .i64 0], .struct [(0,40)],false⟩:=by kernel_rfl
theorem T85:Ty 85=some ⟨1,8,[.pointer none], .pointer 87,false⟩:=by kernel_rfl
theorem T86:Ty 86=some ⟨2,32,[.slice none 0 0, .int .i64 0], .struct [(0,39),(1,3)],false⟩:=by kernel_rfl
theorem T87:Ty 87=some ⟨2,32,[.slice none 0 0, .int .i64 0], .struct [(0,39),(1,3)],false⟩:=by kernel_rfl
theorem T88:Ty 88=some ⟨1,8,[.nilFunc], .other,false⟩:=by kernel_rfl
theorem T89:Ty 89=some ⟨1,8,[.pointer none], .pointer 91,false⟩:=by kernel_rfl
theorem T90:Ty 90=some ⟨3,40,[.slice none 0 0, .int .i64 0, .int .i64 0], .struct [(0,39),(1,3),(2,40)],false⟩:=by kernel_rfl
theorem T91:Ty 91=some ⟨3,40,[.slice none 0 0, .int .i64 0, .int .i64 0], .struct [(0,39),(1,3),(2,40)],false⟩:=by kernel_rfl
theorem T92:Ty 92=some ⟨1,8,[.nilFunc], .other,false⟩:=by kernel_rfl
theorem T93:Ty 93=some ⟨1,8,[.nilFunc], .other,false⟩:=by kernel_rfl
theorem T94:Ty 94=some ⟨1,8,[.nilFunc], .other,false⟩:=by kernel_rfl
theorem T95:Ty 95=some ⟨1,8,[.nilFunc], .other,false⟩:=by kernel_rfl
theorem T96:Ty 96=some ⟨1,8,[.nilFunc], .other,false⟩:=by kernel_rfl
theorem T97:Ty 97=some ⟨1,8,[.nilFunc], .other,false⟩:=by kernel_rfl
theorem T98:Ty 98=some ⟨1,8,[.nilFunc], .other,false⟩:=by kernel_rfl
theorem T99:Ty 99=some ⟨1,8,[.nilFunc], .other,false⟩:=by kernel_rfl
theorem zwN:Ty 100=some ⟨2,24,[.string .empty, .int .i64 0], .struct [(0,9),(1,3)],false⟩:=by kernel_rfl
theorem zwO:Ty 101=some ⟨2,24,[.string .empty, .int .i64 0], .struct [(0,9),(1,3)],true⟩:=by kernel_rfl
theorem zwP:Ty 102=some ⟨1,8,[.nilFunc], .other,false⟩:=by kernel_rfl
theorem zwQ:Ty 103=some ⟨1,8,[.nilFunc], .other,false⟩:=by kernel_rfl
theorem zwR:Ty 104=some ⟨1,8,[.nilFunc], .other,false⟩:=by kernel_rfl
theorem zwS:Ty 105=some ⟨1,8,[.nilFunc], .other,false⟩:=by kernel_rfl
theorem zwT:Ty 106=some ⟨1,8,[.nilFunc], .other,false⟩:=by kernel_rfl
theorem zwU:Ty 107=some ⟨1,8,[.nilFunc], .other,false⟩:=by kernel_rfl
theorem zwV:Ty 108=some ⟨1,8,[.nilFunc], .other,false⟩:=by kernel_rfl
theorem zwW:Ty 110=some ⟨1,8,[.nilFunc], .other,false⟩:=by kernel_rfl
theorem zwX:Ty 112=some ⟨1,8,[.nilFunc], .other,false⟩:=by kernel_rfl
theorem zwY:Ty 113=some ⟨1,8,[.nilFunc], .other,false⟩:=by kernel_rfl
theorem zwZ:Ty 114=some ⟨1,8,[.nilFunc], .other,false⟩:=by kernel_rfl
theorem zw0:Ty 116=some ⟨1,8,[.nilFunc], .other,false⟩:=by kernel_rfl
theorem zw1:Ty 117=some ⟨1,8,[.nilFunc], .other,false⟩:=by kernel_rfl
theorem zw2:Ty 118=some ⟨1,24,[.slice none 0 0], .slice 39,false⟩:=by kernel_rfl
theorem zw3:Ty 119=some ⟨1,8,[.nilFunc], .other,false⟩:=by kernel_rfl
theorem zw4:Ty 120=some ⟨1,8,[.nilFunc], .other,false⟩:=by kernel_rfl
theorem zw5:Ty 121=some ⟨1,8,[.nilFunc], .other,false⟩:=by kernel_rfl
theorem zw6:Ty 122=some ⟨1,8,[.nilFunc], .other,false⟩:=by kernel_rfl
theorem zw7:Ty 123=some ⟨1,8,[.nilFunc], .other,false⟩:=by kernel_rfl
theorem zw8:Ty 124=some ⟨1,8,[.nilFunc], .other,false⟩:=by kernel_rfl
theorem zw9:Ty 125=some ⟨1,8,[.nilFunc], .other,false⟩:=by kernel_rfl
theorem zxa:Ty 126=some ⟨1,8,[.nilFunc], .other,false⟩:=by kernel_rfl
theorem zxb:Ty 127=some ⟨1,8,[.nilFunc], .other,false⟩:=by kernel_rfl
theorem zxc:Ty 128=some ⟨1,8,[.int .u64 0], .int .u64,false⟩:=by kernel_rfl
theorem zxd:Ty 129=some ⟨1,8,[.nilFunc], .other,false⟩:=by kernel_rfl
theorem zxe:Ty 130=some ⟨1,8,[.nilFunc], .other,false⟩:=by kernel_rfl
theorem zxf:Ty 131=some ⟨1,8,[.nilFunc], .other,false⟩:=by kernel_rfl
theorem zxg:Ty 132=some ⟨1,8,[.nilFunc], .other,false⟩:=by kernel_rfl
theorem zxh:Ty 134=some ⟨1,8,[.nilFunc], .other,false⟩:=by kernel_rfl
theorem zxi:Ty 136=some ⟨1,8,[.nilFunc], .other,false⟩:=by kernel_rfl
theorem zxj:Ty 137=some ⟨1,8,[.nilFunc], .other,false⟩:=by kernel_rfl
theorem zxk:Ty 138=some ⟨1,8,[.nilFunc], .other,false⟩:=by kernel_rfl
theorem zxl:Ty 139=some ⟨1,8,[.nilFunc], .other,false⟩:=by kernel_rfl
theorem zxm:Ty 140=some ⟨1,8,[.nilFunc], .other,false⟩:=by kernel_rfl
theorem zxn:Ty 141=some ⟨1,8,[.nilFunc], .other,false⟩:=by kernel_rfl
theorem zxo:Ty 143=some ⟨1,8,[.nilFunc], .other,false⟩:=by kernel_rfl
theorem zxp:Ty 144=some ⟨1,8,[.nilFunc], .other,false⟩:=by kernel_rfl
theorem zxq:Ty 145=some ⟨1,8,[.nilFunc], .other,false⟩:=by kernel_rfl
theorem zxr:Ty 146=some ⟨1,8,[.nilFunc], .other,false⟩:=by kernel_rfl
theorem zxs:Ty 147=some ⟨1,8,[.nilFunc], .other,false⟩:=by kernel_rfl
theorem zxt:Ty 148=some ⟨1,8,[.nilFunc], .other,false⟩:=by kernel_rfl
theorem zxu:Ty 150=some ⟨1,8,[.nilFunc], .other,false⟩:=by kernel_rfl
theorem zxv:Ty 151=some ⟨1,8,[.nilFunc], .other,false⟩:=by kernel_rfl
theorem zxw:Ty 153=some ⟨1,8,[.nilFunc], .other,false⟩:=by kernel_rfl
theorem zxx:Ty 155=some ⟨1,8,[.nilFunc], .other,false⟩:=by kernel_rfl
theorem zxy:Ty 156=some ⟨1,8,[.nilFunc], .other,false⟩:=by kernel_rfl
theorem zxz:Ty 157=some ⟨1,8,[.nilFunc], .other,false⟩:=by kernel_rfl
theorem zxA:Ty 158=some ⟨1,8,[.nilFunc], .other,false⟩:=by kernel_rfl
theorem zxB:Ty 159=some ⟨1,8,[.nilFunc], .other,false⟩:=by kernel_rfl
theorem zxC:Ty 160=some ⟨1,8,[.nilFunc], .other,false⟩:=by kernel_rfl
theorem zxD:Ty 161=some ⟨1,8,[.nilFunc], .other,false⟩:=by kernel_rfl
theorem zxE:Ty 162=some ⟨1,8,[.nilFunc], .other,false⟩:=by kernel_rfl
theorem zxF:Ty 163=some ⟨1,8,[.nilFunc], .other,false⟩:=by kernel_rfl
theorem zxG:Ty 164=some ⟨1,8,[.nilFunc], .other,false⟩:=by kernel_rfl
theorem zxH:Ty 166=some ⟨1,8,[.nilFunc], .other,false⟩:=by kernel_rfl
theorem zxI:Ty 168=some ⟨1,8,[.nilFunc], .other,false⟩:=by kernel_rfl
theorem zxJ:Ty 169=some ⟨1,8,[.int .i64 0], .struct [(0,40)],false⟩:=by kernel_rfl
theorem zxK:Ty 170=some ⟨1,8,[.int .i64 0], .struct [(0,40)],false⟩:=by kernel_rfl
theorem zxL:Ty 172=some ⟨2,32,[.slice none 0 0, .int .i64 0], .struct [(0,39),(1,3)],false⟩:=by kernel_rfl
theorem zxM:Ty 173=some ⟨2,32,[.slice none 0 0, .int .i64 0], .struct [(0,39),(1,3)],false⟩:=by kernel_rfl
theorem zxN:Ty 174=some ⟨1,8,[.int .u64 0], .int .u64,false⟩:=by kernel_rfl
theorem zxO:Ty 175=some ⟨1,8,[.nilFunc], .other,false⟩:=by kernel_rfl
theorem zxP:Ty 176=some ⟨1,8,[.nilFunc], .other,false⟩:=by kernel_rfl
theorem zxQ:Ty 177=some ⟨1,8,[.nilFunc], .other,false⟩:=by kernel_rfl
theorem zxR:Ty 178=some ⟨1,8,[.nilFunc], .other,false⟩:=by kernel_rfl
theorem zxS:Ty 179=some ⟨1,8,[.nilFunc], .other,false⟩:=by kernel_rfl
theorem zxT:Ty 180=some ⟨1,8,[.nilFunc], .other,false⟩:=by kernel_rfl
theorem zxU:Ty 181=some ⟨1,8,[.nilFunc], .other,false⟩:=by kernel_rfl
theorem zxV:Ty 182=some ⟨1,8,[.nilFunc], .other,false⟩:=by kernel_rfl
theorem zxW:Ty 183=some ⟨1,8,[.nilFunc], .other,false⟩:=by kernel_rfl
theorem zxX:Ty 184=some ⟨1,8,[.nilFunc], .other,false⟩:=by kernel_rfl
theorem zxY:Ty 185=some ⟨1,8,[.nilFunc], .other,false⟩:=by kernel_rfl
theorem zxZ:Ty 186=some ⟨1,8,[.nilFunc], .other,false⟩:=by kernel_rfl
theorem zx0:Ty 187=some ⟨1,8,[.nilFunc], .other,false⟩:=by kernel_rfl
theorem zx1:Ty 188=some ⟨1,8,[.nilFunc], .other,false⟩:=by kernel_rfl
theorem zx2:Ty 189=some ⟨1,8,[.nilFunc], .other,false⟩:=by kernel_rfl
theorem zx3:Ty 190=some ⟨1,8,[.nilFunc], .other,false⟩:=by kernel_rfl
theorem zx4:Ty 192=some ⟨1,8,[.nilFunc], .other,false⟩:=by kernel_rfl
theorem zx5:Ty 194=some ⟨1,8,[.nilFunc], .other,false⟩:=by kernel_rfl
theorem zx6:Ty 195=some ⟨1,8,[.nilFunc], .other,false⟩:=by kernel_rfl
theorem zx7:Ty 196=some ⟨1,8,[.nilFunc], .other,false⟩:=by kernel_rfl
theorem zx8:Ty 197=some ⟨1,8,[.nilFunc], .other,false⟩:=by kernel_rfl
theorem zx9:Ty 198=some ⟨1,8,[.pointer none], .pointer 173,false⟩:=by kernel_rfl
theorem zya:Ty 199=some ⟨1,8,[.nilFunc], .other,false⟩:=by kernel_rfl
theorem zyb:Ty 200=some ⟨1,8,[.nilFunc], .other,false⟩:=by kernel_rfl
theorem zyc:Ty 201=some ⟨1,8,[.nilFunc], .other,false⟩:=by kernel_rfl
theorem zyd:Ty 203=some ⟨1,8,[.nilFunc], .other,false⟩:=by kernel_rfl
theorem zye:Ty 204=some ⟨1,8,[.nilFunc], .other,false⟩:=by kernel_rfl
theorem zyf:Ty 205=some ⟨1,24,[.slice none 0 0], .slice 9,false⟩:=by kernel_rfl
theorem zyg:Ty 206=some ⟨1,8,[.nilFunc], .other,false⟩:=by kernel_rfl
theorem zyh:Ty 207=some ⟨1,8,[.nilFunc], .other,false⟩:=by kernel_rfl
theorem zyi:Ty 208=some ⟨1,8,[.nilFunc], .other,false⟩:=by kernel_rfl
theorem zyj:Ty 209=some ⟨1,8,[.nilFunc], .other,false⟩:=by kernel_rfl
theorem zyk:Ty 210=some ⟨1,8,[.nilFunc], .other,false⟩:=by kernel_rfl
theorem zyl:Ty 211=some ⟨1,8,[.nilFunc], .other,false⟩:=by kernel_rfl
theorem zym:Ty 212=some ⟨1,8,[.nilFunc], .other,false⟩:=by kernel_rfl
theorem zyn:Ty 213=some ⟨1,8,[.nilFunc], .other,false⟩:=by kernel_rfl
theorem zyo:Ty 215=some ⟨1,8,[.nilFunc], .other,false⟩:=by kernel_rfl
theorem zyp:Ty 216=some ⟨1,8,[.nilFunc], .other,false⟩:=by kernel_rfl
theorem zyq:Ty 217=some ⟨1,8,[.nilFunc], .other,false⟩:=by kernel_rfl
theorem zyr:Ty 218=some ⟨1,8,[.nilFunc], .other,false⟩:=by kernel_rfl
theorem zys:Ty 219=some ⟨1,8,[.nilFunc], .other,false⟩:=by kernel_rfl
theorem zyt:Ty 220=some ⟨1,8,[.nilFunc], .other,false⟩:=by kernel_rfl
theorem zyu:Ty 221=some ⟨4,40,[.pointer none, .pointer none, .pointer none, .string .empty], .struct [(0,17),(1,17),(2,17),(3,9)],false⟩:=by kernel_rfl
theorem zyv:Ty 222=some ⟨4,40,[.pointer none, .pointer none, .pointer none, .string .empty], .struct [(0,17),(1,17),(2,17),(3,9)],false⟩:=by kernel_rfl
theorem zyw:Ty 223=some ⟨0,0,[], .array 0 16,false⟩:=by kernel_rfl
theorem zyx:Ty 224=some ⟨0,0,[], .struct [(0,223)],false⟩:=by kernel_rfl
theorem zyy:Ty 225=some ⟨0,0,[], .struct [(0,223)],false⟩:=by kernel_rfl
theorem zyz:Ty 226=some ⟨1,4,[.int .u32 0], .int .u32,false⟩:=by kernel_rfl
theorem zyA:Ty 227=some ⟨1,1,[.int .u8 0], .int .u8,false⟩:=by kernel_rfl
theorem zyB:Ty 228=some ⟨1,1,[.int .u8 0], .int .u8,false⟩:=by kernel_rfl
theorem zyC:Ty 229=some ⟨1,8,[.nilFunc], .other,false⟩:=by kernel_rfl
theorem zyD:Ty 230=some ⟨1,8,[.pointer none], .pointer 5,false⟩:=by kernel_rfl
theorem zyE:Ty 231=some ⟨1,4,[.int .i32 0], .int .i32,false⟩:=by kernel_rfl
theorem zyF:Ty 232=some ⟨1,4,[.int .i32 0], .int .i32,false⟩:=by kernel_rfl
theorem zyG:Ty 233=some ⟨11,48,[.int .u64 0, .int .u64 0, .int .u32 0, .int .u8 0, .int .u8 0, .int .u8 0, .int .u8 0, .nilFunc, .pointer none, .int .i32 0, .int .i32 0], .struct [(0,12),(1,12),(2,226),(3,227),(4,5),(5,5),(6,228),(7,229),(8,230),(9,231),(10,232)],false⟩:=by kernel_rfl
theorem zyH:Ty 234=some ⟨11,48,[.int .u64 0, .int .u64 0, .int .u32 0, .int .u8 0, .int .u8 0, .int .u8 0, .int .u8 0, .nilFunc, .pointer none, .int .i32 0, .int .i32 0], .struct [(0,12),(1,12),(2,226),(3,227),(4,5),(5,5),(6,228),(7,229),(8,230),(9,231),(10,232)],false⟩:=by kernel_rfl
theorem zyI:Ty 235=some ⟨1,8,[.pointer none], .other,false⟩:=by kernel_rfl
theorem TyB:(type_of% T1)∧(type_of% T2)∧(type_of% T3)∧(type_of% T4)∧(type_of% T5)∧(type_of% T6)∧(type_of% T7)∧(type_of% T8)∧(type_of% T9)∧(type_of% T10)∧(type_of% T11)∧(type_of% T12)∧(type_of% T13)∧(type_of% T14)∧(type_of% T15)∧(type_of% T16)∧(type_of% T17)∧(type_of% T18)∧(type_of% T19)∧(type_of% T20)∧(type_of% T21)∧(type_of% T22)∧(type_of% T23)∧(type_of% T24)∧(type_of% T25)∧(type_of% T26)∧(type_of% T27)∧(type_of% T28)∧(type_of% T29)∧(type_of% T30)∧(type_of% T31)∧(type_of% T32)∧(type_of% T33)∧(type_of% T34)∧(type_of% T35)∧(type_of% T36)∧(type_of% T37)∧(type_of% T38)∧(type_of% T39)∧(type_of% T40)∧(type_of% T42)∧(type_of% T43)∧(type_of% T44)∧(type_of% T45)∧(type_of% T46)∧(type_of% T47)∧(type_of% T49)∧(type_of% T51)∧(type_of% T52)∧(type_of% T53)∧(type_of% T54)∧(type_of% T55)∧(type_of% T56)∧(type_of% T57)∧(type_of% T58)∧(type_of% T59)∧(type_of% T60)∧(type_of% T61)∧(type_of% T62)∧(type_of% T63)∧(type_of% T64)∧(type_of% T65)∧(type_of% T66)∧(type_of% T67)∧(type_of% T68)∧(type_of% T69)∧(type_of% T71)∧(type_of% T72)∧(type_of% T73)∧(type_of% T74)∧(type_of% T75)∧(type_of% T76)∧(type_of% T77)∧(type_of% T78)∧(type_of% T79)∧(type_of% T80)∧(type_of% T81)∧(type_of% T82)∧(type_of% T83)∧(type_of% T85)∧(type_of% T86)∧(type_of% T87)∧(type_of% T88)∧(type_of% T89)∧(type_of% T90)∧(type_of% T91)∧(type_of% T92)∧(type_of% T93)∧(type_of% T94)∧(type_of% T95)∧(type_of% T96)∧(type_of% T97)∧(type_of% T98)∧(type_of% T99)∧(type_of% zwN)∧(type_of% zwO)∧(type_of% zwP)∧(type_of% zwQ)∧(type_of% zwR)∧(type_of% zwS)∧(type_of% zwT)∧(type_of% zwU)∧(type_of% zwV)∧(type_of% zwW)∧(type_of% zwX)∧(type_of% zwY)∧(type_of% zwZ)∧(type_of% zw0)∧(type_of% zw1)∧(type_of% zw2)∧(type_of% zw3)∧(type_of% zw4)∧(type_of% zw5)∧(type_of% zw6)∧(type_of% zw7)∧(type_of% zw8)∧(type_of% zw9)∧(type_of% zxa)∧(type_of% zxb)∧(type_of% zxc)∧(type_of% zxd)∧(type_of% zxe)∧(type_of% zxf)∧(type_of% zxg)∧(type_of% zxh)∧(type_of% zxi)∧(type_of% zxj)∧(type_of% zxk)∧(type_of% zxl)∧(type_of% zxm)∧(type_of% zxn)∧(type_of% zxo)∧(type_of% zxp)∧(type_of% zxq)∧(type_of% zxr)∧(type_of% zxs)∧(type_of% zxt)∧(type_of% zxu)∧(type_of% zxv)∧(type_of% zxw)∧(type_of% zxx)∧(type_of% zxy)∧(type_of% zxz)∧(type_of% zxA)∧(type_of% zxB)∧(type_of% zxC)∧(type_of% zxD)∧(type_of% zxE)∧(type_of% zxF)∧(type_of% zxG)∧(type_of% zxH)∧(type_of% zxI)∧(type_of% zxJ)∧(type_of% zxK)∧(type_of% zxL)∧(type_of% zxM)∧(type_of% zxN)∧(type_of% zxO)∧(type_of% zxP)∧(type_of% zxQ)∧(type_of% zxR)∧(type_of% zxS)∧(type_of% zxT)∧(type_of% zxU)∧(type_of% zxV)∧(type_of% zxW)∧(type_of% zxX)∧(type_of% zxY)∧(type_of% zxZ)∧(type_of% zx0)∧(type_of% zx1)∧(type_of% zx2)∧(type_of% zx3)∧(type_of% zx4)∧(type_of% zx5)∧(type_of% zx6)∧(type_of% zx7)∧(type_of% zx8)∧(type_of% zx9)∧(type_of% zya)∧(type_of% zyb)∧(type_of% zyc)∧(type_of% zyd)∧(type_of% zye)∧(type_of% zyf)∧(type_of% zyg)∧(type_of% zyh)∧(type_of% zyi)∧(type_of% zyj)∧(type_of% zyk)∧(type_of% zyl)∧(type_of% zym)∧(type_of% zyn)∧(type_of% zyo)∧(type_of% zyp)∧(type_of% zyq)∧(type_of% zyr)∧(type_of% zys)∧(type_of% zyt)∧(type_of% zyu)∧(type_of% zyv)∧(type_of% zyw)∧(type_of% zyx)∧(type_of% zyy)∧(type_of% zyz)∧(type_of% zyA)∧(type_of% zyB)∧(type_of% zyC)∧(type_of% zyD)∧(type_of% zyE)∧(type_of% zyF)∧(type_of% zyG)∧(type_of% zyH)∧type_of% zyI:=⟨T1,⟨T2,⟨T3,⟨T4,⟨T5,⟨T6,⟨T7,⟨T8,⟨T9,⟨T10,⟨T11,⟨T12,⟨T13,⟨T14,⟨T15,⟨T16,⟨T17,⟨T18,⟨T19,⟨T20,⟨T21,⟨T22,⟨T23,⟨T24,⟨T25,⟨T26,⟨T27,⟨T28,⟨T29,⟨T30,⟨T31,⟨T32,⟨T33,⟨T34,⟨T35,⟨T36,⟨T37,⟨T38,⟨T39,⟨T40,⟨T42,⟨T43,⟨T44,⟨T45,⟨T46,⟨T47,⟨T49,⟨T51,⟨T52,⟨T53,⟨T54,⟨T55,⟨T56,⟨T57,⟨T58,⟨T59,⟨T60,⟨T61,⟨T62,⟨T63,⟨T64,⟨T65,⟨T66,⟨T67,⟨T68,⟨T69,⟨T71,⟨T72,⟨T73,⟨T74,⟨T75,⟨T76,⟨T77,⟨T78,⟨T79,⟨T80,⟨T81,⟨T82,⟨T83,⟨T85,⟨T86,⟨T87,⟨T88,⟨T89,⟨T90,⟨T91,⟨T92,⟨T93,⟨T94,⟨T95,⟨T96,⟨T97,⟨T98,⟨T99,⟨zwN,⟨zwO,⟨zwP,⟨zwQ,⟨zwR,⟨zwS,⟨zwT,⟨zwU,⟨zwV,⟨zwW,⟨zwX,⟨zwY,⟨zwZ,⟨zw0,⟨zw1,⟨zw2,⟨zw3,⟨zw4,⟨zw5,⟨zw6,⟨zw7,⟨zw8,⟨zw9,⟨zxa,⟨zxb,⟨zxc,⟨zxd,⟨zxe,⟨zxf,⟨zxg,⟨zxh,⟨zxi,⟨zxj,⟨zxk,⟨zxl,⟨zxm,⟨zxn,⟨zxo,⟨zxp,⟨zxq,⟨zxr,⟨zxs,⟨zxt,⟨zxu,⟨zxv,⟨zxw,⟨zxx,⟨zxy,⟨zxz,⟨zxA,⟨zxB,⟨zxC,⟨zxD,⟨zxE,⟨zxF,⟨zxG,⟨zxH,⟨zxI,⟨zxJ,⟨zxK,⟨zxL,⟨zxM,⟨zxN,⟨zxO,⟨zxP,⟨zxQ,⟨zxR,⟨zxS,⟨zxT,⟨zxU,⟨zxV,⟨zxW,⟨zxX,⟨zxY,⟨zxZ,⟨zx0,⟨zx1,⟨zx2,⟨zx3,⟨zx4,⟨zx5,⟨zx6,⟨zx7,⟨zx8,⟨zx9,⟨zya,⟨zyb,⟨zyc,⟨zyd,⟨zye,⟨zyf,⟨zyg,⟨zyh,⟨zyi,⟨zyj,⟨zyk,⟨zyl,⟨zym,⟨zyn,⟨zyo,⟨zyp,⟨zyq,⟨zyr,⟨zys,⟨zyt,⟨zyu,⟨zyv,⟨zyw,⟨zyx,⟨zyy,⟨zyz,⟨zyA,⟨zyB,⟨zyC,⟨zyD,⟨zyE,⟨zyF,⟨zyG,⟨zyH,zyI⟩⟩⟩⟩⟩⟩⟩⟩⟩⟩⟩⟩⟩⟩⟩⟩⟩⟩⟩⟩⟩⟩⟩⟩⟩⟩⟩⟩⟩⟩⟩⟩⟩⟩⟩⟩⟩⟩⟩⟩⟩⟩⟩⟩⟩⟩⟩⟩⟩⟩⟩⟩⟩⟩⟩⟩⟩⟩⟩⟩⟩⟩⟩⟩⟩⟩⟩⟩⟩⟩⟩⟩⟩⟩⟩⟩⟩⟩⟩⟩⟩⟩⟩⟩⟩⟩⟩⟩⟩⟩⟩⟩⟩⟩⟩⟩⟩⟩⟩⟩⟩⟩⟩⟩⟩⟩⟩⟩⟩⟩⟩⟩⟩⟩⟩⟩⟩⟩⟩⟩⟩⟩⟩⟩⟩⟩⟩⟩⟩⟩⟩⟩⟩⟩⟩⟩⟩⟩⟩⟩⟩⟩⟩⟩⟩⟩⟩⟩⟩⟩⟩⟩⟩⟩⟩⟩⟩⟩⟩⟩⟩⟩⟩⟩⟩⟩⟩⟩⟩⟩⟩⟩⟩⟩⟩⟩⟩⟩⟩⟩⟩⟩⟩⟩⟩⟩⟩⟩⟩⟩⟩⟩⟩⟩⟩⟩⟩⟩⟩⟩⟩⟩⟩⟩⟩⟩⟩⟩⟩⟩⟩⟩⟩
open Go.Pk
theorem zB:type_of% (I pkS (I TyB (I implies_true.{0} (I implies_true.{1} (I @forall_const.{0} @forall_const.{1}))))):=I pkS (I TyB (I implies_true.{0} (I implies_true.{1} (I @forall_const.{0} @forall_const.{1}))))
theorem zY:type_of% (I zB (I pkY @bne_self_eq_false.{0})):=I zB (I pkY @bne_self_eq_false.{0})
theorem zq {R p q:Prop} (r:R) (h:q) (k:R→Wr q→p:=by(intro r z;first|(with_reducible first|refine zad _ _ ?_|refine zaS ?_|refine zaT ?_|refine zaV ?_|refine zax ?_)|rw[zaI]|simp only[r,zY,Int.reduceEq,Int.reduceBEq,Int.reduceBNe,Nat.reduceSub,Nat.reduceEqDiff,Nat.reduceAdd,Nat.reduceMul,Nat.reduceLeDiff,Nat.reduceLT,Nat.reduceBEq,reduceCtorEq]|(with_reducible refine And.intro ?_ ?_;exact zI)|fail);exact z.h):p:=k r ⟨h⟩
theorem zq0 {p q:Prop} (h:q) (k:Wr q→p:=by(intro z;first|(with_reducible first|refine zad _ _ ?_|refine zaS ?_|refine zaT ?_|refine zaV ?_|refine zax ?_)|rw[zaI]|simp only[zY,Int.reduceEq,Int.reduceBEq,Int.reduceBNe,Nat.reduceSub,Nat.reduceEqDiff,Nat.reduceAdd,Nat.reduceMul,Nat.reduceLeDiff,Nat.reduceLT,Nat.reduceBEq,reduceCtorEq]|(with_reducible refine And.intro ?_ ?_;exact zI)|fail);exact z.h):p:=k ⟨h⟩
theorem zu {R p q:Prop} (r:R) (h:q) (k:R→Wr q→p:=by(intro r z;first|(with_reducible first|refine zaS ?_|refine zaT ?_|refine zaV ?_|refine zax ?_)|rw[zaI]|simp only[r,zY,Int.reduceEq,Int.reduceBEq,Int.reduceBNe,Nat.reduceSub,Nat.reduceEqDiff,Nat.reduceAdd,Nat.reduceMul,Nat.reduceLeDiff,Nat.reduceLT,Nat.reduceBEq,reduceCtorEq]|(with_reducible refine And.intro ?_ ?_;exact zI)|fail);exact z.h):p:=k r ⟨h⟩
theorem zu0 {p q:Prop} (h:q) (k:Wr q→p:=by(intro z;first|(with_reducible first|refine zaS ?_|refine zaT ?_|refine zaV ?_|refine zax ?_)|rw[zaI]|simp only[zY,Int.reduceEq,Int.reduceBEq,Int.reduceBNe,Nat.reduceSub,Nat.reduceEqDiff,Nat.reduceAdd,Nat.reduceMul,Nat.reduceLeDiff,Nat.reduceLT,Nat.reduceBEq,reduceCtorEq]|(with_reducible refine And.intro ?_ ?_;exact zI)|fail);exact z.h):p:=k ⟨h⟩
theorem zd {R p:Prop} (r:R) (k:R→p:=by(intro r;first|(simp only[r,zY,Int.reduceEq,Int.reduceBEq,Int.reduceBNe,Nat.reduceSub,Nat.reduceEqDiff,Nat.reduceAdd,Nat.reduceMul,Nat.reduceLeDiff,Nat.reduceLT,Nat.reduceBEq,reduceCtorEq];done)|fail)):p:=k r
theorem zd0 {p:Prop} (k:p:=by(first|(simp only[zY,Int.reduceEq,Int.reduceBEq,Int.reduceBNe,Nat.reduceSub,Nat.reduceEqDiff,Nat.reduceAdd,Nat.reduceMul,Nat.reduceLeDiff,Nat.reduceLT,Nat.reduceBEq,reduceCtorEq];done)|fail)):p:=k
theorem zw {p q:Prop} (h:q) (k:q→p:=by intro z;(repeat(first|with_reducible refine zad _ _ ?_|with_reducible refine And.imp_right (zad _ _) ?_|with_reducible refine And.imp_right (And.imp_right (zad _ _)) ?_|with_reducible refine And.imp_right (And.imp_right (And.imp_right (zad _ _))) ?_|rw[zaI]|simp only[zB,Nat.reduceSub,Nat.reduceEqDiff,Nat.reduceAdd,Nat.reduceMul,Nat.reduceLeDiff,Nat.reduceLT,Nat.reduceBEq,reduceCtorEq]));exact z):p:=k h
theorem zs {R p q:Prop} (r:R) (h:q) (k:R→Wr q→p:=by(intro r z;first|simp only[r,zB,Nat.reduceSub,Nat.reduceEqDiff,Nat.reduceAdd,Nat.reduceMul,Nat.reduceLeDiff,Nat.reduceLT,Nat.reduceBEq,reduceCtorEq]|fail);exact z.h):p:=k r ⟨h⟩
theorem zs0 {p q:Prop} (h:q) (k:Wr q→p:=by(intro z;first|simp only[zB,Nat.reduceSub,Nat.reduceEqDiff,Nat.reduceAdd,Nat.reduceMul,Nat.reduceLeDiff,Nat.reduceLT,Nat.reduceBEq,reduceCtorEq]|fail);exact z.h):p:=k ⟨h⟩
theorem zt {R p:Prop} (r:R) (k:R→p:=by(intro r;first|(simp only[r,zB,Nat.reduceSub,Nat.reduceEqDiff,Nat.reduceAdd,Nat.reduceMul,Nat.reduceLeDiff,Nat.reduceLT,Nat.reduceBEq,reduceCtorEq];done)|fail)):p:=k r
theorem zt0 {p:Prop} (k:p:=by(first|(simp only[zB,Nat.reduceSub,Nat.reduceEqDiff,Nat.reduceAdd,Nat.reduceMul,Nat.reduceLeDiff,Nat.reduceLT,Nat.reduceBEq,reduceCtorEq];done)|fail)):p:=k
theorem zf {R p q:Prop} (r:R) (h:q) (k:R→Wr q→p:=by(intro r z;first|simp only[zm3,r,zY,Nat.reduceSub,Nat.reduceEqDiff,Nat.reduceAdd,Nat.reduceMul,Nat.reduceLeDiff,Nat.reduceLT,Nat.reduceBEq,reduceCtorEq]|fail);exact z.h):p:=k r ⟨h⟩
theorem zf0 {p q:Prop} (h:q) (k:Wr q→p:=by(intro z;first|simp only[zm3,zY,Nat.reduceSub,Nat.reduceEqDiff,Nat.reduceAdd,Nat.reduceMul,Nat.reduceLeDiff,Nat.reduceLT,Nat.reduceBEq,reduceCtorEq]|fail);exact z.h):p:=k ⟨h⟩
theorem zo {R p:Prop} (r:R) (k:R→p:=by(intro r;first|(simp only[zjA,r,zY,Nat.reduceSub,Nat.reduceEqDiff,Nat.reduceAdd,Nat.reduceMul,Nat.reduceLeDiff,Nat.reduceLT,Nat.reduceBEq,reduceCtorEq];done)|fail)):p:=k r
theorem zo0 {p:Prop} (k:p:=by(first|(simp only[zjA,zY,Nat.reduceSub,Nat.reduceEqDiff,Nat.reduceAdd,Nat.reduceMul,Nat.reduceLeDiff,Nat.reduceLT,Nat.reduceBEq,reduceCtorEq];done)|fail)):p:=k
theorem zk {R p:Prop} (r:R) (k:R→p:=by(intro r;simp only[r,zjx,zpn,zjy,zmc,zme,zmf,List.set_cons_zero,List.set_cons_succ,and_true,true_and,Int.natCast_zero,Int.cast_ofNat_Int,D.v.injEq,Value.int.injEq];try(repeat'(first|rfl|omega|with_reducible apply And.intro)))):p:=k r
section
variable {T:Nat→Option TI} {P:Program} {all:List Oper} {m:M} {rest:List Oper} {dst:Option Nat} {v:List AV} {r:Rs} {K:Ex→G→Prop} {n:FuncId} {x0 y0:List RO} {ars ass as':List Arg} {mv:Mv} {lent:List Nat} {rfs:List RF} {l':List RO} {f:Operand} {args:Array Operand} {a:Option (FuncId×List Arg)} {x:Value}
theorem zj (h:CallOK P n (.obj y0::as') (fun r o=>r=rfs∧o=[l'])) (hk:aops T P all (upM dst mv.s m) rest (putV v dst (bindM r dst mv rfs l').1) (bindM r dst mv rfs l').2 K)
  (hc:callM 0 v r f args=some (n, .obj x0::ass,mv,lent):=by((try simp only[zY,Int.reduceEq,Int.reduceBEq,Int.reduceBNe,Nat.reduceSub,Nat.reduceEqDiff,Nat.reduceAdd,Nat.reduceMul,Nat.reduceLeDiff,Nat.reduceLT,Nat.reduceBEq,reduceCtorEq]);exact rfl)) (hr:ztD x0 y0:=by(simp[ztD,roA])) (hn:zjC as'=true:=by rfl) (hs:zdR ass as':=by(simp[zdR,aLe,ztG,cLe]))
  (hb:scM r dst mv lent l':=by((try simp only[scM,zB,Nat.reduceSub,Nat.reduceEqDiff,Nat.reduceAdd,Nat.reduceMul,Nat.reduceLeDiff,Nat.reduceLT,Nat.reduceBEq,reduceCtorEq]);repeat'(first|rfl|trivial|omega|with_reducible refine And.intro ?_ ?_))):zhb T P all m rest dst v r K f args a:=zps hc h hr hn hs hb hk
theorem zp (l':List RO) (h:zcn P n ars x) (hk:K (.panic x) ⟨v,ziz r mv⟩) (hm:m.fp=none:=by rfl) (hc:callM 0 v r f args=some (n,ars,mv,lent):=by((try simp only[zY,Int.reduceEq,Int.reduceBEq,Int.reduceBNe,Nat.reduceSub,Nat.reduceEqDiff,Nat.reduceAdd,Nat.reduceMul,Nat.reduceLeDiff,Nat.reduceLT,Nat.reduceBEq,reduceCtorEq]);exact rfl))
  (hs:scM r none mv lent l':=by((try simp only[scM,zB,Nat.reduceSub,Nat.reduceEqDiff,Nat.reduceAdd,Nat.reduceMul,Nat.reduceLeDiff,Nat.reduceLT,Nat.reduceBEq,reduceCtorEq]);repeat'(first|rfl|trivial|omega|with_reducible refine And.intro ?_ ?_))):zhb T P all m rest dst v r K f args a:=zpH 0 hc h hs hm hk
theorem zn (l':List RO) (h:zcn P n ars x) (hc:callM 0 v r f args=some (n,ars,mv,lent):=by((try simp only[zY,Int.reduceEq,Int.reduceBEq,Int.reduceBNe,Nat.reduceSub,Nat.reduceEqDiff,Nat.reduceAdd,Nat.reduceMul,Nat.reduceLeDiff,Nat.reduceLT,Nat.reduceBEq,reduceCtorEq]);exact rfl))
  (hs:scM r none mv lent l':=by((try simp only[scM,zB,Nat.reduceSub,Nat.reduceEqDiff,Nat.reduceAdd,Nat.reduceMul,Nat.reduceLeDiff,Nat.reduceLT,Nat.reduceBEq,reduceCtorEq]);repeat'(first|rfl|trivial|omega|with_reducible refine And.intro ?_ ?_))) (s1:evS true v f:=by first|trivial|(simp only[zB,Nat.reduceSub,Nat.reduceEqDiff,Nat.reduceAdd,Nat.reduceMul,Nat.reduceLeDiff,Nat.reduceLT,Nat.reduceBEq,reduceCtorEq];done)) (s2:evsS true v args.toList:=by first|trivial|(simp only[zB,Nat.reduceSub,Nat.reduceEqDiff,Nat.reduceAdd,Nat.reduceMul,Nat.reduceLeDiff,Nat.reduceLT,Nat.reduceBEq,reduceCtorEq];done)|exact⟨trivial,trivial⟩):zwh P f args x ⟨v,r⟩:=zuk 0 l' hc h hs s1 s2
end
end Go.Proofs.YtbpmcjeeeiffhaaGreat
