import Derived.Test.YtliimajkpggbhaaGreatProg
import Derived.Test.YtliimajkpggbhaaGreatK9
import Derived.KernelRfl
namespace Go.Proofs.YtliimajkpggbhaaGreat
open Go.Pk
noncomputable def Ty:Nat→Option TI:=zs3 Tryz.prog [25,33,153,151]
theorem T1:Ty 1=some ⟨1,8,[.nilFunc], .other,false⟩:=by kernel_rfl
theorem T2:Ty 2=some ⟨1,8,[.int .i64 0], .int .i64,false⟩:=by kernel_rfl
theorem T3:Ty 3=some ⟨1,8,[.int .i64 0], .int .i64,false⟩:=by kernel_rfl
theorem T4:Ty 4=some ⟨1,1,[.bool false], .bool,false⟩:=by kernel_rfl
theorem T5:Ty 5=some ⟨1,1,[.int .u8 0], .int .u8,false⟩:=by kernel_rfl
theorem T6:Ty 6=some ⟨1,1,[.int .u8 0], .int .u8,false⟩:=by kernel_rfl
theorem T7:Ty 7=some ⟨4,24,[.int .i64 0, .int .i64 0, .bool false, .int .u8 0], .struct [(0,2),(1,3),(2,4),(3,6)],false⟩:=by kernel_rfl
theorem T8:Ty 8=some ⟨4,24,[.int .i64 0, .int .i64 0, .bool false, .int .u8 0], .struct [(0,2),(1,3),(2,4),(3,6)],false⟩:=by kernel_rfl
theorem T9:Ty 9=some ⟨1,16,[.string .empty], .string,false⟩:=by kernel_rfl
theorem T10:Ty 10=some ⟨1,16,[.string .empty], .string,false⟩:=by kernel_rfl
theorem T11:Ty 11=some ⟨1,16,[.string .empty], .string,false⟩:=by kernel_rfl
theorem T12:Ty 12=some ⟨1,8,[.int .u64 0], .int .u64,false⟩:=by kernel_rfl
theorem T13:Ty 13=some ⟨2,24,[.string .empty, .int .u64 0], .struct [(0,9),(1,12)],false⟩:=by kernel_rfl
theorem T14:Ty 14=some ⟨2,24,[.string .empty, .int .u64 0], .struct [(0,9),(1,12)],false⟩:=by kernel_rfl
theorem T15:Ty 15=some ⟨1,8,[.pointer none], .pointer 259,false⟩:=by kernel_rfl
theorem T16:Ty 16=some ⟨1,8,[.pointer none], .pointer 262,false⟩:=by kernel_rfl
theorem T17:Ty 17=some ⟨1,8,[.pointer none], .pointer 271,false⟩:=by kernel_rfl
theorem T18:Ty 18=some ⟨1,8,[.pointer none], .struct [(0,17)],false⟩:=by kernel_rfl
theorem T19:Ty 19=some ⟨1,8,[.pointer none], .struct [(0,17)],false⟩:=by kernel_rfl
theorem T20:Ty 20=some ⟨1,16,[.nilIface], .other,false⟩:=by kernel_rfl
theorem T21:Ty 21=some ⟨1,4,[.int .i32 0], .int .i32,false⟩:=by kernel_rfl
theorem T22:Ty 22=some ⟨3,32,[.int .i64 0, .int .i64 0, .string .empty], .struct [(0,3),(1,3),(2,9)],false⟩:=by kernel_rfl
theorem T23:Ty 23=some ⟨3,32,[.int .i64 0, .int .i64 0, .string .empty], .struct [(0,3),(1,3),(2,9)],false⟩:=by kernel_rfl
theorem T24:Ty 24=some ⟨5,48,[.int .i64 0, .int .i64 0, .int .i64 0, .int .i64 0, .string .empty], .struct [(0,3),(1,3),(2,23)],false⟩:=by kernel_rfl
theorem T25:Ty 25=some ⟨5,48,[.int .i64 0, .int .i64 0, .int .i64 0, .int .i64 0, .string .empty], .struct [(0,3),(1,3),(2,23)],true⟩:=by kernel_rfl
theorem T26:Ty 26=some ⟨1,8,[.int .i64 0], .int .i64,false⟩:=by kernel_rfl
theorem T27:Ty 27=some ⟨1,24,[.slice none 0 0], .slice 151,false⟩:=by kernel_rfl
theorem T28:Ty 28=some ⟨4,48,[.int .i64 0, .int .i64 0, .int .i64 0, .slice none 0 0], .struct [(0,26),(1,3),(2,3),(3,27)],false⟩:=by kernel_rfl
theorem T29:Ty 29=some ⟨4,48,[.int .i64 0, .int .i64 0, .int .i64 0, .slice none 0 0], .struct [(0,26),(1,3),(2,3),(3,27)],false⟩:=by kernel_rfl
theorem T30:Ty 30=some ⟨6,64,[.int .i64 0, .int .i64 0, .int .i64 0, .int .i64 0, .int .i64 0, .slice none 0 0], .struct [(0,3),(1,3),(2,29)],false⟩:=by kernel_rfl
theorem T31:Ty 31=some ⟨6,64,[.int .i64 0, .int .i64 0, .int .i64 0, .int .i64 0, .int .i64 0, .slice none 0 0], .struct [(0,3),(1,3),(2,29)],false⟩:=by kernel_rfl
theorem T32:Ty 32=some ⟨2,16,[.int .i64 0, .int .i64 0], .struct [(0,3),(1,3)],false⟩:=by kernel_rfl
theorem T33:Ty 33=some ⟨2,16,[.int .i64 0, .int .i64 0], .struct [(0,3),(1,3)],true⟩:=by kernel_rfl
theorem T34:Ty 34=some ⟨1,24,[.slice none 0 0], .slice 25,false⟩:=by kernel_rfl
theorem T35:Ty 35=some ⟨6,64,[.bool false, .int .i64 0, .int .i64 0, .int .i64 0, .int .i64 0, .slice none 0 0], .struct [(0,4),(1,3),(2,33),(4,3),(5,34)],false⟩:=by kernel_rfl
theorem T36:Ty 36=some ⟨6,64,[.bool false, .int .i64 0, .int .i64 0, .int .i64 0, .int .i64 0, .slice none 0 0], .struct [(0,4),(1,3),(2,33),(4,3),(5,34)],false⟩:=by kernel_rfl
theorem T37:Ty 37=some ⟨1,24,[.slice none 0 0], .slice 112,false⟩:=by kernel_rfl
theorem T38:Ty 38=some ⟨6,64,[.int .i64 0, .int .i64 0, .int .i64 0, .int .i64 0, .int .i64 0, .slice none 0 0], .struct [(0,3),(1,3),(2,33),(4,3),(5,37)],false⟩:=by kernel_rfl
theorem T39:Ty 39=some ⟨6,64,[.int .i64 0, .int .i64 0, .int .i64 0, .int .i64 0, .int .i64 0, .slice none 0 0], .struct [(0,3),(1,3),(2,33),(4,3),(5,37)],false⟩:=by kernel_rfl
theorem T40:Ty 40=some ⟨1,24,[.slice none 0 0], .slice 153,false⟩:=by kernel_rfl
theorem T41:Ty 41=some ⟨1,24,[.slice none 0 0], .slice 109,false⟩:=by kernel_rfl
theorem T42:Ty 42=some ⟨1,24,[.slice none 0 0], .slice 110,false⟩:=by kernel_rfl
theorem T43:Ty 43=some ⟨6,96,[.int .i64 0, .int .i64 0, .int .i64 0, .slice none 0 0, .slice none 0 0, .slice none 0 0], .struct [(0,3),(1,3),(2,3),(3,40),(4,41),(5,42)],false⟩:=by kernel_rfl
theorem T44:Ty 44=some ⟨6,96,[.int .i64 0, .int .i64 0, .int .i64 0, .slice none 0 0, .slice none 0 0, .slice none 0 0], .struct [(0,3),(1,3),(2,3),(3,40),(4,41),(5,42)],false⟩:=by kernel_rfl
theorem T45:Ty 45=some ⟨9,120,[.int .i64 0, .int .i64 0, .int .i64 0, .int .i64 0, .int .i64 0, .int .i64 0, .slice none 0 0, .slice none 0 0, .slice none 0 0], .struct [(0,3),(1,33),(3,44)],false⟩:=by kernel_rfl
theorem T46:Ty 46=some ⟨9,120,[.int .i64 0, .int .i64 0, .int .i64 0, .int .i64 0, .int .i64 0, .int .i64 0, .slice none 0 0, .slice none 0 0, .slice none 0 0], .struct [(0,3),(1,33),(3,44)],false⟩:=by kernel_rfl
theorem T47:Ty 47=some ⟨36,392,[.int .i64 0, .int .i64 0, .int .i64 0, .int .i64 0, .int .i64 0, .int .i64 0, .int .i64 0, .int .i64 0, .string .empty, .int .i64 0, .int .i64 0, .int .i64 0, .int .i64 0, .int .i64 0, .slice none 0 0, .bool false, .int .i64 0, .int .i64 0, .int .i64 0, .int .i64 0, .slice none 0 0, .int .i64 0, .int .i64 0, .int .i64 0, .int .i64 0, .int .i64 0, .slice none 0 0, .int .i64 0, .int .i64 0, .int .i64 0, .int .i64 0, .int .i64 0, .int .i64 0, .slice none 0 0, .slice none 0 0, .slice none 0 0], .struct [(0,3),(1,3),(2,3),(3,3),(4,25),(9,31),(15,36),(21,39),(27,46)],false⟩:=by kernel_rfl
theorem T48:Ty 48=some ⟨36,392,[.int .i64 0, .int .i64 0, .int .i64 0, .int .i64 0, .int .i64 0, .int .i64 0, .int .i64 0, .int .i64 0, .string .empty, .int .i64 0, .int .i64 0, .int .i64 0, .int .i64 0, .int .i64 0, .slice none 0 0, .bool false, .int .i64 0, .int .i64 0, .int .i64 0, .int .i64 0, .slice none 0 0, .int .i64 0, .int .i64 0, .int .i64 0, .int .i64 0, .int .i64 0, .slice none 0 0, .int .i64 0, .int .i64 0, .int .i64 0, .int .i64 0, .int .i64 0, .int .i64 0, .slice none 0 0, .slice none 0 0, .slice none 0 0], .struct [(0,3),(1,3),(2,3),(3,3),(4,25),(9,31),(15,36),(21,39),(27,46)],false⟩:=by kernel_rfl
theorem T49:Ty 49=some ⟨1,8,[.nilFunc], .other,false⟩:=by kernel_rfl
theorem T50:Ty 50=some ⟨1,8,[.nilFunc], .other,false⟩:=by kernel_rfl
theorem T51:Ty 51=some ⟨1,24,[.slice none 0 0], .slice 5,false⟩:=by kernel_rfl
theorem T53:Ty 53=some ⟨1,8,[.nilFunc], .other,false⟩:=by kernel_rfl
theorem T54:Ty 54=some ⟨1,24,[.slice none 0 0], .slice 195,false⟩:=by kernel_rfl
theorem T55:Ty 55=some ⟨1,24,[.slice none 0 0], .slice 145,false⟩:=by kernel_rfl
theorem T56:Ty 56=some ⟨5,32,[.int .u8 0, .int .u8 0, .int .u8 0, .int .u8 0, .slice none 0 0], .struct [(0,5),(1,5),(2,5),(3,5),(4,55)],false⟩:=by kernel_rfl
theorem T57:Ty 57=some ⟨5,32,[.int .u8 0, .int .u8 0, .int .u8 0, .int .u8 0, .slice none 0 0], .struct [(0,5),(1,5),(2,5),(3,5),(4,55)],false⟩:=by kernel_rfl
theorem T58:Ty 58=some ⟨1,2,[.int .u16 0], .int .u16,false⟩:=by kernel_rfl
theorem T60:Ty 60=some ⟨1,8,[.nilFunc], .other,false⟩:=by kernel_rfl
theorem T61:Ty 61=some ⟨1,8,[.nilFunc], .other,false⟩:=by kernel_rfl
theorem T62:Ty 62=some ⟨1,8,[.nilFunc], .other,false⟩:=by kernel_rfl
theorem T63:Ty 63=some ⟨1,8,[.nilFunc], .other,false⟩:=by kernel_rfl
theorem T64:Ty 64=some ⟨1,8,[.nilFunc], .other,false⟩:=by kernel_rfl
theorem T65:Ty 65=some ⟨1,8,[.nilFunc], .other,false⟩:=by kernel_rfl
theorem T66:Ty 66=some ⟨1,8,[.nilFunc], .other,false⟩:=by kernel_rfl
theorem T67:Ty 67=some ⟨1,8,[.nilFunc], .other,false⟩:=by kernel_rfl
theorem T68:Ty 68=some ⟨1,8,[.nilFunc], .other,false⟩:=by kernel_rfl
theorem T69:Ty 69=some ⟨1,8,[.nilFunc], .other,false⟩:=by kernel_rfl
theorem T70:Ty 70=some ⟨1,8,[.nilFunc], .other,false⟩:=by kernel_rfl
theorem T71:Ty 71=some ⟨1,8,[.nilFunc], .other,false⟩:=by kernel_rfl
theorem T72:Ty 72=some ⟨1,8,[.nilFunc], .other,false⟩:=by kernel_rfl
theorem T73:Ty 73=some ⟨1,8,[.nilFunc], .other,false⟩:=by kernel_rfl
theorem T74:Ty 74=some ⟨1,8,[.nilFunc], .other,false⟩:=by kernel_rfl
theorem T75:Ty 75=some ⟨1,8,[.nilFunc], .other,false⟩:=by kernel_rfl
theorem T76:Ty 76=some ⟨1,8,[.nilFunc], .other,false⟩:=by kernel_rfl
theorem T77:Ty 77=some ⟨1,8,[.nilFunc], .other,false⟩:=by kernel_rfl
theorem T78:Ty 78=some ⟨1,8,[.nilFunc], .other,false⟩:=by kernel_rfl
theorem T79:Ty 79=some ⟨1,8,[.nilFunc], .other,false⟩:=by kernel_rfl
theorem T80:Ty 80=some ⟨1,8,[.nilFunc], .other,false⟩:=by kernel_rfl
theorem T81:Ty 81=some ⟨1,8,[.nilFunc], .other,false⟩:=by kernel_rfl
theorem T82:Ty 82=some ⟨1,8,[.nilFunc], .other,false⟩:=by kernel_rfl
theorem T83:Ty 83=some ⟨1,8,[.int .i64 0], .struct [(0,26)],false⟩:=by kernel_rfl
theorem T84:Ty 84=some ⟨1,8,[.int .i64 0], .struct [(0,26)],false⟩:=by kernel_rfl
theorem T86:Ty 86=some ⟨1,8,[.pointer none], .pointer 88,false⟩:=by kernel_rfl
theorem T87:Ty 87=some ⟨2,32,[.slice none 0 0, .int .i64 0], .struct [(0,51),(1,3)],false⟩:=by kernel_rfl
theorem T88:Ty 88=some ⟨2,32,[.slice none 0 0, .int .i64 0], .struct [(0,51),(1,3)],false⟩:=by kernel_rfl
theorem T89:Ty 89=some ⟨1,8,[.nilFunc], .other,false⟩:=by kernel_rfl
theorem T90:Ty 90=some ⟨1,8,[.nilFunc], .other,false⟩:=by kernel_rfl
theorem T91:Ty 91=some ⟨1,8,[.pointer none], .pointer 93,false⟩:=by kernel_rfl
theorem T92:Ty 92=some ⟨3,40,[.slice none 0 0, .int .i64 0, .bool false], .struct [(0,51),(1,3),(2,4)],false⟩:=by kernel_rfl
theorem T93:Ty 93=some ⟨3,40,[.slice none 0 0, .int .i64 0, .bool false], .struct [(0,51),(1,3),(2,4)],false⟩:=by kernel_rfl
theorem T94:Ty 94=some ⟨1,8,[.nilFunc], .other,false⟩:=by kernel_rfl
theorem T95:Ty 95=some ⟨1,8,[.nilFunc], .other,false⟩:=by kernel_rfl
theorem T96:Ty 96=some ⟨1,8,[.nilFunc], .other,false⟩:=by kernel_rfl
theorem T97:Ty 97=some ⟨1,8,[.nilFunc], .other,false⟩:=by kernel_rfl
theorem T98:Ty 98=some ⟨1,8,[.nilFunc], .other,false⟩:=by kernel_rfl
theorem T99:Ty 99=some ⟨1,8,[.nilFunc], .other,false⟩:=by kernel_rfl
theorem zvZ:Ty 100=some ⟨5,5,[.int .u8 0, .int .u8 0, .int .u8 0, .int .u8 0, .int .u8 0], .array 5 5,false⟩:=by kernel_rfl
theorem zv0:Ty 101=some ⟨1,8,[.nilFunc], .other,false⟩:=by kernel_rfl
theorem zv1:Ty 102=some ⟨1,8,[.nilFunc], .other,false⟩:=by kernel_rfl
theorem zv2:Ty 103=some ⟨1,8,[.nilFunc], .other,false⟩:=by kernel_rfl
theorem zv3:Ty 104=some ⟨1,8,[.nilFunc], .other,false⟩:=by kernel_rfl
theorem zv4:Ty 105=some ⟨1,8,[.nilFunc], .other,false⟩:=by kernel_rfl
theorem zv5:Ty 106=some ⟨1,8,[.nilFunc], .other,false⟩:=by kernel_rfl
theorem zv6:Ty 107=some ⟨1,24,[.slice none 0 0], .slice 3,false⟩:=by kernel_rfl
theorem zv7:Ty 108=some ⟨4,56,[.string .empty, .int .i64 0, .int .i64 0, .slice none 0 0], .struct [(0,9),(1,3),(2,3),(3,107)],false⟩:=by kernel_rfl
theorem zv8:Ty 109=some ⟨4,56,[.string .empty, .int .i64 0, .int .i64 0, .slice none 0 0], .struct [(0,9),(1,3),(2,3),(3,107)],false⟩:=by kernel_rfl
theorem zv9:Ty 110=some ⟨6,64,[.int .i64 0, .int .i64 0, .int .i64 0, .int .i64 0, .int .i64 0, .slice none 0 0], .struct [(0,3),(1,3),(2,29)],false⟩:=by kernel_rfl
theorem zwa:Ty 111=some ⟨8,80,[.int .i64 0, .int .i64 0, .bool false, .int .i64 0, .int .i64 0, .int .i64 0, .int .i64 0, .slice none 0 0], .struct [(0,3),(1,3),(2,36)],false⟩:=by kernel_rfl
theorem zwb:Ty 112=some ⟨8,80,[.int .i64 0, .int .i64 0, .bool false, .int .i64 0, .int .i64 0, .int .i64 0, .int .i64 0, .slice none 0 0], .struct [(0,3),(1,3),(2,36)],false⟩:=by kernel_rfl
theorem zwc:Ty 113=some ⟨1,8,[.nilFunc], .other,false⟩:=by kernel_rfl
theorem zwd:Ty 114=some ⟨1,8,[.nilFunc], .other,false⟩:=by kernel_rfl
theorem zwe:Ty 115=some ⟨1,8,[.nilFunc], .other,false⟩:=by kernel_rfl
theorem zwf:Ty 116=some ⟨1,8,[.nilFunc], .other,false⟩:=by kernel_rfl
theorem zwg:Ty 117=some ⟨4,32,[.int .i64 0, .int .i64 0, .int .i64 0, .int .i64 0], .array 4 3,false⟩:=by kernel_rfl
theorem zwh:Ty 118=some ⟨1,8,[.nilFunc], .other,false⟩:=by kernel_rfl
theorem zwi:Ty 119=some ⟨1,8,[.int .u64 0], .int .u64,false⟩:=by kernel_rfl
theorem zwj:Ty 120=some ⟨1,8,[.nilFunc], .other,false⟩:=by kernel_rfl
theorem zwk:Ty 121=some ⟨1,8,[.nilFunc], .other,false⟩:=by kernel_rfl
theorem zwl:Ty 122=some ⟨1,8,[.nilFunc], .other,false⟩:=by kernel_rfl
theorem zwm:Ty 123=some ⟨1,8,[.nilFunc], .other,false⟩:=by kernel_rfl
theorem zwn:Ty 124=some ⟨3,24,[.int .i64 0, .int .i64 0, .int .i64 0], .array 3 3,false⟩:=by kernel_rfl
theorem zwo:Ty 125=some ⟨1,8,[.nilFunc], .other,false⟩:=by kernel_rfl
theorem zwp:Ty 126=some ⟨1,8,[.nilFunc], .other,false⟩:=by kernel_rfl
theorem zwq:Ty 127=some ⟨1,8,[.nilFunc], .other,false⟩:=by kernel_rfl
theorem zwr:Ty 129=some ⟨1,8,[.nilFunc], .other,false⟩:=by kernel_rfl
theorem zws:Ty 131=some ⟨1,8,[.nilFunc], .other,false⟩:=by kernel_rfl
theorem zwt:Ty 132=some ⟨1,8,[.nilFunc], .other,false⟩:=by kernel_rfl
theorem zwu:Ty 133=some ⟨1,8,[.nilFunc], .other,false⟩:=by kernel_rfl
theorem zwv:Ty 135=some ⟨1,8,[.nilFunc], .other,false⟩:=by kernel_rfl
theorem zww:Ty 136=some ⟨1,8,[.nilFunc], .other,false⟩:=by kernel_rfl
theorem zwx:Ty 138=some ⟨1,8,[.nilFunc], .other,false⟩:=by kernel_rfl
theorem zwy:Ty 139=some ⟨1,8,[.nilFunc], .other,false⟩:=by kernel_rfl
theorem zwz:Ty 140=some ⟨1,8,[.nilFunc], .other,false⟩:=by kernel_rfl
theorem zwA:Ty 141=some ⟨1,8,[.nilFunc], .other,false⟩:=by kernel_rfl
theorem zwB:Ty 142=some ⟨1,8,[.nilFunc], .other,false⟩:=by kernel_rfl
theorem zwC:Ty 143=some ⟨1,8,[.nilFunc], .other,false⟩:=by kernel_rfl
theorem zwD:Ty 144=some ⟨3,32,[.int .u8 0, .int .u8 0, .slice none 0 0], .struct [(0,5),(1,5),(2,51)],false⟩:=by kernel_rfl
theorem zwE:Ty 145=some ⟨3,32,[.int .u8 0, .int .u8 0, .slice none 0 0], .struct [(0,5),(1,5),(2,51)],false⟩:=by kernel_rfl
theorem zwF:Ty 146=some ⟨1,8,[.nilFunc], .other,false⟩:=by kernel_rfl
theorem zwG:Ty 147=some ⟨1,8,[.nilFunc], .other,false⟩:=by kernel_rfl
theorem zwH:Ty 148=some ⟨1,24,[.slice none 0 0], .slice 51,false⟩:=by kernel_rfl
theorem zwI:Ty 149=some ⟨1,8,[.nilFunc], .other,false⟩:=by kernel_rfl
theorem zwJ:Ty 150=some ⟨2,24,[.string .empty, .int .i64 0], .struct [(0,9),(1,3)],false⟩:=by kernel_rfl
theorem zwK:Ty 151=some ⟨2,24,[.string .empty, .int .i64 0], .struct [(0,9),(1,3)],true⟩:=by kernel_rfl
theorem zwL:Ty 152=some ⟨3,24,[.int .i64 0, .int .i64 0, .int .i64 0], .struct [(0,3),(1,3),(2,3)],false⟩:=by kernel_rfl
theorem zwM:Ty 153=some ⟨3,24,[.int .i64 0, .int .i64 0, .int .i64 0], .struct [(0,3),(1,3),(2,3)],true⟩:=by kernel_rfl
theorem zwN:Ty 154=some ⟨1,8,[.nilFunc], .other,false⟩:=by kernel_rfl
theorem zwO:Ty 155=some ⟨1,8,[.nilFunc], .other,false⟩:=by kernel_rfl
theorem zwP:Ty 156=some ⟨1,8,[.nilFunc], .other,false⟩:=by kernel_rfl
theorem zwQ:Ty 157=some ⟨1,8,[.nilFunc], .other,false⟩:=by kernel_rfl
theorem zwR:Ty 158=some ⟨1,8,[.nilFunc], .other,false⟩:=by kernel_rfl
theorem zwS:Ty 159=some ⟨1,8,[.nilFunc], .other,false⟩:=by kernel_rfl
theorem zwT:Ty 160=some ⟨1,8,[.nilFunc], .other,false⟩:=by kernel_rfl
theorem zwU:Ty 161=some ⟨1,8,[.nilFunc], .other,false⟩:=by kernel_rfl
theorem zwV:Ty 162=some ⟨1,8,[.nilFunc], .other,false⟩:=by kernel_rfl
theorem zwW:Ty 163=some ⟨1,8,[.nilFunc], .other,false⟩:=by kernel_rfl
theorem zwX:Ty 164=some ⟨1,8,[.nilFunc], .other,false⟩:=by kernel_rfl
theorem zwY:Ty 165=some ⟨1,8,[.nilFunc], .other,false⟩:=by kernel_rfl
theorem zwZ:Ty 166=some ⟨1,8,[.nilFunc], .other,false⟩:=by kernel_rfl
theorem zw0:Ty 167=some ⟨1,8,[.nilFunc], .other,false⟩:=by kernel_rfl
theorem zw2:Ty 169=some ⟨1,8,[.nilFunc], .other,false⟩:=by kernel_rfl
theorem zw3:Ty 171=some ⟨1,8,[.nilFunc], .other,false⟩:=by kernel_rfl
theorem zw4:Ty 173=some ⟨1,8,[.nilFunc], .other,false⟩:=by kernel_rfl
theorem zw5:Ty 175=some ⟨1,8,[.nilFunc], .other,false⟩:=by kernel_rfl
theorem zw6:Ty 176=some ⟨1,8,[.int .i64 0], .struct [(0,26)],false⟩:=by kernel_rfl
theorem zw7:Ty 177=some ⟨1,8,[.int .i64 0], .struct [(0,26)],false⟩:=by kernel_rfl
theorem zw8:Ty 179=some ⟨1,8,[.pointer none], .pointer 181,false⟩:=by kernel_rfl
theorem zw9:Ty 180=some ⟨2,32,[.slice none 0 0, .int .i64 0], .struct [(0,51),(1,3)],false⟩:=by kernel_rfl
theorem zxa:Ty 181=some ⟨2,32,[.slice none 0 0, .int .i64 0], .struct [(0,51),(1,3)],false⟩:=by kernel_rfl
theorem zxb:Ty 182=some ⟨1,8,[.nilFunc], .other,false⟩:=by kernel_rfl
theorem zxc:Ty 183=some ⟨1,8,[.nilFunc], .other,false⟩:=by kernel_rfl
theorem zxd:Ty 184=some ⟨1,8,[.pointer none], .pointer 186,false⟩:=by kernel_rfl
theorem zxe:Ty 185=some ⟨3,40,[.slice none 0 0, .int .i64 0, .int .i64 0], .struct [(0,51),(1,3),(2,26)],false⟩:=by kernel_rfl
theorem zxf:Ty 186=some ⟨3,40,[.slice none 0 0, .int .i64 0, .int .i64 0], .struct [(0,51),(1,3),(2,26)],false⟩:=by kernel_rfl
theorem zxg:Ty 188=some ⟨1,8,[.nilFunc], .other,false⟩:=by kernel_rfl
theorem zxh:Ty 189=some ⟨1,8,[.nilFunc], .other,false⟩:=by kernel_rfl
theorem zxi:Ty 190=some ⟨1,8,[.nilFunc], .other,false⟩:=by kernel_rfl
theorem zxj:Ty 191=some ⟨1,8,[.nilFunc], .other,false⟩:=by kernel_rfl
theorem zxk:Ty 192=some ⟨1,24,[.slice none 0 0], .slice 9,false⟩:=by kernel_rfl
theorem zxl:Ty 193=some ⟨1,8,[.nilFunc], .other,false⟩:=by kernel_rfl
theorem zxm:Ty 194=some ⟨6,6,[.int .u8 0, .int .u8 0, .int .u8 0, .int .u8 0, .int .u8 0, .int .u8 0], .struct [(0,5),(1,5),(2,5),(3,5),(4,5),(5,5)],false⟩:=by kernel_rfl
theorem zxn:Ty 195=some ⟨6,6,[.int .u8 0, .int .u8 0, .int .u8 0, .int .u8 0, .int .u8 0, .int .u8 0], .struct [(0,5),(1,5),(2,5),(3,5),(4,5),(5,5)],false⟩:=by kernel_rfl
theorem zxo:Ty 197=some ⟨1,8,[.nilFunc], .other,false⟩:=by kernel_rfl
theorem zxp:Ty 198=some ⟨1,8,[.nilFunc], .other,false⟩:=by kernel_rfl
theorem zxq:Ty 199=some ⟨1,8,[.nilFunc], .other,false⟩:=by kernel_rfl
theorem zxr:Ty 200=some ⟨1,8,[.nilFunc], .other,false⟩:=by kernel_rfl
theorem zxs:Ty 201=some ⟨1,8,[.nilFunc], .other,false⟩:=by kernel_rfl
theorem zxt:Ty 202=some ⟨1,8,[.nilFunc], .other,false⟩:=by kernel_rfl
theorem zxu:Ty 203=some ⟨1,8,[.nilFunc], .other,false⟩:=by kernel_rfl
theorem zxv:Ty 204=some ⟨1,8,[.nilFunc], .other,false⟩:=by kernel_rfl
theorem zxw:Ty 205=some ⟨1,8,[.int .i64 0], .struct [(0,26)],false⟩:=by kernel_rfl
theorem zxx:Ty 206=some ⟨1,8,[.int .i64 0], .struct [(0,26)],false⟩:=by kernel_rfl
theorem zxy:Ty 208=some ⟨2,32,[.slice none 0 0, .int .i64 0], .struct [(0,51),(1,3)],false⟩:=by kernel_rfl
theorem zxz:Ty 209=some ⟨2,32,[.slice none 0 0, .int .i64 0], .struct [(0,51),(1,3)],false⟩:=by kernel_rfl
theorem zxA:Ty 210=some ⟨1,8,[.int .u64 0], .int .u64,false⟩:=by kernel_rfl
theorem zxB:Ty 212=some ⟨1,8,[.nilFunc], .other,false⟩:=by kernel_rfl
theorem zxC:Ty 214=some ⟨1,8,[.nilFunc], .other,false⟩:=by kernel_rfl
theorem zxD:Ty 215=some ⟨1,8,[.pointer none], .pointer 3,false⟩:=by kernel_rfl
theorem zxE:Ty 216=some ⟨4,32,[.pointer none, .pointer none, .pointer none, .pointer none], .array 4 215,false⟩:=by kernel_rfl
theorem zxF:Ty 217=some ⟨1,8,[.nilFunc], .other,false⟩:=by kernel_rfl
theorem zxG:Ty 218=some ⟨1,8,[.nilFunc], .other,false⟩:=by kernel_rfl
theorem zxH:Ty 219=some ⟨1,8,[.nilFunc], .other,false⟩:=by kernel_rfl
theorem zxI:Ty 221=some ⟨1,8,[.nilFunc], .other,false⟩:=by kernel_rfl
theorem zxJ:Ty 222=some ⟨1,8,[.nilFunc], .other,false⟩:=by kernel_rfl
theorem zxK:Ty 223=some ⟨1,8,[.nilFunc], .other,false⟩:=by kernel_rfl
theorem zxL:Ty 224=some ⟨1,8,[.nilFunc], .other,false⟩:=by kernel_rfl
theorem zxM:Ty 226=some ⟨1,8,[.nilFunc], .other,false⟩:=by kernel_rfl
theorem zxN:Ty 228=some ⟨1,8,[.nilFunc], .other,false⟩:=by kernel_rfl
theorem zxO:Ty 229=some ⟨1,8,[.nilFunc], .other,false⟩:=by kernel_rfl
theorem zxP:Ty 230=some ⟨1,8,[.nilFunc], .other,false⟩:=by kernel_rfl
theorem zxQ:Ty 231=some ⟨1,8,[.nilFunc], .other,false⟩:=by kernel_rfl
theorem zxR:Ty 232=some ⟨1,8,[.nilFunc], .other,false⟩:=by kernel_rfl
theorem zxS:Ty 233=some ⟨1,8,[.nilFunc], .other,false⟩:=by kernel_rfl
theorem zxT:Ty 235=some ⟨1,8,[.nilFunc], .other,false⟩:=by kernel_rfl
theorem zxU:Ty 236=some ⟨1,8,[.pointer none], .pointer 209,false⟩:=by kernel_rfl
theorem zxV:Ty 237=some ⟨1,8,[.nilFunc], .other,false⟩:=by kernel_rfl
theorem zxW:Ty 239=some ⟨1,8,[.nilFunc], .other,false⟩:=by kernel_rfl
theorem zxX:Ty 241=some ⟨1,8,[.nilFunc], .other,false⟩:=by kernel_rfl
theorem zxY:Ty 242=some ⟨1,8,[.nilFunc], .other,false⟩:=by kernel_rfl
theorem zxZ:Ty 243=some ⟨1,8,[.nilFunc], .other,false⟩:=by kernel_rfl
theorem zx0:Ty 245=some ⟨1,8,[.nilFunc], .other,false⟩:=by kernel_rfl
theorem zx1:Ty 246=some ⟨1,8,[.nilFunc], .other,false⟩:=by kernel_rfl
theorem zx2:Ty 247=some ⟨1,8,[.nilFunc], .other,false⟩:=by kernel_rfl
theorem zx3:Ty 248=some ⟨1,8,[.nilFunc], .other,false⟩:=by kernel_rfl
theorem zx4:Ty 249=some ⟨1,8,[.nilFunc], .other,false⟩:=by kernel_rfl
theorem zx5:Ty 250=some ⟨1,8,[.nilFunc], .other,false⟩:=by kernel_rfl
theorem zx6:Ty 251=some ⟨1,8,[.nilFunc], .other,false⟩:=by kernel_rfl
theorem zx7:Ty 252=some ⟨1,8,[.nilFunc], .other,false⟩:=by kernel_rfl
theorem zx8:Ty 253=some ⟨1,8,[.nilFunc], .other,false⟩:=by kernel_rfl
theorem zx9:Ty 254=some ⟨1,8,[.nilFunc], .other,false⟩:=by kernel_rfl
theorem zya:Ty 255=some ⟨1,8,[.nilFunc], .other,false⟩:=by kernel_rfl
theorem zyb:Ty 256=some ⟨1,8,[.nilFunc], .other,false⟩:=by kernel_rfl
theorem zyc:Ty 257=some ⟨1,8,[.nilFunc], .other,false⟩:=by kernel_rfl
theorem zyd:Ty 258=some ⟨4,40,[.pointer none, .pointer none, .pointer none, .string .empty], .struct [(0,17),(1,17),(2,17),(3,9)],false⟩:=by kernel_rfl
theorem zye:Ty 259=some ⟨4,40,[.pointer none, .pointer none, .pointer none, .string .empty], .struct [(0,17),(1,17),(2,17),(3,9)],false⟩:=by kernel_rfl
theorem zyf:Ty 260=some ⟨0,0,[], .array 0 16,false⟩:=by kernel_rfl
theorem zyg:Ty 261=some ⟨0,0,[], .struct [(0,260)],false⟩:=by kernel_rfl
theorem zyh:Ty 262=some ⟨0,0,[], .struct [(0,260)],false⟩:=by kernel_rfl
theorem zyi:Ty 263=some ⟨1,4,[.int .u32 0], .int .u32,false⟩:=by kernel_rfl
theorem zyj:Ty 264=some ⟨1,1,[.int .u8 0], .int .u8,false⟩:=by kernel_rfl
theorem zyk:Ty 265=some ⟨1,1,[.int .u8 0], .int .u8,false⟩:=by kernel_rfl
theorem zyl:Ty 266=some ⟨1,8,[.nilFunc], .other,false⟩:=by kernel_rfl
theorem zym:Ty 267=some ⟨1,8,[.pointer none], .pointer 5,false⟩:=by kernel_rfl
theorem zyn:Ty 268=some ⟨1,4,[.int .i32 0], .int .i32,false⟩:=by kernel_rfl
theorem zyo:Ty 269=some ⟨1,4,[.int .i32 0], .int .i32,false⟩:=by kernel_rfl
theorem zyp:Ty 270=some ⟨11,48,[.int .u64 0, .int .u64 0, .int .u32 0, .int .u8 0, .int .u8 0, .int .u8 0, .int .u8 0, .nilFunc, .pointer none, .int .i32 0, .int .i32 0], .struct [(0,12),(1,12),(2,263),(3,264),(4,5),(5,5),(6,265),(7,266),(8,267),(9,268),(10,269)],false⟩:=by kernel_rfl
theorem zyq:Ty 271=some ⟨11,48,[.int .u64 0, .int .u64 0, .int .u32 0, .int .u8 0, .int .u8 0, .int .u8 0, .int .u8 0, .nilFunc, .pointer none, .int .i32 0, .int .i32 0], .struct [(0,12),(1,12),(2,263),(3,264),(4,5),(5,5),(6,265),(7,266),(8,267),(9,268),(10,269)],false⟩:=by kernel_rfl
theorem zyr:Ty 272=some ⟨1,8,[.pointer none], .other,false⟩:=by kernel_rfl
theorem TyB:(type_of% T1)∧(type_of% T2)∧(type_of% T3)∧(type_of% T4)∧(type_of% T5)∧(type_of% T6)∧(type_of% T7)∧(type_of% T8)∧(type_of% T9)∧(type_of% T10)∧(type_of% T11)∧(type_of% T12)∧(type_of% T13)∧(type_of% T14)∧(type_of% T15)∧(type_of% T16)∧(type_of% T17)∧(type_of% T18)∧(type_of% T19)∧(type_of% T20)∧(type_of% T21)∧(type_of% T22)∧(type_of% T23)∧(type_of% T24)∧(type_of% T25)∧(type_of% T26)∧(type_of% T27)∧(type_of% T28)∧(type_of% T29)∧(type_of% T30)∧(type_of% T31)∧(type_of% T32)∧(type_of% T33)∧(type_of% T34)∧(type_of% T35)∧(type_of% T36)∧(type_of% T37)∧(type_of% T38)∧(type_of% T39)∧(type_of% T40)∧(type_of% T41)∧(type_of% T42)∧(type_of% T43)∧(type_of% T44)∧(type_of% T45)∧(type_of% T46)∧(type_of% T47)∧(type_of% T48)∧(type_of% T49)∧(type_of% T50)∧(type_of% T51)∧(type_of% T53)∧(type_of% T54)∧(type_of% T55)∧(type_of% T56)∧(type_of% T57)∧(type_of% T58)∧(type_of% T60)∧(type_of% T61)∧(type_of% T62)∧(type_of% T63)∧(type_of% T64)∧(type_of% T65)∧(type_of% T66)∧(type_of% T67)∧(type_of% T68)∧(type_of% T69)∧(type_of% T70)∧(type_of% T71)∧(type_of% T72)∧(type_of% T73)∧(type_of% T74)∧(type_of% T75)∧(type_of% T76)∧(type_of% T77)∧(type_of% T78)∧(type_of% T79)∧(type_of% T80)∧(type_of% T81)∧(type_of% T82)∧(type_of% T83)∧(type_of% T84)∧(type_of% T86)∧(type_of% T87)∧(type_of% T88)∧(type_of% T89)∧(type_of% T90)∧(type_of% T91)∧(type_of% T92)∧(type_of% T93)∧(type_of% T94)∧(type_of% T95)∧(type_of% T96)∧(type_of% T97)∧(type_of% T98)∧(type_of% T99)∧(type_of% zvZ)∧(type_of% zv0)∧(type_of% zv1)∧(type_of% zv2)∧(type_of% zv3)∧(type_of% zv4)∧(type_of% zv5)∧(type_of% zv6)∧(type_of% zv7)∧(type_of% zv8)∧(type_of% zv9)∧(type_of% zwa)∧(type_of% zwb)∧(type_of% zwc)∧(type_of% zwd)∧(type_of% zwe)∧(type_of% zwf)∧(type_of% zwg)∧(type_of% zwh)∧(type_of% zwi)∧(type_of% zwj)∧(type_of% zwk)∧(type_of% zwl)∧(type_of% zwm)∧(type_of% zwn)∧(type_of% zwo)∧(type_of% zwp)∧(type_of% zwq)∧(type_of% zwr)∧(type_of% zws)∧(type_of% zwt)∧(type_of% zwu)∧(type_of% zwv)∧(type_of% zww)∧(type_of% zwx)∧(type_of% zwy)∧(type_of% zwz)∧(type_of% zwA)∧(type_of% zwB)∧(type_of% zwC)∧(type_of% zwD)∧(type_of% zwE)∧(type_of% zwF)∧(type_of% zwG)∧(type_of% zwH)∧(type_of% zwI)∧(type_of% zwJ)∧(type_of% zwK)∧(type_of% zwL)∧(type_of% zwM)∧(type_of% zwN)∧(type_of% zwO)∧(type_of% zwP)∧(type_of% zwQ)∧(type_of% zwR)∧(type_of% zwS)∧(type_of% zwT)∧(type_of% zwU)∧(type_of% zwV)∧(type_of% zwW)∧(type_of% zwX)∧(type_of% zwY)∧(type_of% zwZ)∧(type_of% zw0)∧(type_of% zw2)∧(type_of% zw3)∧(type_of% zw4)∧(type_of% zw5)∧(type_of% zw6)∧(type_of% zw7)∧(type_of% zw8)∧(type_of% zw9)∧(type_of% zxa)∧(type_of% zxb)∧(type_of% zxc)∧(type_of% zxd)∧(type_of% zxe)∧(type_of% zxf)∧(type_of% zxg)∧(type_of% zxh)∧(type_of% zxi)∧(type_of% zxj)∧(type_of% zxk)∧(type_of% zxl)∧(type_of% zxm)∧(type_of% zxn)∧(type_of% zxo)∧(type_of% zxp)∧(type_of% zxq)∧(type_of% zxr)∧(type_of% zxs)∧(type_of% zxt)∧(type_of% zxu)∧(type_of% zxv)∧(type_of% zxw)∧(type_of% zxx)∧(type_of% zxy)∧(type_of% zxz)∧(type_of% zxA)∧(type_of% zxB)∧(type_of% zxC)∧(type_of% zxD)∧(type_of% zxE)∧(type_of% zxF)∧(type_of% zxG)∧(type_of% zxH)∧(type_of% zxI)∧(type_of% zxJ)∧(type_of% zxK)∧(type_of% zxL)∧(type_of% zxM)∧(type_of% zxN)∧(type_of% zxO)∧(type_of% zxP)∧(type_of% zxQ)∧(type_of% zxR)∧(type_of% zxS)∧(type_of% zxT)∧(type_of% zxU)∧(type_of% zxV)∧(type_of% zxW)∧(type_of% zxX)∧(type_of% zxY)∧(type_of% zxZ)∧(type_of% zx0)∧(type_of% zx1)∧(type_of% zx2)∧(type_of% zx3)∧(type_of% zx4)∧(type_of% zx5)∧(type_of% zx6)∧(type_of% zx7)∧(type_of% zx8)∧(type_of% zx9)∧(type_of% zya)∧(type_of% zyb)∧(type_of% zyc)∧(type_of% zyd)∧(type_of% zye)∧(type_of% zyf)∧(type_of% zyg)∧(type_of% zyh)∧(type_of% zyi)∧(type_of% zyj)∧(type_of% zyk)∧(type_of% zyl)∧(type_of% zym)∧(type_of% zyn)∧(type_of% zyo)∧(type_of% zyp)∧(type_of% zyq)∧type_of% zyr:=⟨T1,⟨T2,⟨T3,⟨T4,⟨T5,⟨T6,⟨T7,⟨T8,⟨T9,⟨T10,⟨T11,⟨T12,⟨T13,⟨T14,⟨T15,⟨T16,⟨T17,⟨T18,⟨T19,⟨T20,⟨T21,⟨T22,⟨T23,⟨T24,⟨T25,⟨T26,⟨T27,⟨T28,⟨T29,⟨T30,⟨T31,⟨T32,⟨T33,⟨T34,⟨T35,⟨T36,⟨T37,⟨T38,⟨T39,⟨T40,⟨T41,⟨T42,⟨T43,⟨T44,⟨T45,⟨T46,⟨T47,⟨T48,⟨T49,⟨T50,⟨T51,⟨T53,⟨T54,⟨T55,⟨T56,⟨T57,⟨T58,⟨T60,⟨T61,⟨T62,⟨T63,⟨T64,⟨T65,⟨T66,⟨T67,⟨T68,⟨T69,⟨T70,⟨T71,⟨T72,⟨T73,⟨T74,⟨T75,⟨T76,⟨T77,⟨T78,⟨T79,⟨T80,⟨T81,⟨T82,⟨T83,⟨T84,⟨T86,⟨T87,⟨T88,⟨T89,⟨T90,⟨T91,⟨T92,⟨T93,⟨T94,⟨T95,⟨T96,⟨T97,⟨T98,⟨T99,⟨zvZ,⟨zv0,⟨zv1,⟨zv2,⟨zv3,⟨zv4,⟨zv5,⟨zv6,⟨zv7,⟨zv8,⟨zv9,⟨zwa,⟨zwb,⟨zwc,⟨zwd,⟨zwe,⟨zwf,⟨zwg,⟨zwh,⟨zwi,⟨zwj,⟨zwk,⟨zwl,⟨zwm,⟨zwn,⟨zwo,⟨zwp,⟨zwq,⟨zwr,⟨zws,⟨zwt,⟨zwu,⟨zwv,⟨zww,⟨zwx,⟨zwy,⟨zwz,⟨zwA,⟨zwB,⟨zwC,⟨zwD,⟨zwE,⟨zwF,⟨zwG,⟨zwH,⟨zwI,⟨zwJ,⟨zwK,⟨zwL,⟨zwM,⟨zwN,⟨zwO,⟨zwP,⟨zwQ,⟨zwR,⟨zwS,⟨zwT,⟨zwU,⟨zwV,⟨zwW,⟨zwX,⟨zwY,⟨zwZ,⟨zw0,⟨zw2,⟨zw3,⟨zw4,⟨zw5,⟨zw6,⟨zw7,⟨zw8,⟨zw9,⟨zxa,⟨zxb,⟨zxc,⟨zxd,⟨zxe,⟨zxf,⟨zxg,⟨zxh,⟨zxi,⟨zxj,⟨zxk,⟨zxl,⟨zxm,⟨zxn,⟨zxo,⟨zxp,⟨zxq,⟨zxr,⟨zxs,⟨zxt,⟨zxu,⟨zxv,⟨zxw,⟨zxx,⟨zxy,⟨zxz,⟨zxA,⟨zxB,⟨zxC,⟨zxD,⟨zxE,⟨zxF,⟨zxG,⟨zxH,⟨zxI,⟨zxJ,⟨zxK,⟨zxL,⟨zxM,⟨zxN,⟨zxO,⟨zxP,⟨zxQ,⟨zxR,⟨zxS,⟨zxT,⟨zxU,⟨zxV,⟨zxW,⟨zxX,⟨zxY,⟨zxZ,⟨zx0,⟨zx1,⟨zx2,⟨zx3,⟨zx4,⟨zx5,⟨zx6,⟨zx7,⟨zx8,⟨zx9,⟨zya,⟨zyb,⟨zyc,⟨zyd,⟨zye,⟨zyf,⟨zyg,⟨zyh,⟨zyi,⟨zyj,⟨zyk,⟨zyl,⟨zym,⟨zyn,⟨zyo,⟨zyp,⟨zyq,zyr⟩⟩⟩⟩⟩⟩⟩⟩⟩⟩⟩⟩⟩⟩⟩⟩⟩⟩⟩⟩⟩⟩⟩⟩⟩⟩⟩⟩⟩⟩⟩⟩⟩⟩⟩⟩⟩⟩⟩⟩⟩⟩⟩⟩⟩⟩⟩⟩⟩⟩⟩⟩⟩⟩⟩⟩⟩⟩⟩⟩⟩⟩⟩⟩⟩⟩⟩⟩⟩⟩⟩⟩⟩⟩⟩⟩⟩⟩⟩⟩⟩⟩⟩⟩⟩⟩⟩⟩⟩⟩⟩⟩⟩⟩⟩⟩⟩⟩⟩⟩⟩⟩⟩⟩⟩⟩⟩⟩⟩⟩⟩⟩⟩⟩⟩⟩⟩⟩⟩⟩⟩⟩⟩⟩⟩⟩⟩⟩⟩⟩⟩⟩⟩⟩⟩⟩⟩⟩⟩⟩⟩⟩⟩⟩⟩⟩⟩⟩⟩⟩⟩⟩⟩⟩⟩⟩⟩⟩⟩⟩⟩⟩⟩⟩⟩⟩⟩⟩⟩⟩⟩⟩⟩⟩⟩⟩⟩⟩⟩⟩⟩⟩⟩⟩⟩⟩⟩⟩⟩⟩⟩⟩⟩⟩⟩⟩⟩⟩⟩⟩⟩⟩⟩⟩⟩⟩⟩⟩⟩⟩⟩⟩⟩⟩⟩⟩⟩⟩⟩⟩⟩⟩⟩⟩⟩⟩⟩⟩⟩⟩⟩⟩⟩⟩⟩⟩⟩⟩⟩⟩⟩⟩⟩⟩⟩⟩⟩
open Go.Pk
theorem zB:type_of% (I pkS (I TyB (I ddE (I implies_true.{0} (I implies_true.{1} (I @forall_const.{0} @forall_const.{1})))))):=I pkS (I TyB (I ddE (I implies_true.{0} (I implies_true.{1} (I @forall_const.{0} @forall_const.{1})))))
theorem zY:type_of% (I zB (I pkY @bne_self_eq_false.{0})):=I zB (I pkY @bne_self_eq_false.{0})
theorem zq {R p q:Prop} (r:R) (h:q) (k:R→Wr q→p:=by intro r z;first|((first|(with_reducible first|refine zat _ _ ?_|refine zcN ?_|refine zcO ?_|refine zbi ?_|refine zbN ?_)|rw[zcm]|simp only[r,zY,Int.reduceEq,Int.reduceBEq,Int.reduceBNe,Nat.reduceSub,Nat.reduceEqDiff,Nat.reduceAdd,Nat.reduceMul,Nat.reduceLeDiff,Nat.reduceLT,Nat.reduceBEq,reduceCtorEq]|(with_reducible refine And.intro ?_ ?_;exact zI)|fail);exact z.h)|(have zz:Wr True:=z;simp only[r,zY,Int.reduceEq,Int.reduceBEq,Int.reduceBNe,Nat.reduceSub,Nat.reduceEqDiff,Nat.reduceAdd,Nat.reduceMul,Nat.reduceLeDiff,Nat.reduceLT,Nat.reduceBEq,reduceCtorEq];done)|fail):p:=k r ⟨h⟩
theorem zq0 {p q:Prop} (h:q) (k:Wr q→p:=by intro z;first|((first|(with_reducible first|refine zat _ _ ?_|refine zcN ?_|refine zcO ?_|refine zbi ?_|refine zbN ?_)|rw[zcm]|simp only[zY,Int.reduceEq,Int.reduceBEq,Int.reduceBNe,Nat.reduceSub,Nat.reduceEqDiff,Nat.reduceAdd,Nat.reduceMul,Nat.reduceLeDiff,Nat.reduceLT,Nat.reduceBEq,reduceCtorEq]|(with_reducible refine And.intro ?_ ?_;exact zI)|fail);exact z.h)|(have zz:Wr True:=z;simp only[zY,Int.reduceEq,Int.reduceBEq,Int.reduceBNe,Nat.reduceSub,Nat.reduceEqDiff,Nat.reduceAdd,Nat.reduceMul,Nat.reduceLeDiff,Nat.reduceLT,Nat.reduceBEq,reduceCtorEq];done)|fail):p:=k ⟨h⟩
theorem zu {R p q:Prop} (r:R) (h:q) (k:R→Wr q→p:=by intro r z;first|((first|(with_reducible first|refine zcN ?_|refine zcO ?_|refine zbi ?_|refine zbN ?_)|rw[zcm]|simp only[r,zY,Int.reduceEq,Int.reduceBEq,Int.reduceBNe,Nat.reduceSub,Nat.reduceEqDiff,Nat.reduceAdd,Nat.reduceMul,Nat.reduceLeDiff,Nat.reduceLT,Nat.reduceBEq,reduceCtorEq]|(with_reducible refine And.intro ?_ ?_;exact zI)|fail);exact z.h)|(have zz:Wr True:=z;simp only[r,zY,Int.reduceEq,Int.reduceBEq,Int.reduceBNe,Nat.reduceSub,Nat.reduceEqDiff,Nat.reduceAdd,Nat.reduceMul,Nat.reduceLeDiff,Nat.reduceLT,Nat.reduceBEq,reduceCtorEq];done)|fail):p:=k r ⟨h⟩
theorem zu0 {p q:Prop} (h:q) (k:Wr q→p:=by intro z;first|((first|(with_reducible first|refine zcN ?_|refine zcO ?_|refine zbi ?_|refine zbN ?_)|rw[zcm]|simp only[zY,Int.reduceEq,Int.reduceBEq,Int.reduceBNe,Nat.reduceSub,Nat.reduceEqDiff,Nat.reduceAdd,Nat.reduceMul,Nat.reduceLeDiff,Nat.reduceLT,Nat.reduceBEq,reduceCtorEq]|(with_reducible refine And.intro ?_ ?_;exact zI)|fail);exact z.h)|(have zz:Wr True:=z;simp only[zY,Int.reduceEq,Int.reduceBEq,Int.reduceBNe,Nat.reduceSub,Nat.reduceEqDiff,Nat.reduceAdd,Nat.reduceMul,Nat.reduceLeDiff,Nat.reduceLT,Nat.reduceBEq,reduceCtorEq];done)|fail):p:=k ⟨h⟩
theorem zw {p q:Prop} (h:q) (k:q→p:=by intro z;(repeat(first|with_reducible refine zat _ _ ?_|with_reducible refine And.imp_right (zat _ _) ?_|with_reducible refine And.imp_right (And.imp_right (zat _ _)) ?_|with_reducible refine And.imp_right (And.imp_right (And.imp_right (zat _ _))) ?_|rw[zcm]|simp only[zB,Nat.reduceSub,Nat.reduceEqDiff,Nat.reduceAdd,Nat.reduceMul,Nat.reduceLeDiff,Nat.reduceLT,Nat.reduceBEq,reduceCtorEq]));exact z):p:=k h
theorem za {R p q:Prop} (r:R) (h:q) (k:R→Wr q→p:=by intro r z;first|((first|(with_reducible first|refine zat _ _ ?_)|rw[zcm]|simp only[r,zB,Nat.reduceSub,Nat.reduceEqDiff,Nat.reduceAdd,Nat.reduceMul,Nat.reduceLeDiff,Nat.reduceLT,Nat.reduceBEq,reduceCtorEq]|refine zbN ?_|fail);exact z.h)|(have zz:Wr True:=z;simp only[r,zB,Nat.reduceSub,Nat.reduceEqDiff,Nat.reduceAdd,Nat.reduceMul,Nat.reduceLeDiff,Nat.reduceLT,Nat.reduceBEq,reduceCtorEq];done)|fail):p:=k r ⟨h⟩
theorem za0 {p q:Prop} (h:q) (k:Wr q→p:=by intro z;first|((first|(with_reducible first|refine zat _ _ ?_)|rw[zcm]|simp only[zB,Nat.reduceSub,Nat.reduceEqDiff,Nat.reduceAdd,Nat.reduceMul,Nat.reduceLeDiff,Nat.reduceLT,Nat.reduceBEq,reduceCtorEq]|refine zbN ?_|fail);exact z.h)|(have zz:Wr True:=z;simp only[zB,Nat.reduceSub,Nat.reduceEqDiff,Nat.reduceAdd,Nat.reduceMul,Nat.reduceLeDiff,Nat.reduceLT,Nat.reduceBEq,reduceCtorEq];done)|fail):p:=k ⟨h⟩
theorem zw1 {R p q:Prop} (r:R) (h:q) (k:R→Wr q→p:=by intro r z;(repeat(first|with_reducible refine zat _ _ ?_|with_reducible refine And.imp_right (zat _ _) ?_|with_reducible refine And.imp_right (And.imp_right (zat _ _)) ?_|with_reducible refine And.imp_right (And.imp_right (And.imp_right (zat _ _))) ?_|rw[zcm]|simp only[r,zB,Nat.reduceSub,Nat.reduceEqDiff,Nat.reduceAdd,Nat.reduceMul,Nat.reduceLeDiff,Nat.reduceLT,Nat.reduceBEq,reduceCtorEq]));exact z.h):p:=k r ⟨h⟩
theorem zs {R p q:Prop} (r:R) (h:q) (k:R→Wr q→p:=by(intro r z;first|simp only[r,zB,Nat.reduceSub,Nat.reduceEqDiff,Nat.reduceAdd,Nat.reduceMul,Nat.reduceLeDiff,Nat.reduceLT,Nat.reduceBEq,reduceCtorEq]|fail);exact z.h):p:=k r ⟨h⟩
theorem zs0 {p q:Prop} (h:q) (k:Wr q→p:=by(intro z;first|simp only[zB,Nat.reduceSub,Nat.reduceEqDiff,Nat.reduceAdd,Nat.reduceMul,Nat.reduceLeDiff,Nat.reduceLT,Nat.reduceBEq,reduceCtorEq]|fail);exact z.h):p:=k ⟨h⟩
theorem zt {R p:Prop} (r:R) (k:R→p:=by(intro r;first|(simp only[r,zB,Nat.reduceSub,Nat.reduceEqDiff,Nat.reduceAdd,Nat.reduceMul,Nat.reduceLeDiff,Nat.reduceLT,Nat.reduceBEq,reduceCtorEq];done)|fail)):p:=k r
theorem zt0 {p:Prop} (k:p:=by(first|(simp only[zB,Nat.reduceSub,Nat.reduceEqDiff,Nat.reduceAdd,Nat.reduceMul,Nat.reduceLeDiff,Nat.reduceLT,Nat.reduceBEq,reduceCtorEq];done)|fail)):p:=k
theorem zf {R p q:Prop} (r:R) (h:q) (k:R→Wr q→p:=by(intro r z;first|simp only[znV,r,zY,Nat.reduceSub,Nat.reduceEqDiff,Nat.reduceAdd,Nat.reduceMul,Nat.reduceLeDiff,Nat.reduceLT,Nat.reduceBEq,reduceCtorEq]|fail);exact z.h):p:=k r ⟨h⟩
theorem zo {R p:Prop} (r:R) (k:R→p:=by(intro r;first|(simp only[zle,r,zY,Nat.reduceSub,Nat.reduceEqDiff,Nat.reduceAdd,Nat.reduceMul,Nat.reduceLeDiff,Nat.reduceLT,Nat.reduceBEq,reduceCtorEq];done)|fail)):p:=k r
theorem zk {R p:Prop} (r:R) (k:R→p:=by(intro r;simp only[r,ddE,ziK,znR,ziL,zlb,zlc,zld,List.set_cons_zero,List.set_cons_succ,and_true,true_and,Int.natCast_zero,Int.cast_ofNat_Int,D.v.injEq,Value.int.injEq];try(repeat'(first|rfl|omega|with_reducible apply And.intro)))):p:=k r
section
variable {T:Nat→Option TI} {P:Program} {all:List Oper} {m:M} {rest:List Oper} {dst:Option Nat} {v:List AV} {r:Rs} {K:Ex→G→Prop} {n:FuncId} {x0 y0:List RO} {ars ass as':List Arg} {mv:Mv} {lent:List Nat} {rfs:List RF} {l':List RO} {f:Operand} {args:Array Operand} {a:Option (FuncId×List Arg)} {x:Value}
theorem zj (h:CallOK P n (.obj y0::as') (fun r o=>r=rfs∧o=[l'])) (hk:aops T P all (upM dst mv.s m) rest (putV v dst (bindM r dst mv rfs l').1) (bindM r dst mv rfs l').2 K)
  (hc:callM 0 v r f args=some (n, .obj x0::ass,mv,lent):=by((try simp only[zY,Int.reduceEq,Int.reduceBEq,Int.reduceBNe,Nat.reduceSub,Nat.reduceEqDiff,Nat.reduceAdd,Nat.reduceMul,Nat.reduceLeDiff,Nat.reduceLT,Nat.reduceBEq,reduceCtorEq]);exact rfl)) (hr:zrL x0 y0:=by(simp[zrL,roA])) (hn:ziN as'=true:=by rfl) (hs:zdp ass as':=by(simp[zdp,aLe,zrO,cLe]))
  (hb:scM r dst mv lent l':=by((try simp only[scM,zB,Nat.reduceSub,Nat.reduceEqDiff,Nat.reduceAdd,Nat.reduceMul,Nat.reduceLeDiff,Nat.reduceLT,Nat.reduceBEq,reduceCtorEq]);repeat'(first|rfl|trivial|omega|with_reducible refine And.intro ?_ ?_))):zhc T P all m rest dst v r K f args a:=znZ hc h hr hn hs hb hk
theorem zp (l':List RO) (h:zbj P n ars x) (hk:K (.panic x) ⟨v,zhL r mv⟩) (hm:m.fp=none:=by rfl) (hc:callM 0 v r f args=some (n,ars,mv,lent):=by((try simp only[zY,Int.reduceEq,Int.reduceBEq,Int.reduceBNe,Nat.reduceSub,Nat.reduceEqDiff,Nat.reduceAdd,Nat.reduceMul,Nat.reduceLeDiff,Nat.reduceLT,Nat.reduceBEq,reduceCtorEq]);exact rfl))
  (hs:scM r none mv lent l':=by((try simp only[scM,zB,Nat.reduceSub,Nat.reduceEqDiff,Nat.reduceAdd,Nat.reduceMul,Nat.reduceLeDiff,Nat.reduceLT,Nat.reduceBEq,reduceCtorEq]);repeat'(first|rfl|trivial|omega|with_reducible refine And.intro ?_ ?_))):zhc T P all m rest dst v r K f args a:=zob 0 hc h hs hm hk
theorem zn (l':List RO) (h:zbj P n ars x) (hc:callM 0 v r f args=some (n,ars,mv,lent):=by((try simp only[zY,Int.reduceEq,Int.reduceBEq,Int.reduceBNe,Nat.reduceSub,Nat.reduceEqDiff,Nat.reduceAdd,Nat.reduceMul,Nat.reduceLeDiff,Nat.reduceLT,Nat.reduceBEq,reduceCtorEq]);exact rfl))
  (hs:scM r none mv lent l':=by((try simp only[scM,zB,Nat.reduceSub,Nat.reduceEqDiff,Nat.reduceAdd,Nat.reduceMul,Nat.reduceLeDiff,Nat.reduceLT,Nat.reduceBEq,reduceCtorEq]);repeat'(first|rfl|trivial|omega|with_reducible refine And.intro ?_ ?_))) (s1:evS true v f:=by first|trivial|(simp only[zB,Nat.reduceSub,Nat.reduceEqDiff,Nat.reduceAdd,Nat.reduceMul,Nat.reduceLeDiff,Nat.reduceLT,Nat.reduceBEq,reduceCtorEq];done)) (s2:evsS true v args.toList:=by first|trivial|(simp only[zB,Nat.reduceSub,Nat.reduceEqDiff,Nat.reduceAdd,Nat.reduceMul,Nat.reduceLeDiff,Nat.reduceLT,Nat.reduceBEq,reduceCtorEq];done)|exact⟨trivial,trivial⟩):zvd P f args x ⟨v,r⟩:=zst 0 l' hc h hs s1 s2
end
end Go.Proofs.YtliimajkpggbhaaGreat
