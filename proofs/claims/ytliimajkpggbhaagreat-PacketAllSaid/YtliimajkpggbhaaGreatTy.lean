import Derived.Test.YtliimajkpggbhaaGreatProg
import Derived.Test.YtliimajkpggbhaaGreatK9
import Derived.KernelRfl
namespace Go.Proofs.YtliimajkpggbhaaGreat
open Go.Pk
noncomputable def Ty:Nat→Option TI:=zu4 Tryz.prog [25,33,153,151]
theorem T1:Ty 1=some ⟨1,8,[.nilFunc], .other,false⟩:=by kernel_rfl
theorem T2:Ty 2=some ⟨1,8,[.int .i64 0], .int .i64,false⟩:=by kernel_rfl
theorem T3:Ty 3=some ⟨1,8,[.int .i64 0], .int .i64,false⟩:=by kernel_rfl
theorem T4:Ty 4=some ⟨1,1,[.bool false], .bool,false⟩:=by kernel_rfl
theorem T5:Ty 5=some ⟨1,1,[.int .u8 0], .int .u8,false⟩:=by kernel_rfl
theorem T6:Ty 6=some ⟨1,1,[.int .u8 0], .int .u8,false⟩:=by kernel_rfl
theorem T7:Ty 7=some ⟨4,24,[.int .i64 0, .int .i64 0, .bool false, .int .u8 0], .struct [(0,2),(1,3),(2,4),(3,6)],false⟩:=by kernel_rfl
theorem T8:Ty 8=some ⟨4,24,[.int .i64 0, .int .i64 0, .bool false, .int .u8 0], .struct [(0,2),(1,3),(2,4),(3,6)],false⟩:=by kernel_rfl
theorem T9:Ty 9=some ⟨1,16,[.string .empty], .string,false⟩:=by kernel_rfl
theorem T10:Ty 10=some ⟨1,16,[.string .empty], .string,false⟩:=by kernel_rfl
theorem T11:Ty 11=some ⟨1,16,[.string .empty], .string,false⟩:=by kernel_rfl
theorem T12:Ty 12=some ⟨1,8,[.int .u64 0], .int .u64,false⟩:=by kernel_rfl
theorem T13:Ty 13=some ⟨2,24,[.string .empty, .int .u64 0], .struct [(0,9),(1,12)],false⟩:=by kernel_rfl
theorem T14:Ty 14=some ⟨2,24,[.string .empty, .int .u64 0], .struct [(0,9),(1,12)],false⟩:=by kernel_rfl
theorem T15:Ty 15=some ⟨1,8,[.pointer none], .pointer 259,false⟩:=by kernel_rfl
theorem T16:Ty 16=some ⟨1,8,[.pointer none], .pointer 262,false⟩:=by kernel_rfl
theorem T17:Ty 17=some ⟨1,8,[.pointer none], .pointer 271,false⟩:=by kernel_rfl
theorem T18:Ty 18=some ⟨1,8,[.pointer none], .struct [(0,17)],false⟩:=by kernel_rfl
theorem T19:Ty 19=some ⟨1,8,[.pointer none], .struct [(0,17)],false⟩:=by kernel_rfl
theorem T20:Ty 20=some ⟨1,16,[.nilIface], .other,false⟩:=by kernel_rfl
theorem T21:Ty 21=some ⟨1,4,[.int .i32 0], .int .i32,false⟩:=by kernel_rfl
theorem T22:Ty 22=some ⟨3,32,[.int .i64 0, .int .i64 0, .string .empty], .struct [(0,3),(1,3),(2,9)],false⟩:=by kernel_rfl
theorem T23:Ty 23=some ⟨3,32,[.int .i64 0, .int .i64 0, .string .empty], .struct [(0,3),(1,3),(2,9)],false⟩:=by kernel_rfl
theorem T24:Ty 24=some ⟨5,48,[.int .i64 0, .int .i64 0, .int .i64 0, .int .i64 0, .string .empty], .struct [(0,3),(1,3),(2,23)],false⟩:=by kernel_rfl
theorem T25:Ty 25=some ⟨5,48,[.int .i64 0, .int .i64 0, .int .i64 0, .int .i64 0, .string .empty], .struct [(0,3),(1,3),(2,23)],true⟩:=by kernel_rfl
theorem T26:Ty 26=some ⟨1,8,[.int .i64 0], .int .i64,false⟩:=by kernel_rfl
theorem T27:Ty 27=some ⟨1,24,[.slice none 0 0], .slice 151,false⟩:=by kernel_rfl
theorem T28:Ty 28=some ⟨4,48,[.int .i64 0, .int .i64 0, .int .i64 0, .slice none 0 0], .struct [(0,26),(1,3),(2,3),(3,27)],false⟩:=by kernel_rfl
theorem T29:Ty 29=some ⟨4,48,[.int .i64 0, .int .i64 0, .int .i64 0, .slice none 0 0], .struct [(0,26),(1,3),(2,3),(3,27)],false⟩:=by kernel_rfl
theorem T30:Ty 30=some ⟨6,64,[.int .i64 0, .int .i64 0, .int .i64 0, .int .i64 0, .int .i64 0, .slice none 0 0], .struct [(0,3),(1,3),(2,29)],false⟩:=by kernel_rfl
theorem T31:Ty 31=some ⟨6,64,[.int .i64 0, .int .i64 0, .int .i64 0, .int .i64 0, .int .i64 0, .slice none 0 0], .struct [(0,3),(1,3),(2,29)],false⟩:=by kernel_rfl
theorem T32:Ty 32=some ⟨2,16,[.int .i64 0, .int .i64 0], .struct [(0,3),(1,3)],false⟩:=by kernel_rfl
theorem T33:Ty 33=some ⟨2,16,[.int .i64 0, .int .i64 0], .struct [(0,3),(1,3)],true⟩:=by kernel_rfl
theorem T34:Ty 34=some ⟨1,24,[.slice none 0 0], .slice 25,false⟩:=by kernel_rfl
theorem T35:Ty 35=some ⟨6,64,[.bool false, .int .i64 0, .int .i64 0, .int .i64 0, .int .i64 0, .slice none 0 0], .struct [(0,4),(1,3),(2,33),(4,3),(5,34)],false⟩:=by kernel_rfl
theorem T36:Ty 36=some ⟨6,64,[.bool false, .int .i64 0, .int .i64 0, .int .i64 0, .int .i64 0, .slice none 0 0], .struct [(0,4),(1,3),(2,33),(4,3),(5,34)],false⟩:=by kernel_rfl
theorem T37:Ty 37=some ⟨1,24,[.slice none 0 0], .slice 112,false⟩:=by kernel_rfl
theorem T38:Ty 38=some ⟨6,64,[.int .i64 0, .int .i64 0, .int .i64 0, .int .i64 0, .int .i64 0, .slice none 0 0], .struct [(0,3),(1,3),(2,33),(4,3),(5,37)],false⟩:=by kernel_rfl
theorem T39:Ty 39=some ⟨6,64,[.int .i64 0, .int .i64 0, .int .i64 0, .int .i64 0, .int .i64 0, .slice none 0 0], .struct [(0,3),(1,3),(2,33),(4,3),(5,37)],false⟩:=by kernel_rfl
theorem T40:Ty 40=some ⟨1,24,[.slice none 0 0], .slice 153,false⟩:=by kernel_rfl
theorem T41:Ty 41=some ⟨1,24,[.slice none 0 0], .slice 109,false⟩:=by kernel_rfl
theorem T42:Ty 42=some ⟨1,24,[.slice none 0 0], .slice 110,false⟩:=by kernel_rfl
theorem T43:Ty 43=some ⟨6,96,[.int .i64 0, .int .i64 0, .int .i64 0, .slice none 0 0, .slice none 0 0, .slice none 0 0], .struct [(0,3),(1,3),(2,3),(3,40),(4,41),(5,42)],false⟩:=by kernel_rfl
theorem T44:Ty 44=some ⟨6,96,[.int .i64 0, .int .i64 0, .int .i64 0, .slice none 0 0, .slice none 0 0, .slice none 0 0], .struct [(0,3),(1,3),(2,3),(3,40),(4,41),(5,42)],false⟩:=by kernel_rfl
theorem T45:Ty 45=some ⟨9,120,[.int .i64 0, .int .i64 0, .int .i64 0, .int .i64 0, .int .i64 0, .int .i64 0, .slice none 0 0, .slice none 0 0, .slice none 0 0], .struct [(0,3),(1,33),(3,44)],false⟩:=by kernel_rfl
theorem T46:Ty 46=some ⟨9,120,[.int .i64 0, .int .i64 0, .int .i64 0, .int .i64 0, .int .i64 0, .int .i64 0, .slice none 0 0, .slice none 0 0, .slice none 0 0], .struct [(0,3),(1,33),(3,44)],false⟩:=by kernel_rfl
theorem T47:Ty 47=some ⟨36,392,[.int .i64 0, .int .i64 0, .int .i64 0, .int .i64 0, .int .i64 0, .int .i64 0, .int .i64 0, .int .i64 0, .string .empty, .int .i64 0, .int .i64 0, .int .i64 0, .int .i64 0, .int .i64 0, .slice none 0 0, .bool false, .int .i64 0, .int .i64 0, .int .i64 0, .int .i64 0, .slice none 0 0, .int .i64 0, .int .i64 0, .int .i64 0, .int .i64 0, .int .i64 0, .slice none 0 0, .int .i64 0, .int .i64 0, .int .i64 0, .int .i64 0, .int .i64 0, .int .i64 0, .slice none 0 0, .slice none 0 0, .slice none 0 0], .struct [(0,3),(1,3),(2,3),(3,3),(4,25),(9,31),(15,36),(21,39),(27,46)],false⟩:=by kernel_rfl
theorem T48:Ty 48=some ⟨36,392,[.int .i64 0, .int .i64 0, .int .i64 0, .int .i64 0, .int .i64 0, .int .i64 0, .int .i64 0, .int .i64 0, .string .empty, .int .i64 0, .int .i64 0, .int .i64 0, .int .i64 0, .int .i64 0, .slice none 0 0, .bool false, .int .i64 0, .int .i64 0, .int .i64 0, .int .i64 0, .slice none 0 0, .int .i64 0, .int .i64 0, .int .i64 0, .int .i64 0, .int .i64 0, .slice none 0 0, .int .i64 0, .int .i64 0, .int .i64 0, .int .i64 0, .int .i64 0, .int .i64 0, .slice none 0 0, .slice none 0 0, .slice none 0 0], .struct [(0,3),(1,3),(2,3),(3,3),(4,25),(9,31),(15,36),(21,39),(27,46)],false⟩:=by kernel_rfl
theorem T49:Ty 49=some ⟨1,8,[.nilFunc], .other,false⟩:=by kernel_rfl
theorem T50:Ty 50=some ⟨1,8,[.nilFunc], .other,false⟩:=by kernel_rfl
theorem T51:Ty 51=some ⟨1,24,[.slice none 0 0], .slice 5,false⟩:=by kernel_rfl
theorem T53:Ty 53=some ⟨1,8,[.nilFunc], .other,false⟩:=by kernel_rfl
theorem T54:Ty 54=some ⟨1,24,[.slice none 0 0], .slice 195,false⟩:=by kernel_rfl
theorem T55:Ty 55=some ⟨1,24,[.slice none 0 0], .slice 145,false⟩:=by kernel_rfl
theorem T56:Ty 56=some ⟨5,32,[.int .u8 0, .int .u8 0, .int .u8 0, .int .u8 0, .slice none 0 0], .struct [(0,5),(1,5),(2,5),(3,5),(4,55)],false⟩:=by kernel_rfl
theorem T57:Ty 57=some ⟨5,32,[.int .u8 0, .int .u8 0, .int .u8 0, .int .u8 0, .slice none 0 0], .struct [(0,5),(1,5),(2,5),(3,5),(4,55)],false⟩:=by kernel_rfl
theorem T58:Ty 58=some ⟨1,2,[.int .u16 0], .int .u16,false⟩:=by kernel_rfl
theorem T60:Ty 60=some ⟨1,8,[.nilFunc], .other,false⟩:=by kernel_rfl
theorem T61:Ty 61=some ⟨1,8,[.nilFunc], .other,false⟩:=by kernel_rfl
theorem T62:Ty 62=some ⟨1,8,[.nilFunc], .other,false⟩:=by kernel_rfl
theorem T63:Ty 63=some ⟨1,8,[.nilFunc], .other,false⟩:=by kernel_rfl
theorem T64:Ty 64=some ⟨1,8,[.nilFunc], .other,false⟩:=by kernel_rfl
theorem T65:Ty 65=some ⟨1,8,[.nilFunc], .other,false⟩:=by kernel_rfl
theorem T66:Ty 66=some ⟨1,8,[.nilFunc], .other,false⟩:=by kernel_rfl
theorem T67:Ty 67=some ⟨1,8,[.nilFunc], .other,false⟩:=by kernel_rfl
theorem T68:Ty 68=some ⟨1,8,[.nilFunc], .other,false⟩:=by kernel_rfl
theorem T69:Ty 69=some ⟨1,8,[.nilFunc], .other,false⟩:=by kernel_rfl
theorem T70:Ty 70=some ⟨1,8,[.nilFunc], .other,false⟩:=by kernel_rfl
theorem T71:Ty 71=some ⟨1,8,[.nilFunc], .other,false⟩:=by kernel_rfl
theorem T72:Ty 72=some ⟨1,8,[.nilFunc], .other,false⟩:=by kernel_rfl
theorem T73:Ty 73=some ⟨1,8,[.nilFunc], .other,false⟩:=by kernel_rfl
theorem T74:Ty 74=some ⟨1,8,[.nilFunc], .other,false⟩:=by kernel_rfl
theorem T75:Ty 75=some ⟨1,8,[.nilFunc], .other,false⟩:=by kernel_rfl
theorem T76:Ty 76=some ⟨1,8,[.nilFunc], .other,false⟩:=by kernel_rfl
theorem T77:Ty 77=some ⟨1,8,[.nilFunc], .other,false⟩:=by kernel_rfl
theorem T78:Ty 78=some ⟨1,8,[.nilFunc], .other,false⟩:=by kernel_rfl
theorem T79:Ty 79=some ⟨1,8,[.nilFunc], .other,false⟩:=by kernel_rfl
theorem T80:Ty 80=some ⟨1,8,[.nilFunc], .other,false⟩:=by kernel_rfl
theorem T81:Ty 81=some ⟨1,8,[.nilFunc], .other,false⟩:=by kernel_rfl
theorem T82:Ty 82=some ⟨1,8,[.nilFunc], .other,false⟩:=by kernel_rfl
theorem T83:Ty 83=some ⟨1,8,[.int .i64 0], .struct [(0,26)],false⟩:=by kernel_rfl
theorem T84:Ty 84=some ⟨1,8,[.int .i64 0], .struct [(0,26)],false⟩:=by kernel_rfl
theorem T86:Ty 86=some ⟨1,8,[.pointer none], .pointer 88,false⟩:=by kernel_rfl
theorem T87:Ty 87=some ⟨2,32,[.slice none 0 0, .int .i64 0], .struct [(0,51),(1,3)],false⟩:=by kernel_rfl
theorem T88:Ty 88=some ⟨2,32,[.slice none 0 0, .int .i64 0], .struct [(0,51),(1,3)],false⟩:=by kernel_rfl
theorem T89:Ty 89=some ⟨1,8,[.nilFunc], .other,false⟩:=by kernel_rfl
theorem T90:Ty 90=some ⟨1,8,[.nilFunc], .other,false⟩:=by kernel_rfl
theorem T91:Ty 91=some ⟨1,8,[.pointer none], .pointer 93,false⟩:=by kernel_rfl
theorem T92:Ty 92=some ⟨3,40,[.slice none 0 0, .int .i64 0, .bool false], .struct [(0,51),(1,3),(2,4)],false⟩:=by kernel_rfl
theorem T93:Ty 93=some ⟨3,40,[.slice none 0 0, .int .i64 0, .bool false], .struct [(0,51),(1,3),(2,4)],false⟩:=by kernel_rfl
theorem T94:Ty 94=some ⟨1,8,[.nilFunc], .other,false⟩:=by kernel_rfl
theorem T95:Ty 95=some ⟨1,8,[.nilFunc], .other,false⟩:=by kernel_rfl
theorem T96:Ty 96=some ⟨1,8,[.nilFunc], .other,false⟩:=by kernel_rfl
theorem T97:Ty 97=some ⟨1,8,[.nilFunc], .other,false⟩:=by kernel_rfl
theorem T98:Ty 98=some ⟨1,8,[.nilFunc], .other,false⟩:=by kernel_rfl
theorem T99:Ty 99=some ⟨1,8,[.nilFunc], .other,false⟩:=by kernel_rfl
theorem zyb:Ty 100=some ⟨5,5,[.int .u8 0, .int .u8 0, .int .u8 0, .int .u8 0, .int .u8 0], .array 5 5,false⟩:=by kernel_rfl
theorem zyc:Ty 101=some ⟨1,8,[.nilFunc], .other,false⟩:=by kernel_rfl
theorem zyd:Ty 102=some ⟨1,8,[.nilFunc], .other,false⟩:=by kernel_rfl
theorem zye:Ty 103=some ⟨1,8,[.nilFunc], .other,false⟩:=by kernel_rfl
theorem zyf:Ty 104=some ⟨1,8,[.nilFunc], .other,false⟩:=by kernel_rfl
theorem zyg:Ty 105=some ⟨1,8,[.nilFunc], .other,false⟩:=by kernel_rfl
theorem zyh:Ty 106=some ⟨1,8,[.nilFunc], .other,false⟩:=by kernel_rfl
theorem zyi:Ty 107=some ⟨1,24,[.slice none 0 0], .slice 3,false⟩:=by kernel_rfl
theorem zyj:Ty 108=some ⟨4,56,[.string .empty, .int .i64 0, .int .i64 0, .slice none 0 0], .struct [(0,9),(1,3),(2,3),(3,107)],false⟩:=by kernel_rfl
theorem zyk:Ty 109=some ⟨4,56,[.string .empty, .int .i64 0, .int .i64 0, .slice none 0 0], .struct [(0,9),(1,3),(2,3),(3,107)],false⟩:=by kernel_rfl
theorem zyl:Ty 110=some ⟨6,64,[.int .i64 0, .int .i64 0, .int .i64 0, .int .i64 0, .int .i64 0, .slice none 0 0], .struct [(0,3),(1,3),(2,29)],false⟩:=by kernel_rfl
theorem zym:Ty 111=some ⟨8,80,[.int .i64 0, .int .i64 0, .bool false, .int .i64 0, .int .i64 0, .int .i64 0, .int .i64 0, .slice none 0 0], .struct [(0,3),(1,3),(2,36)],false⟩:=by kernel_rfl
theorem zyn:Ty 112=some ⟨8,80,[.int .i64 0, .int .i64 0, .bool false, .int .i64 0, .int .i64 0, .int .i64 0, .int .i64 0, .slice none 0 0], .struct [(0,3),(1,3),(2,36)],false⟩:=by kernel_rfl
theorem zyo:Ty 113=some ⟨1,8,[.nilFunc], .other,false⟩:=by kernel_rfl
theorem zyp:Ty 114=some ⟨1,8,[.nilFunc], .other,false⟩:=by kernel_rfl
theorem zyq:Ty 115=some ⟨1,8,[.nilFunc], .other,false⟩:=by kernel_rfl
theorem zyr:Ty 116=some ⟨1,8,[.nilFunc], .other,false⟩:=by kernel_rfl
theorem zys:Ty 117=some ⟨4,32,[.int .i64 0, .int .i64 0, .int .i64 0, .int .i64 0], .array 4 3,false⟩:=by kernel_rfl
theorem zyt:Ty 118=some ⟨1,8,[.nilFunc], .other,false⟩:=by kernel_rfl
theorem zyu:Ty 119=some ⟨1,8,[.int .u64 0], .int .u64,false⟩:=by kernel_rfl
theorem zyv:Ty 120=some ⟨1,8,[.nilFunc], .other,false⟩:=by kernel_rfl
theorem zyw:Ty 121=some ⟨1,8,[.nilFunc], .other,false⟩:=by kernel_rfl
theorem zyx:Ty 122=some ⟨1,8,[.nilFunc], .other,false⟩:=by kernel_rfl
theorem zyy:Ty 123=some ⟨1,8,[.nilFunc], .other,false⟩:=by kernel_rfl
theorem zyz:Ty 124=some ⟨3,24,[.int .i64 0, .int .i64 0, .int .i64 0], .array 3 3,false⟩:=by kernel_rfl
theorem zyA:Ty 125=some ⟨1,8,[.nilFunc], .other,false⟩:=by kernel_rfl
theorem zyB:Ty 126=some ⟨1,8,[.nilFunc], .other,false⟩:=by kernel_rfl
theorem zyC:Ty 127=some ⟨1,8,[.nilFunc], .other,false⟩:=by kernel_rfl
theorem zyD:Ty 129=some ⟨1,8,[.nilFunc], .other,false⟩:=by kernel_rfl
theorem zyE:Ty 131=some ⟨1,8,[.nilFunc], .other,false⟩:=by kernel_rfl
theorem zyF:Ty 132=some ⟨1,8,[.nilFunc], .other,false⟩:=by kernel_rfl
theorem zyG:Ty 133=some ⟨1,8,[.nilFunc], .other,false⟩:=by kernel_rfl
theorem zyH:Ty 135=some ⟨1,8,[.nilFunc], .other,false⟩:=by kernel_rfl
theorem zyI:Ty 136=some ⟨1,8,[.nilFunc], .other,false⟩:=by kernel_rfl
theorem zyJ:Ty 138=some ⟨1,8,[.nilFunc], .other,false⟩:=by kernel_rfl
theorem zyK:Ty 139=some ⟨1,8,[.nilFunc], .other,false⟩:=by kernel_rfl
theorem zyL:Ty 140=some ⟨1,8,[.nilFunc], .other,false⟩:=by kernel_rfl
theorem zyM:Ty 141=some ⟨1,8,[.nilFunc], .other,false⟩:=by kernel_rfl
theorem zyN:Ty 142=some ⟨1,8,[.nilFunc], .other,false⟩:=by kernel_rfl
theorem zyO:Ty 143=some ⟨1,8,[.nilFunc], .other,false⟩:=by kernel_rfl
theorem zyP:Ty 144=some ⟨3,32,[.int .u8 0, .int .u8 0, .slice none 0 0], .struct [(0,5),(1,5),(2,51)],false⟩:=by kernel_rfl
theorem zyQ:Ty 145=some ⟨3,32,[.int .u8 0, .int .u8 0, .slice none 0 0], .struct [(0,5),(1,5),(2,51)],false⟩:=by kernel_rfl
theorem zyR:Ty 146=some ⟨1,8,[.nilFunc], .other,false⟩:=by kernel_rfl
theorem zyS:Ty 147=some ⟨1,8,[.nilFunc], .other,false⟩:=by kernel_rfl
theorem zyT:Ty 148=some ⟨1,24,[.slice none 0 0], .slice 51,false⟩:=by kernel_rfl
theorem zyU:Ty 149=some ⟨1,8,[.nilFunc], .other,false⟩:=by kernel_rfl
theorem zyV:Ty 150=some ⟨2,24,[.string .empty, .int .i64 0], .struct [(0,9),(1,3)],false⟩:=by kernel_rfl
theorem zyW:Ty 151=some ⟨2,24,[.string .empty, .int .i64 0], .struct [(0,9),(1,3)],true⟩:=by kernel_rfl
theorem zyX:Ty 152=some ⟨3,24,[.int .i64 0, .int .i64 0, .int .i64 0], .struct [(0,3),(1,3),(2,3)],false⟩:=by kernel_rfl
theorem zyY:Ty 153=some ⟨3,24,[.int .i64 0, .int .i64 0, .int .i64 0], .struct [(0,3),(1,3),(2,3)],true⟩:=by kernel_rfl
theorem zyZ:Ty 154=some ⟨1,8,[.nilFunc], .other,false⟩:=by kernel_rfl
theorem zy0:Ty 155=some ⟨1,8,[.nilFunc], .other,false⟩:=by kernel_rfl
theorem zy1:Ty 156=some ⟨1,8,[.nilFunc], .other,false⟩:=by kernel_rfl
theorem zy2:Ty 157=some ⟨1,8,[.nilFunc], .other,false⟩:=by kernel_rfl
theorem zy3:Ty 158=some ⟨1,8,[.nilFunc], .other,false⟩:=by kernel_rfl
theorem zy4:Ty 159=some ⟨1,8,[.nilFunc], .other,false⟩:=by kernel_rfl
theorem zy5:Ty 160=some ⟨1,8,[.nilFunc], .other,false⟩:=by kernel_rfl
theorem zy6:Ty 161=some ⟨1,8,[.nilFunc], .other,false⟩:=by kernel_rfl
theorem zy7:Ty 162=some ⟨1,8,[.nilFunc], .other,false⟩:=by kernel_rfl
theorem zy8:Ty 163=some ⟨1,8,[.nilFunc], .other,false⟩:=by kernel_rfl
theorem zy9:Ty 164=some ⟨1,8,[.nilFunc], .other,false⟩:=by kernel_rfl
theorem zza:Ty 165=some ⟨1,8,[.nilFunc], .other,false⟩:=by kernel_rfl
theorem zzb:Ty 166=some ⟨1,8,[.nilFunc], .other,false⟩:=by kernel_rfl
theorem zzc:Ty 167=some ⟨1,8,[.nilFunc], .other,false⟩:=by kernel_rfl
theorem zzd:Ty 169=some ⟨1,8,[.nilFunc], .other,false⟩:=by kernel_rfl
theorem zze:Ty 171=some ⟨1,8,[.nilFunc], .other,false⟩:=by kernel_rfl
theorem zzf:Ty 173=some ⟨1,8,[.nilFunc], .other,false⟩:=by kernel_rfl
theorem zzg:Ty 175=some ⟨1,8,[.nilFunc], .other,false⟩:=by kernel_rfl
theorem zzh:Ty 176=some ⟨1,8,[.int .i64 0], .struct [(0,26)],false⟩:=by kernel_rfl
theorem zzi:Ty 177=some ⟨1,8,[.int .i64 0], .struct [(0,26)],false⟩:=by kernel_rfl
theorem zzj:Ty 179=some ⟨1,8,[.pointer none], .pointer 181,false⟩:=by kernel_rfl
theorem zzk:Ty 180=some ⟨2,32,[.slice none 0 0, .int .i64 0], .struct [(0,51),(1,3)],false⟩:=by kernel_rfl
theorem zzl:Ty 181=some ⟨2,32,[.slice none 0 0, .int .i64 0], .struct [(0,51),(1,3)],false⟩:=by kernel_rfl
theorem zzm:Ty 182=some ⟨1,8,[.nilFunc], .other,false⟩:=by kernel_rfl
theorem zzn:Ty 183=some ⟨1,8,[.nilFunc], .other,false⟩:=by kernel_rfl
theorem zzo:Ty 184=some ⟨1,8,[.pointer none], .pointer 186,false⟩:=by kernel_rfl
theorem zzp:Ty 185=some ⟨3,40,[.slice none 0 0, .int .i64 0, .int .i64 0], .struct [(0,51),(1,3),(2,26)],false⟩:=by kernel_rfl
theorem zzq:Ty 186=some ⟨3,40,[.slice none 0 0, .int .i64 0, .int .i64 0], .struct [(0,51),(1,3),(2,26)],false⟩:=by kernel_rfl
theorem zzr:Ty 188=some ⟨1,8,[.nilFunc], .other,false⟩:=by kernel_rfl
theorem zzs:Ty 189=some ⟨1,8,[.nilFunc], .other,false⟩:=by kernel_rfl
theorem zzt:Ty 190=some ⟨1,8,[.nilFunc], .other,false⟩:=by kernel_rfl
theorem zzu:Ty 191=some ⟨1,8,[.nilFunc], .other,false⟩:=by kernel_rfl
theorem zzv:Ty 192=some ⟨1,24,[.slice none 0 0], .slice 9,false⟩:=by kernel_rfl
theorem zzw:Ty 193=some ⟨1,8,[.nilFunc], .other,false⟩:=by kernel_rfl
theorem zzx:Ty 194=some ⟨6,6,[.int .u8 0, .int .u8 0, .int .u8 0, .int .u8 0, .int .u8 0, .int .u8 0], .struct [(0,5),(1,5),(2,5),(3,5),(4,5),(5,5)],false⟩:=by kernel_rfl
theorem zzy:Ty 195=some ⟨6,6,[.int .u8 0, .int .u8 0, .int .u8 0, .int .u8 0, .int .u8 0, .int .u8 0], .struct [(0,5),(1,5),(2,5),(3,5),(4,5),(5,5)],false⟩:=by kernel_rfl
theorem zzz:Ty 197=some ⟨1,8,[.nilFunc], .other,false⟩:=by kernel_rfl
theorem zzA:Ty 198=some ⟨1,8,[.nilFunc], .other,false⟩:=by kernel_rfl
theorem zzB:Ty 199=some ⟨1,8,[.nilFunc], .other,false⟩:=by kernel_rfl
theorem zzC:Ty 200=some ⟨1,8,[.nilFunc], .other,false⟩:=by kernel_rfl
theorem zzD:Ty 201=some ⟨1,8,[.nilFunc], .other,false⟩:=by kernel_rfl
theorem zzE:Ty 202=some ⟨1,8,[.nilFunc], .other,false⟩:=by kernel_rfl
theorem zzF:Ty 203=some ⟨1,8,[.nilFunc], .other,false⟩:=by kernel_rfl
theorem zzG:Ty 204=some ⟨1,8,[.nilFunc], .other,false⟩:=by kernel_rfl
theorem zzH:Ty 205=some ⟨1,8,[.int .i64 0], .struct [(0,26)],false⟩:=by kernel_rfl
theorem zzI:Ty 206=some ⟨1,8,[.int .i64 0], .struct [(0,26)],false⟩:=by kernel_rfl
theorem zzJ:Ty 208=some ⟨2,32,[.slice none 0 0, .int .i64 0], .struct [(0,51),(1,3)],false⟩:=by kernel_rfl
theorem zzK:Ty 209=some ⟨2,32,[.slice none 0 0, .int .i64 0], .struct [(0,51),(1,3)],false⟩:=by kernel_rfl
theorem zzL:Ty 210=some ⟨1,8,[.int .u64 0], .int .u64,false⟩:=by kernel_rfl
theorem zzM:Ty 212=some ⟨1,8,[.nilFunc], .other,false⟩:=by kernel_rfl
theorem zzN:Ty 214=some ⟨1,8,[.nilFunc], .other,false⟩:=by kernel_rfl
theorem zzO:Ty 215=some ⟨1,8,[.pointer none], .pointer 3,false⟩:=by kernel_rfl
theorem zzP:Ty 216=some ⟨4,32,[.pointer none, .pointer none, .pointer none, .pointer none], .array 4 215,false⟩:=by kernel_rfl
theorem zzQ:Ty 217=some ⟨1,8,[.nilFunc], .other,false⟩:=by kernel_rfl
theorem zzR:Ty 218=some ⟨1,8,[.nilFunc], .other,false⟩:=by kernel_rfl
theorem zzS:Ty 219=some ⟨1,8,[.nilFunc], .other,false⟩:=by kernel_rfl
theorem zzT:Ty 221=some ⟨1,8,[.nilFunc], .other,false⟩:=by kernel_rfl
theorem zzU:Ty 222=some ⟨1,8,[.nilFunc], .other,false⟩:=by kernel_rfl
theorem zzV:Ty 223=some ⟨1,8,[.nilFunc], .other,false⟩:=by kernel_rfl
theorem zzW:Ty 224=some ⟨1,8,[.nilFunc], .other,false⟩:=by kernel_rfl
theorem zzX:Ty 226=some ⟨1,8,[.nilFunc], .other,false⟩:=by kernel_rfl
theorem zzY:Ty 228=some ⟨1,8,[.nilFunc], .other,false⟩:=by kernel_rfl
theorem zzZ:Ty 229=some ⟨1,8,[.nilFunc], .other,false⟩:=by kernel_rfl
theorem zz0:Ty 230=some ⟨1,8,[.nilFunc], .other,false⟩:=by kernel_rfl
theorem zz1:Ty 231=some ⟨1,8,[.nilFunc], .other,false⟩:=by kernel_rfl
theorem zz2:Ty 232=some ⟨1,8,[.nilFunc], .other,false⟩:=by kernel_rfl
theorem zz3:Ty 233=some ⟨1,8,[.nilFunc], .other,false⟩:=by kernel_rfl
theorem zz4:Ty 235=some ⟨1,8,[.nilFunc], .other,false⟩:=by kernel_rfl
theorem zz5:Ty 236=some ⟨1,8,[.pointer none], .pointer 209,false⟩:=by kernel_rfl
theorem zz6:Ty 237=some ⟨1,8,[.nilFunc], .other,false⟩:=by kernel_rfl
theorem zz7:Ty 239=some ⟨1,8,[.nilFunc], .other,false⟩:=by kernel_rfl
theorem zz8:Ty 241=some ⟨1,8,[.nilFunc], .other,false⟩:=by kernel_rfl
theorem zz9:Ty 242=some ⟨1,8,[.nilFunc], .other,false⟩:=by kernel_rfl
theorem zAa:Ty 243=some ⟨1,8,[.nilFunc], .other,false⟩:=by kernel_rfl
theorem zAb:Ty 245=some ⟨1,8,[.nilFunc], .other,false⟩:=by kernel_rfl
theorem zAc:Ty 246=some ⟨1,8,[.nilFunc], .other,false⟩:=by kernel_rfl
theorem zAd:Ty 247=some ⟨1,8,[.nilFunc], .other,false⟩:=by kernel_rfl
theorem zAe:Ty 248=some ⟨1,8,[.nilFunc], .other,false⟩:=by kernel_rfl
theorem zAf:Ty 249=some ⟨1,8,[.nilFunc], .other,false⟩:=by kernel_rfl
theorem zAg:Ty 250=some ⟨1,8,[.nilFunc], .other,false⟩:=by kernel_rfl
theorem zAh:Ty 251=some ⟨1,8,[.nilFunc], .other,false⟩:=by kernel_rfl
theorem zAi:Ty 252=some ⟨1,8,[.nilFunc], .other,false⟩:=by kernel_rfl
theorem zAj:Ty 253=some ⟨1,8,[.nilFunc], .other,false⟩:=by kernel_rfl
theorem zAk:Ty 254=some ⟨1,8,[.nilFunc], .other,false⟩:=by kernel_rfl
theorem zAl:Ty 255=some ⟨1,8,[.nilFunc], .other,false⟩:=by kernel_rfl
theorem zAm:Ty 256=some ⟨1,8,[.nilFunc], .other,false⟩:=by kernel_rfl
theorem zAn:Ty 257=some ⟨1,8,[.nilFunc], .other,false⟩:=by kernel_rfl
theorem zAo:Ty 258=some ⟨4,40,[.pointer none, .pointer none, .pointer none, .string .empty], .struct [(0,17),(1,17),(2,17),(3,9)],false⟩:=by kernel_rfl
theorem zAp:Ty 259=some ⟨4,40,[.pointer none, .pointer none, .pointer none, .string .empty], .struct [(0,17),(1,17),(2,17),(3,9)],false⟩:=by kernel_rfl
theorem zAq:Ty 260=some ⟨0,0,[], .array 0 16,false⟩:=by kernel_rfl
theorem zAr:Ty 261=some ⟨0,0,[], .struct [(0,260)],false⟩:=by kernel_rfl
theorem zAs:Ty 262=some ⟨0,0,[], .struct [(0,260)],false⟩:=by kernel_rfl
theorem zAt:Ty 263=some ⟨1,4,[.int .u32 0], .int .u32,false⟩:=by kernel_rfl
theorem zAu:Ty 264=some ⟨1,1,[.int .u8 0], .int .u8,false⟩:=by kernel_rfl
theorem zAv:Ty 265=some ⟨1,1,[.int .u8 0], .int .u8,false⟩:=by kernel_rfl
theorem zAw:Ty 266=some ⟨1,8,[.nilFunc], .other,false⟩:=by kernel_rfl
theorem zAx:Ty 267=some ⟨1,8,[.pointer none], .pointer 5,false⟩:=by kernel_rfl
theorem zAy:Ty 268=some ⟨1,4,[.int .i32 0], .int .i32,false⟩:=by kernel_rfl
theorem zAz:Ty 269=some ⟨1,4,[.int .i32 0], .int .i32,false⟩:=by kernel_rfl
theorem zAA:Ty 270=some ⟨11,48,[.int .u64 0, .int .u64 0, .int .u32 0, .int .u8 0, .int .u8 0, .int .u8 0, .int .u8 0, .nilFunc, .pointer none, .int .i32 0, .int .i32 0], .struct [(0,12),(1,12),(2,263),(3,264),(4,5),(5,5),(6,265),(7,266),(8,267),(9,268),(10,269)],false⟩:=by kernel_rfl
theorem zAB:Ty 271=some ⟨11,48,[.int .u64 0, .int .u64 0, .int .u32 0, .int .u8 0, .int .u8 0, .int .u8 0, .int .u8 0, .nilFunc, .pointer none, .int .i32 0, .int .i32 0], .struct [(0,12),(1,12),(2,263),(3,264),(4,5),(5,5),(6,265),(7,266),(8,267),(9,268),(10,269)],false⟩:=by kernel_rfl
theorem zAC:Ty 272=some ⟨1,8,[.pointer none], .other,false⟩:=by kernel_rfl
theorem TyB:(type_of% T1)∧(type_of% T2)∧(type_of% T3)∧(type_of% T4)∧(type_of% T5)∧(type_of% T6)∧(type_of% T7)∧(type_of% T8)∧(type_of% T9)∧(type_of% T10)∧(type_of% T11)∧(type_of% T12)∧(type_of% T13)∧(type_of% T14)∧(type_of% T15)∧(type_of% T16)∧(type_of% T17)∧(type_of% T18)∧(type_of% T19)∧(type_of% T20)∧(type_of% T21)∧(type_of% T22)∧(type_of% T23)∧(type_of% T24)∧(type_of% T25)∧(type_of% T26)∧(type_of% T27)∧(type_of% T28)∧(type_of% T29)∧(type_of% T30)∧(type_of% T31)∧(type_of% T32)∧(type_of% T33)∧(type_of% T34)∧(type_of% T35)∧(type_of% T36)∧(type_of% T37)∧(type_of% T38)∧(type_of% T39)∧(type_of% T40)∧(type_of% T41)∧(type_of% T42)∧(type_of% T43)∧(type_of% T44)∧(type_of% T45)∧(type_of% T46)∧(type_of% T47)∧(type_of% T48)∧(type_of% T49)∧(type_of% T50)∧(type_of% T51)∧(type_of% T53)∧(type_of% T54)∧(type_of% T55)∧(type_of% T56)∧(type_of% T57)∧(type_of% T58)∧(type_of% T60)∧(type_of% T61)∧(type_of% T62)∧(type_of% T63)∧(type_of% T64)∧(type_of% T65)∧(type_of% T66)∧(type_of% T67)∧(type_of% T68)∧(type_of% T69)∧(type_of% T70)∧(type_of% T71)∧(type_of% T72)∧(type_of% T73)∧(type_of% T74)∧(type_of% T75)∧(type_of% T76)∧(type_of% T77)∧(type_of% T78)∧(type_of% T79)∧(type_of% T80)∧(type_of% T81)∧(type_of% T82)∧(type_of% T83)∧(type_of% T84)∧(type_of% T86)∧(type_of% T87)∧(type_of% T88)∧(type_of% T89)∧(type_of% T90)∧(type_of% T91)∧(type_of% T92)∧(type_of% T93)∧(type_of% T94)∧(type_of% T95)∧(type_of% T96)∧(type_of% T97)∧(type_of% T98)∧(type_of% T99)∧(type_of% zyb)∧(type_of% zyc)∧(type_of% zyd)∧(type_of% zye)∧(type_of% zyf)∧(type_of% zyg)∧(type_of% zyh)∧(type_of% zyi)∧(type_of% zyj)∧(type_of% zyk)∧(type_of% zyl)∧(type_of% zym)∧(type_of% zyn)∧(type_of% zyo)∧(type_of% zyp)∧(type_of% zyq)∧(type_of% zyr)∧(type_of% zys)∧(type_of% zyt)∧(type_of% zyu)∧(type_of% zyv)∧(type_of% zyw)∧(type_of% zyx)∧(type_of% zyy)∧(type_of% zyz)∧(type_of% zyA)∧(type_of% zyB)∧(type_of% zyC)∧(type_of% zyD)∧(type_of% zyE)∧(type_of% zyF)∧(type_of% zyG)∧(type_of% zyH)∧(type_of% zyI)∧(type_of% zyJ)∧(type_of% zyK)∧(type_of% zyL)∧(type_of% zyM)∧(type_of% zyN)∧(type_of% zyO)∧(type_of% zyP)∧(type_of% zyQ)∧(type_of% zyR)∧(type_of% zyS)∧(type_of% zyT)∧(type_of% zyU)∧(type_of% zyV)∧(type_of% zyW)∧(type_of% zyX)∧(type_of% zyY)∧(type_of% zyZ)∧(type_of% zy0)∧(type_of% zy1)∧(type_of% zy2)∧(type_of% zy3)∧(type_of% zy4)∧(type_of% zy5)∧(type_of% zy6)∧(type_of% zy7)∧(type_of% zy8)∧(type_of% zy9)∧(type_of% zza)∧(type_of% zzb)∧(type_of% zzc)∧(type_of% zzd)∧(type_of% zze)∧(type_of% zzf)∧(type_of% zzg)∧(type_of% zzh)∧(type_of% zzi)∧(type_of% zzj)∧(type_of% zzk)∧(type_of% zzl)∧(type_of% zzm)∧(type_of% zzn)∧(type_of% zzo)∧(type_of% zzp)∧(type_of% zzq)∧(type_of% zzr)∧(type_of% zzs)∧(type_of% zzt)∧(type_of% zzu)∧(type_of% zzv)∧(type_of% zzw)∧(type_of% zzx)∧(type_of% zzy)∧(type_of% zzz)∧(type_of% zzA)∧(type_of% zzB)∧(type_of% zzC)∧(type_of% zzD)∧(type_of% zzE)∧(type_of% zzF)∧(type_of% zzG)∧(type_of% zzH)∧(type_of% zzI)∧(type_of% zzJ)∧(type_of% zzK)∧(type_of% zzL)∧(type_of% zzM)∧(type_of% zzN)∧(type_of% zzO)∧(type_of% zzP)∧(type_of% zzQ)∧(type_of% zzR)∧(type_of% zzS)∧(type_of% zzT)∧(type_of% zzU)∧(type_of% zzV)∧(type_of% zzW)∧(type_of% zzX)∧(type_of% zzY)∧(type_of% zzZ)∧(type_of% zz0)∧(type_of% zz1)∧(type_of% zz2)∧(type_of% zz3)∧(type_of% zz4)∧(type_of% zz5)∧(type_of% zz6)∧(type_of% zz7)∧(type_of% zz8)∧(type_of% zz9)∧(type_of% zAa)∧(type_of% zAb)∧(type_of% zAc)∧(type_of% zAd)∧(type_of% zAe)∧(type_of% zAf)∧(type_of% zAg)∧(type_of% zAh)∧(type_of% zAi)∧(type_of% zAj)∧(type_of% zAk)∧(type_of% zAl)∧(type_of% zAm)∧(type_of% zAn)∧(type_of% zAo)∧(type_of% zAp)∧(type_of% zAq)∧(type_of% zAr)∧(type_of% zAs)∧(type_of% zAt)∧(type_of% zAu)∧(type_of% zAv)∧(type_of% zAw)∧(type_of% zAx)∧(type_of% zAy)∧(type_of% zAz)∧(type_of% zAA)∧(type_of% zAB)∧type_of% zAC:=⟨T1,⟨T2,⟨T3,⟨T4,⟨T5,⟨T6,⟨T7,⟨T8,⟨T9,⟨T10,⟨T11,⟨T12,⟨T13,⟨T14,⟨T15,⟨T16,⟨T17,⟨T18,⟨T19,⟨T20,⟨T21,⟨T22,⟨T23,⟨T24,⟨T25,⟨T26,⟨T27,⟨T28,⟨T29,⟨T30,⟨T31,⟨T32,⟨T33,⟨T34,⟨T35,⟨T36,⟨T37,⟨T38,⟨T39,⟨T40,⟨T41,⟨T42,⟨T43,⟨T44,⟨T45,⟨T46,⟨T47,⟨T48,⟨T49,⟨T50,⟨T51,⟨T53,⟨T54,⟨T55,⟨T56,⟨T57,⟨T58,⟨T60,⟨T61,⟨T62,⟨T63,⟨T64,⟨T65,⟨T66,⟨T67,⟨T68,⟨T69,⟨T70,⟨T71,⟨T72,⟨T73,⟨T74,⟨T75,⟨T76,⟨T77,⟨T78,⟨T79,⟨T80,⟨T81,⟨T82,⟨T83,⟨T84,⟨T86,⟨T87,⟨T88,⟨T89,⟨T90,⟨T91,⟨T92,⟨T93,⟨T94,⟨T95,⟨T96,⟨T97,⟨T98,⟨T99,⟨zyb,⟨zyc,⟨zyd,⟨zye,⟨zyf,⟨zyg,⟨zyh,⟨zyi,⟨zyj,⟨zyk,⟨zyl,⟨zym,⟨zyn,⟨zyo,⟨zyp,⟨zyq,⟨zyr,⟨zys,⟨zyt,⟨zyu,⟨zyv,⟨zyw,⟨zyx,⟨zyy,⟨zyz,⟨zyA,⟨zyB,⟨zyC,⟨zyD,⟨zyE,⟨zyF,⟨zyG,⟨zyH,⟨zyI,⟨zyJ,⟨zyK,⟨zyL,⟨zyM,⟨zyN,⟨zyO,⟨zyP,⟨zyQ,⟨zyR,⟨zyS,⟨zyT,⟨zyU,⟨zyV,⟨zyW,⟨zyX,⟨zyY,⟨zyZ,⟨zy0,⟨zy1,⟨zy2,⟨zy3,⟨zy4,⟨zy5,⟨zy6,⟨zy7,⟨zy8,⟨zy9,⟨zza,⟨zzb,⟨zzc,⟨zzd,⟨zze,⟨zzf,⟨zzg,⟨zzh,⟨zzi,⟨zzj,⟨zzk,⟨zzl,⟨zzm,⟨zzn,⟨zzo,⟨zzp,⟨zzq,⟨zzr,⟨zzs,⟨zzt,⟨zzu,⟨zzv,⟨zzw,⟨zzx,⟨zzy,⟨zzz,⟨zzA,⟨zzB,⟨zzC,⟨zzD,⟨zzE,⟨zzF,⟨zzG,⟨zzH,⟨zzI,⟨zzJ,⟨zzK,⟨zzL,⟨zzM,⟨zzN,⟨zzO,⟨zzP,⟨zzQ,⟨zzR,⟨zzS,⟨zzT,⟨zzU,⟨zzV,⟨zzW,⟨zzX,⟨zzY,⟨zzZ,⟨zz0,⟨zz1,⟨zz2,⟨zz3,⟨zz4,⟨zz5,⟨zz6,⟨zz7,⟨zz8,⟨zz9,⟨zAa,⟨zAb,⟨zAc,⟨zAd,⟨zAe,⟨zAf,⟨zAg,⟨zAh,⟨zAi,⟨zAj,⟨zAk,⟨zAl,⟨zAm,⟨zAn,⟨zAo,⟨zAp,⟨zAq,⟨zAr,⟨zAs,⟨zAt,⟨zAu,⟨zAv,⟨zAw,⟨zAx,⟨zAy,⟨zAz,⟨zAA,⟨zAB,zAC⟩⟩⟩⟩⟩⟩⟩⟩⟩⟩⟩⟩⟩⟩⟩⟩⟩⟩⟩⟩⟩⟩⟩⟩⟩⟩⟩⟩⟩⟩⟩⟩⟩⟩⟩⟩⟩⟩⟩⟩⟩⟩⟩⟩⟩⟩⟩⟩⟩⟩⟩⟩⟩⟩⟩⟩⟩⟩⟩⟩⟩⟩⟩⟩⟩⟩⟩⟩⟩⟩⟩⟩⟩⟩⟩⟩⟩⟩⟩⟩⟩⟩⟩⟩⟩⟩⟩⟩⟩⟩⟩⟩⟩⟩⟩⟩⟩⟩⟩⟩⟩⟩⟩⟩⟩⟩⟩⟩⟩⟩⟩⟩⟩⟩⟩⟩⟩⟩⟩⟩⟩⟩⟩⟩⟩⟩⟩⟩⟩⟩⟩⟩⟩⟩⟩⟩⟩⟩⟩⟩⟩⟩⟩⟩⟩⟩⟩⟩⟩⟩⟩⟩⟩⟩⟩⟩⟩⟩⟩⟩⟩⟩⟩⟩⟩⟩⟩⟩⟩⟩⟩⟩⟩⟩⟩⟩⟩⟩⟩⟩⟩⟩⟩⟩⟩⟩⟩⟩⟩⟩⟩⟩⟩⟩⟩⟩⟩⟩⟩⟩⟩⟩⟩⟩⟩⟩⟩⟩⟩⟩⟩⟩⟩⟩⟩⟩⟩⟩⟩⟩⟩⟩⟩⟩⟩⟩⟩⟩⟩⟩⟩⟩⟩⟩⟩⟩⟩⟩⟩⟩⟩⟩⟩⟩⟩⟩⟩
open Go.Pk
theorem zB:type_of% (I pkS (I TyB (I ddE (I implies_true.{0} (I implies_true.{1} (I @forall_const.{0} @forall_const.{1})))))):=I pkS (I TyB (I ddE (I implies_true.{0} (I implies_true.{1} (I @forall_const.{0} @forall_const.{1})))))
theorem zY:type_of% (I zB (I pkY @bne_self_eq_false.{0})):=I zB (I pkY @bne_self_eq_false.{0})
theorem zq {R p q:Prop} (r:R) (h:q) (k:R→Wr q→p:=by intro r z;first|((first|(with_reducible first|refine zae _ _ ?_|refine zaX ?_|refine zaY ?_|refine zaB ?_|refine zaG ?_)|rw[zaP]|simp only[r,zY,Int.reduceEq,Int.reduceBEq,Int.reduceBNe,Nat.reduceSub,Nat.reduceEqDiff,Nat.reduceAdd,Nat.reduceMul,Nat.reduceLeDiff,Nat.reduceLT,Nat.reduceBEq,reduceCtorEq]|(with_reducible refine And.intro ?_ ?_;exact zI)|fail);exact z.h)|(have zz:Wr True:=z;simp only[r,zY,Int.reduceEq,Int.reduceBEq,Int.reduceBNe,Nat.reduceSub,Nat.reduceEqDiff,Nat.reduceAdd,Nat.reduceMul,Nat.reduceLeDiff,Nat.reduceLT,Nat.reduceBEq,reduceCtorEq];done)|fail):p:=k r ⟨h⟩
theorem zq0 {p q:Prop} (h:q) (k:Wr q→p:=by intro z;first|((first|(with_reducible first|refine zae _ _ ?_|refine zaX ?_|refine zaY ?_|refine zaB ?_|refine zaG ?_)|rw[zaP]|simp only[zY,Int.reduceEq,Int.reduceBEq,Int.reduceBNe,Nat.reduceSub,Nat.reduceEqDiff,Nat.reduceAdd,Nat.reduceMul,Nat.reduceLeDiff,Nat.reduceLT,Nat.reduceBEq,reduceCtorEq]|(with_reducible refine And.intro ?_ ?_;exact zI)|fail);exact z.h)|(have zz:Wr True:=z;simp only[zY,Int.reduceEq,Int.reduceBEq,Int.reduceBNe,Nat.reduceSub,Nat.reduceEqDiff,Nat.reduceAdd,Nat.reduceMul,Nat.reduceLeDiff,Nat.reduceLT,Nat.reduceBEq,reduceCtorEq];done)|fail):p:=k ⟨h⟩
theorem zu {R p q:Prop} (r:R) (h:q) (k:R→Wr q→p:=by intro r z;first|((first|(with_reducible first|refine zaX ?_|refine zaY ?_|refine zaB ?_|refine zaG ?_)|rw[zaP]|simp only[r,zY,Int.reduceEq,Int.reduceBEq,Int.reduceBNe,Nat.reduceSub,Nat.reduceEqDiff,Nat.reduceAdd,Nat.reduceMul,Nat.reduceLeDiff,Nat.reduceLT,Nat.reduceBEq,reduceCtorEq]|(with_reducible refine And.intro ?_ ?_;exact zI)|fail);exact z.h)|(have zz:Wr True:=z;simp only[r,zY,Int.reduceEq,Int.reduceBEq,Int.reduceBNe,Nat.reduceSub,Nat.reduceEqDiff,Nat.reduceAdd,Nat.reduceMul,Nat.reduceLeDiff,Nat.reduceLT,Nat.reduceBEq,reduceCtorEq];done)|fail):p:=k r ⟨h⟩
theorem zu0 {p q:Prop} (h:q) (k:Wr q→p:=by intro z;first|((first|(with_reducible first|refine zaX ?_|refine zaY ?_|refine zaB ?_|refine zaG ?_)|rw[zaP]|simp only[zY,Int.reduceEq,Int.reduceBEq,Int.reduceBNe,Nat.reduceSub,Nat.reduceEqDiff,Nat.reduceAdd,Nat.reduceMul,Nat.reduceLeDiff,Nat.reduceLT,Nat.reduceBEq,reduceCtorEq]|(with_reducible refine And.intro ?_ ?_;exact zI)|fail);exact z.h)|(have zz:Wr True:=z;simp only[zY,Int.reduceEq,Int.reduceBEq,Int.reduceBNe,Nat.reduceSub,Nat.reduceEqDiff,Nat.reduceAdd,Nat.reduceMul,Nat.reduceLeDiff,Nat.reduceLT,Nat.reduceBEq,reduceCtorEq];done)|fail):p:=k ⟨h⟩
theorem zw {p q:Prop} (h:q) (k:q→p:=by intro z;(repeat(first|with_reducible refine zae _ _ ?_|with_reducible refine And.imp_right (zae _ _) ?_|with_reducible refine And.imp_right (And.imp_right (zae _ _)) ?_|with_reducible refine And.imp_right (And.imp_right (And.imp_right (zae _ _))) ?_|rw[zaP]|simp only[zB,Nat.reduceSub,Nat.reduceEqDiff,Nat.reduceAdd,Nat.reduceMul,Nat.reduceLeDiff,Nat.reduceLT,Nat.reduceBEq,reduceCtorEq]));exact z):p:=k h
theorem za {R p q:Prop} (r:R) (h:q) (k:R→Wr q→p:=by intro r z;first|((first|(with_reducible first|refine zae _ _ ?_)|rw[zaP]|simp only[r,zB,Nat.reduceSub,Nat.reduceEqDiff,Nat.reduceAdd,Nat.reduceMul,Nat.reduceLeDiff,Nat.reduceLT,Nat.reduceBEq,reduceCtorEq]|refine zaG ?_|fail);exact z.h)|(have zz:Wr True:=z;simp only[r,zB,Nat.reduceSub,Nat.reduceEqDiff,Nat.reduceAdd,Nat.reduceMul,Nat.reduceLeDiff,Nat.reduceLT,Nat.reduceBEq,reduceCtorEq];done)|fail):p:=k r ⟨h⟩
theorem za0 {p q:Prop} (h:q) (k:Wr q→p:=by intro z;first|((first|(with_reducible first|refine zae _ _ ?_)|rw[zaP]|simp only[zB,Nat.reduceSub,Nat.reduceEqDiff,Nat.reduceAdd,Nat.reduceMul,Nat.reduceLeDiff,Nat.reduceLT,Nat.reduceBEq,reduceCtorEq]|refine zaG ?_|fail);exact z.h)|(have zz:Wr True:=z;simp only[zB,Nat.reduceSub,Nat.reduceEqDiff,Nat.reduceAdd,Nat.reduceMul,Nat.reduceLeDiff,Nat.reduceLT,Nat.reduceBEq,reduceCtorEq];done)|fail):p:=k ⟨h⟩
theorem zW {R C p:Prop} (r:R) (c:C) (k:Wr R→Wr C→p:=by intro r c;repeat'(first|exact zC|refine zq (@Wr.h _ r) ?_|refine zx c.h ?_|refine zx c.h.1 ?_|refine zx c.h.2 ?_|refine zx c.h.2.1 ?_|refine zx c.h.2.2 ?_|refine zx c.h.2.2.1 ?_|refine zx c.h.2.2.2 ?_|refine zx c.h.2.2.2.1 ?_|refine zx c.h.2.2.2.2 ?_|refine zx c.h.2.2.2.2.1 ?_|refine zx c.h.2.2.2.2.2 ?_|refine zx c.h.2.2.2.2.2.1 ?_|refine zx c.h.2.2.2.2.2.2 ?_|refine zx c.h.2.2.2.2.2.2.1 ?_|refine zx c.h.2.2.2.2.2.2.2 ?_|refine zx c.h.2.2.2.2.2.2.2.1 ?_|refine zx c.h.2.2.2.2.2.2.2.2 ?_|refine zx c.h.2.2.2.2.2.2.2.2.1 ?_|refine zx c.h.2.2.2.2.2.2.2.2.2 ?_|(apply zab<;>intro hb)|(apply I;exact zI)|(apply I<;>intro hg))):p:=k ⟨r⟩ ⟨c⟩
theorem zL {R C p q:Prop} (r:R) (c:C) (h:q) (k:Wr R→Wr C→Wr q→p:=by intro r c z;(repeat(first|refine zq (@Wr.h _ r) ?_|refine zx c.h ?_|refine zx c.h.1 ?_|refine zx c.h.2 ?_|refine zx c.h.2.1 ?_|refine zx c.h.2.2 ?_|refine zx c.h.2.2.1 ?_|refine zx c.h.2.2.2 ?_|refine zx c.h.2.2.2.1 ?_|refine zx c.h.2.2.2.2 ?_|refine zx c.h.2.2.2.2.1 ?_|refine zx c.h.2.2.2.2.2 ?_|refine zx c.h.2.2.2.2.2.1 ?_|refine zx c.h.2.2.2.2.2.2 ?_|refine zx c.h.2.2.2.2.2.2.1 ?_|refine zx c.h.2.2.2.2.2.2.2 ?_|refine zx c.h.2.2.2.2.2.2.2.1 ?_|refine zx c.h.2.2.2.2.2.2.2.2 ?_|refine zx c.h.2.2.2.2.2.2.2.2.1 ?_|refine zx c.h.2.2.2.2.2.2.2.2.2 ?_|(apply I;exact zI)));exact z.h):p:=k ⟨r⟩ ⟨c⟩ ⟨h⟩
theorem zW0 {R p:Prop} (r:R) (k:Wr R→p:=by intro r;repeat'(first|exact zC|refine zq (@Wr.h _ r) ?_|(apply zab<;>intro hb)|(apply I;exact zI)|(apply I<;>intro hg))):p:=k ⟨r⟩
theorem zL0 {R p q:Prop} (r:R) (h:q) (k:Wr R→Wr q→p:=by intro r z;(repeat(first|refine zq (@Wr.h _ r) ?_|(apply I;exact zI)));exact z.h):p:=k ⟨r⟩ ⟨h⟩
theorem zLa {R C p q:Prop} (r:R) (c:C) (h:q) (k:Wr R→Wr C→Wr q→p:=by intro r c z;(repeat(first|refine za (@Wr.h _ r) ?_|refine zx c.h ?_|refine zx c.h.1 ?_|refine zx c.h.2 ?_|refine zx c.h.2.1 ?_|refine zx c.h.2.2 ?_|refine zx c.h.2.2.1 ?_|refine zx c.h.2.2.2 ?_|refine zx c.h.2.2.2.1 ?_|refine zx c.h.2.2.2.2 ?_|refine zx c.h.2.2.2.2.1 ?_|refine zx c.h.2.2.2.2.2 ?_|refine zx c.h.2.2.2.2.2.1 ?_|refine zx c.h.2.2.2.2.2.2 ?_|refine zx c.h.2.2.2.2.2.2.1 ?_|refine zx c.h.2.2.2.2.2.2.2 ?_|refine zx c.h.2.2.2.2.2.2.2.1 ?_|refine zx c.h.2.2.2.2.2.2.2.2 ?_|refine zx c.h.2.2.2.2.2.2.2.2.1 ?_|refine zx c.h.2.2.2.2.2.2.2.2.2 ?_|(apply I;exact zI)));exact z.h):p:=k ⟨r⟩ ⟨c⟩ ⟨h⟩
theorem zwI {R p:Prop} (r:R) (k:Wr R→p:=by intro r;repeat'(first|exact zC|refine za (@Wr.h _ r) ?_|(apply zab<;>intro hb)|(apply I;exact zI)|(apply I<;>intro hg))):p:=k ⟨r⟩
theorem zxO {R p q:Prop} (r:R) (h:q) (k:Wr R→Wr q→p:=by intro r z;(repeat(first|refine za (@Wr.h _ r) ?_|(apply I;exact zI)));exact z.h):p:=k ⟨r⟩ ⟨h⟩
theorem zw1 {R p q:Prop} (r:R) (h:q) (k:R→Wr q→p:=by intro r z;(repeat(first|with_reducible refine zae _ _ ?_|with_reducible refine And.imp_right (zae _ _) ?_|with_reducible refine And.imp_right (And.imp_right (zae _ _)) ?_|with_reducible refine And.imp_right (And.imp_right (And.imp_right (zae _ _))) ?_|rw[zaP]|simp only[r,zB,Nat.reduceSub,Nat.reduceEqDiff,Nat.reduceAdd,Nat.reduceMul,Nat.reduceLeDiff,Nat.reduceLT,Nat.reduceBEq,reduceCtorEq]));exact z.h):p:=k r ⟨h⟩
theorem zs {R p q:Prop} (r:R) (h:q) (k:R→Wr q→p:=by(intro r z;first|simp only[r,zB,Nat.reduceSub,Nat.reduceEqDiff,Nat.reduceAdd,Nat.reduceMul,Nat.reduceLeDiff,Nat.reduceLT,Nat.reduceBEq,reduceCtorEq]|fail);exact z.h):p:=k r ⟨h⟩
theorem zs0 {p q:Prop} (h:q) (k:Wr q→p:=by(intro z;first|simp only[zB,Nat.reduceSub,Nat.reduceEqDiff,Nat.reduceAdd,Nat.reduceMul,Nat.reduceLeDiff,Nat.reduceLT,Nat.reduceBEq,reduceCtorEq]|fail);exact z.h):p:=k ⟨h⟩
theorem zt {R p:Prop} (r:R) (k:R→p:=by(intro r;first|(simp only[r,zB,Nat.reduceSub,Nat.reduceEqDiff,Nat.reduceAdd,Nat.reduceMul,Nat.reduceLeDiff,Nat.reduceLT,Nat.reduceBEq,reduceCtorEq];done)|fail)):p:=k r
theorem zt0 {p:Prop} (k:p:=by(first|(simp only[zB,Nat.reduceSub,Nat.reduceEqDiff,Nat.reduceAdd,Nat.reduceMul,Nat.reduceLeDiff,Nat.reduceLT,Nat.reduceBEq,reduceCtorEq];done)|fail)):p:=k
theorem zf {R p q:Prop} (r:R) (h:q) (k:R→Wr q→p:=by(intro r z;first|simp only[zpD,r,zY,Nat.reduceSub,Nat.reduceEqDiff,Nat.reduceAdd,Nat.reduceMul,Nat.reduceLeDiff,Nat.reduceLT,Nat.reduceBEq,reduceCtorEq]|fail);exact z.h):p:=k r ⟨h⟩
theorem zo {R p:Prop} (r:R) (k:R→p:=by(intro r;first|(simp only[zmB,r,zY,Nat.reduceSub,Nat.reduceEqDiff,Nat.reduceAdd,Nat.reduceMul,Nat.reduceLeDiff,Nat.reduceLT,Nat.reduceBEq,reduceCtorEq];done)|fail)):p:=k r
theorem zk {R p:Prop} (r:R) (k:R→p:=by(intro r;simp only[r,ddE,zbX,zdu,zbY,zcw,zcx,zcy,List.set_cons_zero,List.set_cons_succ,and_true,true_and,Int.natCast_zero,Int.cast_ofNat_Int,D.v.injEq,Value.int.injEq];try(repeat'(first|rfl|omega|with_reducible apply And.intro)))):p:=k r
section
variable {T:Nat→Option TI} {P:Program} {all:List Oper} {m:M} {rest:List Oper} {dst:Option Nat} {v:List AV} {r:Rs} {K:Ex→G→Prop} {n:FuncId} {x0 y0:List RO} {ars ass as':List Arg} {mv:Mv} {lent:List Nat} {rfs:List RF} {l':List RO} {f:Operand} {args:Array Operand} {a:Option (FuncId×List Arg)} {x:Value}
theorem zj (h:CallOK P n (.obj y0::as') (fun r o=>r=rfs∧o=[l'])) (hk:aops T P all (upM dst mv.s m) rest (putV v dst (bindM r dst mv rfs l').1) (bindM r dst mv rfs l').2 K)
  (hc:callM 0 v r f args=some (n, .obj x0::ass,mv,lent):=by((try simp only[zY,Int.reduceEq,Int.reduceBEq,Int.reduceBNe,Nat.reduceSub,Nat.reduceEqDiff,Nat.reduceAdd,Nat.reduceMul,Nat.reduceLeDiff,Nat.reduceLT,Nat.reduceBEq,reduceCtorEq]);exact rfl)) (hr:ztB x0 y0:=by(simp[ztB,roA])) (hn:zj4 as'=true:=by rfl) (hs:zdZ ass as':=by(simp[zdZ,aLe,ztE,cLe]))
  (hb:scM r dst mv lent l':=by((try simp only[scM,zB,Nat.reduceSub,Nat.reduceEqDiff,Nat.reduceAdd,Nat.reduceMul,Nat.reduceLeDiff,Nat.reduceLT,Nat.reduceBEq,reduceCtorEq]);repeat'(first|rfl|trivial|omega|with_reducible refine And.intro ?_ ?_))):zii T P all m rest dst v r K f args a:=zpG hc h hr hn hs hb hk
theorem zp (l':List RO) (h:zbE P n ars x) (hk:K (.panic x) ⟨v,ziZ r mv⟩) (hm:m.fp=none:=by rfl) (hc:callM 0 v r f args=some (n,ars,mv,lent):=by((try simp only[zY,Int.reduceEq,Int.reduceBEq,Int.reduceBNe,Nat.reduceSub,Nat.reduceEqDiff,Nat.reduceAdd,Nat.reduceMul,Nat.reduceLeDiff,Nat.reduceLT,Nat.reduceBEq,reduceCtorEq]);exact rfl))
  (hs:scM r none mv lent l':=by((try simp only[scM,zB,Nat.reduceSub,Nat.reduceEqDiff,Nat.reduceAdd,Nat.reduceMul,Nat.reduceLeDiff,Nat.reduceLT,Nat.reduceBEq,reduceCtorEq]);repeat'(first|rfl|trivial|omega|with_reducible refine And.intro ?_ ?_))):zii T P all m rest dst v r K f args a:=zpT 0 hc h hs hm hk
theorem zn (l':List RO) (h:zbE P n ars x) (hc:callM 0 v r f args=some (n,ars,mv,lent):=by((try simp only[zY,Int.reduceEq,Int.reduceBEq,Int.reduceBNe,Nat.reduceSub,Nat.reduceEqDiff,Nat.reduceAdd,Nat.reduceMul,Nat.reduceLeDiff,Nat.reduceLT,Nat.reduceBEq,reduceCtorEq]);exact rfl))
  (hs:scM r none mv lent l':=by((try simp only[scM,zB,Nat.reduceSub,Nat.reduceEqDiff,Nat.reduceAdd,Nat.reduceMul,Nat.reduceLeDiff,Nat.reduceLT,Nat.reduceBEq,reduceCtorEq]);repeat'(first|rfl|trivial|omega|with_reducible refine And.intro ?_ ?_))) (s1:evS true v f:=by first|trivial|(simp only[zB,Nat.reduceSub,Nat.reduceEqDiff,Nat.reduceAdd,Nat.reduceMul,Nat.reduceLeDiff,Nat.reduceLT,Nat.reduceBEq,reduceCtorEq];done)) (s2:evsS true v args.toList:=by first|trivial|(simp only[zB,Nat.reduceSub,Nat.reduceEqDiff,Nat.reduceAdd,Nat.reduceMul,Nat.reduceLeDiff,Nat.reduceLT,Nat.reduceBEq,reduceCtorEq];done)|exact⟨trivial,trivial⟩):zxh P f args x ⟨v,r⟩:=zuu 0 l' hc h hs s1 s2
end
end Go.Proofs.YtliimajkpggbhaaGreat
