import Derived.Test.YtliimajkpggbhaaGreatProg
import Derived.Test.YtliimajkpggbhaaGreatK9
import Derived.KernelRfl
namespace Go.Proofs.YtliimajkpggbhaaGreat
open Go.Pk
noncomputable def Ty:Nat→Option TI:=zzK Tryz.prog [25,33,153,151]
theorem T1:Ty 1=some ⟨1,8,[.nilFunc], .other,false⟩:=by kernel_rfl
theorem T2:Ty 2=some ⟨1,8,[.int .i64 0], .int .i64,false⟩:=by kernel_rfl
theorem T3:Ty 3=some ⟨1,8,[.int .i64 0], .int .i64,false⟩:=by kernel_rfl
theorem T4:Ty 4=some ⟨1,1,[.bool false], .bool,false⟩:=by kernel_rfl
theorem T5:Ty 5=some ⟨1,1,[.int .u8 0], .int .u8,false⟩:=by kernel_rfl
theorem T6:Ty 6=some ⟨1,1,[.int .u8 0], .int .u8,false⟩:=by kernel_rfl
theorem T7:Ty 7=some ⟨4,24,[.int .i64 0, .int .i64 0, .bool false, .int .u8 0], .struct [(0,2),(1,3),(2,4),(3,6)],false⟩:=by kernel_rfl
theorem T8:Ty 8=some ⟨4,24,[.int .i64 0, .int .i64 0, .bool false, .int .u8 0], .struct [(0,2),(1,3),(2,4),(3,6)],false⟩:=by kernel_rfl
theorem T9:Ty 9=some ⟨1,16,[.string .empty], .string,false⟩:=by kernel_rfl
theorem T10:Ty 10=some ⟨1,16,[.string .empty], .string,false⟩:=by kernel_rfl
theorem T11:Ty 11=some ⟨1,16,[.string .empty], .string,false⟩:=by kernel_rfl
theorem T12:Ty 12=some ⟨1,8,[.int .u64 0], .int .u64,false⟩:=by kernel_rfl
theorem T13:Ty 13=some ⟨2,24,[.string .empty, .int .u64 0], .struct [(0,9),(1,12)],false⟩:=by kernel_rfl
theorem T14:Ty 14=some ⟨2,24,[.string .empty, .int .u64 0], .struct [(0,9),(1,12)],false⟩:=by kernel_rfl
theorem T15:Ty 15=some ⟨1,8,[.pointer none], .pointer 259,false⟩:=by kernel_rfl
theorem T16:Ty 16=some ⟨1,8,[.pointer none], .pointer 262,false⟩:=by kernel_rfl
theorem T17:Ty 17=some ⟨1,8,[.pointer none], .pointer 271,false⟩:=by kernel_rfl
theorem T18:Ty 18=some ⟨1,8,[.pointer none], .struct [(0,17)],false⟩:=by kernel_rfl
theorem T19:Ty 19=some ⟨1,8,[.pointer none], .struct [(0,17)],false⟩:=by kernel_rfl
theorem T20:Ty 20=some ⟨1,16,[.nilIface], .other,false⟩:=by kernel_rfl
theorem T21:Ty 21=some ⟨1,4,[.int .i32 0], .int .i32,false⟩:=by kernel_rfl
theorem T22:Ty 22=some ⟨3,32,[.int .i64 0, .int .i64 0, .string .empty], .struct [(0,3),(1,3),(2,9)],false⟩:=by kernel_rfl
theorem T23:Ty 23=some ⟨3,32,[.int .i64 0, .int .i64 0, .string .empty], .struct [(0,3),(1,3),(2,9)],false⟩:=by kernel_rfl
theorem T24:Ty 24=some ⟨5,48,[.int .i64 0, .int .i64 0, .int .i64 0, .int .i64 0, .string .empty], .struct [(0,3),(1,3),(2,23)],false⟩:=by kernel_rfl
theorem T25:Ty 25=some ⟨5,48,[.int .i64 0, .int .i64 0, .int .i64 0, .int .i64 0, .string .empty], .struct [(0,3),(1,3),(2,23)],true⟩:=by kernel_rfl
theorem T26:Ty 26=some ⟨1,8,[.int .i64 0], .int .i64,false⟩:=by kernel_rfl
theorem T27:Ty 27=some ⟨1,24,[.slice none 0 0], .slice 151,false⟩:=by kernel_rfl
theorem T28:Ty 28=some ⟨4,48,[.int .i64 0, .int .i64 0, .int .i64 0, .slice none 0 0], .struct [(0,26),(1,3),(2,3),(3,27)],false⟩:=by kernel_rfl
theorem T29:Ty 29=some ⟨4,48,[.int .i64 0, .int .i64 0, .int .i64 0, .slice none 0 0], .struct [(0,26),(1,3),(2,3),(3,27)],false⟩:=by kernel_rfl
theorem T30:Ty 30=some ⟨6,64,[.int .i64 0, .int .i64 0, .int .i64 0, .int .i64 0, .int .i64 0, .slice none 0 0], .struct [(0,3),(1,3),(2,29)],false⟩:=by kernel_rfl
theorem T31:Ty 31=some ⟨6,64,[.int .i64 0, .int .i64 0, .int .i64 0, .int .i64 0, .int .i64 0, .slice none 0 0], .struct [(0,3),(1,3),(2,29)],false⟩:=by kernel_rfl
theorem T32:Ty 32=some ⟨2,16,[.int .i64 0, .int .i64 0], .struct [(0,3),(1,3)],false⟩:=by kernel_rfl
theorem T33:Ty 33=some ⟨2,16,[.int .i64 0, .int .i64 0], .struct [(0,3),(1,3)],true⟩:=by kernel_rfl
theorem T34:Ty 34=some ⟨1,24,[.slice none 0 0], .slice 25,false⟩:=by kernel_rfl
theorem T35:Ty 35=some ⟨6,64,[.bool false, .int .i64 0, .int .i64 0, .int .i64 0, .int .i64 0, .slice none 0 0], .struct [(0,4),(1,3),(2,33),(4,3),(5,34)],false⟩:=by kernel_rfl
theorem T36:Ty 36=some ⟨6,64,[.bool false, .int .i64 0, .int .i64 0, .int .i64 0, .int .i64 0, .slice none 0 0], .struct [(0,4),(1,3),(2,33),(4,3),(5,34)],false⟩:=by kernel_rfl
theorem T37:Ty 37=some ⟨1,24,[.slice none 0 0], .slice 112,false⟩:=by kernel_rfl
theorem T38:Ty 38=some ⟨6,64,[.int .i64 0, .int .i64 0, .int .i64 0, .int .i64 0, .int .i64 0, .slice none 0 0], .struct [(0,3),(1,3),(2,33),(4,3),(5,37)],false⟩:=by kernel_rfl
theorem T39:Ty 39=some ⟨6,64,[.int .i64 0, .int .i64 0, .int .i64 0, .int .i64 0, .int .i64 0, .slice none 0 0], .struct [(0,3),(1,3),(2,33),(4,3),(5,37)],false⟩:=by kernel_rfl
theorem T40:Ty 40=some ⟨1,24,[.slice none 0 0], .slice 153,false⟩:=by kernel_rfl
theorem T41:Ty 41=some ⟨1,24,[.slice none 0 0], .slice 109,false⟩:=by kernel_rfl
theorem T42:Ty 42=some ⟨1,24,[.slice none 0 0], .slice 110,false⟩:=by kernel_rfl
theorem T43:Ty 43=some ⟨6,96,[.int .i64 0, .int .i64 0, .int .i64 0, .slice none 0 0, .slice none 0 0, .slice none 0 0], .struct [(0,3),(1,3),(2,3),(3,40),(4,41),(5,42)],false⟩:=by kernel_rfl
theorem T44:Ty 44=some ⟨6,96,[.int .i64 0, .int .i64 0, .int .i64 0, .slice none 0 0, .slice none 0 0, .slice none 0 0], .struct [(0,3),(1,3),(2,3),(3,40),(4,41),(5,42)],false⟩:=by kernel_rfl
theorem T45:Ty 45=some ⟨9,120,[.int .i64 0, .int .i64 0, .int .i64 0, .int .i64 0, .int .i64 0, .int .i64 0, .slice none 0 0, .slice none 0 0, .slice none 0 0], .struct [(0,3),(1,33),(3,44)],false⟩:=by kernel_rfl
theorem T46:Ty 46=some ⟨9,120,[.int .i64 0, .int .i64 0, .int .i64 0, .int .i64 0, .int .i64 0, .int .i64 0, .slice none 0 0, .slice none 0 0, .slice none 0 0], .struct [(0,3),(1,33),(3,44)],false⟩:=by kernel_rfl
theorem T47:Ty 47=some ⟨36,392,[.int .i64 0, .int .i64 0, .int .i64 0, .int .i64 0, .int .i64 0, .int .i64 0, .int .i64 0, .int .i64 0, .string .empty, .int .i64 0, .int .i64 0, .int .i64 0, .int .i64 0, .int .i64 0, .slice none 0 0, .bool false, .int .i64 0, .int .i64 0, .int .i64 0, .int .i64 0, .slice none 0 0, .int .i64 0, .int .i64 0, .int .i64 0, .int .i64 0, .int .i64 0, .slice none 0 0, .int .i64 0, .int .i64 0, .int .i64 0, .int .i64 0, .int .i64 0, .int .i64 0, .slice none 0 0, .slice none 0 0, .slice none 0 0], .struct [(0,3),(1,3),(2,3),(3,3),(4,25),(9,31),(15,36),(21,39),(27,46)],false⟩:=by kernel_rfl
theorem T48:Ty 48=some ⟨36,392,[.int .i64 0, .int .i64 0, .int .i64 0, .int .i64 0, .int .i64 0, .int .i64 0, .int .i64 0, .int .i64 0, .string .empty, .int .i64 0, .int .i64 0, .int .i64 0, .int .i64 0, .int .i64 0, .slice none 0 0, .bool false, .int .i64 0, .int .i64 0, .int .i64 0, .int .i64 0, .slice none 0 0, .int .i64 0, .int .i64 0, .int .i64 0, .int .i64 0, .int .i64 0, .slice none 0 0, .int .i64 0, .int .i64 0, .int .i64 0, .int .i64 0, .int .i64 0, .int .i64 0, .slice none 0 0, .slice none 0 0, .slice none 0 0], .struct [(0,3),(1,3),(2,3),(3,3),(4,25),(9,31),(15,36),(21,39),(27,46)],false⟩:=by kernel_rfl
theorem T49:Ty 49=some ⟨1,8,[.nilFunc], .other,false⟩:=by kernel_rfl
theorem T50:Ty 50=some ⟨1,8,[.nilFunc], .other,false⟩:=by kernel_rfl
theorem T51:Ty 51=some ⟨1,24,[.slice none 0 0], .slice 5,false⟩:=by kernel_rfl
theorem T53:Ty 53=some ⟨1,8,[.nilFunc], .other,false⟩:=by kernel_rfl
theorem T54:Ty 54=some ⟨1,24,[.slice none 0 0], .slice 195,false⟩:=by kernel_rfl
theorem T55:Ty 55=some ⟨1,24,[.slice none 0 0], .slice 145,false⟩:=by kernel_rfl
theorem T56:Ty 56=some ⟨5,32,[.int .u8 0, .int .u8 0, .int .u8 0, .int .u8 0, .slice none 0 0], .struct [(0,5),(1,5),(2,5),(3,5),(4,55)],false⟩:=by kernel_rfl
theorem T57:Ty 57=some ⟨5,32,[.int .u8 0, .int .u8 0, .int .u8 0, .int .u8 0, .slice none 0 0], .struct [(0,5),(1,5),(2,5),(3,5),(4,55)],false⟩:=by kernel_rfl
theorem T58:Ty 58=some ⟨1,2,[.int .u16 0], .int .u16,false⟩:=by kernel_rfl
theorem T60:Ty 60=some ⟨1,8,[.nilFunc], .other,false⟩:=by kernel_rfl
theorem T61:Ty 61=some ⟨1,8,[.nilFunc], .other,false⟩:=by kernel_rfl
theorem T62:Ty 62=some ⟨1,8,[.nilFunc], .other,false⟩:=by kernel_rfl
theorem T63:Ty 63=some ⟨1,8,[.nilFunc], .other,false⟩:=by kernel_rfl
theorem T64:Ty 64=some ⟨1,8,[.nilFunc], .other,false⟩:=by kernel_rfl
theorem T65:Ty 65=some ⟨1,8,[.nilFunc], .other,false⟩:=by kernel_rfl
theorem T66:Ty 66=some ⟨1,8,[.nilFunc], .other,false⟩:=by kernel_rfl
theorem T67:Ty 67=some ⟨1,8,[.nilFunc], .other,false⟩:=by kernel_rfl
theorem T68:Ty 68=some ⟨1,8,[.nilFunc], .other,false⟩:=by kernel_rfl
theorem T69:Ty 69=some ⟨1,8,[.nilFunc], .other,false⟩:=by kernel_rfl
theorem T70:Ty 70=some ⟨1,8,[.nilFunc], .other,false⟩:=by kernel_rfl
theorem T71:Ty 71=some ⟨1,8,[.nilFunc], .other,false⟩:=by kernel_rfl
theorem T72:Ty 72=some ⟨1,8,[.nilFunc], .other,false⟩:=by kernel_rfl
theorem T73:Ty 73=some ⟨1,8,[.nilFunc], .other,false⟩:=by kernel_rfl
theorem T74:Ty 74=some ⟨1,8,[.nilFunc], .other,false⟩:=by kernel_rfl
theorem T75:Ty 75=some ⟨1,8,[.nilFunc], .other,false⟩:=by kernel_rfl
theorem T76:Ty 76=some ⟨1,8,[.nilFunc], .other,false⟩:=by kernel_rfl
theorem T77:Ty 77=some ⟨1,8,[.nilFunc], .other,false⟩:=by kernel_rfl
theorem T78:Ty 78=some ⟨1,8,[.nilFunc], .other,false⟩:=by kernel_rfl
theorem T79:Ty 79=some ⟨1,8,[.nilFunc], .other,false⟩:=by kernel_rfl
theorem T80:Ty 80=some ⟨1,8,[.nilFunc], .other,false⟩:=by kernel_rfl
theorem T81:Ty 81=some ⟨1,8,[.nilFunc], .other,false⟩:=by kernel_rfl
theorem T82:Ty 82=some ⟨1,8,[.nilFunc], .other,false⟩:=by kernel_rfl
theorem T83:Ty 83=some ⟨1,8,[.int .i64 0], .struct [(0,26)],false⟩:=by kernel_rfl
theorem T84:Ty 84=some ⟨1,8,[.int .i64 0], .struct [(0,26)],false⟩:=by kernel_rfl
theorem T86:Ty 86=some ⟨1,8,[.pointer none], .pointer 88,false⟩:=by kernel_rfl
theorem T87:Ty 87=some ⟨2,32,[.slice none 0 0, .int .i64 0], .struct [(0,51),(1,3)],false⟩:=by kernel_rfl
theorem T88:Ty 88=some ⟨2,32,[.slice none 0 0, .int .i64 0], .struct [(0,51),(1,3)],false⟩:=by kernel_rfl
theorem T89:Ty 89=some ⟨1,8,[.nilFunc], .other,false⟩:=by kernel_rfl
theorem T90:Ty 90=some ⟨1,8,[.nilFunc], .other,false⟩:=by kernel_rfl
theorem T91:Ty 91=some ⟨1,8,[.pointer none], .pointer 93,false⟩:=by kernel_rfl
theorem T92:Ty 92=some ⟨3,40,[.slice none 0 0, .int .i64 0, .bool false], .struct [(0,51),(1,3),(2,4)],false⟩:=by kernel_rfl
theorem T93:Ty 93=some ⟨3,40,[.slice none 0 0, .int .i64 0, .bool false], .struct [(0,51),(1,3),(2,4)],false⟩:=by kernel_rfl
theorem T94:Ty 94=some ⟨1,8,[.nilFunc], .other,false⟩:=by kernel_rfl
theorem T95:Ty 95=some ⟨1,8,[.nilFunc], .other,false⟩:=by kernel_rfl
theorem T96:Ty 96=some ⟨1,8,[.nilFunc], .other,false⟩:=by kernel_rfl
theorem T97:Ty 97=some ⟨1,8,[.nilFunc], .other,false⟩:=by kernel_rfl
theorem T98:Ty 98=some ⟨1,8,[.nilFunc], .other,false⟩:=by kernel_rfl
theorem T99:Ty 99=some ⟨1,8,[.nilFunc], .other,false⟩:=by kernel_rfl
theorem zCp:Ty 100=some ⟨5,5,[.int .u8 0, .int .u8 0, .int .u8 0, .int .u8 0, .int .u8 0], .array 5 5,false⟩:=by kernel_rfl
theorem zCq:Ty 101=some ⟨1,8,[.nilFunc], .other,false⟩:=by kernel_rfl
theorem zCr:Ty 102=some ⟨1,8,[.nilFunc], .other,false⟩:=by kernel_rfl
theorem zCs:Ty 103=some ⟨1,8,[.nilFunc], .other,false⟩:=by kernel_rfl
theorem zCt:Ty 104=some ⟨1,8,[.nilFunc], .other,false⟩:=by kernel_rfl
theorem zCu:Ty 105=some ⟨1,8,[.nilFunc], .other,false⟩:=by kernel_rfl
theorem zCv:Ty 106=some ⟨1,8,[.nilFunc], .other,false⟩:=by kernel_rfl
theorem zCw:Ty 107=some ⟨1,24,[.slice none 0 0], .slice 3,false⟩:=by kernel_rfl
theorem zCx:Ty 108=some ⟨4,56,[.string .empty, .int .i64 0, .int .i64 0, .slice none 0 0], .struct [(0,9),(1,3),(2,3),(3,107)],false⟩:=by kernel_rfl
theorem zCy:Ty 109=some ⟨4,56,[.string .empty, .int .i64 0, .int .i64 0, .slice none 0 0], .struct [(0,9),(1,3),(2,3),(3,107)],false⟩:=by kernel_rfl
theorem zCz:Ty 110=some ⟨6,64,[.int .i64 0, .int .i64 0, .int .i64 0, .int .i64 0, .int .i64 0, .slice none 0 0], .struct [(0,3),(1,3),(2,29)],false⟩:=by kernel_rfl
theorem zCA:Ty 111=some ⟨8,80,[.int .i64 0, .int .i64 0, .bool false, .int .i64 0, .int .i64 0, .int .i64 0, .int .i64 0, .slice none 0 0], .struct [(0,3),(1,3),(2,36)],false⟩:=by kernel_rfl
theorem zCB:Ty 112=some ⟨8,80,[.int .i64 0, .int .i64 0, .bool false, .int .i64 0, .int .i64 0, .int .i64 0, .int .i64 0, .slice none 0 0], .struct [(0,3),(1,3),(2,36)],false⟩:=by kernel_rfl
theorem zCC:Ty 113=some ⟨1,8,[.nilFunc], .other,false⟩:=by kernel_rfl
theorem zCD:Ty 114=some ⟨1,8,[.nilFunc], .other,false⟩:=by kernel_rfl
theorem zCE:Ty 115=some ⟨1,8,[.nilFunc], .other,false⟩:=by kernel_rfl
theorem zCF:Ty 116=some ⟨1,8,[.nilFunc], .other,false⟩:=by kernel_rfl
theorem zCG:Ty 117=some ⟨4,32,[.int .i64 0, .int .i64 0, .int .i64 0, .int .i64 0], .array 4 3,false⟩:=by kernel_rfl
theorem zCH:Ty 118=some ⟨1,8,[.nilFunc], .other,false⟩:=by kernel_rfl
theorem zCI:Ty 119=some ⟨1,8,[.int .u64 0], .int .u64,false⟩:=by kernel_rfl
theorem zCJ:Ty 120=some ⟨1,8,[.nilFunc], .other,false⟩:=by kernel_rfl
theorem zCK:Ty 121=some ⟨1,8,[.nilFunc], .other,false⟩:=by kernel_rfl
theorem zCL:Ty 122=some ⟨1,8,[.nilFunc], .other,false⟩:=by kernel_rfl
theorem zCM:Ty 123=some ⟨1,8,[.nilFunc], .other,false⟩:=by kernel_rfl
theorem zCN:Ty 124=some ⟨3,24,[.int .i64 0, .int .i64 0, .int .i64 0], .array 3 3,false⟩:=by kernel_rfl
theorem zCO:Ty 125=some ⟨1,8,[.nilFunc], .other,false⟩:=by kernel_rfl
theorem zCP:Ty 126=some ⟨1,8,[.nilFunc], .other,false⟩:=by kernel_rfl
theorem zCQ:Ty 127=some ⟨1,8,[.nilFunc], .other,false⟩:=by kernel_rfl
theorem zCR:Ty 129=some ⟨1,8,[.nilFunc], .other,false⟩:=by kernel_rfl
theorem zCS:Ty 131=some ⟨1,8,[.nilFunc], .other,false⟩:=by kernel_rfl
theorem zCT:Ty 132=some ⟨1,8,[.nilFunc], .other,false⟩:=by kernel_rfl
theorem zCU:Ty 133=some ⟨1,8,[.nilFunc], .other,false⟩:=by kernel_rfl
theorem zCV:Ty 135=some ⟨1,8,[.nilFunc], .other,false⟩:=by kernel_rfl
theorem zCW:Ty 136=some ⟨1,8,[.nilFunc], .other,false⟩:=by kernel_rfl
theorem zCX:Ty 138=some ⟨1,8,[.nilFunc], .other,false⟩:=by kernel_rfl
theorem zCY:Ty 139=some ⟨1,8,[.nilFunc], .other,false⟩:=by kernel_rfl
theorem zCZ:Ty 140=some ⟨1,8,[.nilFunc], .other,false⟩:=by kernel_rfl
theorem zC0:Ty 141=some ⟨1,8,[.nilFunc], .other,false⟩:=by kernel_rfl
theorem zC1:Ty 142=some ⟨1,8,[.nilFunc], .other,false⟩:=by kernel_rfl
theorem zC2:Ty 143=some ⟨1,8,[.nilFunc], .other,false⟩:=by kernel_rfl
theorem zC3:Ty 144=some ⟨3,32,[.int .u8 0, .int .u8 0, .slice none 0 0], .struct [(0,5),(1,5),(2,51)],false⟩:=by kernel_rfl
theorem zC4:Ty 145=some ⟨3,32,[.int .u8 0, .int .u8 0, .slice none 0 0], .struct [(0,5),(1,5),(2,51)],false⟩:=by kernel_rfl
theorem zC5:Ty 146=some ⟨1,8,[.nilFunc], .other,false⟩:=by kernel_rfl
theorem zC6:Ty 147=some ⟨1,8,[.nilFunc], .other,false⟩:=by kernel_rfl
theorem zC7:Ty 148=some ⟨1,24,[.slice none 0 0], .slice 51,false⟩:=by kernel_rfl
theorem zC8:Ty 149=some ⟨1,8,[.nilFunc], .other,false⟩:=by kernel_rfl
theorem zC9:Ty 150=some ⟨2,24,[.string .empty, .int .i64 0], .struct [(0,9),(1,3)],false⟩:=by kernel_rfl
theorem zDa:Ty 151=some ⟨2,24,[.string .empty, .int .i64 0], .struct [(0,9),(1,3)],true⟩:=by kernel_rfl
theorem zDb:Ty 152=some ⟨3,24,[.int .i64 0, .int .i64 0, .int .i64 0], .struct [(0,3),(1,3),(2,3)],false⟩:=by kernel_rfl
theorem zDc:Ty 153=some ⟨3,24,[.int .i64 0, .int .i64 0, .int .i64 0], .struct [(0,3),(1,3),(2,3)],true⟩:=by kernel_rfl
theorem zDd:Ty 154=some ⟨1,8,[.nilFunc], .other,false⟩:=by kernel_rfl
theorem zDe:Ty 155=some ⟨1,8,[.nilFunc], .other,false⟩:=by kernel_rfl
theorem zDf:Ty 156=some ⟨1,8,[.nilFunc], .other,false⟩:=by kernel_rfl
theorem zDg:Ty 157=some ⟨1,8,[.nilFunc], .other,false⟩:=by kernel_rfl
theorem zDh:Ty 158=some ⟨1,8,[.nilFunc], .other,false⟩:=by kernel_rfl
theorem zDi:Ty 159=some ⟨1,8,[.nilFunc], .other,false⟩:=by kernel_rfl
theorem zDj:Ty 160=some ⟨1,8,[.nilFunc], .other,false⟩:=by kernel_rfl
theorem zDk:Ty 161=some ⟨1,8,[.nilFunc], .other,false⟩:=by kernel_rfl
theorem zDl:Ty 162=some ⟨1,8,[.nilFunc], .other,false⟩:=by kernel_rfl
theorem zDm:Ty 163=some ⟨1,8,[.nilFunc], .other,false⟩:=by kernel_rfl
theorem zDn:Ty 164=some ⟨1,8,[.nilFunc], .other,false⟩:=by kernel_rfl
theorem zDo:Ty 165=some ⟨1,8,[.nilFunc], .other,false⟩:=by kernel_rfl
theorem zDp:Ty 166=some ⟨1,8,[.nilFunc], .other,false⟩:=by kernel_rfl
theorem zDq:Ty 167=some ⟨1,8,[.nilFunc], .other,false⟩:=by kernel_rfl
theorem zDr:Ty 169=some ⟨1,8,[.nilFunc], .other,false⟩:=by kernel_rfl
theorem zDs:Ty 171=some ⟨1,8,[.nilFunc], .other,false⟩:=by kernel_rfl
theorem zDt:Ty 173=some ⟨1,8,[.nilFunc], .other,false⟩:=by kernel_rfl
theorem zDu:Ty 175=some ⟨1,8,[.nilFunc], .other,false⟩:=by kernel_rfl
theorem zDv:Ty 176=some ⟨1,8,[.int .i64 0], .struct [(0,26)],false⟩:=by kernel_rfl
theorem zDw:Ty 177=some ⟨1,8,[.int .i64 0], .struct [(0,26)],false⟩:=by kernel_rfl
theorem zDx:Ty 179=some ⟨1,8,[.pointer none], .pointer 181,false⟩:=by kernel_rfl
theorem zDy:Ty 180=some ⟨2,32,[.slice none 0 0, .int .i64 0], .struct [(0,51),(1,3)],false⟩:=by kernel_rfl
theorem zDz:Ty 181=some ⟨2,32,[.slice none 0 0, .int .i64 0], .struct [(0,51),(1,3)],false⟩:=by kernel_rfl
theorem zDA:Ty 182=some ⟨1,8,[.nilFunc], .other,false⟩:=by kernel_rfl
theorem zDB:Ty 183=some ⟨1,8,[.nilFunc], .other,false⟩:=by kernel_rfl
theorem zDC:Ty 184=some ⟨1,8,[.pointer none], .pointer 186,false⟩:=by kernel_rfl
theorem zDD:Ty 185=some ⟨3,40,[.slice none 0 0, .int .i64 0, .int .i64 0], .struct [(0,51),(1,3),(2,26)],false⟩:=by kernel_rfl
theorem zDE:Ty 186=some ⟨3,40,[.slice none 0 0, .int .i64 0, .int .i64 0], .struct [(0,51),(1,3),(2,26)],false⟩:=by kernel_rfl
theorem zDF:Ty 188=some ⟨1,8,[.nilFunc], .other,false⟩:=by kernel_rfl
theorem zDG:Ty 189=some ⟨1,8,[.nilFunc], .other,false⟩:=by kernel_rfl
theorem zDH:Ty 190=some ⟨1,8,[.nilFunc], .other,false⟩:=by kernel_rfl
theorem zDI:Ty 191=some ⟨1,8,[.nilFunc], .other,false⟩:=by kernel_rfl
theorem zDJ:Ty 192=some ⟨1,24,[.slice none 0 0], .slice 9,false⟩:=by kernel_rfl
theorem zDK:Ty 193=some ⟨1,8,[.nilFunc], .other,false⟩:=by kernel_rfl
theorem zDL:Ty 194=some ⟨6,6,[.int .u8 0, .int .u8 0, .int .u8 0, .int .u8 0, .int .u8 0, .int .u8 0], .struct [(0,5),(1,5),(2,5),(3,5),(4,5),(5,5)],false⟩:=by kernel_rfl
theorem zDM:Ty 195=some ⟨6,6,[.int .u8 0, .int .u8 0, .int .u8 0, .int .u8 0, .int .u8 0, .int .u8 0], .struct [(0,5),(1,5),(2,5),(3,5),(4,5),(5,5)],false⟩:=by kernel_rfl
theorem zDN:Ty 197=some ⟨1,8,[.nilFunc], .other,false⟩:=by kernel_rfl
theorem zDO:Ty 198=some ⟨1,8,[.nilFunc], .other,false⟩:=by kernel_rfl
theorem zDP:Ty 199=some ⟨1,8,[.nilFunc], .other,false⟩:=by kernel_rfl
theorem zDQ:Ty 200=some ⟨1,8,[.nilFunc], .other,false⟩:=by kernel_rfl
theorem zDR:Ty 201=some ⟨1,8,[.nilFunc], .other,false⟩:=by kernel_rfl
theorem zDS:Ty 202=some ⟨1,8,[.nilFunc], .other,false⟩:=by kernel_rfl
theorem zDT:Ty 203=some ⟨1,8,[.nilFunc], .other,false⟩:=by kernel_rfl
theorem zDU:Ty 204=some ⟨1,8,[.nilFunc], .other,false⟩:=by kernel_rfl
theorem zDV:Ty 205=some ⟨1,8,[.int .i64 0], .struct [(0,26)],false⟩:=by kernel_rfl
theorem zDW:Ty 206=some ⟨1,8,[.int .i64 0], .struct [(0,26)],false⟩:=by kernel_rfl
theorem zDX:Ty 208=some ⟨2,32,[.slice none 0 0, .int .i64 0], .struct [(0,51),(1,3)],false⟩:=by kernel_rfl
theorem zDY:Ty 209=some ⟨2,32,[.slice none 0 0, .int .i64 0], .struct [(0,51),(1,3)],false⟩:=by kernel_rfl
theorem zDZ:Ty 210=some ⟨1,8,[.int .u64 0], .int .u64,false⟩:=by kernel_rfl
theorem zD0:Ty 212=some ⟨1,8,[.nilFunc], .other,false⟩:=by kernel_rfl
theorem zD1:Ty 214=some ⟨1,8,[.nilFunc], .other,false⟩:=by kernel_rfl
theorem zD2:Ty 215=some ⟨1,8,[.pointer none], .pointer 3,false⟩:=by kernel_rfl
theorem zD3:Ty 216=some ⟨4,32,[.pointer none, .pointer none, .pointer none, .pointer none], .array 4 215,false⟩:=by kernel_rfl
theorem zD4:Ty 217=some ⟨1,8,[.nilFunc], .other,false⟩:=by kernel_rfl
theorem zD5:Ty 218=some ⟨1,8,[.nilFunc], .other,false⟩:=by kernel_rfl
theorem zD6:Ty 219=some ⟨1,8,[.nilFunc], .other,false⟩:=by kernel_rfl
theorem zD7:Ty 221=some ⟨1,8,[.nilFunc], .other,false⟩:=by kernel_rfl
theorem zD8:Ty 222=some ⟨1,8,[.nilFunc], .other,false⟩:=by kernel_rfl
theorem zD9:Ty 223=some ⟨1,8,[.nilFunc], .other,false⟩:=by kernel_rfl
theorem zEa:Ty 224=some ⟨1,8,[.nilFunc], .other,false⟩:=by kernel_rfl
theorem zEb:Ty 226=some ⟨1,8,[.nilFunc], .other,false⟩:=by kernel_rfl
theorem zEc:Ty 228=some ⟨1,8,[.nilFunc], .other,false⟩:=by kernel_rfl
theorem zEd:Ty 229=some ⟨1,8,[.nilFunc], .other,false⟩:=by kernel_rfl
theorem zEe:Ty 230=some ⟨1,8,[.nilFunc], .other,false⟩:=by kernel_rfl
theorem zEf:Ty 231=some ⟨1,8,[.nilFunc], .other,false⟩:=by kernel_rfl
theorem zEg:Ty 232=some ⟨1,8,[.nilFunc], .other,false⟩:=by kernel_rfl
theorem zEh:Ty 233=some ⟨1,8,[.nilFunc], .other,false⟩:=by kernel_rfl
theorem zEi:Ty 235=some ⟨1,8,[.nilFunc], .other,false⟩:=by kernel_rfl
theorem zEj:Ty 236=some ⟨1,8,[.pointer none], .pointer 209,false⟩:=by kernel_rfl
theorem zEk:Ty 237=some ⟨1,8,[.nilFunc], .other,false⟩:=by kernel_rfl
theorem zEl:Ty 239=some ⟨1,8,[.nilFunc], .other,false⟩:=by kernel_rfl
theorem zEm:Ty 241=some ⟨1,8,[.nilFunc], .other,false⟩:=by kernel_rfl
theorem zEn:Ty 242=some ⟨1,8,[.nilFunc], .other,false⟩:=by kernel_rfl
theorem zEo:Ty 243=some ⟨1,8,[.nilFunc], .other,false⟩:=by kernel_rfl
theorem zEp:Ty 245=some ⟨1,8,[.nilFunc], .other,false⟩:=by kernel_rfl
theorem zEq:Ty 246=some ⟨1,8,[.nilFunc], .other,false⟩:=by kernel_rfl
theorem zEr:Ty 247=some ⟨1,8,[.nilFunc], .other,false⟩:=by kernel_rfl
theorem zEs:Ty 248=some ⟨1,8,[.nilFunc], .other,false⟩:=by kernel_rfl
theorem zEt:Ty 249=some ⟨1,8,[.nilFunc], .other,false⟩:=by kernel_rfl
theorem zEu:Ty 250=some ⟨1,8,[.nilFunc], .other,false⟩:=by kernel_rfl
theorem zEv:Ty 251=some ⟨1,8,[.nilFunc], .other,false⟩:=by kernel_rfl
theorem zEw:Ty 252=some ⟨1,8,[.nilFunc], .other,false⟩:=by kernel_rfl
theorem zEx:Ty 253=some ⟨1,8,[.nilFunc], .other,false⟩:=by kernel_rfl
theorem zEy:Ty 254=some ⟨1,8,[.nilFunc], .other,false⟩:=by kernel_rfl
theorem zEz:Ty 255=some ⟨1,8,[.nilFunc], .other,false⟩:=by kernel_rfl
theorem zEA:Ty 256=some ⟨1,8,[.nilFunc], .other,false⟩:=by kernel_rfl
theorem zEB:Ty 257=some ⟨1,8,[.nilFunc], .other,false⟩:=by kernel_rfl
theorem zEC:Ty 258=some ⟨4,40,[.pointer none, .pointer none, .pointer none, .string .empty], .struct [(0,17),(1,17),(2,17),(3,9)],false⟩:=by kernel_rfl
theorem zED:Ty 259=some ⟨4,40,[.pointer none, .pointer none, .pointer none, .string .empty], .struct [(0,17),(1,17),(2,17),(3,9)],false⟩:=by kernel_rfl
theorem zEE:Ty 260=some ⟨0,0,[], .array 0 16,false⟩:=by kernel_rfl
theorem zEF:Ty 261=some ⟨0,0,[], .struct [(0,260)],false⟩:=by kernel_rfl
theorem zEG:Ty 262=some ⟨0,0,[], .struct [(0,260)],false⟩:=by kernel_rfl
theorem zEH:Ty 263=some ⟨1,4,[.int .u32 0], .int .u32,false⟩:=by kernel_rfl
theorem zEI:Ty 264=some ⟨1,1,[.int .u8 0], .int .u8,false⟩:=by kernel_rfl
theorem zEJ:Ty 265=some ⟨1,1,[.int .u8 0], .int .u8,false⟩:=by kernel_rfl
theorem zEK:Ty 266=some ⟨1,8,[.nilFunc], .other,false⟩:=by kernel_rfl
theorem zEL:Ty 267=some ⟨1,8,[.pointer none], .pointer 5,false⟩:=by kernel_rfl
theorem zEM:Ty 268=some ⟨1,4,[.int .i32 0], .int .i32,false⟩:=by kernel_rfl
theorem zEN:Ty 269=some ⟨1,4,[.int .i32 0], .int .i32,false⟩:=by kernel_rfl
theorem zEO:Ty 270=some ⟨11,48,[.int .u64 0, .int .u64 0, .int .u32 0, .int .u8 0, .int .u8 0, .int .u8 0, .int .u8 0, .nilFunc, .pointer none, .int .i32 0, .int .i32 0], .struct [(0,12),(1,12),(2,263),(3,264),(4,5),(5,5),(6,265),(7,266),(8,267),(9,268),(10,269)],false⟩:=by kernel_rfl
theorem zEP:Ty 271=some ⟨11,48,[.int .u64 0, .int .u64 0, .int .u32 0, .int .u8 0, .int .u8 0, .int .u8 0, .int .u8 0, .nilFunc, .pointer none, .int .i32 0, .int .i32 0], .struct [(0,12),(1,12),(2,263),(3,264),(4,5),(5,5),(6,265),(7,266),(8,267),(9,268),(10,269)],false⟩:=by kernel_rfl
theorem zEQ:Ty 272=some ⟨1,8,[.pointer none], .other,false⟩:=by kernel_rfl
theorem TyB:(type_of% T1)∧(type_of% T2)∧(type_of% T3)∧(type_of% T4)∧(type_of% T5)∧(type_of% T6)∧(type_of% T7)∧(type_of% T8)∧(type_of% T9)∧(type_of% T10)∧(type_of% T11)∧(type_of% T12)∧(type_of% T13)∧(type_of% T14)∧(type_of% T15)∧(type_of% T16)∧(type_of% T17)∧(type_of% T18)∧(type_of% T19)∧(type_of% T20)∧(type_of% T21)∧(type_of% T22)∧(type_of% T23)∧(type_of% T24)∧(type_of% T25)∧(type_of% T26)∧(type_of% T27)∧(type_of% T28)∧(type_of% T29)∧(type_of% T30)∧(type_of% T31)∧(type_of% T32)∧(type_of% T33)∧(type_of% T34)∧(type_of% T35)∧(type_of% T36)∧(type_of% T37)∧(type_of% T38)∧(type_of% T39)∧(type_of% T40)∧(type_of% T41)∧(type_of% T42)∧(type_of% T43)∧(type_of% T44)∧(type_of% T45)∧(type_of% T46)∧(type_of% T47)∧(type_of% T48)∧(type_of% T49)∧(type_of% T50)∧(type_of% T51)∧(type_of% T53)∧(type_of% T54)∧(type_of% T55)∧(type_of% T56)∧(type_of% T57)∧(type_of% T58)∧(type_of% T60)∧(type_of% T61)∧(type_of% T62)∧(type_of% T63)∧(type_of% T64)∧(type_of% T65)∧(type_of% T66)∧(type_of% T67)∧(type_of% T68)∧(type_of% T69)∧(type_of% T70)∧(type_of% T71)∧(type_of% T72)∧(type_of% T73)∧(type_of% T74)∧(type_of% T75)∧(type_of% T76)∧(type_of% T77)∧(type_of% T78)∧(type_of% T79)∧(type_of% T80)∧(type_of% T81)∧(type_of% T82)∧(type_of% T83)∧(type_of% T84)∧(type_of% T86)∧(type_of% T87)∧(type_of% T88)∧(type_of% T89)∧(type_of% T90)∧(type_of% T91)∧(type_of% T92)∧(type_of% T93)∧(type_of% T94)∧(type_of% T95)∧(type_of% T96)∧(type_of% T97)∧(type_of% T98)∧(type_of% T99)∧(type_of% zCp)∧(type_of% zCq)∧(type_of% zCr)∧(type_of% zCs)∧(type_of% zCt)∧(type_of% zCu)∧(type_of% zCv)∧(type_of% zCw)∧(type_of% zCx)∧(type_of% zCy)∧(type_of% zCz)∧(type_of% zCA)∧(type_of% zCB)∧(type_of% zCC)∧(type_of% zCD)∧(type_of% zCE)∧(type_of% zCF)∧(type_of% zCG)∧(type_of% zCH)∧(type_of% zCI)∧(type_of% zCJ)∧(type_of% zCK)∧(type_of% zCL)∧(type_of% zCM)∧(type_of% zCN)∧(type_of% zCO)∧(type_of% zCP)∧(type_of% zCQ)∧(type_of% zCR)∧(type_of% zCS)∧(type_of% zCT)∧(type_of% zCU)∧(type_of% zCV)∧(type_of% zCW)∧(type_of% zCX)∧(type_of% zCY)∧(type_of% zCZ)∧(type_of% zC0)∧(type_of% zC1)∧(type_of% zC2)∧(type_of% zC3)∧(type_of% zC4)∧(type_of% zC5)∧(type_of% zC6)∧(type_of% zC7)∧(type_of% zC8)∧(type_of% zC9)∧(type_of% zDa)∧(type_of% zDb)∧(type_of% zDc)∧(type_of% zDd)∧(type_of% zDe)∧(type_of% zDf)∧(type_of% zDg)∧(type_of% zDh)∧(type_of% zDi)∧(type_of% zDj)∧(type_of% zDk)∧(type_of% zDl)∧(type_of% zDm)∧(type_of% zDn)∧(type_of% zDo)∧(type_of% zDp)∧(type_of% zDq)∧(type_of% zDr)∧(type_of% zDs)∧(type_of% zDt)∧(type_of% zDu)∧(type_of% zDv)∧(type_of% zDw)∧(type_of% zDx)∧(type_of% zDy)∧(type_of% zDz)∧(type_of% zDA)∧(type_of% zDB)∧(type_of% zDC)∧(type_of% zDD)∧(type_of% zDE)∧(type_of% zDF)∧(type_of% zDG)∧(type_of% zDH)∧(type_of% zDI)∧(type_of% zDJ)∧(type_of% zDK)∧(type_of% zDL)∧(type_of% zDM)∧(type_of% zDN)∧(type_of% zDO)∧(type_of% zDP)∧(type_of% zDQ)∧(type_of% zDR)∧(type_of% zDS)∧(type_of% zDT)∧(type_of% zDU)∧(type_of% zDV)∧(type_of% zDW)∧(type_of% zDX)∧(type_of% zDY)∧(type_of% zDZ)∧(type_of% zD0)∧(type_of% zD1)∧(type_of% zD2)∧(type_of% zD3)∧(type_of% zD4)∧(type_of% zD5)∧(type_of% zD6)∧(type_of% zD7)∧(type_of% zD8)∧(type_of% zD9)∧(type_of% zEa)∧(type_of% zEb)∧(type_of% zEc)∧(type_of% zEd)∧(type_of% zEe)∧(type_of% zEf)∧(type_of% zEg)∧(type_of% zEh)∧(type_of% zEi)∧(type_of% zEj)∧(type_of% zEk)∧(type_of% zEl)∧(type_of% zEm)∧(type_of% zEn)∧(type_of% zEo)∧(type_of% zEp)∧(type_of% zEq)∧(type_of% zEr)∧(type_of% zEs)∧(type_of% zEt)∧(type_of% zEu)∧(type_of% zEv)∧(type_of% zEw)∧(type_of% zEx)∧(type_of% zEy)∧(type_of% zEz)∧(type_of% zEA)∧(type_of% zEB)∧(type_of% zEC)∧(type_of% zED)∧(type_of% zEE)∧(type_of% zEF)∧(type_of% zEG)∧(type_of% zEH)∧(type_of% zEI)∧(type_of% zEJ)∧(type_of% zEK)∧(type_of% zEL)∧(type_of% zEM)∧(type_of% zEN)∧(type_of% zEO)∧(type_of% zEP)∧type_of% zEQ:=⟨T1,⟨T2,⟨T3,⟨T4,⟨T5,⟨T6,⟨T7,⟨T8,⟨T9,⟨T10,⟨T11,⟨T12,⟨T13,⟨T14,⟨T15,⟨T16,⟨T17,⟨T18,⟨T19,⟨T20,⟨T21,⟨T22,⟨T23,⟨T24,⟨T25,⟨T26,⟨T27,⟨T28,⟨T29,⟨T30,⟨T31,⟨T32,⟨T33,⟨T34,⟨T35,⟨T36,⟨T37,⟨T38,⟨T39,⟨T40,⟨T41,⟨T42,⟨T43,⟨T44,⟨T45,⟨T46,⟨T47,⟨T48,⟨T49,⟨T50,⟨T51,⟨T53,⟨T54,⟨T55,⟨T56,⟨T57,⟨T58,⟨T60,⟨T61,⟨T62,⟨T63,⟨T64,⟨T65,⟨T66,⟨T67,⟨T68,⟨T69,⟨T70,⟨T71,⟨T72,⟨T73,⟨T74,⟨T75,⟨T76,⟨T77,⟨T78,⟨T79,⟨T80,⟨T81,⟨T82,⟨T83,⟨T84,⟨T86,⟨T87,⟨T88,⟨T89,⟨T90,⟨T91,⟨T92,⟨T93,⟨T94,⟨T95,⟨T96,⟨T97,⟨T98,⟨T99,⟨zCp,⟨zCq,⟨zCr,⟨zCs,⟨zCt,⟨zCu,⟨zCv,⟨zCw,⟨zCx,⟨zCy,⟨zCz,⟨zCA,⟨zCB,⟨zCC,⟨zCD,⟨zCE,⟨zCF,⟨zCG,⟨zCH,⟨zCI,⟨zCJ,⟨zCK,⟨zCL,⟨zCM,⟨zCN,⟨zCO,⟨zCP,⟨zCQ,⟨zCR,⟨zCS,⟨zCT,⟨zCU,⟨zCV,⟨zCW,⟨zCX,⟨zCY,⟨zCZ,⟨zC0,⟨zC1,⟨zC2,⟨zC3,⟨zC4,⟨zC5,⟨zC6,⟨zC7,⟨zC8,⟨zC9,⟨zDa,⟨zDb,⟨zDc,⟨zDd,⟨zDe,⟨zDf,⟨zDg,⟨zDh,⟨zDi,⟨zDj,⟨zDk,⟨zDl,⟨zDm,⟨zDn,⟨zDo,⟨zDp,⟨zDq,⟨zDr,⟨zDs,⟨zDt,⟨zDu,⟨zDv,⟨zDw,⟨zDx,⟨zDy,⟨zDz,⟨zDA,⟨zDB,⟨zDC,⟨zDD,⟨zDE,⟨zDF,⟨zDG,⟨zDH,⟨zDI,⟨zDJ,⟨zDK,⟨zDL,⟨zDM,⟨zDN,⟨zDO,⟨zDP,⟨zDQ,⟨zDR,⟨zDS,⟨zDT,⟨zDU,⟨zDV,⟨zDW,⟨zDX,⟨zDY,⟨zDZ,⟨zD0,⟨zD1,⟨zD2,⟨zD3,⟨zD4,⟨zD5,⟨zD6,⟨zD7,⟨zD8,⟨zD9,⟨zEa,⟨zEb,⟨zEc,⟨zEd,⟨zEe,⟨zEf,⟨zEg,⟨zEh,⟨zEi,⟨zEj,⟨zEk,⟨zEl,⟨zEm,⟨zEn,⟨zEo,⟨zEp,⟨zEq,⟨zEr,⟨zEs,⟨zEt,⟨zEu,⟨zEv,⟨zEw,⟨zEx,⟨zEy,⟨zEz,⟨zEA,⟨zEB,⟨zEC,⟨zED,⟨zEE,⟨zEF,⟨zEG,⟨zEH,⟨zEI,⟨zEJ,⟨zEK,⟨zEL,⟨zEM,⟨zEN,⟨zEO,⟨zEP,zEQ⟩⟩⟩⟩⟩⟩⟩⟩⟩⟩⟩⟩⟩⟩⟩⟩⟩⟩⟩⟩⟩⟩⟩⟩⟩⟩⟩⟩⟩⟩⟩⟩⟩⟩⟩⟩⟩⟩⟩⟩⟩⟩⟩⟩⟩⟩⟩⟩⟩⟩⟩⟩⟩⟩⟩⟩⟩⟩⟩⟩⟩⟩⟩⟩⟩⟩⟩⟩⟩⟩⟩⟩⟩⟩⟩⟩⟩⟩⟩⟩⟩⟩⟩⟩⟩⟩⟩⟩⟩⟩⟩⟩⟩⟩⟩⟩⟩⟩⟩⟩⟩⟩⟩⟩⟩⟩⟩⟩⟩⟩⟩⟩⟩⟩⟩⟩⟩⟩⟩⟩⟩⟩⟩⟩⟩⟩⟩⟩⟩⟩⟩⟩⟩⟩⟩⟩⟩⟩⟩⟩⟩⟩⟩⟩⟩⟩⟩⟩⟩⟩⟩⟩⟩⟩⟩⟩⟩⟩⟩⟩⟩⟩⟩⟩⟩⟩⟩⟩⟩⟩⟩⟩⟩⟩⟩⟩⟩⟩⟩⟩⟩⟩⟩⟩⟩⟩⟩⟩⟩⟩⟩⟩⟩⟩⟩⟩⟩⟩⟩⟩⟩⟩⟩⟩⟩⟩⟩⟩⟩⟩⟩⟩⟩⟩⟩⟩⟩⟩⟩⟩⟩⟩⟩⟩⟩⟩⟩⟩⟩⟩⟩⟩⟩⟩⟩⟩⟩⟩⟩⟩⟩⟩⟩⟩⟩⟩⟩
open Go.Pk
theorem zB:type_of% (I pkS (I TyB (I ddE (I implies_true.{0} (I implies_true.{1} (I @forall_const.{0} @forall_const.{1})))))):=I pkS (I TyB (I ddE (I implies_true.{0} (I implies_true.{1} (I @forall_const.{0} @forall_const.{1})))))
theorem zY:type_of% (I zB (I pkY @bne_self_eq_false.{0})):=I zB (I pkY @bne_self_eq_false.{0})
theorem zq {R p q:Prop} (r:R) (h:q) (k:R→Wr q→p:=by intro r z;first|((first|(with_reducible first|refine zae _ _ ?_|refine zcm ?_|refine zcn ?_|refine zaV ?_|refine zbb ?_)|rw[zbP]|simp only[r,zY,Int.reduceEq,Int.reduceBEq,Int.reduceBNe,Nat.reduceSub,Nat.reduceEqDiff,Nat.reduceAdd,Nat.reduceMul,Nat.reduceLeDiff,Nat.reduceLT,Nat.reduceBEq,reduceCtorEq]|(with_reducible refine And.intro ?_ ?_;exact zI)|fail);exact z.h)|(have zz:Wr True:=z;simp only[r,zY,Int.reduceEq,Int.reduceBEq,Int.reduceBNe,Nat.reduceSub,Nat.reduceEqDiff,Nat.reduceAdd,Nat.reduceMul,Nat.reduceLeDiff,Nat.reduceLT,Nat.reduceBEq,reduceCtorEq];done)|fail):p:=k r ⟨h⟩
theorem zq0 {p q:Prop} (h:q) (k:Wr q→p:=by intro z;first|((first|(with_reducible first|refine zae _ _ ?_|refine zcm ?_|refine zcn ?_|refine zaV ?_|refine zbb ?_)|rw[zbP]|simp only[zY,Int.reduceEq,Int.reduceBEq,Int.reduceBNe,Nat.reduceSub,Nat.reduceEqDiff,Nat.reduceAdd,Nat.reduceMul,Nat.reduceLeDiff,Nat.reduceLT,Nat.reduceBEq,reduceCtorEq]|(with_reducible refine And.intro ?_ ?_;exact zI)|fail);exact z.h)|(have zz:Wr True:=z;simp only[zY,Int.reduceEq,Int.reduceBEq,Int.reduceBNe,Nat.reduceSub,Nat.reduceEqDiff,Nat.reduceAdd,Nat.reduceMul,Nat.reduceLeDiff,Nat.reduceLT,Nat.reduceBEq,reduceCtorEq];done)|fail):p:=k ⟨h⟩
theorem zu {R p q:Prop} (r:R) (h:q) (k:R→Wr q→p:=by intro r z;first|((first|(with_reducible first|refine zcm ?_|refine zcn ?_|refine zaV ?_|refine zbb ?_)|rw[zbP]|simp only[r,zY,Int.reduceEq,Int.reduceBEq,Int.reduceBNe,Nat.reduceSub,Nat.reduceEqDiff,Nat.reduceAdd,Nat.reduceMul,Nat.reduceLeDiff,Nat.reduceLT,Nat.reduceBEq,reduceCtorEq]|(with_reducible refine And.intro ?_ ?_;exact zI)|fail);exact z.h)|(have zz:Wr True:=z;simp only[r,zY,Int.reduceEq,Int.reduceBEq,Int.reduceBNe,Nat.reduceSub,Nat.reduceEqDiff,Nat.reduceAdd,Nat.reduceMul,Nat.reduceLeDiff,Nat.reduceLT,Nat.reduceBEq,reduceCtorEq];done)|fail):p:=k r ⟨h⟩
theorem zu0 {p q:Prop} (h:q) (k:Wr q→p:=by intro z;first|((first|(with_reducible first|refine zcm ?_|refine zcn ?_|refine zaV ?_|refine zbb ?_)|rw[zbP]|simp only[zY,Int.reduceEq,Int.reduceBEq,Int.reduceBNe,Nat.reduceSub,Nat.reduceEqDiff,Nat.reduceAdd,Nat.reduceMul,Nat.reduceLeDiff,Nat.reduceLT,Nat.reduceBEq,reduceCtorEq]|(with_reducible refine And.intro ?_ ?_;exact zI)|fail);exact z.h)|(have zz:Wr True:=z;simp only[zY,Int.reduceEq,Int.reduceBEq,Int.reduceBNe,Nat.reduceSub,Nat.reduceEqDiff,Nat.reduceAdd,Nat.reduceMul,Nat.reduceLeDiff,Nat.reduceLT,Nat.reduceBEq,reduceCtorEq];done)|fail):p:=k ⟨h⟩
theorem zv {R p q:Prop} (r:R) (h:q) (k:R→Wr q→p:=by intro r z;first|((first|(with_reducible first|refine zcm ?_|refine zcn ?_|refine zaV ?_|refine zbb ?_)|rw[zbP]|simp only[r,zY,Int.reduceEq,Int.reduceBEq,Int.reduceBNe,Nat.reduceSub,Nat.reduceEqDiff,Nat.reduceAdd,Nat.reduceMul,Nat.reduceLeDiff,Nat.reduceLT,Nat.reduceBEq,reduceCtorEq]|(with_reducible refine And.intro ?_ ?_;exact zJ)|fail);exact z.h)|(have zz:Wr True:=z;simp only[r,zY,Int.reduceEq,Int.reduceBEq,Int.reduceBNe,Nat.reduceSub,Nat.reduceEqDiff,Nat.reduceAdd,Nat.reduceMul,Nat.reduceLeDiff,Nat.reduceLT,Nat.reduceBEq,reduceCtorEq];done)|fail):p:=k r ⟨h⟩
theorem zw {p q:Prop} (h:q) (k:q→p:=by intro z;(repeat(first|with_reducible refine zae _ _ ?_|with_reducible refine And.imp_right (zae _ _) ?_|with_reducible refine And.imp_right (And.imp_right (zae _ _)) ?_|with_reducible refine And.imp_right (And.imp_right (And.imp_right (zae _ _))) ?_|rw[zbP]|simp only[zB,Nat.reduceSub,Nat.reduceEqDiff,Nat.reduceAdd,Nat.reduceMul,Nat.reduceLeDiff,Nat.reduceLT,Nat.reduceBEq,reduceCtorEq]));exact z):p:=k h
theorem za {R p q:Prop} (r:R) (h:q) (k:R→Wr q→p:=by intro r z;first|((first|(with_reducible first|refine zae _ _ ?_)|rw[zbP]|simp only[r,zB,Nat.reduceSub,Nat.reduceEqDiff,Nat.reduceAdd,Nat.reduceMul,Nat.reduceLeDiff,Nat.reduceLT,Nat.reduceBEq,reduceCtorEq]|refine zbb ?_|fail);exact z.h)|(have zz:Wr True:=z;simp only[r,zB,Nat.reduceSub,Nat.reduceEqDiff,Nat.reduceAdd,Nat.reduceMul,Nat.reduceLeDiff,Nat.reduceLT,Nat.reduceBEq,reduceCtorEq];done)|fail):p:=k r ⟨h⟩
theorem za0 {p q:Prop} (h:q) (k:Wr q→p:=by intro z;first|((first|(with_reducible first|refine zae _ _ ?_)|rw[zbP]|simp only[zB,Nat.reduceSub,Nat.reduceEqDiff,Nat.reduceAdd,Nat.reduceMul,Nat.reduceLeDiff,Nat.reduceLT,Nat.reduceBEq,reduceCtorEq]|refine zbb ?_|fail);exact z.h)|(have zz:Wr True:=z;simp only[zB,Nat.reduceSub,Nat.reduceEqDiff,Nat.reduceAdd,Nat.reduceMul,Nat.reduceLeDiff,Nat.reduceLT,Nat.reduceBEq,reduceCtorEq];done)|fail):p:=k ⟨h⟩
theorem zW {R C p:Prop} (r:R) (c:C) (k:Wr R→Wr C→p:=by intro r c;repeat'(first|exact zC|refine zq (@Wr.h _ r) ?_|refine zx c.h ?_|refine zx c.h.1 ?_|refine zx c.h.2 ?_|refine zx c.h.2.1 ?_|refine zx c.h.2.2 ?_|refine zx c.h.2.2.1 ?_|refine zx c.h.2.2.2 ?_|refine zx c.h.2.2.2.1 ?_|refine zx c.h.2.2.2.2 ?_|refine zx c.h.2.2.2.2.1 ?_|refine zx c.h.2.2.2.2.2 ?_|refine zx c.h.2.2.2.2.2.1 ?_|refine zx c.h.2.2.2.2.2.2 ?_|refine zx c.h.2.2.2.2.2.2.1 ?_|refine zx c.h.2.2.2.2.2.2.2 ?_|refine zx c.h.2.2.2.2.2.2.2.1 ?_|refine zx c.h.2.2.2.2.2.2.2.2 ?_|refine zx c.h.2.2.2.2.2.2.2.2.1 ?_|refine zx c.h.2.2.2.2.2.2.2.2.2 ?_|(apply zaa<;>intro hb)|(apply I;exact zI)|(apply I<;>intro hg))):p:=k ⟨r⟩ ⟨c⟩
theorem zL {R C p q:Prop} (r:R) (c:C) (h:q) (k:Wr R→Wr C→Wr q→p:=by intro r c z;(repeat(first|refine zq (@Wr.h _ r) ?_|refine zx c.h ?_|refine zx c.h.1 ?_|refine zx c.h.2 ?_|refine zx c.h.2.1 ?_|refine zx c.h.2.2 ?_|refine zx c.h.2.2.1 ?_|refine zx c.h.2.2.2 ?_|refine zx c.h.2.2.2.1 ?_|refine zx c.h.2.2.2.2 ?_|refine zx c.h.2.2.2.2.1 ?_|refine zx c.h.2.2.2.2.2 ?_|refine zx c.h.2.2.2.2.2.1 ?_|refine zx c.h.2.2.2.2.2.2 ?_|refine zx c.h.2.2.2.2.2.2.1 ?_|refine zx c.h.2.2.2.2.2.2.2 ?_|refine zx c.h.2.2.2.2.2.2.2.1 ?_|refine zx c.h.2.2.2.2.2.2.2.2 ?_|refine zx c.h.2.2.2.2.2.2.2.2.1 ?_|refine zx c.h.2.2.2.2.2.2.2.2.2 ?_|(apply I;exact zI)));exact z.h):p:=k ⟨r⟩ ⟨c⟩ ⟨h⟩
theorem zW0 {R p:Prop} (r:R) (k:Wr R→p:=by intro r;repeat'(first|exact zC|refine zq (@Wr.h _ r) ?_|(apply zaa<;>intro hb)|(apply I;exact zI)|(apply I<;>intro hg))):p:=k ⟨r⟩
theorem zL0 {R p q:Prop} (r:R) (h:q) (k:Wr R→Wr q→p:=by intro r z;(repeat(first|refine zq (@Wr.h _ r) ?_|(apply I;exact zI)));exact z.h):p:=k ⟨r⟩ ⟨h⟩
theorem zLa {R C p q:Prop} (r:R) (c:C) (h:q) (k:Wr R→Wr C→Wr q→p:=by intro r c z;(repeat(first|refine za (@Wr.h _ r) ?_|refine zx c.h ?_|refine zx c.h.1 ?_|refine zx c.h.2 ?_|refine zx c.h.2.1 ?_|refine zx c.h.2.2 ?_|refine zx c.h.2.2.1 ?_|refine zx c.h.2.2.2 ?_|refine zx c.h.2.2.2.1 ?_|refine zx c.h.2.2.2.2 ?_|refine zx c.h.2.2.2.2.1 ?_|refine zx c.h.2.2.2.2.2 ?_|refine zx c.h.2.2.2.2.2.1 ?_|refine zx c.h.2.2.2.2.2.2 ?_|refine zx c.h.2.2.2.2.2.2.1 ?_|refine zx c.h.2.2.2.2.2.2.2 ?_|refine zx c.h.2.2.2.2.2.2.2.1 ?_|refine zx c.h.2.2.2.2.2.2.2.2 ?_|refine zx c.h.2.2.2.2.2.2.2.2.1 ?_|refine zx c.h.2.2.2.2.2.2.2.2.2 ?_|(apply I;exact zI)));exact z.h):p:=k ⟨r⟩ ⟨c⟩ ⟨h⟩
theorem zBR {R p:Prop} (r:R) (k:Wr R→p:=by intro r;repeat'(first|exact zC|refine za (@Wr.h _ r) ?_|(apply zaa<;>intro hb)|(apply I;exact zI)|(apply I<;>intro hg))):p:=k ⟨r⟩
theorem zCb {R p q:Prop} (r:R) (h:q) (k:Wr R→Wr q→p:=by intro r z;(repeat(first|refine za (@Wr.h _ r) ?_|(apply I;exact zI)));exact z.h):p:=k ⟨r⟩ ⟨h⟩
theorem zw1 {R p q:Prop} (r:R) (h:q) (k:R→Wr q→p:=by intro r z;(repeat(first|with_reducible refine zae _ _ ?_|with_reducible refine And.imp_right (zae _ _) ?_|with_reducible refine And.imp_right (And.imp_right (zae _ _)) ?_|with_reducible refine And.imp_right (And.imp_right (And.imp_right (zae _ _))) ?_|rw[zbP]|simp only[r,zB,Nat.reduceSub,Nat.reduceEqDiff,Nat.reduceAdd,Nat.reduceMul,Nat.reduceLeDiff,Nat.reduceLT,Nat.reduceBEq,reduceCtorEq]));exact z.h):p:=k r ⟨h⟩
theorem zs {R p q:Prop} (r:R) (h:q) (k:R→Wr q→p:=by(intro r z;first|simp only[r,zB,Nat.reduceSub,Nat.reduceEqDiff,Nat.reduceAdd,Nat.reduceMul,Nat.reduceLeDiff,Nat.reduceLT,Nat.reduceBEq,reduceCtorEq]|fail);exact z.h):p:=k r ⟨h⟩
theorem zs0 {p q:Prop} (h:q) (k:Wr q→p:=by(intro z;first|simp only[zB,Nat.reduceSub,Nat.reduceEqDiff,Nat.reduceAdd,Nat.reduceMul,Nat.reduceLeDiff,Nat.reduceLT,Nat.reduceBEq,reduceCtorEq]|fail);exact z.h):p:=k ⟨h⟩
theorem zt {R p:Prop} (r:R) (k:R→p:=by(intro r;first|(simp only[r,zB,Nat.reduceSub,Nat.reduceEqDiff,Nat.reduceAdd,Nat.reduceMul,Nat.reduceLeDiff,Nat.reduceLT,Nat.reduceBEq,reduceCtorEq];done)|fail)):p:=k r
theorem zt0 {p:Prop} (k:p:=by(first|(simp only[zB,Nat.reduceSub,Nat.reduceEqDiff,Nat.reduceAdd,Nat.reduceMul,Nat.reduceLeDiff,Nat.reduceLT,Nat.reduceBEq,reduceCtorEq];done)|fail)):p:=k
theorem zf {R p q:Prop} (r:R) (h:q) (k:R→Wr q→p:=by(intro r z;first|simp only[zqh,r,zY,Nat.reduceSub,Nat.reduceEqDiff,Nat.reduceAdd,Nat.reduceMul,Nat.reduceLeDiff,Nat.reduceLT,Nat.reduceBEq,reduceCtorEq]|fail);exact z.h):p:=k r ⟨h⟩
theorem zf0 {p q:Prop} (h:q) (k:Wr q→p:=by(intro z;first|simp only[zqh,zY,Nat.reduceSub,Nat.reduceEqDiff,Nat.reduceAdd,Nat.reduceMul,Nat.reduceLeDiff,Nat.reduceLT,Nat.reduceBEq,reduceCtorEq]|fail);exact z.h):p:=k ⟨h⟩
theorem zo {R p:Prop} (r:R) (k:R→p:=by(intro r;first|(simp only[zme,r,zY,Nat.reduceSub,Nat.reduceEqDiff,Nat.reduceAdd,Nat.reduceMul,Nat.reduceLeDiff,Nat.reduceLT,Nat.reduceBEq,reduceCtorEq];done)|fail)):p:=k r
theorem zo0 {p:Prop} (k:p:=by(first|(simp only[zme,zY,Nat.reduceSub,Nat.reduceEqDiff,Nat.reduceAdd,Nat.reduceMul,Nat.reduceLeDiff,Nat.reduceLT,Nat.reduceBEq,reduceCtorEq];done)|fail)):p:=k
theorem zk {R p:Prop} (r:R) (k:R→p:=by(intro r;simp only[r,ddE,zhs,znx,zht,zjF,zjG,zjH,List.set_cons_zero,List.set_cons_succ,and_true,true_and,Int.natCast_zero,Int.cast_ofNat_Int,D.v.injEq,Value.int.injEq];try(repeat'(first|rfl|omega|with_reducible apply And.intro)))):p:=k r
section
variable {T:Nat→Option TI} {P:Program} {all:List Oper} {m:M} {rest:List Oper} {dst:Option Nat} {v:List AV} {r:Rs} {K:Ex→G→Prop} {n:FuncId} {x0 y0:List RO} {ars ass as':List Arg} {mv:Mv} {lent:List Nat} {rfs:List RF} {l':List RO} {f:Operand} {args:Array Operand} {a:Option (FuncId×List Arg)} {x:Value}
theorem zj (h:CallOK P n (.obj y0::as') (fun r o=>r=rfs∧o=[l'])) (hk:aops T P all (upM dst mv.s m) rest (putV v dst (bindM r dst mv rfs l').1) (bindM r dst mv rfs l').2 K)
  (hc:callM 0 v r f args=some (n, .obj x0::ass,mv,lent):=by((try simp only[zY,Int.reduceEq,Int.reduceBEq,Int.reduceBNe,Nat.reduceSub,Nat.reduceEqDiff,Nat.reduceAdd,Nat.reduceMul,Nat.reduceLeDiff,Nat.reduceLT,Nat.reduceBEq,reduceCtorEq]);exact rfl)) (hr:zyi x0 y0:=by(simp[zyi,roA])) (hn:zmg as'=true:=by rfl) (hs:zep ass as':=by(simp[zep,aLe,zvU,cLe]))
  (hb:scM r dst mv lent l':=by((try simp only[scM,zB,Nat.reduceSub,Nat.reduceEqDiff,Nat.reduceAdd,Nat.reduceMul,Nat.reduceLeDiff,Nat.reduceLT,Nat.reduceBEq,reduceCtorEq]);repeat'(first|rfl|trivial|omega|with_reducible refine And.intro ?_ ?_))):zi0 T P all m rest dst v r K f args a:=zs9 hc h hr hn hs hb hk
theorem zp (l':List RO) (h:zbZ P n ars x) (hk:K (.panic x) ⟨v,zkW r mv⟩) (hm:m.fp=none:=by rfl) (hc:callM 0 v r f args=some (n,ars,mv,lent):=by((try simp only[zY,Int.reduceEq,Int.reduceBEq,Int.reduceBNe,Nat.reduceSub,Nat.reduceEqDiff,Nat.reduceAdd,Nat.reduceMul,Nat.reduceLeDiff,Nat.reduceLT,Nat.reduceBEq,reduceCtorEq]);exact rfl))
  (hs:scM r none mv lent l':=by((try simp only[scM,zB,Nat.reduceSub,Nat.reduceEqDiff,Nat.reduceAdd,Nat.reduceMul,Nat.reduceLeDiff,Nat.reduceLT,Nat.reduceBEq,reduceCtorEq]);repeat'(first|rfl|trivial|omega|with_reducible refine And.intro ?_ ?_))):zi0 T P all m rest dst v r K f args a:=ztm 0 hc h hs hm hk
theorem zn (l':List RO) (h:zbZ P n ars x) (hc:callM 0 v r f args=some (n,ars,mv,lent):=by((try simp only[zY,Int.reduceEq,Int.reduceBEq,Int.reduceBNe,Nat.reduceSub,Nat.reduceEqDiff,Nat.reduceAdd,Nat.reduceMul,Nat.reduceLeDiff,Nat.reduceLT,Nat.reduceBEq,reduceCtorEq]);exact rfl))
  (hs:scM r none mv lent l':=by((try simp only[scM,zB,Nat.reduceSub,Nat.reduceEqDiff,Nat.reduceAdd,Nat.reduceMul,Nat.reduceLeDiff,Nat.reduceLT,Nat.reduceBEq,reduceCtorEq]);repeat'(first|rfl|trivial|omega|with_reducible refine And.intro ?_ ?_))) (s1:evS true v f:=by first|trivial|(simp only[zB,Nat.reduceSub,Nat.reduceEqDiff,Nat.reduceAdd,Nat.reduceMul,Nat.reduceLeDiff,Nat.reduceLT,Nat.reduceBEq,reduceCtorEq];done)) (s2:evsS true v args.toList:=by first|trivial|(simp only[zB,Nat.reduceSub,Nat.reduceEqDiff,Nat.reduceAdd,Nat.reduceMul,Nat.reduceLeDiff,Nat.reduceLT,Nat.reduceBEq,reduceCtorEq];done)|exact⟨trivial,trivial⟩):zBN P f args x ⟨v,r⟩:=zzb 0 l' hc h hs s1 s2
end
end Go.Proofs.YtliimajkpggbhaaGreat
