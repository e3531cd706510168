/- part 5 of the proof -/
import Derived.Test.YtnfmgboendlmaaaGreatDoorQ04
import Derived.Test.YtnfmgboendlmaaaGreatDoorChecked
import Derived.KernelRfl
import Derived.WalkKit
import Derived.ProofKit
import Derived.OpenShut
import Derived.ShutString
import Derived.ChangeOld
import Derived.ChangeSame
import Derived.Deep.Slices
import Derived.SizedLaws
set_option linter.all false
namespace Go.Proofs.YtnfmgboendlmaaaGreatDoor.Mq
open RowKit Tryz
variable {P:Program}{n d:Nat}{ops:Array Oper}{Q:cN}{rest:List Oper}{l:Fr}{ty:TypeId}{pos:String}{bf:Array Edge}{b:World}{S:List Nat}{cs:List Chunk}
variable {y:Array TypeId}{E:Chunk}{k:Code}{o:Fr}{f:List Chunk}{D:List Nat}{x:List Operand}{a:List Value}{c j p q:Nat}{C:Option Addr}{g:Program}{e:Type}{z:TypeId}{i:World}{G:cN}(s:FuncId)(u:Value->World->Prop)(t:List Value)(v:World)(F:e->Fr)(m:e->World->Prop)(r:e->Prop)
instance bY:dm prog 3 (z0):=dm.of ak ak rfl
instance pf:dm prog 4 (.bool false):=dm.of ak ak rfl
instance pg:dm prog 5 (.int .u8 0):=dm.of ak ak rfl
instance oA:dm prog 9 (.string ByteArray.empty):=dm.of ak ak rfl
instance h_:dm prog 21 (.int .i32 0):=dm.of ak ak rfl
instance ab2:de prog 23 5 [.int .u8 0,.int .u8 0,.int .u8 0,.int .u8 0,.int .u8 0]:=de.of ak ak rfl
instance ab3:aT prog 23 0 0:=aT.bS ak
instance ab4:aT prog 23 1 1:=aT.bS ak
instance ab5:aT prog 23 2 2:=aT.bS ak
instance ab6:aT prog 23 3 3:=aT.bS ak
instance ab7:aT prog 23 4 4:=aT.bS ak
instance BF:dD prog 24 33 4 40 [z0,z0,z0,.string ByteArray.empty]:=dD.of (.agg #[z0,z0,z0,.string ByteArray.empty]) ak ak rfl rfl rfl
instance yP:dm prog 29 (.pointer none):=dm.of ak ak rfl
instance dy:dD prog 30 39 2 32 [.slice none 0 0,.bool false]:=dD.of (.agg #[.slice none 0 0,.bool false]) ak ak rfl rfl rfl
instance sY:dm prog 30 (.slice none 0 0):=dm.of ak ak rfl
instance F9:de prog 33 4 [z0,z0,z0,.string ByteArray.empty]:=de.of ak ak rfl
instance ab8:aT prog 33 0 0:=aT.bS ak
instance ab9:aT prog 33 1 1:=aT.bS ak
instance ab_:aT prog 33 2 2:=aT.bS ak
instance aca:aT prog 33 3 3:=aT.bS ak
instance dj:dD prog 37 81 8 72 [.int .i32 0,.string ByteArray.empty,z0,z0,z0,z0,z0,z0]:=dD.of (.agg #[.int .i32 0,.string ByteArray.empty,z0,z0,z0,z0,z0,z0]) ak ak rfl rfl rfl
instance j3:dm prog 37 (.slice none 0 0):=dm.of ak ak rfl
instance gG:de prog 39 2 [.slice none 0 0,.bool false]:=de.of ak ak rfl
instance yQ:aT prog 39 0 0:=aT.bS ak
instance acb:aT prog 39 1 1:=aT.bS ak
instance acd:dc prog 39 [(0,1),(1,1)] [.slice none 0 0,.bool false]:=dc.of ak ak
instance fF:de prog 44 2 [z0,z0]:=de.of ak ak rfl
instance ace:aT prog 44 0 0:=aT.bS ak
instance acf:aT prog 44 1 1:=aT.bS ak
instance F_:oz prog 44:=⟨ak,ak⟩
instance acg:dc prog 44 [(0,1),(1,1)] [z0,z0]:=dc.of ak ak
instance hC:dD prog 48 5 1 1 [.int .u8 0]:=dD.of (.int .u8 0) ak ak rfl rfl rfl
instance oB:dm prog 48 (.slice none 0 0):=dm.of ak ak rfl
instance NS:dm prog 51 (.pointer none):=dm.of ak ak rfl
instance sZ:dm prog 52 (.pointer none):=dm.of ak ak rfl
instance ach:de prog 60 6 [z0,z0,z0,z0,z0,z0]:=de.of ak ak rfl
instance aci:aT prog 60 0 0:=aT.bS ak
instance acj:aT prog 60 1 1:=aT.bS ak
instance ack:aT prog 60 2 2:=aT.bS ak
instance acl:aT prog 60 3 3:=aT.bS ak
instance acm:aT prog 60 4 4:=aT.bS ak
instance acn:aT prog 60 5 5:=aT.bS ak
instance aco:dc prog 60 [(0,1),(1,1),(2,1),(3,1),(4,1),(5,1)] [z0,z0,z0,z0,z0,z0]:=dc.of ak ak
instance s0:dm prog 63 (.int .u64 0):=dm.of ak ak rfl
instance oC:dD prog 64 67 17 144 [.int .u64 0,z0,z0,z0,z0,z0,z0,z0,z0,z0,z0,z0,z0,.bool false,.bool false,.string ByteArray.empty,.string ByteArray.empty]:=dD.of (.agg #[.int .u64 0,z0,z0,z0,z0,z0,z0,z0,z0,z0,z0,z0,z0,.bool false,.bool false,.string ByteArray.empty,.string ByteArray.empty]) ak ak rfl rfl rfl
instance ia:de prog 67 17 [.int .u64 0,z0,z0,z0,z0,z0,z0,z0,z0,z0,z0,z0,z0,.bool false,.bool false,.string ByteArray.empty,.string ByteArray.empty]:=de.of ak ak rfl
instance acp:aT prog 67 0 0:=aT.bS ak
instance acq:aT prog 67 1 1:=aT.bS ak
instance acr:aT prog 67 2 2:=aT.bS ak
instance acs:aT prog 67 3 4:=aT.bS ak
instance acu:aT prog 67 4 6:=aT.bS ak
instance acv:aT prog 67 5 8:=aT.bS ak
instance acw:aT prog 67 6 10:=aT.bS ak
instance acx:aT prog 67 7 12:=aT.bS ak
instance acy:aT prog 67 8 13:=aT.bS ak
instance acz:aT prog 67 9 14:=aT.bS ak
instance yR:dc prog 67 [(0,1),(1,1),(2,2),(4,2),(6,2),(8,2),(10,2),(12,1),(13,1),(14,1),(15,1),(16,1)] [.int .u64 0,z0,z0,z0,z0,z0,z0,z0,z0,z0,z0,z0,z0,.bool false,.bool false,.string ByteArray.empty,.string ByteArray.empty]:=dc.of ak ak
instance eR:dD prog 72 44 2 16 [z0,z0]:=dD.of (.agg #[z0,z0]) ak ak rfl rfl rfl
instance NT:dm prog 72 (.slice none 0 0):=dm.of ak ak rfl
instance ib:de prog 77 2 [z0,z0]:=de.of ak ak rfl
instance acA:aT prog 77 0 0:=aT.bS ak
instance acB:aT prog 77 1 1:=aT.bS ak
instance acC:dc prog 77 [(0,1),(1,1)] [z0,z0]:=dc.of ak ak
instance s3:de prog 79 5 [z0,z0,z0,z0,z0]:=de.of ak ak rfl
instance acD:aT prog 79 0 0:=aT.bS ak
instance acE:aT prog 79 1 2:=aT.bS ak
instance acF:aT prog 79 2 4:=aT.bS ak
instance yS:oz prog 79:=⟨ak,ak⟩
instance acG:dc prog 79 [(0,2),(2,2),(4,1)] [z0,z0,z0,z0,z0]:=dc.of ak ak
instance gh:de prog 81 8 [.int .i32 0,.string ByteArray.empty,z0,z0,z0,z0,z0,z0]:=de.of ak ak rfl
instance acH:aT prog 81 0 0:=aT.bS ak
instance acI:aT prog 81 1 1:=aT.bS ak
instance acJ:aT prog 81 2 2:=aT.bS ak
instance acK:aT prog 81 3 3:=aT.bS ak
instance uA:oz prog 81:=⟨ak,ak⟩
instance acL:dc prog 81 [(0,1),(1,1),(2,1),(3,5)] [.int .i32 0,.string ByteArray.empty,z0,z0,z0,z0,z0,z0]:=dc.of ak ak
instance acM:aT prog 84 0 0:=aT.bS ak
instance acN:aT prog 84 1 1:=aT.bS ak
instance acO:dc prog 84 [(0,1),(1,1)] [z0,.bool false]:=dc.of ak ak
instance Ga:dm prog 85 (.pointer none):=dm.of ak ak rfl
instance acP:dm prog 86 (.pointer none):=dm.of ak ak rfl
instance NU:dm prog 87 (.map none):=dm.of ak ak rfl
instance acQ:aT prog 89 0 0:=aT.bS ak
instance acR:aT prog 89 1 2:=aT.bS ak
instance acS:aT prog 89 2 3:=aT.bS ak
instance acT:aT prog 89 3 4:=aT.bS ak
instance acU:aT prog 89 4 5:=aT.bS ak
instance acV:dc prog 89 [(0,2),(2,1),(3,1),(4,1),(5,1)] [z0,.bool false,.pointer none,.pointer none,.pointer none,.map none]:=dc.of ak ak
instance qk:dD prog 90 94 3 24 [z0,.int .u64 0,z0]:=dD.of (.agg #[z0,.int .u64 0,z0]) ak ak rfl rfl rfl
instance NV:dm prog 90 (.slice none 0 0):=dm.of ak ak rfl
instance Gb:de prog 94 3 [z0,.int .u64 0,z0]:=de.of ak ak rfl
instance acW:aT prog 94 0 0:=aT.bS ak
instance acX:aT prog 94 1 1:=aT.bS ak
instance acY:aT prog 94 2 2:=aT.bS ak
instance acZ:dc prog 94 [(0,1),(1,1),(2,1)] [z0,.int .u64 0,z0]:=dc.of ak ak
instance wI:dm prog 102 (.pointer none):=dm.of ak ak rfl
instance ac0:de prog 104 2 [.pointer none,.slice none 0 0]:=de.of ak ak rfl
instance ac1:aT prog 104 0 0:=aT.bS ak
instance ac2:aT prog 104 1 1:=aT.bS ak
instance ac3:dc prog 104 [(0,1),(1,1)] [.pointer none,.slice none 0 0]:=dc.of ak ak
instance ac4:aT prog 106 0 0:=aT.bS ak
instance ac5:aT prog 106 1 1:=aT.bS ak
instance ac6:dc prog 106 [(0,1),(1,5)] [.pointer none,z0,z0,z0,z0,z0]:=dc.of ak ak
instance Gc:dm prog 114 (.pointer none):=dm.of ak ak rfl
instance Gd:de prog 117 2 [.pointer none,.pointer none]:=de.of ak ak rfl
def rD: (prog.info? 52).map (·.size)=some 1:=by kernel_rfl
instance ac7:je prog 117 1 [.pointer none,.pointer none]:=je.of ak ak
instance ac8:dm prog 118 (.int .u32 0):=dm.of ak ak rfl
instance NW:de prog 120 1 [.int .u32 0]:=de.of ak ak rfl
instance ac9:aT prog 120 0 0:=aT.bS ak
instance NX:oz prog 120:=⟨ak,ak⟩
instance ac_:dc prog 120 [(0,1)] [.int .u32 0]:=dc.of ak ak
instance s4:dD prog 122 234 10 88 [.bool false,z0,z0,.bool false,.string ByteArray.empty,z0,z0,z0,z0,z0]:=dD.of (.agg #[.bool false,z0,z0,.bool false,.string ByteArray.empty,z0,z0,z0,z0,z0]) ak ak rfl rfl rfl
instance ada:dm prog 122 (.slice none 0 0):=dm.of ak ak rfl
instance adb:aT prog 124 0 0:=aT.bS ak
instance adc:aT prog 124 1 1:=aT.bS ak
instance ade:aT prog 124 2 3:=aT.bS ak
instance adf:aT prog 124 3 4:=aT.bS ak
instance adg:aT prog 124 4 5:=aT.bS ak
instance adh:aT prog 124 5 6:=aT.bS ak
instance adi:aT prog 124 6 8:=aT.bS ak
instance adj:dc prog 124 [(0,1),(1,2),(3,1),(4,1),(5,1),(6,2),(8,1)] [.pointer none,.pointer none,.pointer none,z0,.int .u32 0,.string ByteArray.empty,.pointer none,.slice none 0 0,.slice none 0 0]:=dc.of ak ak
instance iA:dD prog 125 129 8 80 [z0,.int .i32 0,.int .u8 0,.int .u8 0,.slice none 0 0,.string ByteArray.empty,.string ByteArray.empty,.bool false]:=dD.of (.agg #[z0,.int .i32 0,.int .u8 0,.int .u8 0,.slice none 0 0,.string ByteArray.empty,.string ByteArray.empty,.bool false]) ak ak rfl rfl rfl
instance l1:dD prog 127 176 1 24 [.slice none 0 0]:=dD.of (.slice none 0 0) ak ak rfl rfl rfl
instance NY:dm prog 127 (.slice none 0 0):=dm.of ak ak rfl
instance Ge:de prog 129 8 [z0,.int .i32 0,.int .u8 0,.int .u8 0,.slice none 0 0,.string ByteArray.empty,.string ByteArray.empty,.bool false]:=de.of ak ak rfl
instance adk:aT prog 129 0 0:=aT.bS ak
instance adl:aT prog 129 1 1:=aT.bS ak
instance adm:aT prog 129 2 2:=aT.bS ak
instance adn:aT prog 129 3 3:=aT.bS ak
instance ado:aT prog 129 4 4:=aT.bS ak
instance adp:aT prog 129 5 5:=aT.bS ak
instance adq:aT prog 129 6 6:=aT.bS ak
instance adr:aT prog 129 7 7:=aT.bS ak
instance ads:dc prog 129 [(0,1),(1,1),(2,1),(3,1),(4,1),(5,1),(6,1),(7,1)] [z0,.int .i32 0,.int .u8 0,.int .u8 0,.slice none 0 0,.string ByteArray.empty,.string ByteArray.empty,.bool false]:=dc.of ak ak
instance adt:de prog 133 7 [.pointer none,.slice none 0 0,z0,z0,z0,z0,z0]:=de.of ak ak rfl
instance adu:aT prog 133 0 0:=aT.bS ak
instance adv:aT prog 133 1 2:=aT.bS ak
def k9: (prog.info? 3).map (·.size)=some 1:=by kernel_rfl
instance adw:je prog 138 1 [z0,z0,z0,z0]:=je.of ak ak
instance nF:de prog 140 6 [z0,z0,z0,z0,z0,z0]:=de.of ak ak rfl
instance adx:aT prog 140 0 0:=aT.bS ak
instance ady:aT prog 140 1 4:=aT.bS ak
instance adz:aT prog 140 2 5:=aT.bS ak
instance adA:dc prog 140 [(0,4),(4,1),(5,1)] [z0,z0,z0,z0,z0,z0]:=dc.of ak ak
instance Gf:de prog 142 3 [.bool false,.bool false,.bool false]:=de.of ak ak rfl
instance adB:aT prog 142 0 0:=aT.bS ak
instance adC:aT prog 142 1 1:=aT.bS ak
instance adD:aT prog 142 2 2:=aT.bS ak
instance adE:dc prog 142 [(0,1),(1,1),(2,1)] [.bool false,.bool false,.bool false]:=dc.of ak ak
instance s5:de prog 144 14 [z0,z0,z0,z0,z0,z0,z0,z0,z0,z0,z0,.bool false,.bool false,.bool false]:=de.of ak ak rfl
instance adF:aT prog 144 0 0:=aT.bS ak
instance adG:aT prog 144 1 5:=aT.bS ak
instance adH:aT prog 144 2 11:=aT.bS ak
instance NZ:oz prog 144:=⟨ak,ak⟩
instance N0:dc prog 144 [(0,5),(5,6),(11,3)] [z0,z0,z0,z0,z0,z0,z0,z0,z0,z0,z0,.bool false,.bool false,.bool false]:=dc.of ak ak
instance BG:dm prog 145 (.pointer none):=dm.of ak ak rfl
instance wJ:de prog 147 16 [z0,z0,z0,z0,z0,z0,z0,z0,z0,z0,z0,.bool false,.bool false,.bool false,z0,z0]:=de.of ak ak rfl
instance adI:aT prog 147 0 0:=aT.bS ak
instance adJ:aT prog 147 1 14:=aT.bS ak
instance adK:aT prog 147 2 15:=aT.bS ak
instance BH:dc prog 147 [(0,14),(14,1),(15,1)] [z0,z0,z0,z0,z0,z0,z0,z0,z0,z0,z0,.bool false,.bool false,.bool false,z0,z0]:=dc.of ak ak
instance yT:aT prog 149 0 0:=aT.bS ak
instance adL:aT prog 149 1 14:=aT.bS ak
instance adM:aT prog 149 2 15:=aT.bS ak
instance Gg:aT prog 149 3 16:=aT.bS ak
instance adN:aT prog 149 4 17:=aT.bS ak
instance adO:aT prog 149 5 18:=aT.bS ak
instance adP:aT prog 149 6 19:=aT.bS ak
instance adQ:aT prog 149 7 20:=aT.bS ak
instance adR:aT prog 149 8 36:=aT.bS ak
instance adS:aT prog 149 9 37:=aT.bS ak
instance N1:dc prog 149 [(0,14),(14,1),(15,1),(16,1),(17,1),(18,1),(19,1),(20,16),(36,1),(37,1)] [z0,z0,z0,z0,z0,z0,z0,z0,z0,z0,z0,.bool false,.bool false,.bool false,.pointer none,.pointer none,z0,z0,z0,z0,z0,z0,z0,z0,z0,z0,z0,z0,z0,z0,z0,.bool false,.bool false,.bool false,z0,z0,.bool false,.int .i32 0]:=dc.of ak ak
instance Gh:dm prog 150 (.pointer none):=dm.of ak ak rfl
instance BI:dD prog 151 232 3 24 [z0,z0,z0]:=dD.of (.agg #[z0,z0,z0]) ak ak rfl rfl rfl
instance adT:dm prog 151 (.slice none 0 0):=dm.of ak ak rfl
instance adU:aT prog 153 0 0:=aT.bS ak
instance adV:aT prog 153 1 1:=aT.bS ak
instance adW:aT prog 153 2 2:=aT.bS ak
instance adX:aT prog 153 3 3:=aT.bS ak
instance adY:dc prog 153 [(0,1),(1,1),(2,1),(3,1)] [.pointer none,.slice none 0 0,z0,.slice none 0 0]:=dc.of ak ak
instance yU:de prog 157 19 [z0,z0,z0,z0,z0,z0,z0,z0,z0,z0,z0,z0,z0,.bool false,.bool false,.bool false,z0,z0,.bool false]:=de.of ak ak rfl
instance adZ:aT prog 157 0 0:=aT.bS ak
instance ad0:aT prog 157 1 2:=aT.bS ak
instance ad1:aT prog 157 3 13:=aT.bS ak
instance ad2:aT prog 157 4 16:=aT.bS ak
instance ad3:aT prog 157 5 17:=aT.bS ak
instance N2:oz prog 157:=⟨ak,ak⟩
instance yV:dc prog 157 [(0,2),(2,5),(7,6),(13,3),(16,1),(17,1),(18,1)] [z0,z0,z0,z0,z0,z0,z0,z0,z0,z0,z0,z0,z0,.bool false,.bool false,.bool false,z0,z0,.bool false]:=dc.of ak ak
instance eE:dD prog 176 3 1 8 [z0]:=dD.of (z0) ak ak rfl rfl rfl
instance jD:dm prog 176 (.slice none 0 0):=dm.of ak ak rfl
instance ad4:de prog 204 7 [.int .u8 0,.slice none 0 0,.slice none 0 0,.slice none 0 0,.int .u8 0,.bool false,.bool false]:=de.of ak ak rfl
instance ad5:aT prog 204 0 0:=aT.bS ak
instance ad6:aT prog 204 1 1:=aT.bS ak
instance ad7:aT prog 204 2 2:=aT.bS ak
instance ad8:aT prog 204 3 3:=aT.bS ak
instance ad9:aT prog 204 4 4:=aT.bS ak
instance ad_:aT prog 204 5 5:=aT.bS ak
instance aea:aT prog 204 6 6:=aT.bS ak
instance aeb:dc prog 204 [(0,1),(1,1),(2,1),(3,1),(4,1),(5,1),(6,1)] [.int .u8 0,.slice none 0 0,.slice none 0 0,.slice none 0 0,.int .u8 0,.bool false,.bool false]:=dc.of ak ak
instance aec:de prog 206 5 [.int .i32 0,z0,z0,.int .u8 0,.int .u8 0]:=de.of ak ak rfl
instance aed:aT prog 206 0 0:=aT.bS ak
instance aee:aT prog 206 1 1:=aT.bS ak
instance aef:aT prog 206 2 2:=aT.bS ak
instance aeg:aT prog 206 3 3:=aT.bS ak
instance aeh:aT prog 206 4 4:=aT.bS ak
instance aei:dc prog 206 [(0,1),(1,1),(2,1),(3,1),(4,1)] [.int .i32 0,z0,z0,.int .u8 0,.int .u8 0]:=dc.of ak ak
instance aej:aT prog 208 0 0:=aT.bS ak
instance aek:aT prog 208 1 7:=aT.bS ak
instance ael:aT prog 208 2 8:=aT.bS ak
instance aem:aT prog 208 3 9:=aT.bS ak
instance aen:dc prog 208 [(0,7),(7,1),(8,1),(9,5)] [.int .u8 0,.slice none 0 0,.slice none 0 0,.slice none 0 0,.int .u8 0,.bool false,.bool false,z0,z0,.int .i32 0,z0,z0,.int .u8 0,.int .u8 0]:=dc.of ak ak
instance mJ:dD prog 211 21 1 4 [.int .i32 0]:=dD.of (.int .i32 0) ak ak rfl rfl rfl
instance BJ:dm prog 211 (.slice none 0 0):=dm.of ak ak rfl
instance aeo:aT prog 220 0 0:=aT.bS ak
instance aep:aT prog 220 1 1:=aT.bS ak
instance aeq:aT prog 220 2 2:=aT.bS ak
instance aer:aT prog 220 3 3:=aT.bS ak
instance aes:aT prog 220 4 4:=aT.bS ak
instance aet:dc prog 220 [(0,1),(1,1),(2,1),(3,1),(4,1)] [.slice none 0 0,z0,z0,z0,.int .u64 0]:=dc.of ak ak
instance mK:dD prog 222 243 1 8 [.pointer none]:=dD.of (.pointer none) ak ak rfl rfl rfl
instance oD:dm prog 222 (.slice none 0 0):=dm.of ak ak rfl
instance N3:aT prog 224 0 0:=aT.bS ak
instance aeu:aT prog 224 1 1:=aT.bS ak
instance aev:aT prog 224 2 2:=aT.bS ak
instance aew:aT prog 224 3 3:=aT.bS ak
instance aex:dc prog 224 [(0,1),(1,1),(2,1),(3,1)] [.slice none 0 0,z0,.int .u64 0,.string ByteArray.empty]:=dc.of ak ak
instance aey:aT prog 226 0 0:=aT.bS ak
instance aez:aT prog 226 1 1:=aT.bS ak
instance aeA:dc prog 226 [(0,1),(1,1)] [.slice none 0 0,z0]:=dc.of ak ak
instance aeB:de prog 228 4 [z0,z0,.bool false,.string ByteArray.empty]:=de.of ak ak rfl
instance aeC:aT prog 228 0 0:=aT.bS ak
instance aeD:aT prog 228 1 1:=aT.bS ak
instance aeE:aT prog 228 2 2:=aT.bS ak
instance aeF:aT prog 228 3 3:=aT.bS ak
instance aeG:dc prog 228 [(0,1),(1,1),(2,1),(3,1)] [z0,z0,.bool false,.string ByteArray.empty]:=dc.of ak ak
instance aeH:aT prog 230 0 0:=aT.bS ak
instance aeI:aT prog 230 1 4:=aT.bS ak
instance aeJ:dc prog 230 [(0,4),(4,2)] [z0,z0,.bool false,.string ByteArray.empty,z0,z0]:=dc.of ak ak
instance BK:de prog 232 3 [z0,z0,z0]:=de.of ak ak rfl
instance aeK:aT prog 232 0 0:=aT.bS ak
instance aeL:aT prog 232 1 1:=aT.bS ak
instance aeM:aT prog 232 2 2:=aT.bS ak
instance aeN:dc prog 232 [(0,1),(1,1),(2,1)] [z0,z0,z0]:=dc.of ak ak
instance Gi:de prog 234 10 [.bool false,z0,z0,.bool false,.string ByteArray.empty,z0,z0,z0,z0,z0]:=de.of ak ak rfl
instance aeO:aT prog 234 0 0:=aT.bS ak
instance aeP:aT prog 234 1 1:=aT.bS ak
instance aeQ:aT prog 234 2 7:=aT.bS ak
instance aeR:dc prog 234 [(0,1),(1,6),(7,3)] [.bool false,z0,z0,.bool false,.string ByteArray.empty,z0,z0,z0,z0,z0]:=dc.of ak ak
instance aeS:dm prog 240 (.nilFunc):=dm.of ak ak rfl
instance ph:dm prog 243 (.pointer none):=dm.of ak ak rfl
instance aeT:aT prog 246 0 0:=aT.bS ak
instance aeU:aT prog 246 1 1:=aT.bS ak
instance aeV:aT prog 246 2 2:=aT.bS ak
instance aeW:aT prog 246 3 3:=aT.bS ak
instance aeX:aT prog 246 4 4:=aT.bS ak
instance N4:dc prog 246 [(0,1),(1,1),(2,1),(3,1),(4,1)] [z0,.bool false,.bool false,.string ByteArray.empty,.string ByteArray.empty]:=dc.of ak ak
instance aeY:de prog 247 8 [z0,z0,z0,z0,z0,z0,z0,z0]:=de.of ak ak rfl
def oE: (prog.info? 44).map (·.size)=some 2:=by kernel_rfl
instance aeZ:je prog 247 2 [z0,z0,z0,z0,z0,z0,z0,z0]:=je.of ak ak
instance ae0:aT prog 249 0 0:=aT.bS ak
instance ae1:aT prog 249 1 5:=aT.bS ak
instance N5:aT prog 249 2 6:=aT.bS ak
instance ae2:aT prog 249 3 14:=aT.bS ak
instance N6:dc prog 249 [(0,5),(5,1),(6,8),(14,1)] [z0,.bool false,.bool false,.string ByteArray.empty,.string ByteArray.empty,.int .u64 0,z0,z0,z0,z0,z0,z0,z0,z0,z0]:=dc.of ak ak
instance ql:dD prog 260 318 3 24 [z0,z0,.int .u64 0]:=dD.of (.agg #[z0,z0,.int .u64 0]) ak ak rfl rfl rfl
instance s6:dD prog 269 63 1 8 [.int .u64 0]:=dD.of (.int .u64 0) ak ak rfl rfl rfl
instance Gj:dm prog 269 (.slice none 0 0):=dm.of ak ak rfl
instance ae3:aT prog 271 0 0:=aT.bS ak
instance ae4:aT prog 271 1 1:=aT.bS ak
instance ae5:dc prog 271 [(0,1),(1,1)] [.slice none 0 0,z0]:=dc.of ak ak
instance ae6:de prog 302 6 [.slice none 0 0,z0,z0,z0,z0,.nilFunc]:=de.of ak ak rfl
instance ae7:aT prog 302 0 0:=aT.bS ak
instance ae8:aT prog 302 1 1:=aT.bS ak
instance ae9:aT prog 302 2 3:=aT.bS ak
instance ae_:aT prog 302 3 5:=aT.bS ak
instance afa:dc prog 302 [(0,1),(1,2),(3,2),(5,1)] [.slice none 0 0,z0,z0,z0,z0,.nilFunc]:=dc.of ak ak
instance uB:dD prog 303 305 2 16 [z0,z0]:=dD.of (.agg #[z0,z0]) ak ak rfl rfl rfl
instance BL:de prog 305 2 [z0,z0]:=de.of ak ak rfl
def ic: (prog.info? 3).map (·.size)=some 1:=by kernel_rfl
instance afb:je prog 305 1 [z0,z0]:=je.of ak ak
instance BM:de prog 318 3 [z0,z0,.int .u64 0]:=de.of ak ak rfl
instance afc:aT prog 318 0 0:=aT.bS ak
instance afd:aT prog 318 1 1:=aT.bS ak
instance afe:aT prog 318 2 2:=aT.bS ak
instance aff:dc prog 318 [(0,1),(1,1),(2,1)] [z0,z0,.int .u64 0]:=dc.of ak ak
instance N7:de prog 332 18 [z0,z0,z0,z0,z0,z0,z0,z0,z0,z0,z0,z0,z0,z0,z0,z0,z0,z0]:=de.of ak ak rfl
instance afg:je prog 332 1 [z0,z0,z0,z0,z0,z0,z0,z0,z0,z0,z0,z0,z0,z0,z0,z0,z0,z0]:=je.of ak ak
instance Gk:dD prog 353 9 1 16 [.string ByteArray.empty]:=dD.of (.string ByteArray.empty) ak ak rfl rfl rfl
instance N8:dD prog 354 9 1 16 [.string ByteArray.empty]:=dD.of (.string ByteArray.empty) ak ak rfl rfl rfl
instance afh:dm prog 354 (.slice none 0 0):=dm.of ak ak rfl
instance afi:de prog 356 3 [.slice none 0 0,.string ByteArray.empty,.bool false]:=de.of ak ak rfl
instance afj:aT prog 356 0 0:=aT.bS ak
instance afk:aT prog 356 1 1:=aT.bS ak
instance afl:aT prog 356 2 2:=aT.bS ak
instance afm:dc prog 356 [(0,1),(1,1),(2,1)] [.slice none 0 0,.string ByteArray.empty,.bool false]:=dc.of ak ak
instance N9:dD prog 380 427 2 8 [.int .i32 0,.int .i32 0]:=dD.of (.agg #[.int .i32 0,.int .i32 0]) ak ak rfl rfl rfl
instance afn:je prog 400 1 [z0,z0,z0]:=je.of ak ak
instance N_:de prog 427 2 [.int .i32 0,.int .i32 0]:=de.of ak ak rfl
def Gl: (prog.info? 21).map (·.size)=some 1:=by kernel_rfl
instance afo:je prog 427 1 [.int .i32 0,.int .i32 0]:=je.of ak ak
instance Oa:de prog 436 31 [.int .i32 0,.int .i32 0,.int .i32 0,.int .i32 0,.int .i32 0,.int .i32 0,.int .i32 0,.int .i32 0,.int .i32 0,.int .i32 0,.int .i32 0,.int .i32 0,.int .i32 0,.int .i32 0,.int .i32 0,.int .i32 0,.int .i32 0,.int .i32 0,.int .i32 0,.int .i32 0,.int .i32 0,.int .i32 0,.int .i32 0,.int .i32 0,.int .i32 0,.int .i32 0,.int .i32 0,.int .i32 0,.int .i32 0,.int .i32 0,.int .i32 0]:=de.of ak ak rfl
instance Ob:je prog 436 1 [.int .i32 0,.int .i32 0,.int .i32 0,.int .i32 0,.int .i32 0,.int .i32 0,.int .i32 0,.int .i32 0,.int .i32 0,.int .i32 0,.int .i32 0,.int .i32 0,.int .i32 0,.int .i32 0,.int .i32 0,.int .i32 0,.int .i32 0,.int .i32 0,.int .i32 0,.int .i32 0,.int .i32 0,.int .i32 0,.int .i32 0,.int .i32 0,.int .i32 0,.int .i32 0,.int .i32 0,.int .i32 0,.int .i32 0,.int .i32 0,.int .i32 0]:=je.of ak ak
def mixed:prog.follows .mixedOrders=true:=by kernel_rfl
def yW(a:Program)(b:Nat):Nat->Bool
 | 0=>true
 | n+1=>(!Nat.beq 1 (Nat.land 1<|Nat.shiftRight b n) || (match a.funcs[n]? with | some c=> !(c.name == "runtime.NumGoroutine") && !c.body.isNone | none=>false)) && yW a b n
theorem Gm : ∀(n:Nat),yW g c n=true-> ∀a,a<n->Nat.beq 1 (Nat.land 1<|Nat.shiftRight c a)=true->dX g a
 | 0,_,a,f,_=>absurd f<|Nat.not_lt_zero a
 | n+1,d,a,f,h=>by
  rw[yW,dK] at d
  rcases fd a n with ab | ab
  exact Gm n d.2 a ab h;obtain rfl:a=n:=by omega
  have b:=d.1
  rw[h] at b
  cases e:g.funcs[a]? with
  | none=>rw[e] at b;cases b
  | some i=>rw[e] at b;exact⟨i,e,by simp_all⟩
def Oc:yW prog 57586096603539358928356840259694035732852708474230711985666485015310738200326439321722718112621698202654598585526964865982181731084202517616049869151795477533949944 545=true:=by kernel_rfl
theorem cL{f:Nat}(a: (Nat.ble f 544 && Nat.beq 1 (Nat.land 1<|Nat.shiftRight 57586096603539358928356840259694035732852708474230711985666485015310738200326439321722718112621698202654598585526964865982181731084202517616049869151795477533949944 f))=true:=by exact rfl):dX prog f:=Gm 545 Oc f (Nat.lt_succ_of_le<|ej (Bool.and_eq_true_iff.1 a).1) (Bool.and_eq_true_iff.1 a).2
abbrev ay :World->(Ending->World->Prop)->Prop:=Calls prog s t.toArray
def pi :Ending->World->Prop:=λc a=> ∃b,c= .returned b/\Ext [] v a/\u b a
def oF{R:World->Value->World->Prop}{f:FuncId} 
 (m: ∀c,ag b S cs c->Calls P f a.toArray c (pi (R c) c))
 (o: ∀g h i,ag b S cs g->Ext [] g h->ag b S cs h->(∀k∈aK cs,k<g.heap.size)->R g i h->aM P n ops Q rest ((d,i)::l) (ag h (aK cs) cs)) (p:db l x=some a:=by exact rfl) (q:Nat.blt d n=true:=by exact rfl) (r:dX P f:=by exact cL):
 aM P n ops Q (⟨some d,.call ⟨.value<|.func f,x.toArray,y⟩,ty,pos,bf,none⟩::rest) l (ag b S cs):=by
 refine iw rfl (hd:=q) (hcb:=r) (hargs:=p) λc e=>?_
 have:=m c e
 simp only[jV,kr];refine this.mono ?_;rintro v s ⟨i,rfl,j,t⟩;exact⟨_,rfl,(o c s i e j (e.keep j) (λk u=>e.lt u) t).at (e.keep j).qf⟩
def Rd.iR{E:b1 e}(d:ag b S cs i){L:List e}(f:Has cs (aG c (E.all L) j))(g:L.length=p)(h:p<=maxLen):
 Rd E i (λa=>a=c) (some ⟨c,0,none⟩) p p L:=
 ⟨g,cC _,h,λ_=>⟨_,rfl,rfl,λa m n o k l=>by
  rw[add_add,Addr.add_lit];exact d.e8 f<|by rw[ev];exact E.nE k l⟩⟩
def ag.Gn{w:World}(e:ag b S cs w)(g:bC cs (aG c a j) (own j p (.slice (some ⟨c,0,none⟩) q q) q a) f)(d:a.length=q*p)(h:q<=maxLen):ag b S f w:=by
 have i:w.heap[c]? = some (.cells a.toArray j (0,0)):=e.has g.has
 refine e.iM g (Ext.refl _ _) ⟨d,.inr ⟨c,q,a.toArray,rfl,b4 _,i,cC _,h,by simpa using d,by simp[<-d]⟩⟩ ?_ ?_;intro l k;left
 simpa [own,aG,Value.ownBlock] using k
 simp[own,Value.ownBlock]
def Od{sz m:Nat}(d:bC cs (aG c a j) (own j sz (.slice (some ⟨c,0,none⟩) m m) m a) f)(e:a.length=m*sz)(g:m<=maxLen)(h:dA P n k Q l (ag b S f)):dA P n k Q l (ag b S cs):=
 dh h (Sub.refl _) λ_ i=>i.Gn d e g
open Go.ChangeShapes Go.WideShapes Go.Deep
inductive l2 where
 | int (k:IntKind)
 | bool
 | str
 | Gp (t:TypeId)
def wK(P:Program)(a:TypeId->Option (List l2)):List Field->Nat->Option (List l2)
 | [],_=>some []
 | f::d,b=>match a f.type,wK P a d (b+P.cellsOf f.type) with
  | some c,some e=>if f.offset=b/\c.length=P.cellsOf f.type then some (c++e) else none
  | _,_=>none
def s7(P:Program):Nat->TypeId->Option (List l2)
 | 0,_=>none
 | f+1,a=>match P.underlying a with
  | some (.struct g)=>match wK P (s7 P f) g.toList 0 with
   | some c=>if c.length=P.cellsOf a then some c else none
   | none=>none
  | some (.array d e)=>match s7 P f e with
   | some b=>if b.length=P.cellsOf e/\(List.replicate d b).flatten.length=P.cellsOf a then some (List.replicate d b).flatten else none
   | none=>none
  | some (.int h)=>some [.int h]
  | some .bool=>some [.bool]
  | some .string=>some [.str]
  | some (.slice _)=>some [.Gp a]
  | _=>none
def rE{H:Type}(P:Program)(a:TypeId)(b:DataW H):Prop:= ∀c∈DataW.weights P a b,c<=reachBytes
def BN{H:Type}{P:Program} : ∀{a:List (DataW H)} {b:DataW H},b∈a-> ∀c∈b.weights P z,c∈DataW.weightsAll P z a
 | [],_,h,_,_=>by simp at h
 | d0::a,b,h,c,d=>by
  simp only[DataW.weightsAll,dq];rcases eJ.1 h with rfl | h
  exact .inl d;exact .inr<|BN h c d
section
variable {H:Type}(enc:TypeId × Value->H)(P:Program)(w:World)(base:Nat)(spare:Nat->Bool)(held:Bool)
def Fit:l2->Value->Prop
 | .int c,a=> ∃b,a= .int c b/\(Lit.int c b).wf=true
 | .bool,a=> ∃g,a= .bool g
 | .str,a=> ∃d,a= .string d/\d.size<=reachBytes
 | .Gp e,a=> ∃h b i j f,a= .slice h b i/\DataW.trod enc P w base spare held j e [a]=some f/\rE P e f.1
def Fits:List l2->List Value->Prop
 | [],[]=>True
 | l::a,b::c=>Fit enc P w base spare held l b/\Fits a c
 | _,_=>False
end
section
variable {H:Type}{enc:TypeId × Value->H}{w:World}{base:Nat}{spare:Nat->Bool}{held:Bool}
variable {h:List l2}{A:l2}
def Fits.cons(d:Fits enc P w base spare held (A::h) a): ∃b c,a=b::c/\Fit enc P w base spare held A b/\Fits enc P w base spare held h c:=by
 cases a with
 | nil=>exact d.elim
 | cons b c=>exact⟨b,c,rfl,d.1,d.2⟩
def Fits.Gq(b:Fits enc P w base spare held [] a):a=[]:=by
 cases a with
 | nil=>rfl
 | cons c d=>exact b.elim
def Fits.oG: ∀{c d:List l2} {e f:List Value},Fits enc P w base spare held c e->Fits enc P w base spare held d f->Fits enc P w base spare held (c++d) (e++f)
 | [],_,[],_,_,a=>a
 | _::_,_,_::_,_,g,a=>⟨g.1,Fits.oG g.2 a⟩
 | [],_,_::_,_,b,_=>b.elim
 | _::_,_,[],_,b,_=>b.elim
variable {B:TypeId->Option (List l2)}
def Gr{n:Nat}{cs:List Value}(i: ∀e b j k,B e=some b->DataW.trod enc P w base spare held n e j=some k->rE P e k.1->Fits enc P w base spare held b j):
 ∀(c:List Field)(d:Nat)(b:List l2),wK P B c d=some b->(∀f∈c,∃g,DataW.trod enc P w base spare held n f.type ((cs.drop f.offset).take<|P.cellsOf f.type)=some g/\rE P f.type g.1)->
 Fits enc P w base spare held b ((cs.drop d).take b.length)
 | [],d,b,a,_=>by
  simp only[wK,ek] at a
  subst a;simp[Fits]
 | f::c,d,b,a,l=>by
  simp only[wK] at a
  split at a
  rename_i x m o p;split at a
  rename_i h;simp only[ek] at a
  subst a;obtain⟨g,q,r⟩:=l f au;have s:=i _ _ _ _ o q r
  have t:=Gr i c _ m p λu v=>l u (by simp[v])
  rw[b3,List.take_add,ls];refine Fits.oG ?_ ?_;rw[h.2,<-h.1];exact s
  rw[h.2];exact t
  cases a
  cases a
def Gs{n:Nat}{cs:List Value}(d:h.length=c)(a: ∀b,b<n->Fits enc P w base spare held h ((cs.drop<|b*c).take c)): ∀k,k<=n->Fits enc P w base spare held (List.replicate k h).flatten (cs.take<|k*c)
 | 0,_=>by simp[Fits]
 | k+1,g=>by
  have e:=Gs d a k aa
  have f:=a k aa
  rw[kw,Nat.one_mul,List.take_add,List.replicate_succ',List.flatten_append,List.flatten_singleton];exact Fits.oG e f
def trod_shp: ∀(f:Nat)(o:TypeId)(j:List l2)(p:Nat)(k:List Value)(h:DataW H × List MemPlace),s7 P f o=some j->DataW.trod enc P w base spare held p o k=some h->rE P o h.1->Fits enc P w base spare held j k
 | 0,_,_,_,_,_,a,_,_=>by simp[s7] at a
 | f+1,o,j,p,k,h,a,d,l=>by
  simp only[s7] at a
  split at a
  rename_i x b;split at a
  rename_i D E;split at a
  rename_i q;simp only[ek] at a
  subst a;obtain⟨u,g,_,m,y,z,v⟩:=DataW.trod_struct b d;have:=Gr (cs:=k) (n:=g) (λF j G h r I J=>trod_shp f F j g G h r I J) x.toList 0 D E (λA K=>by
   obtain⟨i,n⟩:=sz K;have L:x[i]? = some A:=by simpa using n
   have B:i<u.length:=by
    have:=(cH.1 n).1
    rw[z];simpa using this
   exact⟨u[i],by rw[v i A L,bD B],λs M=>l s (by
    rw[m];simp only[DataW.weights,b];exact DataW.weights_mem_each (j:=i) (by rw[fw,n];rfl) (by rw[fw,bD B];rfl) s M)⟩)
  rw[ol,eT aa] at this
  exact this;cases a
  cases a
  rename_i g e b;split at a
  rename_i t N;split at a
  rename_i q;simp only[ek] at a
  subst a;obtain⟨u,s,_,m,y,z,v⟩:=DataW.trod_array b d;have:=Gs (cs:=k) (n:=g) q.1 (λi n=>by
   have r:=v i n
   rw[bD aa] at r
   exact trod_shp f e t s _ _ N r (λc O=>l c (by
    rw[m];simp only[DataW.weights,b];exact BN (ei.2 ⟨_,sB _,rfl⟩) c O))) g<|cC _
  rw[eT] at this
  exact this;rw[y,<-q.2];have: ∀c:Nat,(List.replicate c t).flatten.length=c*P.cellsOf e:=λc=>by
   induction c with
   | zero=>simp
   | succ c Q=>rw[oq,List.flatten_cons,b3,Q,q.1,kw,Nat.one_mul,Nat.add_comm]
  rw[this g];exact cC _;cases a
  cases a
  rename_i c b;simp only[ek] at a
  subst a;obtain⟨g,rfl,_,R⟩:=DataW.trod_int b d;exact⟨⟨g,rfl,R⟩,bh⟩;rename_i b;simp only[ek] at a
  subst a;obtain⟨S,rfl,_⟩:=DataW.trod_bool b d;exact⟨⟨S,rfl⟩,bh⟩;rename_i b;simp only[ek] at a
  subst a;obtain⟨C,rfl,m,_⟩:=DataW.trod_string b d;exact⟨⟨C,rfl,l _<|by rw[m];simp only[DataW.weights];exact e0.2 (nx (xs:=C.data)).symm⟩,bh⟩;rename_i e b;simp only[ek] at a
  subst a;rcases DataW.trod_slice b d with ⟨rfl,_⟩ | ⟨t,T,U,_,_,_,_,rfl,_⟩
  exact⟨⟨none,0,0,p,h,rfl,d,l⟩,bh⟩;exact⟨⟨some t,T,U,p,h,rfl,d,l⟩,bh⟩;cases a
def Oe{E:b1 e}{G:e->Prop}{y:Nat}{z:DataW H × List MemPlace}(A:Nat)(s:List l2)(t:P.underlying c=some (.slice j))(B:P.cellsOf j=E.ax)(Zn:0<E.ax)
 (O:s7 P A j=some s) (Q: ∀D,Fits enc P w base spare held s D-> ∃d,E.enc d=D/\G d) (R:0<P.bytesOf j) (S:DataW.trod enc P w base spare held p c [.slice C q y]=some z) (F:rE P c z.1):
 ∃a,Rd E w (λk=>k<w.heap.size) C q y a/\(∀d∈a,G d)/\q<=reachBytes:=by
 rcases open_slice t S with ⟨l,_⟩ | ⟨d,Zo,Zp,m,T,U,Zq,l,I,V,W,X,J,K⟩
 simp only[ug,Value.slice.injEq,and_true] at l
 obtain⟨rfl,rfl,rfl⟩:=l;exact⟨[],Rd.nil _ _ _ _ (b4 _) _,by simp,b4 _⟩;simp only[ug,Value.slice.injEq,and_true] at l
 obtain⟨rfl,rfl,rfl⟩:=l;have Zr:q<=m:=by rw[X];split <;> omega
 have Y: ∀k,k<q->rE P j (U k):=λk o L Z=>F L (by
  rw[J];simp only[DataW.weights,t,eJ,dq];exact .inr<|.inl<|BN (ei.2 ⟨k,List.mem_range.2 o,rfl⟩) L Z)
 have Za:q<=reachBytes:=by
  have:=F _ (by
   rw[J];simp only[DataW.weights,t];exact List.mem_cons_self)
  simp only[c8,List.length_range] at this
  exact ge (ge (Nat.le_add_right _ _)<|Nat.le_mul_of_pos_right _ R) this
 have Zb: ∀k,k<=q-> ∃a:List e,a.length=k/\(∀d∈a,G d)/\ ∀g b f u,a[g]? = some b->(E.enc b)[f]? = some u->w.cell? ((d.add<|g*E.ax).add f)=some u:=by
  intro k;induction k with
  | zero=>exact λ_=>⟨[],rfl,by simp,by simp⟩
  | succ k Zc=>
   intro o;obtain⟨a,Zd,Ze,Zf⟩:=Zc aa;obtain⟨v,M,Zg⟩:=K k aa;obtain⟨b,Zh,Zi⟩:=Q v<|trod_shp A j s T v _ O Zg<|Y k aa;obtain⟨_,Zs,Zj⟩:=World.cells?_some M;refine⟨a++[b],by simp[Zd],λx n=>?_,λg x f u h i=>?_⟩;rcases dq.1 n with n | n
   exact Ze x n;rw[e0.1 n];exact Zi
   by_cases Zk:g<a.length
   rw[om Zk] at h
   exact Zf g x f u h i;rw[i_ aa] at h
   have:g=k:=by
    have:=(cH.1 h).1
    simp at this
    omega
   subst this;rw[show g - a.length=0 by omega] at h
   simp only[sy,ek] at h
   subst h;have Zl:f<E.ax:=by
    have:=(cH.1 i).1
    rw[E.len] at this
    exact this
   have r:=Zj f (by rw[B];exact Zl)
   rw[B] at r
   rw[r,<-Zh];exact i
 obtain⟨a,Zm,r,N⟩:=Zb q<|cC _;refine⟨a,⟨Zm,V,W,λZt=>⟨d,rfl,?_,λk b f u o i=>N k b f u o i⟩⟩,r,Za⟩;obtain⟨v,M,_⟩:=K 0 aa;obtain⟨b,I⟩ : ∃b,a[0]? = some b:=⟨a[0]'aa,bD _⟩;obtain⟨u,i⟩ : ∃u,(E.enc b)[0]? = some u:=⟨(E.enc b)[0]'(by rw[E.len];omega),bD _⟩;have:=World.block_lt_of_cell? _ _<|N 0 b 0 u I i
 rw[block_add,block_add] at this
 exact this
end
def wL:List Nat->Bool
 | []=>true
 | x::a=> !a.any (Nat.beq x) && wL a
def ag.swap{c:Chunk}{w:World}(h:ag i D (E::c::f) w):ag i D (c::E::f) w:=by
 have l: ∀a,a∈aK (c::E::f)->a∈aK (E::c::f):=λa b=>by
  rw[gy,gy] at b ⊢
  simp only[dq] at b ⊢
  rcases b with h | h | h
  ·exact .inr<|.inl h
  ·exact .inl h
  ·exact .inr<|.inr h
 refine⟨h.ext,?_,λm j=>h.all m ?_,λa b=>h.eU a<|l a b⟩
 ·have d:=h.nodup
  rw[gy,gy,<-ec] at d ⊢
  rw[gO] at d ⊢
  obtain⟨k,n,o⟩:=d;rw[gO] at k ⊢
  obtain⟨p,q,r⟩:=k;refine⟨⟨q,p,λe g i s t=>r i s e g t.symm⟩,n,λe g=>o e ?_⟩;rcases dq.1 g with h | h
  ·exact dq.2<|.inr h
  ·exact dq.2<|.inl h
 ·simp only[eJ] at j ⊢
  rcases j with h | h | h
  ·exact .inr<|.inl h
  ·exact .inl h
  ·exact .inr<|.inr h
def Gt :cN
 | .normal,b,c=> ∃a,r a/\Sub b (F a)/\m a c
 | _,_,_=>False
def dN{c:e->Fr}{d:e->World->Prop}{f:e->Prop}{H:World->Prop}(a:e)(g:f a)(h:Sub o (c a))(i: ∀b,H b->d a b):eK (Gt c d f) .normal o H:=λb j=>⟨a,g,h,i b j⟩
def gA{H:World->Prop}(h:dA g c k (Gt F m r) o H)(i: ∀a,r a->eK G .normal (F a) (m a)):dA g c k G o H:=by
 intro b j d l;refine wp_mono (h b j d l) ?_;rintro n d b ⟨u,p,f⟩;cases n with
 | normal=>
  obtain⟨a,q,s,t⟩:=f;exact⟨F a,p.sub s,i a q b t⟩
 | _=>exact f.elim
