/- Part 3 of the proof. -/
import Derived.Test.YtljklmlodfbdnaaGreatRows
import Derived.Test.YtljklmlodfbdnaaGreatJ2
import Derived.Test.YtljklmlodfbdnaaGreatJ1
import Derived.Sort.OwnSortedInts
import Derived.Laws.IdiomCopy
import Derived.Shelf.Spec.SlicesInsert
import Derived.Shelf.Spec.SlicesInsertGrow
set_option maxHeartbeats 1000000
set_option maxRecDepth 100000
set_option linter.unusedVariables false
set_option linter.unusedSimpArgs false
set_option linter.unusedSectionVars false
set_option linter.unnecessarySimpa false
namespace Go.Proofs.YtljklmlodfbdnaaGreat
open Go Go.E Go.Proofs.Tryz
abbrev kO (c:NI) (p:Nat) (x l:Int) (v y:Value):=BK 12 (cl [.int .i64 (c 0),.bool (nz (c 1)),.int .i64 (c 2),.int .i64 (c 3),.int .i64 (c 4),.int .i64 (c 5),.int .i64 (c 6),.pointer (some ⟨p,0,none⟩),.int .i64 x,.int .i64 l,v,y]) 84
theorem Agt:App prog 173 42 2 16 (AG 2 (iv (fun _=>0))):=⟨underlying173,Ac,Ac,Ac⟩
theorem TX:App prog 35 45 28 224 (AG 28 (iv (fun _=>0))):=⟨underlying35,Ac,Ac,Ac⟩
theorem AjW:App prog 53 62 13 168 (AG 13 (fun i=>([.int .i64 0,.int .i64 0,.int .i64 0,.int .i64 0,.bool false,.int .i64 0,.int .i64 0,.int .i64 0,.int .i64 0,.slice none 0 0,.slice none 0 0,.slice none 0 0,.slice none 0 0]:List Value).getD i undef)):=⟨underlying53,Ac,Ac,Ac⟩
theorem NK:App prog 54 65 7 56 (AG 7 (iv (fun _=>0))):=⟨underlying54,Ac,Ac,Ac⟩
theorem Ri:App prog 59 3 1 8 (.int .i64 0):=⟨underlying59,Ac,Ac,Ac⟩
theorem Y6:App prog 60 104 5 40 (AG 5 (iv (fun _=>0))):=⟨underlying60,Ac,Ac,Ac⟩
theorem AfT:App prog 87 139 3 24 (AG 3 (mv (kS [1]) (fun _=>0))):=⟨underlying87,Ac,Ac,Ac⟩
theorem AeN:App prog 88 98 13 168 (AG 13 (fun i=>([.int .i64 0,.int .i64 0,.int .i64 0,.int .i64 0,.bool false,.int .i64 0,.int .i64 0,.int .i64 0,.int .i64 0,.slice none 0 0,.slice none 0 0,.slice none 0 0,.slice none 0 0]:List Value).getD i undef)):=⟨underlying88,Ac,Ac,Ac⟩
theorem Vx:Aay prog 128 9 127 3 true:=⟨underlying128,Ac,Ac⟩
theorem OZ:Aay prog 43 8 42 2 true:=⟨underlying43,Ac,Ac⟩
theorem Vw:Zf prog 173 42 2 true:=⟨underlying173,Ac,Ac⟩
theorem AiM:Zf prog 24 47 33 true:=⟨underlying24,Ac,Ac⟩
theorem Re:Zf prog 35 45 28 true:=⟨underlying35,Ac,Ac⟩
theorem AiL:Zf prog 53 62 13 true:=⟨underlying53,Ac,Ac⟩
theorem M8:Zf prog 54 65 7 true:=⟨underlying54,Ac,Ac⟩
theorem HY:Zf prog 59 3 1 false:=⟨underlying59,Ac,Ac⟩
theorem XG:Zf prog 60 104 5 true:=⟨underlying60,Ac,Ac⟩
theorem OY:Zf prog 87 139 3 true:=⟨underlying87,Ac,Ac⟩
theorem Qz:Zf prog 88 98 13 true:=⟨underlying88,Ac,Ac⟩
theorem AiK:Flat prog 104 5:=⟨Ac,Ac⟩
theorem Ahn:Flat prog 39 2:=⟨Ac,Ac⟩
theorem Ahm:Flat prog 42 2:=⟨Ac,Ac⟩
theorem Lx:Flat prog 45 28:=⟨Ac,Ac⟩
theorem AjT:Flat prog 65 7:=⟨Ac,Ac⟩
theorem Ago:KA prog 104:=⟨_,underlying104,Ac⟩
theorem Agn:KA prog 130:=⟨_,underlying130,Ac⟩
theorem AjR:KA prog 23:=⟨_,underlying23,Ac⟩
theorem Ahj:KA prog 39:=⟨_,underlying39,Ac⟩
theorem Ahi:KA prog 42:=⟨_,underlying42,Ac⟩
theorem XC:KA prog 45:=⟨_,underlying45,Ac⟩
theorem AiI:KA prog 56:=⟨_,underlying56,Ac⟩
theorem YU:KA prog 62:=⟨_,underlying62,Ac⟩
theorem Nf:KA prog 65:=⟨_,underlying65,Ac⟩
theorem AiH:KA prog 84:=⟨_,underlying84,Ac⟩
theorem AjQ:KA prog 90:=⟨_,underlying90,Ac⟩
theorem AcB:KA prog 98:=⟨_,underlying98,Ac⟩
theorem Abk:IQ prog 104 0 0 1 false:=⟨_,_,underlying104,rfl,rfl,⟨Ac,Ac⟩,rfl⟩
theorem Abj:IQ prog 104 1 1 1 false:=⟨_,_,underlying104,rfl,rfl,⟨Ac,Ac⟩,rfl⟩
theorem Abi:IQ prog 104 2 2 2 true:=⟨_,_,underlying104,rfl,rfl,⟨Ac,Ac⟩,rfl⟩
theorem Abh:IQ prog 104 3 4 1 false:=⟨_,_,underlying104,rfl,rfl,⟨Ac,Ac⟩,rfl⟩
theorem Nz:IQ prog 127 0 0 1 false:=⟨_,_,underlying127,rfl,rfl,⟨Ac,Ac⟩,rfl⟩
theorem Abg:IQ prog 127 1 1 1 false:=⟨_,_,underlying127,rfl,rfl,⟨Ac,Ac⟩,rfl⟩
theorem R4:IQ prog 127 2 2 1 false:=⟨_,_,underlying127,rfl,rfl,⟨Ac,Ac⟩,rfl⟩
theorem Qt:IQ prog 130 0 0 1 false:=⟨_,_,underlying130,rfl,rfl,⟨Ac,Ac⟩,rfl⟩
theorem OW:IQ prog 130 1 1 27 true:=⟨_,_,underlying130,rfl,rfl,⟨Ac,Ac⟩,rfl⟩
theorem Mj:IQ prog 139 0 0 1 false:=⟨_,_,underlying139,rfl,rfl,⟨Ac,Ac⟩,rfl⟩
theorem Qs:IQ prog 139 1 1 1 false:=⟨_,_,underlying139,rfl,rfl,⟨Ac,Ac⟩,rfl⟩
theorem Abf:IQ prog 139 2 2 1 false:=⟨_,_,underlying139,rfl,rfl,⟨Ac,Ac⟩,rfl⟩
theorem PT:IQ prog 23 0 0 1 false:=⟨_,_,underlying23,rfl,rfl,⟨Ac,Ac⟩,rfl⟩
theorem Vr:IQ prog 23 1 1 1 false:=⟨_,_,underlying23,rfl,rfl,⟨Ac,Ac⟩,rfl⟩
theorem To:IQ prog 23 2 2 1 false:=⟨_,_,underlying23,rfl,rfl,⟨Ac,Ac⟩,rfl⟩
theorem Tn:IQ prog 23 3 3 1 false:=⟨_,_,underlying23,rfl,rfl,⟨Ac,Ac⟩,rfl⟩
theorem XB:IQ prog 23 4 4 1 false:=⟨_,_,underlying23,rfl,rfl,⟨Ac,Ac⟩,rfl⟩
theorem XA:IQ prog 23 5 5 1 false:=⟨_,_,underlying23,rfl,rfl,⟨Ac,Ac⟩,rfl⟩
theorem Xz:IQ prog 23 6 6 1 false:=⟨_,_,underlying23,rfl,rfl,⟨Ac,Ac⟩,rfl⟩
theorem PS:IQ prog 39 0 0 1 false:=⟨_,_,underlying39,rfl,rfl,⟨Ac,Ac⟩,rfl⟩
theorem Xy:IQ prog 39 1 1 1 false:=⟨_,_,underlying39,rfl,rfl,⟨Ac,Ac⟩,rfl⟩
theorem Kz:IQ prog 42 0 0 1 false:=⟨_,_,underlying42,rfl,rfl,⟨Ac,Ac⟩,rfl⟩
theorem Rb:IQ prog 42 1 1 1 false:=⟨_,_,underlying42,rfl,rfl,⟨Ac,Ac⟩,rfl⟩
theorem G9:IQ prog 45 0 0 1 false:=⟨_,_,underlying45,rfl,rfl,⟨Ac,Ac⟩,rfl⟩
theorem IE:IQ prog 45 1 1 1 false:=⟨_,_,underlying45,rfl,rfl,⟨Ac,Ac⟩,rfl⟩
theorem Ko:IQ prog 45 10 11 1 false:=⟨_,_,underlying45,rfl,rfl,⟨Ac,Ac⟩,rfl⟩
theorem Iu:IQ prog 45 11 12 16 true:=⟨_,_,underlying45,rfl,rfl,⟨Ac,Ac⟩,rfl⟩
theorem Jz:IQ prog 45 2 2 1 false:=⟨_,_,underlying45,rfl,rfl,⟨Ac,Ac⟩,rfl⟩
theorem HG:IQ prog 45 3 3 1 false:=⟨_,_,underlying45,rfl,rfl,⟨Ac,Ac⟩,rfl⟩
theorem K9:IQ prog 45 4 4 1 false:=⟨_,_,underlying45,rfl,rfl,⟨Ac,Ac⟩,rfl⟩
theorem Ky:IQ prog 45 5 5 2 true:=⟨_,_,underlying45,rfl,rfl,⟨Ac,Ac⟩,rfl⟩
theorem J4:IQ prog 45 6 7 1 false:=⟨_,_,underlying45,rfl,rfl,⟨Ac,Ac⟩,rfl⟩
theorem Hi:IQ prog 45 7 8 1 false:=⟨_,_,underlying45,rfl,rfl,⟨Ac,Ac⟩,rfl⟩
theorem Hx:IQ prog 45 8 9 1 false:=⟨_,_,underlying45,rfl,rfl,⟨Ac,Ac⟩,rfl⟩
theorem Lv:IQ prog 45 9 10 1 false:=⟨_,_,underlying45,rfl,rfl,⟨Ac,Ac⟩,rfl⟩
theorem Aaf:IQ prog 47 0 0 1 false:=⟨_,_,underlying47,rfl,rfl,⟨Ac,Ac⟩,rfl⟩
theorem Ra:IQ prog 47 1 1 1 false:=⟨_,_,underlying47,rfl,rfl,⟨Ac,Ac⟩,rfl⟩
theorem Aev:IQ prog 47 2 2 2 true:=⟨_,_,underlying47,rfl,rfl,⟨Ac,Ac⟩,rfl⟩
theorem Aeu:IQ prog 47 3 4 1 false:=⟨_,_,underlying47,rfl,rfl,⟨Ac,Ac⟩,rfl⟩
theorem Aae:IQ prog 47 4 5 28 true:=⟨_,_,underlying47,rfl,rfl,⟨Ac,Ac⟩,rfl⟩
theorem Aad:IQ prog 56 0 0 1 false:=⟨_,_,underlying56,rfl,rfl,⟨Ac,Ac⟩,rfl⟩
theorem Aac:IQ prog 56 1 1 1 false:=⟨_,_,underlying56,rfl,rfl,⟨Ac,Ac⟩,rfl⟩
theorem Vq:IQ prog 56 2 2 1 false:=⟨_,_,underlying56,rfl,rfl,⟨Ac,Ac⟩,rfl⟩
theorem Aab:IQ prog 56 3 3 1 false:=⟨_,_,underlying56,rfl,rfl,⟨Ac,Ac⟩,rfl⟩
theorem Jk:IQ prog 62 0 0 1 false:=⟨_,_,underlying62,rfl,rfl,⟨Ac,Ac⟩,rfl⟩
theorem Jj:IQ prog 62 1 1 1 false:=⟨_,_,underlying62,rfl,rfl,⟨Ac,Ac⟩,rfl⟩
theorem LC:IQ prog 62 10 11 1 false:=⟨_,_,underlying62,rfl,rfl,⟨Ac,Ac⟩,rfl⟩
theorem OV:IQ prog 62 11 12 1 false:=⟨_,_,underlying62,rfl,rfl,⟨Ac,Ac⟩,rfl⟩
theorem Q9:IQ prog 62 2 2 1 false:=⟨_,_,underlying62,rfl,rfl,⟨Ac,Ac⟩,rfl⟩
theorem PQ:IQ prog 62 3 3 1 false:=⟨_,_,underlying62,rfl,rfl,⟨Ac,Ac⟩,rfl⟩
theorem Lu:IQ prog 62 4 4 1 false:=⟨_,_,underlying62,rfl,rfl,⟨Ac,Ac⟩,rfl⟩
theorem Vp:IQ prog 62 5 5 1 false:=⟨_,_,underlying62,rfl,rfl,⟨Ac,Ac⟩,rfl⟩
theorem Tm:IQ prog 62 6 6 2 true:=⟨_,_,underlying62,rfl,rfl,⟨Ac,Ac⟩,rfl⟩
theorem Aaa:IQ prog 62 7 8 1 false:=⟨_,_,underlying62,rfl,rfl,⟨Ac,Ac⟩,rfl⟩
theorem Ji:IQ prog 62 8 9 1 false:=⟨_,_,underlying62,rfl,rfl,⟨Ac,Ac⟩,rfl⟩
theorem M7:IQ prog 62 9 10 1 false:=⟨_,_,underlying62,rfl,rfl,⟨Ac,Ac⟩,rfl⟩
theorem I1:IQ prog 65 0 0 1 false:=⟨_,_,underlying65,rfl,rfl,⟨Ac,Ac⟩,rfl⟩
theorem M6:IQ prog 65 1 1 1 false:=⟨_,_,underlying65,rfl,rfl,⟨Ac,Ac⟩,rfl⟩
theorem J3:IQ prog 65 2 2 1 false:=⟨_,_,underlying65,rfl,rfl,⟨Ac,Ac⟩,rfl⟩
theorem Q8:IQ prog 65 3 3 2 true:=⟨_,_,underlying65,rfl,rfl,⟨Ac,Ac⟩,rfl⟩
theorem Xx:IQ prog 65 4 5 1 false:=⟨_,_,underlying65,rfl,rfl,⟨Ac,Ac⟩,rfl⟩
theorem Vo:IQ prog 65 5 6 1 false:=⟨_,_,underlying65,rfl,rfl,⟨Ac,Ac⟩,rfl⟩
theorem PP:IQ prog 84 0 0 7 true:=⟨_,_,underlying84,rfl,rfl,⟨Ac,Ac⟩,rfl⟩
theorem Kx:IQ prog 84 1 7 1 false:=⟨_,_,underlying84,rfl,rfl,⟨Ac,Ac⟩,rfl⟩
theorem Tl:IQ prog 84 2 8 1 false:=⟨_,_,underlying84,rfl,rfl,⟨Ac,Ac⟩,rfl⟩
theorem Xw:IQ prog 84 3 9 1 false:=⟨_,_,underlying84,rfl,rfl,⟨Ac,Ac⟩,rfl⟩
theorem Kj:IQ prog 84 4 10 1 false:=⟨_,_,underlying84,rfl,rfl,⟨Ac,Ac⟩,rfl⟩
theorem J2:IQ prog 84 5 11 1 false:=⟨_,_,underlying84,rfl,rfl,⟨Ac,Ac⟩,rfl⟩
theorem Q7:IQ prog 90 0 0 7 true:=⟨_,_,underlying90,rfl,rfl,⟨Ac,Ac⟩,rfl⟩
theorem IV:IQ prog 90 1 7 1 false:=⟨_,_,underlying90,rfl,rfl,⟨Ac,Ac⟩,rfl⟩
theorem Tk:IQ prog 90 2 8 1 false:=⟨_,_,underlying90,rfl,rfl,⟨Ac,Ac⟩,rfl⟩
theorem Iq:IQ prog 90 3 9 1 false:=⟨_,_,underlying90,rfl,rfl,⟨Ac,Ac⟩,rfl⟩
theorem ID:IQ prog 90 4 10 1 false:=⟨_,_,underlying90,rfl,rfl,⟨Ac,Ac⟩,rfl⟩
theorem Kw:IQ prog 98 0 0 1 false:=⟨_,_,underlying98,rfl,rfl,⟨Ac,Ac⟩,rfl⟩
theorem Ix:IQ prog 98 1 1 1 false:=⟨_,_,underlying98,rfl,rfl,⟨Ac,Ac⟩,rfl⟩
theorem Qr:IQ prog 98 10 11 1 false:=⟨_,_,underlying98,rfl,rfl,⟨Ac,Ac⟩,rfl⟩
theorem OU:IQ prog 98 11 12 1 false:=⟨_,_,underlying98,rfl,rfl,⟨Ac,Ac⟩,rfl⟩
theorem Vn:IQ prog 98 2 2 1 false:=⟨_,_,underlying98,rfl,rfl,⟨Ac,Ac⟩,rfl⟩
theorem NF:IQ prog 98 3 3 1 false:=⟨_,_,underlying98,rfl,rfl,⟨Ac,Ac⟩,rfl⟩
theorem L7:IQ prog 98 4 4 1 false:=⟨_,_,underlying98,rfl,rfl,⟨Ac,Ac⟩,rfl⟩
theorem Q6:IQ prog 98 5 5 1 false:=⟨_,_,underlying98,rfl,rfl,⟨Ac,Ac⟩,rfl⟩
theorem PO:IQ prog 98 6 6 2 true:=⟨_,_,underlying98,rfl,rfl,⟨Ac,Ac⟩,rfl⟩
theorem Vm:IQ prog 98 7 8 1 false:=⟨_,_,underlying98,rfl,rfl,⟨Ac,Ac⟩,rfl⟩
theorem Lt:IQ prog 98 8 9 1 false:=⟨_,_,underlying98,rfl,rfl,⟨Ac,Ac⟩,rfl⟩
theorem Q5:IQ prog 98 9 10 1 false:=⟨_,_,underlying98,rfl,rfl,⟨Ac,Ac⟩,rfl⟩
theorem AjP:G7 prog 10:=⟨_,func10,Ac,Ac⟩
theorem YL:G7 prog 100:=⟨_,func100,Ac,Ac⟩
theorem YK:G7 prog 101:=⟨_,func101,Ac,Ac⟩
theorem AiE:G7 prog 102:=⟨_,func102,Ac,Ac⟩
theorem AiD:G7 prog 103:=⟨_,func103,Ac,Ac⟩
theorem AiC:G7 prog 104:=⟨_,func104,Ac,Ac⟩
theorem AiB:G7 prog 105:=⟨_,func105,Ac,Ac⟩
theorem AiA:G7 prog 106:=⟨_,func106,Ac,Ac⟩
theorem Aiz:G7 prog 107:=⟨_,func107,Ac,Ac⟩
theorem Aiy:G7 prog 108:=⟨_,func108,Ac,Ac⟩
theorem Aix:G7 prog 109:=⟨_,func109,Ac,Ac⟩
theorem Aiw:G7 prog 11:=⟨_,func11,Ac,Ac⟩
theorem Agm:G7 prog 110:=⟨_,func110,Ac,Ac⟩
theorem Agl:G7 prog 111:=⟨_,func111,Ac,Ac⟩
theorem Aiv:G7 prog 112:=⟨_,func112,Ac,Ac⟩
theorem Ael:G7 prog 113:=⟨_,func113,Ac,Ac⟩
theorem U8:G7 prog 114:=⟨_,func114,Ac,Ac⟩
theorem Agk:G7 prog 115:=⟨_,func115,Ac,Ac⟩
theorem Aek:G7 prog 116:=⟨_,func116,Ac,Ac⟩
theorem Aej:G7 prog 117:=⟨_,func117,Ac,Ac⟩
theorem Agj:G7 prog 118:=⟨_,func118,Ac,Ac⟩
theorem Abc:G7 prog 119:=⟨_,func119,Ac,Ac⟩
theorem YJ:G7 prog 12:=⟨_,func12,Ac,Ac⟩
theorem Wo:G7 prog 120:=⟨_,func120,Ac,Ac⟩
theorem Aei:G7 prog 121:=⟨_,func121,Ac,Ac⟩
theorem Aiu:G7 prog 122:=⟨_,func122,Ac,Ac⟩
theorem Agi:G7 prog 123:=⟨_,func123,Ac,Ac⟩
theorem Ait:G7 prog 124:=⟨_,func124,Ac,Ac⟩
theorem Ais:G7 prog 125:=⟨_,func125,Ac,Ac⟩
theorem Air:G7 prog 126:=⟨_,func126,Ac,Ac⟩
theorem Aiq:G7 prog 127:=⟨_,func127,Ac,Ac⟩
theorem Abb:G7 prog 128:=⟨_,func128,Ac,Ac⟩
theorem Aba:G7 prog 129:=⟨_,func129,Ac,Ac⟩
theorem MW:G7 prog 13:=⟨_,func13,Ac,Ac⟩
theorem Agh:G7 prog 130:=⟨_,func130,Ac,Ac⟩
theorem Aeh:G7 prog 133:=⟨_,func133,Ac,Ac⟩
theorem Aeg:G7 prog 134:=⟨_,func134,Ac,Ac⟩
theorem Aip:G7 prog 135:=⟨_,func135,Ac,Ac⟩
theorem Aa9:G7 prog 136:=⟨_,func136,Ac,Ac⟩
theorem PI:G7 prog 137:=⟨_,func137,Ac,Ac⟩
theorem TJ:G7 prog 138:=⟨_,func138,Ac,Ac⟩
theorem Aio:G7 prog 139:=⟨_,func139,Ac,Ac⟩
theorem AjO:G7 prog 14:=⟨_,func14,Ac,Ac⟩
theorem YI:G7 prog 140:=⟨_,func140,Ac,Ac⟩
theorem Ain:G7 prog 141:=⟨_,func141,Ac,Ac⟩
theorem Agg:G7 prog 142:=⟨_,func142,Ac,Ac⟩
theorem Aim:G7 prog 143:=⟨_,func143,Ac,Ac⟩
theorem Ail:G7 prog 144:=⟨_,func144,Ac,Ac⟩
theorem Agf:G7 prog 145:=⟨_,func145,Ac,Ac⟩
theorem Aik:G7 prog 148:=⟨_,func148,Ac,Ac⟩
theorem Age:G7 prog 149:=⟨_,func149,Ac,Ac⟩
theorem AjN:G7 prog 15:=⟨_,func15,Ac,Ac⟩
theorem Agd:G7 prog 150:=⟨_,func150,Ac,Ac⟩
theorem Aij:G7 prog 152:=⟨_,func152,Ac,Ac⟩
theorem Agc:G7 prog 153:=⟨_,func153,Ac,Ac⟩
theorem Aii:G7 prog 156:=⟨_,func156,Ac,Ac⟩
theorem Aih:G7 prog 157:=⟨_,func157,Ac,Ac⟩
theorem AjM:G7 prog 16:=⟨_,func16,Ac,Ac⟩
theorem Aig:G7 prog 168:=⟨_,func168,Ac,Ac⟩
theorem Agb:G7 prog 169:=⟨_,func169,Ac,Ac⟩
theorem Aif:G7 prog 17:=⟨_,func17,Ac,Ac⟩
theorem Aie:G7 prog 18:=⟨_,func18,Ac,Ac⟩
theorem AjL:G7 prog 19:=⟨_,func19,Ac,Ac⟩
theorem AjK:G7 prog 20:=⟨_,func20,Ac,Ac⟩
theorem Aid:G7 prog 21:=⟨_,func21,Ac,Ac⟩
theorem Aic:G7 prog 22:=⟨_,func22,Ac,Ac⟩
theorem Aib:G7 prog 23:=⟨_,func23,Ac,Ac⟩
theorem Aia:G7 prog 24:=⟨_,func24,Ac,Ac⟩
theorem AjJ:G7 prog 25:=⟨_,func25,Ac,Ac⟩
theorem AjI:G7 prog 26:=⟨_,func26,Ac,Ac⟩
theorem AjH:G7 prog 27:=⟨_,func27,Ac,Ac⟩
theorem AjG:G7 prog 28:=⟨_,func28,Ac,Ac⟩
theorem Ahc:G7 prog 29:=⟨_,func29,Ac,Ac⟩
theorem AjF:G7 prog 30:=⟨_,func30,Ac,Ac⟩
theorem Ah9:G7 prog 31:=⟨_,func31,Ac,Ac⟩
theorem Ah8:G7 prog 32:=⟨_,func32,Ac,Ac⟩
theorem Ahb:G7 prog 33:=⟨_,func33,Ac,Ac⟩
theorem AjE:G7 prog 34:=⟨_,func34,Ac,Ac⟩
theorem AjD:G7 prog 35:=⟨_,func35,Ac,Ac⟩
theorem AjC:G7 prog 36:=⟨_,func36,Ac,Ac⟩
theorem AjB:G7 prog 37:=⟨_,func37,Ac,Ac⟩
theorem AjA:G7 prog 38:=⟨_,func38,Ac,Ac⟩
theorem Ajz:G7 prog 39:=⟨_,func39,Ac,Ac⟩
theorem Ah7:G7 prog 40:=⟨_,func40,Ac,Ac⟩
theorem Aha:G7 prog 41:=⟨_,func41,Ac,Ac⟩
theorem V0:G7 prog 42:=⟨_,func42,Ac,Ac⟩
theorem Ah6:G7 prog 43:=⟨_,func43,Ac,Ac⟩
theorem Aef:G7 prog 44:=⟨_,func44,Ac,Ac⟩
theorem AfD:G7 prog 45:=⟨_,func45,Ac,Ac⟩
theorem Ajy:G7 prog 46:=⟨_,func46,Ac,Ac⟩
theorem Ah5:G7 prog 47:=⟨_,func47,Ac,Ac⟩
theorem YH:G7 prog 48:=⟨_,func48,Ac,Ac⟩
theorem Ag9:G7 prog 49:=⟨_,func49,Ac,Ac⟩
theorem Ajx:G7 prog 50:=⟨_,func50,Ac,Ac⟩
theorem Ajw:G7 prog 51:=⟨_,func51,Ac,Ac⟩
theorem Z0:G7 prog 52:=⟨_,func52,Ac,Ac⟩
theorem Ajv:G7 prog 53:=⟨_,func53,Ac,Ac⟩
theorem Aee:G7 prog 54:=⟨_,func54,Ac,Ac⟩
theorem Ag8:G7 prog 55:=⟨_,func55,Ac,Ac⟩
theorem Aju:G7 prog 56:=⟨_,func56,Ac,Ac⟩
theorem Ah4:G7 prog 57:=⟨_,func57,Ac,Ac⟩
theorem Ah3:G7 prog 58:=⟨_,func58,Ac,Ac⟩
theorem Ajt:G7 prog 59:=⟨_,func59,Ac,Ac⟩
theorem Ajs:G7 prog 60:=⟨_,func60,Ac,Ac⟩
theorem Ajr:G7 prog 61:=⟨_,func61,Ac,Ac⟩
theorem Ajq:G7 prog 62:=⟨_,func62,Ac,Ac⟩
theorem Ajp:G7 prog 63:=⟨_,func63,Ac,Ac⟩
theorem Ag7:G7 prog 64:=⟨_,func64,Ac,Ac⟩
theorem Ajo:G7 prog 65:=⟨_,func65,Ac,Ac⟩
theorem Ah2:G7 prog 66:=⟨_,func66,Ac,Ac⟩
theorem Te:G7 prog 67:=⟨_,func67,Ac,Ac⟩
theorem AfC:G7 prog 68:=⟨_,func68,Ac,Ac⟩
theorem TV:G7 prog 69:=⟨_,func69,Ac,Ac⟩
theorem Ah1:G7 prog 72:=⟨_,func72,Ac,Ac⟩
theorem Ajn:G7 prog 73:=⟨_,func73,Ac,Ac⟩
theorem Ajm:G7 prog 74:=⟨_,func74,Ac,Ac⟩
theorem Ajl:G7 prog 75:=⟨_,func75,Ac,Ac⟩
theorem Ajk:G7 prog 76:=⟨_,func76,Ac,Ac⟩
theorem Ah0:G7 prog 77:=⟨_,func77,Ac,Ac⟩
theorem ZZ:G7 prog 78:=⟨_,func78,Ac,Ac⟩
theorem Ajj:G7 prog 79:=⟨_,func79,Ac,Ac⟩
theorem Aji:G7 prog 80:=⟨_,func80,Ac,Ac⟩
theorem Ag6:G7 prog 81:=⟨_,func81,Ac,Ac⟩
theorem Ajh:G7 prog 82:=⟨_,func82,Ac,Ac⟩
theorem Ajg:G7 prog 83:=⟨_,func83,Ac,Ac⟩
theorem Ajf:G7 prog 84:=⟨_,func84,Ac,Ac⟩
theorem AfB:G7 prog 85:=⟨_,func85,Ac,Ac⟩
theorem Aje:G7 prog 86:=⟨_,func86,Ac,Ac⟩
theorem Ajd:G7 prog 87:=⟨_,func87,Ac,Ac⟩
theorem Ag5:G7 prog 88:=⟨_,func88,Ac,Ac⟩
theorem Ajc:G7 prog 89:=⟨_,func89,Ac,Ac⟩
theorem Ajb:G7 prog 90:=⟨_,func90,Ac,Ac⟩
theorem Aja:G7 prog 91:=⟨_,func91,Ac,Ac⟩
theorem AfA:G7 prog 92:=⟨_,func92,Ac,Ac⟩
theorem Ag4:G7 prog 93:=⟨_,func93,Ac,Ac⟩
theorem Xn:G7 prog 94:=⟨_,func94,Ac,Ac⟩
theorem AhZ:G7 prog 95:=⟨_,func95,Ac,Ac⟩
theorem Ag3:G7 prog 96:=⟨_,func96,Ac,Ac⟩
theorem Ag2:G7 prog 97:=⟨_,func97,Ac,Ac⟩
theorem AhY:G7 prog 98:=⟨_,func98,Ac,Ac⟩
theorem Aed:G7 prog 99:=⟨_,func99,Ac,Ac⟩
theorem ZV:KeyT prog 3 kI HT:=Aem underlying3
theorem Af6:TyS prog 104 5 true:=⟨Ac,Ac⟩
theorem Af5:TyS prog 127 3 true:=⟨Ac,Ac⟩
theorem Af4:TyS prog 128 27 true:=⟨Ac,Ac⟩
theorem MC:TyS prog 139 3 true:=⟨Ac,Ac⟩
theorem AhN:TyS prog 173 1 false:=⟨Ac,Ac⟩
theorem Pm:TyS prog 23 7 true:=⟨Ac,Ac⟩
theorem VW:TyS prog 26 1 false:=⟨Ac,Ac⟩
theorem GF:TyS prog 3 1 false:=⟨Ac,Ac⟩
theorem QN:TyS prog 35 1 false:=⟨Ac,Ac⟩
theorem I4:TyS prog 39 2 true:=⟨Ac,Ac⟩
theorem Om:TyS prog 4 1 false:=⟨Ac,Ac⟩
theorem NA:TyS prog 40 1 false:=⟨Ac,Ac⟩
theorem Sw:TyS prog 42 2 true:=⟨Ac,Ac⟩
theorem Afa:TyS prog 43 16 true:=⟨Ac,Ac⟩
theorem Hm:TyS prog 45 28 true:=⟨Ac,Ac⟩
theorem AhM:TyS prog 47 33 true:=⟨Ac,Ac⟩
theorem Ada:TyS prog 53 1 false:=⟨Ac,Ac⟩
theorem Je:TyS prog 54 1 false:=⟨Ac,Ac⟩
theorem AbS:TyS prog 56 4 true:=⟨Ac,Ac⟩
theorem HX:TyS prog 59 1 false:=⟨Ac,Ac⟩
theorem Sv:TyS prog 60 1 false:=⟨Ac,Ac⟩
theorem GP:TyS prog 62 13 true:=⟨Ac,Ac⟩
theorem NR:TyS prog 65 7 true:=⟨Ac,Ac⟩
theorem Su:TyS prog 79 1 false:=⟨Ac,Ac⟩
theorem Rw:TyS prog 82 1 false:=⟨Ac,Ac⟩
theorem Nc:TyS prog 87 1 false:=⟨Ac,Ac⟩
theorem Ll:TyS prog 88 1 false:=⟨Ac,Ac⟩
theorem Hc:TyS prog 98 13 true:=⟨Ac,Ac⟩
theorem Ro:ZeroT prog 104 (AG 5 (iv (fun _=>0))):=by unfold ZeroT;kernel_rfl
theorem Af1:ZeroT prog 127 (AG 3 (mv (kS [2]) (fun _=>0))):=by unfold ZeroT;kernel_rfl
theorem Af0:ZeroT prog 130 (AG 28 (mv (II 1 3 (kS [2])) (fun _=>0))):=by unfold ZeroT;kernel_rfl
theorem V3:ZeroT prog 139 (AG 3 (mv (kS [1]) (fun _=>0))):=by unfold ZeroT;kernel_rfl
theorem AhG:ZeroT prog 23 (AG 7 (mv (kS [1]) (fun _=>0))):=by unfold ZeroT;kernel_rfl
theorem VU:ZeroT prog 3 (.int .i64 0):=by unfold ZeroT;kernel_rfl
theorem Ai2:ZeroT prog 35 (.slice none 0 0):=by unfold ZeroT;kernel_rfl
theorem AcT:ZeroT prog 39 (AG 2 (iv (fun _=>0))):=by unfold ZeroT;kernel_rfl
theorem XT:ZeroT prog 42 (AG 2 (iv (fun _=>0))):=by unfold ZeroT;kernel_rfl
theorem Ai1:ZeroT prog 43 (AG 16 (iv (fun _=>0))):=by unfold ZeroT;kernel_rfl
theorem Lf:ZeroT prog 45 (AG 28 (iv (fun _=>0))):=by unfold ZeroT;kernel_rfl
theorem AbG:ZeroT prog 56 (AG 4 (fun i=>([.int .i64 0,.int .i64 0,.slice none 0 0,.slice none 0 0]:List Value).getD i undef)):=by unfold ZeroT;kernel_rfl
theorem Ij:ZeroT prog 62 (AG 13 (fun i=>([.int .i64 0,.int .i64 0,.int .i64 0,.int .i64 0,.bool false,.int .i64 0,.int .i64 0,.int .i64 0,.int .i64 0,.slice none 0 0,.slice none 0 0,.slice none 0 0,.slice none 0 0]:List Value).getD i undef)):=by unfold ZeroT;kernel_rfl
theorem IR:ZeroT prog 65 (AG 7 (iv (fun _=>0))):=by unfold ZeroT;kernel_rfl
theorem AhF:ZeroT prog 84 (AG 12 (fun i=>([.int .i64 0,.bool false,.int .i64 0,.int .i64 0,.int .i64 0,.int .i64 0,.int .i64 0,.pointer none,.int .i64 0,.int .i64 0,.map none,.slice none 0 0]:List Value).getD i undef)):=by unfold ZeroT;kernel_rfl
theorem Ai0:ZeroT prog 90 (AG 11 (fun i=>([.int .i64 0,.bool false,.int .i64 0,.int .i64 0,.int .i64 0,.int .i64 0,.int .i64 0,.slice none 0 0,.int .i64 0,.slice none 0 0,.slice none 0 0]:List Value).getD i undef)):=by unfold ZeroT;kernel_rfl
theorem LH:ZeroT prog 98 (AG 13 (fun i=>([.int .i64 0,.int .i64 0,.int .i64 0,.int .i64 0,.bool false,.int .i64 0,.int .i64 0,.int .i64 0,.int .i64 0,.slice none 0 0,.slice none 0 0,.slice none 0 0,.slice none 0 0]:List Value).getD i undef)):=by unfold ZeroT;kernel_rfl
structure nT62 (A:GH) (t:UT) (f:Nat->Value):Prop where
 c0:f 0=.int .i64 t.1
 c1:f 1=.int .i64 t.2.1
 c2:f 2=.int .i64 t.2.2.1
 c3:f 3=.int .i64 t.2.2.2.1
 c4:f 4=.bool (t.2.2.2.2.1)
 c5:f 5=.int .i64 t.2.2.2.2.2.1
 c6:f 6=.int .i64 (t.2.2.2.2.2.2.1 0)
 c7:f 7=.int .i64 (t.2.2.2.2.2.2.1 1)
 c8:f 8=.int .i64 t.2.2.2.2.2.2.2.1
 s9:OJ 3 1 ic A (f 9) t.2.2.2.2.2.2.2.2.1
 s10:OJ 3 1 ic A (f 10) t.2.2.2.2.2.2.2.2.2.1
 s11:OJ 3 1 ic A (f 11) t.2.2.2.2.2.2.2.2.2.2.1
 s12:OJ 104 5 iv A (f 12) t.2.2.2.2.2.2.2.2.2.2.2
theorem nT62.mono:Se nT62:=fun _ _ _ _ hs h=>{h with s9:=h.s9.mono hs,s10:=h.s10.mono hs,s11:=h.s11.mono hs,s12:=h.s12.mono hs}
theorem nT62.all {A:GH} {t:UT} {f:Nat->Value} (h:nT62 A t f):∀ i,i<13->f i=cl [.int .i64 t.1,.int .i64 t.2.1,.int .i64 t.2.2.1,.int .i64 t.2.2.2.1,.bool (t.2.2.2.2.1),.int .i64 t.2.2.2.2.2.1,.int .i64 (t.2.2.2.2.2.2.1 0),.int .i64 (t.2.2.2.2.2.2.1 1),.int .i64 t.2.2.2.2.2.2.2.1,f 9,f 10,f 11,f 12] i:=M13 h.c0 h.c1 h.c2 h.c3 h.c4 h.c5 h.c6 h.c7 h.c8 rfl rfl rfl rfl
def G4:Nat->Value:=cl [.int .i64 0,.int .i64 0,.int .i64 0,.int .i64 0,.bool false,.int .i64 0,.int .i64 0,.int .i64 0,.int .i64 0,.slice none 0 0,.slice none 0 0,.slice none 0 0,.slice none 0 0]
theorem nT62.zero:nT62 [] (0,0,0,0,false,0,(fun _=>0),0,[],[],[],[]) G4:=⟨rfl,rfl,rfl,rfl,rfl,rfl,rfl,rfl,rfl,OJ.nil,OJ.nil,OJ.nil,OJ.nil⟩
structure nT98 (A:GH) (t:UT) (f:Nat->Value):Prop where
 c0:f 0=.int .i64 t.1
 c1:f 1=.int .i64 t.2.1
 c2:f 2=.int .i64 t.2.2.1
 c3:f 3=.int .i64 t.2.2.2.1
 c4:f 4=.bool (t.2.2.2.2.1)
 c5:f 5=.int .i64 t.2.2.2.2.2.1
 c6:f 6=.int .i64 (t.2.2.2.2.2.2.1 0)
 c7:f 7=.int .i64 (t.2.2.2.2.2.2.1 1)
 c8:f 8=.int .i64 t.2.2.2.2.2.2.2.1
 s9:OJ 3 1 ic A (f 9) t.2.2.2.2.2.2.2.2.1
 s10:OJ 3 1 ic A (f 10) t.2.2.2.2.2.2.2.2.2.1
 s11:OJ 3 1 ic A (f 11) t.2.2.2.2.2.2.2.2.2.2.1
 s12:OJ 104 5 iv A (f 12) t.2.2.2.2.2.2.2.2.2.2.2
theorem nT98.mono:Se nT98:=fun _ _ _ _ hs h=>{h with s9:=h.s9.mono hs,s10:=h.s10.mono hs,s11:=h.s11.mono hs,s12:=h.s12.mono hs}
theorem nT98.all {A:GH} {t:UT} {f:Nat->Value} (h:nT98 A t f):∀ i,i<13->f i=cl [.int .i64 t.1,.int .i64 t.2.1,.int .i64 t.2.2.1,.int .i64 t.2.2.2.1,.bool (t.2.2.2.2.1),.int .i64 t.2.2.2.2.2.1,.int .i64 (t.2.2.2.2.2.2.1 0),.int .i64 (t.2.2.2.2.2.2.1 1),.int .i64 t.2.2.2.2.2.2.2.1,f 9,f 10,f 11,f 12] i:=M13 h.c0 h.c1 h.c2 h.c3 h.c4 h.c5 h.c6 h.c7 h.c8 rfl rfl rfl rfl
end Go.Proofs.YtljklmlodfbdnaaGreat
namespace Go.E
open Go
def gk (ops:Array Oper) (env:HH):Option (Nat×Bool)->Bool
 | none=>true
 | some (j,w)=>match (ops[j]?).bind (·.dst) with
  | none=>false
  | some s=>match lk s env with
   | some v=>Q1 v w
   | none=>false
def nk (ops:Array Oper) (env:HH):Option (Nat×Bool)->Bool
 | none=>false
 | some (j,w)=>match (ops[j]?).bind (·.dst) with
  | none=>false
  | some s=>match lk s env with
   | some v=>!Q1 v w
   | none=>false
theorem Wr {v:Value} {w:Bool} (h:Q1 v w=true):v=.bool w:=by
 cases v <;> simp_all[Q1]
theorem gk.wt {ops:Array Oper} {env:HH} {g:Option (Nat×Bool)} (h:gk ops env g=true):Wt ops env g:=by
 rcases g with _ | ⟨j,w⟩
 .trivial
 .unfold gk at h
  unfold Wt
  dsimp only at h ⊢
  cases hs:(ops[j]?).bind (·.dst) with
  | none=>rw[hs] at h;simp at h
  | some s=>
   rw[hs] at h
   cases hv:lk s env with
   | none=>simp[hv] at h
   | some v=>exact⟨s,rfl,by rw[hv];simp only[hv] at h;rw[Wr h]⟩
theorem nk.wt {ops:Array Oper} {env:HH} {g:Option (Nat×Bool)} (h:nk ops env g=true):WtNot ops env g:=by
 rcases g with _ | ⟨j,w⟩
 .simp[nk] at h
 .unfold nk at h
  unfold WtNot
  dsimp only at h ⊢
  cases hs:(ops[j]?).bind (·.dst) with
  | none=>rw[hs] at h;simp at h
  | some s=>
   rw[hs] at h
   cases hv:lk s env with
   | none=>simp[hv] at h
   | some v=>exact⟨s,v,rfl,hv,by simpa [hv] using h⟩
def sel (env:HH):List Nat->Option HH
 | []=>some []
 | t::ks=>match lk t env,sel env ks with
  | some v,some l=>some ((t,v)::l)
  | _,_=>none
theorem sel.live {env:HH}:∀ {ks:List Nat} {l:HH},sel env ks=some l->Live env l:=by
 intro ks
 induction ks with
 | nil=>intro l h;cases h;exact ln
 | cons t ks ih=>
  intro l h
  unfold sel at h
  cases hv:lk t env with
  | none=>simp[hv] at h
  | some v=>
   cases hk:sel env ks with
   | none=>simp[hv,hk] at h
   | some k=>
    simp[hv,hk] at h
    subst h
    exact lc hv (ih hk)
theorem sel.keys {env:HH}:∀ {ks:List Nat} {l:HH},sel env ks=some l->l.map (·.1)=ks:=by
 intro ks
 induction ks with
 | nil=>intro l h;cases h;rfl
 | cons t ks ih=>
  intro l h
  unfold sel at h
  cases hv:lk t env with
  | none=>simp[hv] at h
  | some v=>
   cases hk:sel env ks with
   | none=>simp[hv,hk] at h
   | some k=>
    simp[hv,hk] at h
    subst h
    simp[ih hk]
theorem sl {env l:HH} (h:sel env (l.map (·.1))=some l):Live env l:=sel.live h
def okv (b:Bool) (o:Option Value):Option Value:=bif b then o else none
theorem okv.ok {b:Bool} {o:Option Value} {v:Value} (h:okv b o=some v):b=true/\o=some v:=by
 cases b
 .cases h
 .exact⟨rfl,h⟩
def isB (o:Option Value) (w:Bool):Bool:=match o with
 | some v=>Q1 v w
 | none=>false
theorem aQ {o:Option Value} {w:Bool} (h:isB o w=true):o=some (.bool w):=by
 unfold isB at h
 split at h
 .rw[Wr h]
 .cases h
def nth:List Value->Nat->Option Value
 | [],_=>none
 | v::_,0=>some v
 | _::l,n+1=>nth l n
theorem AdP:∀ (l:List Value) (n:Nat),nth l n=l[n]?
 | [],n=>by simp[nth]
 | v::l,0=>by simp[nth]
 | v::l,n+1=>by simp[nth,AdP l n]
def ex1:Option Value->Nat->Option Value
 | some (.tuple a),m=>nth a.toList m
 | _,_=>none
def np:Option Value->Option Value
 | some (.pointer (some b))=>some (.pointer (some b))
 | _=>none
theorem Oe {a b:Bool} (h:(a&&b)=true):a=true/\b=true:=by simpa using h
section
variable {P:Program} {n:Nat} {w0:World} {env:HH} {H:GH} {Q:Exit->Act->World->Prop} {ops:Array Oper} {rest:List Oper}
variable {d:Nat} {op:Op} {ty:TypeId} {pos:String} {af:Array Edge} {g:Option (Nat×Bool)} {x y z:Operand} {v:Value}
theorem xQ (hc:(Nat.blt d n&&gk ops env g)=true) {H':GH} (h:OT P w0 env H ⟨some d,op,ty,pos,af,g⟩ (Is v H')) (k:XO P n w0 ((d,v)::env) H' ops rest Q):XO P n w0 env H ops (⟨some d,op,ty,pos,af,g⟩::rest) Q:=
 xq (Oe hc).1 (gk.wt (Oe hc).2) h k
theorem xZ (hc:gk ops env g=true) {H':GH} (h:OT P w0 env H ⟨none,op,ty,pos,af,g⟩ (Is v H')) (k:XO P n w0 env H' ops rest Q):XO P n w0 env H ops (⟨none,op,ty,pos,af,g⟩::rest) Q:=
 xq0 (gk.wt hc) h k
theorem xr (hc:(Nat.blt d n&&gk ops env g)=true) {R:Value->GH->Prop} (h:OT P w0 env H ⟨some d,op,ty,pos,af,g⟩ R) (k:∀ v H',R v H'->XO P n w0 ((d,v)::env) H' ops rest Q):XO P n w0 env H ops (⟨some d,op,ty,pos,af,g⟩::rest) Q:=
 xo (Oe hc).1 (gk.wt (Oe hc).2) h k
theorem xY (hc:gk ops env g=true) {R:Value->GH->Prop} (h:OT P w0 env H ⟨none,op,ty,pos,af,g⟩ R) (k:∀ v H',R v H'->XO P n w0 env H' ops rest Q):XO P n w0 env H ops (⟨none,op,ty,pos,af,g⟩::rest) Q:=
 xo0 (gk.wt hc) h k
theorem vm (hx:okv (Nat.blt d n&&gk ops env g) (ev env x)=some v) (k:XO P n w0 ((d,v)::env) H ops rest Q):XO P n w0 env H ops (⟨some d,.move x,ty,pos,af,g⟩::rest) Q:=
 xQ (okv.ok hx).1 (AhS (okv.ok hx).2) k
theorem va (hx:okv (Nat.blt d n&&gk ops env g) (ev env x)=some v) (k:XO P n w0 ((d,v)::env) H ops rest Q):XO P n w0 env H ops (⟨some d,.assign x,ty,pos,af,g⟩::rest) Q:=
 xQ (okv.ok hx).1 (AhV (okv.ok hx).2) k
theorem vs (hc:(Nat.blt d n&&nk ops env g)=true) (k:XO P n w0 ((d,undef)::env) H ops rest Q):XO P n w0 env H ops (⟨some d,op,ty,pos,af,g⟩::rest) Q:=
 xs (Oe hc).1 (nk.wt (Oe hc).2) k
theorem ve {m:Nat} (hx:okv (Nat.blt d n&&gk ops env g) (ex1 (ev env x) m)=some v) (k:XO P n w0 ((d,v)::env) H ops rest Q):XO P n w0 env H ops (⟨some d,.extract x m,ty,pos,af,g⟩::rest) Q:=by
 obtain⟨h1,h2⟩:=okv.ok hx
 cases he:ev env x with
 | none=>rw[he] at h2;cases h2
 | some u=>
  rw[he] at h2
  cases u <;> simp only[ex1,reduceCtorEq] at h2
  rename_i a
  exact xQ h1 (KK (l:=a.toList) (by rw[he]) (by rw[<- AdP];exact h2)) k
theorem vp (hx:okv (Nat.blt d n&&gk ops env g) (np (ev env x))=some v) (k:XO P n w0 ((d,v)::env) H ops rest Q):XO P n w0 env H ops (⟨some d,.nilCheck x,ty,pos,af,g⟩::rest) Q:=by
 obtain⟨h1,h2⟩:=okv.ok hx
 unfold np at h2
 split at h2
 .rename_i he
  cases h2
  exact xQ h1 (AdH he) k
 .cases h2
theorem vt (hx:okv (Nat.blt d n&&gk ops env g&&isB (ev env z) true) (ev env x)=some v) (k:XO P n w0 ((d,v)::env) H ops rest Q):XO P n w0 env H ops (⟨some d,.pick z x y,ty,pos,af,g⟩::rest) Q:=
 xQ (Oe (okv.ok hx).1).1 (HW (aQ (Oe (okv.ok hx).1).2) (okv.ok hx).2) k
theorem vf (hx:okv (Nat.blt d n&&gk ops env g&&isB (ev env z) false) (ev env y)=some v) (k:XO P n w0 ((d,v)::env) H ops rest Q):XO P n w0 env H ops (⟨some d,.pick z x y,ty,pos,af,g⟩::rest) Q:=
 xQ (Oe (okv.ok hx).1).1 (H4 (aQ (Oe (okv.ok hx).1).2) (okv.ok hx).2) k
theorem nS {y:Code} (h:XW P n w0 env H y Q):XO P n w0 env H ops [] (Exit.then (y.wp P Q) Q):=Gw (Gt h)
theorem nR {y:Code} {id:Nat} {l:List Oper} (h:XO P n w0 env H l.toArray l (Exit.then (y.wp P Q) Q)):XO P n w0 env H ops [] (Exit.then ((Code.seq (.region id l.toArray false) y).wp P Q) Q):=Gw (Gt (Gu (Gr h)))
theorem wS {y:Code} {id:Nat} {l:List Oper} (h:XO P n w0 env H l.toArray l (Exit.then (y.wp P Q) Q)):XW P n w0 env H (Code.seq (.region id l.toArray false) y) Q:=Gu (Gr h)
section
variable {s:Nat} {u w:Code} {p:Prop} [Decidable p] {A B:Prop} {b:Bool}
theorem wd (hs:lk s env=some (.bool (decide p))) (h:if p then A else B) (t:p->A->XW P n w0 ((s,.bool true)::env) H u Q) (f:¬p->B->XW P n w0 ((s,.bool false)::env) H w Q):XW P n w0 env H (.cond (.tmp s) u w) Q:=by
 refine AaB s hs (fun e=>?_) (fun e=>?_)
 .have hp:=of_decide_eq_true e
  rw[Ae hp] at h
  exact GQ (by simp[ev,lk]) rfl (t hp h)
 .have hp:=of_decide_eq_false e
  rw[Af hp] at h
  exact GW (by simp[ev,lk]) rfl (f hp h)
theorem Zh (hs:lk s env=some (.bool (decide p))) (t:p->XW P n w0 ((s,.bool true)::env) H u Q) (f:¬p->XW P n w0 ((s,.bool false)::env) H w Q):XW P n w0 env H (.cond (.tmp s) u w) Q:=
 wd (A:=True) (B:=True) hs (by split <;> trivial) (fun h _=>t h) (fun h _=>f h)
theorem wn (hs:lk s env=some (.bool (!decide p))) (h:if p then A else B) (t:¬p->B->XW P n w0 ((s,.bool true)::env) H u Q) (f:p->A->XW P n w0 ((s,.bool false)::env) H w Q):XW P n w0 env H (.cond (.tmp s) u w) Q:=by
 refine AaB s hs (fun e=>?_) (fun e=>?_)
 .have hp:=of_decide_eq_false (bnT e)
  rw[Af hp] at h
  exact GQ (by simp[ev,lk]) rfl (t hp h)
 .have hp:=of_decide_eq_true (bnF e)
  rw[Ae hp] at h
  exact GW (by simp[ev,lk]) rfl (f hp h)
theorem wb (hs:lk s env=some (.bool b)) (h:if b=true then A else B) (t:b=true->A->XW P n w0 ((s,.bool true)::env) H u Q) (f:¬b=true->B->XW P n w0 ((s,.bool false)::env) H w Q):XW P n w0 env H (.cond (.tmp s) u w) Q:=
 wd (p:=b=true) (by rw[hs];simp) h t f
theorem wc (hs:lk s env=some (.bool (!b))) (h:if b=true then A else B) (t:¬b=true->B->XW P n w0 ((s,.bool true)::env) H u Q) (f:b=true->A->XW P n w0 ((s,.bool false)::env) H w Q):XW P n w0 env H (.cond (.tmp s) u w) Q:=
 wn (p:=b=true) (by rw[hs];simp) h t f
theorem od (s:Nat) (hs:lk s env=some (.bool (decide p))) (h:if p then A else B) (t:p->A->XO P n w0 ((s,.bool true)::env) H ops rest Q) (f:¬p->B->XO P n w0 ((s,.bool false)::env) H ops rest Q):XO P n w0 env H ops rest Q:=
 TZ s hs (fun e=>t (of_decide_eq_true e) (by rwa[Ae (of_decide_eq_true e)] at h)) (fun e=>f (of_decide_eq_false e) (by rwa[Af (of_decide_eq_false e)] at h))
theorem IY (s:Nat) (hs:lk s env=some (.bool (decide p))) (t:p->XO P n w0 ((s,.bool true)::env) H ops rest Q) (f:¬p->XO P n w0 ((s,.bool false)::env) H ops rest Q):XO P n w0 env H ops rest Q:=
 TZ s hs (fun e=>t (of_decide_eq_true e)) (fun e=>f (of_decide_eq_false e))
theorem on (s:Nat) (hs:lk s env=some (.bool (!decide p))) (h:if p then A else B) (t:¬p->B->XO P n w0 ((s,.bool true)::env) H ops rest Q) (f:p->A->XO P n w0 ((s,.bool false)::env) H ops rest Q):XO P n w0 env H ops rest Q:=
 TZ s hs (fun e=>t (of_decide_eq_false (bnT e)) (by rwa[Af (of_decide_eq_false (bnT e))] at h)) (fun e=>f (of_decide_eq_true (bnF e)) (by rwa[Ae (of_decide_eq_true (bnF e))] at h))
theorem Ub (s:Nat) (hs:lk s env=some (.bool (!decide p))) (t:¬p->XO P n w0 ((s,.bool true)::env) H ops rest Q) (f:p->XO P n w0 ((s,.bool false)::env) H ops rest Q):XO P n w0 env H ops rest Q:=
 TZ s hs (fun e=>t (of_decide_eq_false (bnT e))) (fun e=>f (of_decide_eq_true (bnF e)))
theorem ob (s:Nat) (hs:lk s env=some (.bool b)) (h:if b=true then A else B) (t:b=true->A->XO P n w0 ((s,.bool true)::env) H ops rest Q) (f:¬b=true->B->XO P n w0 ((s,.bool false)::env) H ops rest Q):XO P n w0 env H ops rest Q:=
 od (p:=b=true) s (by rw[hs];simp) h t f
theorem VZ (s:Nat) (hs:lk s env=some (.bool b)) (t:b=true->XO P n w0 ((s,.bool true)::env) H ops rest Q) (f:¬b=true->XO P n w0 ((s,.bool false)::env) H ops rest Q):XO P n w0 env H ops rest Q:=
 IY (p:=b=true) s (by rw[hs];simp) t f
theorem oc (s:Nat) (hs:lk s env=some (.bool (!b))) (h:if b=true then A else B) (t:¬b=true->B->XO P n w0 ((s,.bool true)::env) H ops rest Q) (f:b=true->A->XO P n w0 ((s,.bool false)::env) H ops rest Q):XO P n w0 env H ops rest Q:=
 on (p:=b=true) s (by rw[hs];simp) h t f
theorem QC (s:Nat) (hs:lk s env=some (.bool (!b))) (t:¬b=true->XO P n w0 ((s,.bool true)::env) H ops rest Q) (f:b=true->XO P n w0 ((s,.bool false)::env) H ops rest Q):XO P n w0 env H ops rest Q:=
 Ub (p:=b=true) s (by rw[hs];simp) t f
end
theorem wk {c:Code} (ks:List Nat) {k:HH} (hk:sel env ks=some k) (l:HH) (h1:XW P n w0 env H c (AeU n w0 (l++k) H)) (h2:XQ n w0 (l++k) H .normal Q):XW P n w0 env H c Q:=
 Agy k (sel.live hk) l h1 h2
theorem qk {s:Nat} {v v':Value} {l:HH} (hs:lk s env=some v) (e:v=v') (hl:sel env (l.map (·.1))=some l):XQ n w0 env H .normal (AeU n w0 ((s,v')::l) H):=
 Mv (lce hs e (sel.live hl)) (fun _ h=>h)
theorem xc {f:FuncId} {args:Array Operand} {ts:Array TypeId} {vs:List Value} (hc:(Nat.blt d n&&gk ops env g)=true) (hf:G7 P f) (hargs:Ui env args.toList=some vs) (h:∀ w,St w0 H w->Con P f vs.toArray w (Is v [])) (k:XO P n w0 ((d,v)::env) H ops rest Q):XO P n w0 env H ops (⟨some d,.call ⟨.value (.func f),args,ts⟩,ty,pos,af,g⟩::rest) Q:=
 AgA (Oe hc).1 (gk.wt (Oe hc).2) hf hargs h k
theorem sE {α:Sort _} {p:α->Prop} {a b:α} (h:b=a) (k:p a):p b:=h▸k
def en:Nat->List Value->HH
 | _,[]=>[]
 | i,v::l=>(i,v)::en (i+1) l
theorem en.live:∀ (l k:List Value),LiveA (k++l) (en k.length l):=by
 intro l
 induction l with
 | nil=>intro k;exact lan
 | cons v l ih=>
  intro k
  refine lac Ad ?_
  have:=ih (k++[v])
  simpa using this
theorem ce {f:FuncId} {fn:Func} {c:Code} {args:List Value} {w:World} {G:Value->GH->Prop} (hf:P.funcs[f]? = some fn) (hb:fn.body=some c) (hn:fn.ntmps=n) (hsz:Nat.ble args.length n=true) (h:XW P n w (en 0 args) [] c (bodyPost P fn (Ic w G))):Con P f args.toArray w G:=
 AcE (en 0 args) hf hb hn hsz (en.live args []) h
theorem Ni {C:GH} {c:Code} (h:Has w0 C) (H':GH) (e:C=H') (k:XW P n w0 env H' c Q):XW P n w0 env [] c Q:=Agx h (e▸k)
theorem oi {d:Option Nat} {f:FuncId} {fn:Func} {c:Code} {vs:List Value} {m:Nat} {R:Value->GH->Prop} {args:Array Operand} {ts:Array TypeId} (hk:G7 P f) (hargs:Ui env args.toList=some vs) (hf:P.funcs[f]? = some fn) (hb:fn.body=some c) (hm:fn.ntmps=m) (hsz:Nat.ble vs.length m=true) (h:XW P m w0 (en 0 vs) H c (bodyPost P fn (Ic w0 R))):OT P w0 env H ⟨d,.call ⟨.value (.func f),args,ts⟩,ty,pos,af,g⟩ R:=
 AhP hk hargs hf hb hm hsz (en.live vs []) h
theorem KO {f:FuncId} {fn:Func} {c:Code} {vs:List Value} {m:Nat} {args:Array Operand} {ts:Array TypeId} (hc:(Nat.blt d n&&gk ops env g)=true) (hk:G7 P f) (hargs:Ui env args.toList=some vs) (hf:P.funcs[f]? = some fn) (hb:fn.body=some c) (hm:fn.ntmps=m) (hsz:Nat.ble vs.length m=true) (h:XW P m w0 (en 0 vs) H c (bodyPost P fn (Ic w0 fun v H'=>XO P n w0 ((d,v)::env) H' ops rest Q))):XO P n w0 env H ops (⟨some d,.call ⟨.value (.func f),args,ts⟩,ty,pos,af,g⟩::rest) Q:=
 xoR (Oe hc).1 (gk.wt (Oe hc).2) (oi hk hargs hf hb hm hsz h)
section
variable {fn:Func} {w:World} {G:Value->GH->Prop} {a b c:Nat} {u s:Value}
theorem rZ (hr:fn.results=#[]) (hG:G (.tuple #[]) H):XQ n w env H .normal (bodyPost P fn (Ic w G)):=J5 (.inr rfl) hr H (fun _ h=>h) hG
theorem rZ' (hr:fn.results=#[]) (hG:G (.tuple #[]) H):XQ n w env H .ret (bodyPost P fn (Ic w G)):=J5 (.inl rfl) hr H (fun _ h=>h) hG
theorem rO (hr:fn.results=#[.tmp a]) (hv:lk a env=some v) (hG:G v H):XQ n w env H .ret (bodyPost P fn (Ic w G)):=Y0 (.inl rfl) hr hv H (fun _ h=>h) hG
theorem rT (hr:fn.results=#[.tmp a,.tmp b]) (hv:lk a env=some v) (hu:lk b env=some u) (hG:G (.tuple #[v,u]) H):XQ n w env H .ret (bodyPost P fn (Ic w G)):=YZ (.inl rfl) hr hv hu H (fun _ h=>h) hG
theorem yA (hr:fn.results=#[.tmp a]) (hv:lk a env=some v) (F:GH) (hF:∀ w',St w H w'->St w F w') (hG:G v F):XQ n w env H .ret (bodyPost P fn (Ic w G)):=Y0 (.inl rfl) hr hv F hF hG
theorem yB (hr:fn.results=#[.tmp a,.tmp b]) (hv:lk a env=some v) (hu:lk b env=some u) (F:GH) (hF:∀ w',St w H w'->St w F w') (hG:G (.tuple #[v,u]) F):XQ n w env H .ret (bodyPost P fn (Ic w G)):=YZ (.inl rfl) hr hv hu F hF hG
end
inductive On:List Value->Prop
 | n:On []
 | r {v:Value} {l:List Value} (k:On l) (h:v.oneCell'=true):On (v::l)
theorem oN:On []:=.n
theorem oA {x:Value} {l:List Value} (h:x.oneCell'=true) (k:On l):On (x::l):=.r k h
theorem On.get {l:List Value} (h:On l):∀ i,i<l.length->(cl l i).oneCell'=true:=by
 induction h with
 | n=>intro i hi;simp at hi
 | r k h ih=>
  intro i hi
  cases i with
  | zero=>exact h
  | succ i=>exact ih i (by simpa using hi)
theorem GS {b s:Nat} {T t:TypeId} {F:Nat->Value} {l:List Value} {H':GH} (hx:ev env x=some (.pointer (some ⟨b,0,none⟩))) (hy:ev env y=some (AG s (cl l))) (ht:TyS P t s true) (hl:l.length=s) (h1:On l) (hm:(b,BK s F T)∈H) (hu:Upd H b (BK s (cl l) T) H'):OT P w0 env H ⟨none,.store t x y,ty,pos,af,g⟩ (Is undef H'):=
 TG hx hy ht (fun i hi=>h1.get i (hl▸hi)) hm hu
inductive Put:List Value->Nat->Value->List Value->Prop
 | h (u v:Value) (l:List Value):Put (u::l) 0 v (v::l)
 | t {u v:Value} {l l':List Value} {i:Nat} (k:Put l i v l'):Put (u::l) (i+1) v (u::l')
theorem pH {u v:Value} {l:List Value}:Put (u::l) 0 v (v::l):=.h u v l
theorem pT {u v:Value} {l l':List Value} {i:Nat} (k:Put l i v l'):Put (u::l) (i+1) v (u::l'):=.t k
theorem Put.set {l l':List Value} {i:Nat} {v:Value} (h:Put l i v l'):l.set i v=l'/\i<l.length:=by
 induction h with
 | h=>simp
 | t k ih=>simp[ih.1,ih.2]
theorem Ha {b o N:Nat} {T t:TypeId} {l l':List Value} {H':GH} (hx:ev env x=some (.pointer (some ⟨b,o,none⟩))) (hy:ev env y=some v) (ht:TyS P t 1 false) (h1:v.oneCell'=true) (hm:(b,BK N (cl l) T)∈H) (hN:l.length=N) (hp:Put l o v l') (hu:Upd H b (BK N (cl l') T) H'):OT P w0 env H ⟨none,.store t x y,ty,pos,af,g⟩ (Is undef H'):=
 AhR hx hy ht h1 hm hN (hN▸hp.set.2) hp.set.1 hu
end
section
variable {P:Program} {n:Nat} {w0:World} {ops:Array Oper} {KS:List Nat} {bX env:HH} {dn:List Nat} {H RS:GH} {Q:Exit->Act->World->Prop}
def rdy (ops:Array Oper) (dn:List Nat) (env:HH) (i:Nat) (ks:List Nat):Option (Oper×Nat×HH):=
 match ops[i]? with
 | none=>none
 | some o=>match o.dst with
  | none=>none
  | some d=>match sel env ks with
   | none=>none
   | some l=>bif !dn.contains i&&gk ops l o.guard then some (o,d,l) else none
theorem rdy.ok {i:Nat} {ks:List Nat} {o:Oper} {d:Nat} {l:HH} (h:rdy ops dn env i ks=some (o,d,l)):ops[i]? = some o/\o.dst=some d/\dn.contains i=false/\sel env ks=some l/\gk ops l o.guard=true:=by
 unfold rdy at h
 split at h
 .cases h
 .rename_i o' ho
  split at h
  .cases h
  .rename_i d' hd
   split at h
   .cases h
   .rename_i l' hl
    cases hb:(!dn.contains i&&gk ops l' o'.guard) with
    | false=>rw[hb] at h;cases h
    | true=>
     rw[hb] at h
     cases h
     have:=Oe hb
     exact⟨ho,hd,by simpa using this.1,hl,this.2⟩
theorem xb (hok:If n ops=true) (i:Nat) (ks:List Nat) {o:Oper} {d:Nat} {l:HH} {v:Value} (hr:rdy ops dn env i ks=some (o,d,l)) (hs:HO ops dn i ks=true) (ht:∀ H',(∀ k∈keys H',k∈KS∨w0.heap.size<=k)->OT P w0 l H' o (Is v H')) (k:XD P n w0 ops KS bX (i::dn) ((d,v)::env) H RS Q):XD P n w0 ops KS bX dn env H RS Q:=
 AhJ hok i l [] Nd (rdy.ok hr).1 (rdy.ok hr).2.1 (rdy.ok hr).2.2.1 (sel.live (rdy.ok hr).2.2.2.1) (by rw[(sel.keys (rdy.ok hr).2.2.2.1)];exact hs) (gk.wt (rdy.ok hr).2.2.2.2) (fun H' _ hK=>ht H' hK) k
theorem NN (hok:If n ops=true) (i:Nat) (ks:List Nat) (rs:GH) (hR:∀ x∈rs,x∈H) {o:Oper} {d:Nat} {l:HH} {v:Value} (hr:rdy ops dn env i ks=some (o,d,l)) (hs:HO ops dn i ks=true) (ht:∀ H',(∀ x∈rs,x∈H')->(∀ k∈keys H',k∈KS∨w0.heap.size<=k)->OT P w0 l H' o (Is v H')) (k:XD P n w0 ops KS bX (i::dn) ((d,v)::env) H (rs++RS) Q):XD P n w0 ops KS bX dn env H RS Q:=
 AhJ hok i l rs hR (rdy.ok hr).1 (rdy.ok hr).2.1 (rdy.ok hr).2.2.1 (sel.live (rdy.ok hr).2.2.2.1) (by rw[(sel.keys (rdy.ok hr).2.2.2.1)];exact hs) (gk.wt (rdy.ok hr).2.2.2.2) ht k
def rdn (ops:Array Oper) (dn:List Nat) (env:HH) (i:Nat) (ks:List Nat):Option (Oper×Nat×HH):=
 match ops[i]? with
 | none=>none
 | some o=>match o.dst with
  | none=>none
  | some d=>match sel env ks with
   | none=>none
   | some l=>bif !dn.contains i&&nk ops l o.guard then some (o,d,l) else none
theorem rdn.ok {i:Nat} {ks:List Nat} {o:Oper} {d:Nat} {l:HH} (h:rdn ops dn env i ks=some (o,d,l)):ops[i]? = some o/\o.dst=some d/\dn.contains i=false/\sel env ks=some l/\nk ops l o.guard=true:=by
 unfold rdn at h
 split at h
 .cases h
 .rename_i o' ho
  split at h
  .cases h
  .rename_i d' hd
   split at h
   .cases h
   .rename_i l' hl
    cases hb:(!dn.contains i&&nk ops l' o'.guard) with
    | false=>rw[hb] at h;cases h
    | true=>
     rw[hb] at h
     cases h
     have:=Oe hb
     exact⟨ho,hd,by simpa using this.1,hl,this.2⟩
theorem xbs (hok:If n ops=true) (i:Nat) (ks:List Nat) {o:Oper} {d:Nat} {l:HH} (hr:rdn ops dn env i ks=some (o,d,l)) (hs:HO ops dn i ks=true) (k:XD P n w0 ops KS bX (i::dn) ((d,undef)::env) H RS Q):XD P n w0 ops KS bX dn env H RS Q:=
 Ae1 hok i l (rdn.ok hr).1 (rdn.ok hr).2.1 (rdn.ok hr).2.2.1 (sel.live (rdn.ok hr).2.2.2.1) (by rw[(sel.keys (rdn.ok hr).2.2.2.1)];exact hs) (nk.wt (rdn.ok hr).2.2.2.2) k
section
variable {s:Nat} {p:Prop} [Decidable p] {A B:Prop} {b:Bool}
theorem dd' (s:Nat) (hs:lk s env=some (.bool (decide p))) (t:p->XD P n w0 ops KS bX dn ((s,.bool true)::env) H RS Q) (f:¬p->XD P n w0 ops KS bX dn ((s,.bool false)::env) H RS Q):XD P n w0 ops KS bX dn env H RS Q:=
 WG s hs (fun e=>t (of_decide_eq_true e)) (fun e=>f (of_decide_eq_false e))
theorem de (s:Nat) (hs:lk s env=some (.bool (!decide p))) (h:if p then A else B) (t:¬p->B->XD P n w0 ops KS bX dn ((s,.bool true)::env) H RS Q) (f:p->A->XD P n w0 ops KS bX dn ((s,.bool false)::env) H RS Q):XD P n w0 ops KS bX dn env H RS Q:=
 WG s hs (fun e=>t (of_decide_eq_false (bnT e)) (by rwa[Af (of_decide_eq_false (bnT e))] at h)) (fun e=>f (of_decide_eq_true (bnF e)) (by rwa[Ae (of_decide_eq_true (bnF e))] at h))
theorem de' (s:Nat) (hs:lk s env=some (.bool (!decide p))) (t:¬p->XD P n w0 ops KS bX dn ((s,.bool true)::env) H RS Q) (f:p->XD P n w0 ops KS bX dn ((s,.bool false)::env) H RS Q):XD P n w0 ops KS bX dn env H RS Q:=
 WG s hs (fun e=>t (of_decide_eq_false (bnT e))) (fun e=>f (of_decide_eq_true (bnF e)))
theorem db' (s:Nat) (hs:lk s env=some (.bool b)) (t:b=true->XD P n w0 ops KS bX dn ((s,.bool true)::env) H RS Q) (f:¬b=true->XD P n w0 ops KS bX dn ((s,.bool false)::env) H RS Q):XD P n w0 ops KS bX dn env H RS Q:=
 dd' (p:=b=true) s (by rw[hs];simp) t f
theorem dc (s:Nat) (hs:lk s env=some (.bool (!b))) (h:if b=true then A else B) (t:¬b=true->B->XD P n w0 ops KS bX dn ((s,.bool true)::env) H RS Q) (f:b=true->A->XD P n w0 ops KS bX dn ((s,.bool false)::env) H RS Q):XD P n w0 ops KS bX dn env H RS Q:=
 de (p:=b=true) s (by rw[hs];simp) h t f
end
end
section
variable {w0 w':World} {H B:GH} {α:Type} {T:TypeId} {s:Nat} {c:α->Nat->Value} {l:List α}
theorem M1 {p:Nat->Prop} (h0:p 0):∀ i,i<1->p i:=Ki h0 ZP
theorem JH (k:Nat) {b N:Nat} {F:Nat->Value} (hs:St w0 H w') (hm:(b,BK N F T)∈H) (hl:k=l.length) (hk:(Nat.ble (k*s) N&&Nat.ble k 1000000)=true) (hF:∀ i,i<k*s->F i=eG s c l i):SL w' s c (.slice (some ⟨b,0,none⟩) k k) l:=
 SL.lit hs hm hl (Nat.le_of_ble_eq_true (Oe hk).1) (Nat.le_trans (Nat.le_of_ble_eq_true (Oe hk).2) Ab) hF
theorem LR (k:Nat) {b N:Nat} {F:Nat->Value} (hm:(b,BK N F T)∈B) (hl:k=l.length) (hk:(Nat.ble (k*s) N&&Nat.ble k 1000000)=true) (hF:∀ i,i<k*s->F i=eG s c l i):OJ T s c B (.slice (some ⟨b,0,none⟩) k k) l:=
 OJ.lit hm hl (Nat.le_of_ble_eq_true (Oe hk).1) (Nat.le_trans (Nat.le_of_ble_eq_true (Oe hk).2) Ab) hF
end
theorem St.fold {w0 w:World} (Xs Rs:List GH) (h:St w0 (cat (Xs++Rs)) w):St w0 (cat (cat Xs::Rs)) w:=by
 rw[Lz] at h;exact h
theorem dT {p:Prop} [Decidable p] (h:p):decide p=true:=decide_eq_true h
theorem dF {p:Prop} [Decidable p] (h:¬p):decide p=false:=decide_eq_false h
theorem nT1 {p:Prop} [Decidable p] (h:¬p):(!decide p)=true:=by simp[h]
theorem nF1 {p:Prop} [Decidable p] (h:p):(!decide p)=false:=by simp[h]
theorem nG2 {b:Bool} (h:b=false):(!b)=true:=by simp[h]
theorem nF2 {b:Bool} (h:b=true):(!b)=false:=by simp[h]
theorem bF {b:Bool} (h:¬b=true):b=false:=by simpa using h
end Go.E
namespace Go.E
open Go
theorem sgH {S R:GH}:∀ x∈S,x∈S++R:=fun _ h=>List.mem_append_left _ h
theorem sgT {S H:GH} {y:Nat×Obj} (h:∀ x∈S,x∈H):∀ x∈S,x∈y::H:=fun x hx=>List.mem_cons_of_mem _ (h x hx)
theorem sgR {S B H:GH} (h:∀ x∈S,x∈H):∀ x∈S,x∈B++H:=fun x hx=>List.mem_append_right _ (h x hx)
theorem MB {p:Prop} (h:p:=by(repeat (first | exact mH | apply mT | apply mR));done):p:=h
theorem SG {p:Prop} (h:p:=by(repeat (first | exact sgH | refine sgT ?_ | refine sgR ?_));done):p:=h
theorem FR {p:Prop} (h:p:=by(repeat (first | exact Fr.nil | refine Fr.cons (by assumption) ?_ | refine Fr.seg (by assumption) ?_));done):p:=h
theorem KP {p:Prop} (h:p:=by refine Kp.st ?_;(repeat (first | exact Kp.nil | apply aK | apply Kp.keep | refine Kp.new (by assumption) ?_ | refine aI (Cov.fresh (by assumption)) ?_));done):p:=h
theorem ON {p:Prop} (h:p:=by(repeat (first | exact oN | refine oA rfl ?_ | refine oA (GL (OJ.val (by assumption))) ?_ | refine oA (GL (SL.val (by assumption))) ?_ | refine oA (GL (NJ.val (by assumption))) ?_));done):p:=h
section
variable {P:Program} {n:Nat} {w0:World} {env:HH} {H:GH} {Q:Exit->Act->World->Prop} {ops:Array Oper} {rest:List Oper}
variable {d:Nat} {op:Op} {ty:TypeId} {pos:String} {af:Array Edge} {g:Option (Nat×Bool)} {x y z:Operand} {v:Value}
end
section
variable {P:Program} {n:Nat} {w0:World} {env:HH} {H:GH} {Q:Exit->Act->World->Prop} {ops:Array Oper} {rest:List Oper}
variable {d:Nat} {ty:TypeId} {pos:String} {af:Array Edge} {g:Option (Nat×Bool)} {x:Operand}
theorem zf {f b off s:Nat} {ag:Bool} {t:TypeId} (hc:(Nat.blt d n&&gk ops env g)=true) (hx:ev env x=some (.pointer (some ⟨b,0,none⟩))) (hf:IQ P t f off s ag) (k:XO P n w0 ((d,.pointer (some ⟨b,off,none⟩))::env) H ops rest Q):XO P n w0 env H ops (⟨some d,.fieldAddr t x f,ty,pos,af,g⟩::rest) Q:=
 xQ hc (AdJ hf hx) k
end
section
variable {P:Program} {n:Nat} {w0:World} {env:HH} {H:GH} {Q:Exit->Act->World->Prop} {ops:Array Oper} {rest:List Oper}
variable {d:Nat} {ty:TypeId} {pos:String} {af:Array Edge} {g:Option (Nat×Bool)} {x:Operand}
end
def tks (o:Oper):List Nat:=o.op.operands.toList.filterMap fun | .tmp t=>some t | _=>none
def gks (ops:Array Oper) (o:Oper):List Nat:=match o.guard with
 | none=>[]
 | some (j,_)=>((ops[j]?).bind (·.dst)).toList
def Zc (ops:Array Oper) (i:Nat):List Nat:=match ops[i]? with
 | none=>[]
 | some o=>tks o++gks ops o
def ksn (ops:Array Oper) (i:Nat):List Nat:=match ops[i]? with
 | none=>[]
 | some o=>gks ops o
def Tg (_:List Nat) (p:Prop):Prop:=p
theorem tn {p:Prop} (h:p):Tg [] p:=h
section
variable {P:Program} {n:Nat} {w0:World} {ops:Array Oper} {KS:List Nat} {bX env:HH} {dn:List Nat} {H RS:GH} {Q:Exit->Act->World->Prop} {i:Nat} {is:List Nat}
theorem tb (hok:If n ops=true) {o:Oper} {d:Nat} {l:HH} {v:Value} (hr:rdy ops dn env i (Zc ops i)=some (o,d,l)) (ht:∀ H',OT P w0 l H' o (Is v H')) (hs:HO ops dn i (Zc ops i)=true) (k:Tg is (XD P n w0 ops KS bX (i::dn) ((d,v)::env) H RS Q)):Tg (i::is) (XD P n w0 ops KS bX dn env H RS Q):=
 xb hok i _ hr hs (fun H' _=>ht H') k
end
end Go.E
namespace Go.E
open Go
def Sub (A B:GH):Prop:=∃ S,B.Perm (A++S)
theorem Sub.refl (A:GH):Sub A A:=⟨[],by rw[List.append_nil]⟩
theorem Sub.trans {A B C:GH} (h:Sub A B) (k:Sub B C):Sub A C:=by
 obtain⟨S,hS⟩:=h
 obtain⟨T,hT⟩:=k
 exact⟨S++T,by rw[<- List.append_assoc];exact hT.trans (hS.append_right T)⟩
theorem Sub.cat {A B:GH} (h:Sub A B) (Ss:List GH):Sub A (cat (B::Ss)):=h.trans ⟨Go.E.cat Ss,List.Perm.refl _⟩
theorem Sub.mem {A B:GH} (h:Sub A B):∀ y∈A,y∈B:=by
 obtain⟨S,hS⟩:=h
 exact fun y hy=>hS.mem_iff.2 (List.mem_append_left _ hy)
section
variable {α:Type} [Inhabited α] {w0 w:World} {T:TypeId} {s:Nat} {R:GH->α->(Nat->Value)->Prop} {B B' H:GH} {v:Value} {l:List α}
theorem NJ.sub (h:NJ T s R B v l) (hm:Se R) (k:Sub B B'):NJ T s R B' v l:=by
 obtain⟨raws,B1,A,hp,hO,hl,hA⟩:=h
 obtain⟨S,hS⟩:=k
 exact⟨raws,B1,A++S,by rw[<- List.append_assoc];exact hS.trans (hp.append_right S),hO,hl,fun i hi=>hm A _ _ _ (fun y hy=>List.mem_append_left _ hy) (hA i hi)⟩
end
def Ahz {α:Type} (T:TypeId) (R:GH->α->(Nat->Value)->Prop):Prop:=∀ b N F A x f,R ((b,BK N F T)::A) x f->R A x f
theorem OJ.apart {β:Type} {T T':TypeId} {s b N:Nat} {F:Nat->Value} {c:β->Nat->Value} {A:GH} {v:Value} {l:List β} (hT:T≠T') (h:OJ T s c ((b,BK N F T')::A) v l):OJ T s c A v l:=by
 rcases h with h | ⟨b1,o,cap,N1,F1,h1,h2⟩
 .exact .inl h
 .refine .inr ⟨b1,o,cap,N1,F1,?_,h2⟩
  rcases List.mem_cons.1 h1 with h1 | h1
  .injection h1 with _ h1
   unfold BK at h1
   injection h1 with _ h1
   exact absurd h1 hT
  .exact h1
section
variable {α:Type} [Inhabited α] {P:Program} {w0:World} {env:HH} {H:GH}
variable {d:Option Nat} {ty:TypeId} {pos:String} {af:Array Edge} {g:Option (Nat×Bool)} {t:TypeId} {s:Nat} {R:GH->α->(Nat->Value)->Prop}
theorem AhQ {e:TypeId} {B:GH} {x y:Operand} {v:Value} {l:List α} {k j:Nat} {u:α} {f:Nat->Value} (hx:ev env x=some (.pointer (some (QT v k)))) (hy:ev env y=some (AG s f)) (ht:TyS P t s true) (dK:Nat.blt 0 s=true) (h1:∀ i,i<s->(f i).oneCell'=true) (hN:NJ e s R B v l) (hm:Se R) (ha:Ahz e R) (hR:R B u f) (hj:j<l.length) (hk:k=j*s) :
  OT P w0 env (B++H) ⟨none,.store t x y,ty,pos,af,g⟩ (fun _ H'=>∃ B',H'=B'++H/\Cov w0 B B'/\NJ e s R B' v (l.set j u)):=by
 obtain⟨raws,B1,A,hp,hO,hl,hA⟩:=hN
 rcases hO with ⟨_,rfl⟩ | ⟨b,o,cap,N,F,hb,hrest⟩
 .simp only[List.length_nil] at hl;omega
 obtain⟨p,q,rfl⟩:=List.append_of_mem hb
 have bA:B.Perm ([(b,BK N F e)]++(p++q++A)):=by
  refine hp.trans ?_
  have:(p++(b,BK N F e)::q).Perm ((b,BK N F e)::(p++q)):=List.perm_middle
  exact this.append_right A
 have hO2:OJ e s MM [(b,BK N F e)] v raws:=.inr ⟨b,o,cap,N,F,List.mem_singleton.2 rfl,hrest⟩
 have hR2:R (p++q++A) u f:=ha b N F _ _ _ (hm B _ _ _ (fun y hy=>bA.mem_iff.1 hy) hR)
 have hA2:∀ i,i<l.length->R (p++q++A) (l[i]!) (raws[i]!):=fun i hi=>hm A _ _ _ (fun y hy=>List.mem_append_right _ hy) (hA i hi)
 intro a w hw hs
 have e1:St w0 ([(b,BK N F e)]++((p++q++A)++H)) w:=by
  rw[<- List.append_assoc]
  exact hs.perm (bA.append_right H)
 have:=W5 (ty:=ty) (pos:=pos) (af:=af) (g:=g) (H:=(p++q++A)++H) (e:=f) (c:=MM) hx hy ht dK h1 hO2 (show j<raws.length by omega) hk a w hw e1
 refine I3 ?_ (fun _ _ _ h=>h.elim) this
 rintro a' w' ⟨v',H',rfl,hs',B',rfl,hcov,hO'⟩
 refine⟨v',_,rfl,hs',B'++(p++q++A),(List.append_assoc _ _ _).symm,?_,raws.set j f,B',p++q++A,List.Perm.refl _,hO',by rw[List.length_set,List.length_set,hl],fun i hi=>?_⟩
 .have:=AeF (S:=[]) bA hcov (Cov.refl [])
  rwa[List.append_nil] at this
 .rw[List.length_set] at hi
  by_cases hij:j=i
  .subst hij
   have e2:(l.set j u)[j]! = u:=by simp[hi]
   have e3:(raws.set j f)[j]! = f:=by simp[show j<raws.length by omega]
   rw[e2,e3];exact hR2
  .have e2:(l.set j u)[i]! = l[i]!:=by simp[List.getElem?_set_ne hij]
   have e3:(raws.set j f)[i]! = raws[i]!:=by simp[List.getElem?_set_ne hij]
   rw[e2,e3];exact hA2 i hi
end
end Go.E
namespace Go.E
open Go
def AfI (ops:Array Oper) (j:Nat):Bool:=match ops[j]? with
 | some o=>(match o.op with | .extract _ _=>true | _=>false)
 | none=>false
section
variable {P:Program} {n:Nat} {w0:World} {ops:Array Oper} {KS:List Nat} {bX env:HH} {dn:List Nat} {H RS:GH} {Q:Exit->Act->World->Prop}
theorem AfH {d:Option Nat} {x:Operand} {m:Nat} {ty:TypeId} {pos:String} {af:Array Edge} {g:Option (Nat×Bool)} {l:HH} {v:Value} {H':GH} {w:World} (hst:St w0 H w) (h:OT P w0 l H ⟨d,.extract x m,ty,pos,af,g⟩ (Is v H)) :
  OT P w0 l H' ⟨d,.extract x m,ty,pos,af,g⟩ (Is v H'):=by
 intro a' w' hag hst'
 have h1:=h a' w hag hst
 unfold Oper.wp at h1 ⊢
 cases hv:a'.eval x with
 | tuple vs=>
  cases hm:vs[m]? with
  | some u=>
   have r:∀ w,(execOp a'.eval ⟨d,.extract x m,ty,pos,af,g⟩).run P w=.ok (.value u) w:=fun w=>by simp[execOp,hv,Instr.extract,hm]
   rw[r] at h1 ⊢
   obtain⟨v',H'',e1,_,e2,_⟩:=h1
   exact⟨v',H',e1,hst',e2,rfl⟩
  | none=>
   have r:∃ s,(execOp a'.eval ⟨d,.extract x m,ty,pos,af,g⟩).run P w=.halt (.stuck s) w:=⟨_,by simp[execOp,hv,Instr.extract,hm,stuck];rfl⟩
   obtain⟨s,r⟩:=r
   rw[r] at h1
   exact h1.elim
 | _=>
  have r:∃ s,(execOp a'.eval ⟨d,.extract x m,ty,pos,af,g⟩).run P w=.halt (.stuck s) w:=⟨_,by simp[execOp,hv,Instr.extract,stuck];rfl⟩
  obtain⟨s,r⟩:=r
  rw[r] at h1
  exact h1.elim
theorem AbI (hok:If n ops=true) (f i:Nat) {o:Oper} (l:HH) (ho:ops[i]? = some o) (hf:Mb ops dn=[i]) (hcl:dn.all (fun j=>(UE ops f i).contains j||AfI ops j)=true) (hl:Live env l) (hs:HO ops dn i (l.map (·.1))=true) (hw:Wt ops l o.guard) {R:Value->GH->Prop} (ht:OT P w0 l H o R) (k:∀ v H',R v H'->(∀ k∈keys H',k∈KS∨w0.heap.size<=k)/\XD P n w0 ops KS bX (i::dn) (match o.dst with | some d=>(d,v)::env | none=>env) H' [] Q):XD P n w0 ops KS bX dn env H RS Q:=by
 intro a0 dl kp hdn hnd he hrs
 refine Lk hok (by rw[hdn];exact hnd) ?_ ?_
 .intro a w listed hr hinv
  exfalso
  have hi:i∈Mb ops dn:=by rw[hf];exact List.mem_singleton.2 rfl
  obtain⟨h1,h2⟩:=List.mem_filter.1 hi
  have:=J7 hok hinv.lsize hr i (List.mem_range.1 h1)
  obtain⟨p,hp,e⟩:=hinv.inn i this
  simp only[Bool.and_eq_true,Bool.not_eq_true',List.contains_eq_mem,decide_eq_false_iff_not] at h2
  exact h2.1 (by rw[<- hdn];exact List.mem_map.2 ⟨p,hp,e⟩)
 .intro fuel listed a w j hinv hr hni
  have hj:=Lr hinv.lsize hdn hinv.inn hr hni
  rw[hf] at hj
  obtain rfl:=List.mem_singleton.1 hj
  obtain⟨hlt,sk,haft⟩:=(JG hinv.lsize).1 hr
  have hagv:=hinv.agv sk haft (Oq kp he hdn hl hs)
  have hdst:HK ops j=o.dst:=by simp[HK,ho]
  have hall:∀ p∈dl,listed.getD p.i false=false->AfI ops p.i=true:=by
   intro p hp BO
   have h1:=List.all_eq_true.1 hcl p.i (by rw[<- hdn];exact List.mem_map.2 ⟨p,hp,rfl⟩)
   simp only[List.contains_eq_mem,Bool.or_eq_true,decide_eq_true_eq] at h1
   rcases h1 with h1 | h1
   .rw[OA hinv.down f j haft _ h1] at BO;cases BO
   .exact h1
  unfold wpOp
  simp only[ho]
  rw[Ae (hw.wanted hagv)]
  refine .inl (I3 ?_ (fun _ _ _ h=>h.elim) (ht a w hagv hinv.st))
  rintro a' w' ⟨v,H',rfl,hst,hR⟩
  obtain⟨k3,k2⟩:=k v H' hR
  have hlt':j<listed.size:=by rw[hinv.lsize];exact hlt
  have DB:∀ p∈dl.map QX,p.i≠j:=by
   intro p hp
   obtain⟨q,hq,rfl⟩:=List.mem_map.1 hp
   exact hni q hq
  have hni':j∉(dl.map QX).map (·.i):=by
   simp only[List.mem_map,not_exists,not_and]
   rintro p ⟨q,hq,rfl⟩
   exact hni q hq
  have p5:Inv P n ops w0 KS a0 (⟨j,l,[],v⟩::dl.map QX) H' fuel (listed.setIfInBounds j true) (a.put o.dst v) w':=by
   rw[<- hdst]
   refine⟨by simpa using hinv.lsize,?_,?_,?_,?_,by rw[RP];exact hinv.size,by rw[OE];exact hinv.defers,hst,k3,?_,?_⟩
   .intro q hq
    rw[HJ hlt'] at hq
    by_cases e:q=j
    .exact⟨⟨j,l,[],v⟩,List.mem_cons_self ..,e.symm⟩
    .rw[Af e] at hq
     obtain⟨p,hp,e⟩:=hinv.inn q hq
     exact⟨QX p,List.mem_cons_of_mem _ (List.mem_map.2 ⟨p,hp,rfl⟩),e⟩
   .intro q hq lL
    rw[HJ hlt'] at lL
    rcases List.mem_cons.1 hq with rfl | hq
    .simp at lL
    .obtain⟨p,hp,rfl⟩:=List.mem_map.1 hq
     have pP:(if p.i=j then true else listed.getD p.i false)=false:=lL
     rw[Af (hni p hp)] at pP
     obtain⟨⟨o2,d3,hO⟩,C9,hlk⟩:=hinv.pend p hp pP
     refine⟨⟨o2,d3,fun H2 _ hK2=>?_⟩,fun x hx=>(by cases hx),fun s u hs'=>?_⟩
     .have hex:=hall p hp pP
      obtain⟨d2,D7,Gf,E5,Gp,g2⟩:=o2
      have kA:∃ x m,D7=.extract x m:=by
       unfold AfI at hex
       simp only[d3] at hex
       cases D7 <;> first | exact⟨_,_,rfl⟩ | (exact absurd hex Bool.false_ne_true)
      obtain⟨x2,m2,rfl⟩:=kA
      refine(hO H C9 hinv.ks).imp (fun h=>⟨h.1,?_⟩) (fun h=>h)
      exact AfH hinv.st h.2
     .rcases hlk s u hs' with ⟨q2,BN,h1,h2,h3⟩ | h
      .exact .inl ⟨QX q2,List.mem_cons_of_mem _ (List.mem_map_of_mem BN),h1,h2,h3⟩
      .exact .inr h
   .intro q hq pP s hs'
    rcases List.mem_cons.1 hq with rfl | hq
    .have hs'':HK ops j=some s:=hs'
     rw[hs'',LB (by rw[hinv.size];exact RO hok hs'')]
    .obtain⟨p,hp,rfl⟩:=List.mem_map.1 hq
     have hne:=hni p hp
     rw[LP (fun hh=>hne (Oy hok hs' hh))]
     rw[HJ hlt'] at pP
     have BN:(if p.i=j then true else listed.getD p.i false)=true:=pP
     rw[Af hne] at BN
     exact hinv.done p hp BN s hs'
   .intro s hs'
    have hne:HK ops j≠some s:=fun hh=>by
     have:=hs' j hh
     rw[HJ hlt',Ae rfl] at this
     cases this
    rw[LP hne]
    refine hinv.rest s fun q hq=>?_
    have:=hs' q hq
    rw[HJ hlt'] at this
    split at this
    .cases this
    .exact this
   .intro q hq k' hk
    rw[HJ hlt'] at hq ⊢
    by_cases e:k'=j
    .rw[Ae e]
    .rw[Af e]
     by_cases e2:q=j
     .subst e2;exact haft k' hk
     .rw[Af e2] at hq;exact hinv.down q hq k' hk
   .rw[O2 hlt' sk _ hlt]
    have:=hinv.fuel
    omega
  have henv:=OX (p:=⟨j,l,[],v⟩) hok (Vt he) hni'
  refine k2 a0 (⟨j,l,[],v⟩::dl.map QX) kp (by simp only[List.map_cons,RU,hdn]) (List.nodup_cons.2 ⟨by rw[<- hdn,<- RU];exact hni',hnd⟩) ?_ ?_ _ _ _ _ p5
  .cases hd:o.dst with
   | none=>exact henv.2 (by show HK ops j=none;rw[hdst,hd])
   | some d=>exact henv.1 d (by show HK ops j=some d;rw[hdst,hd])
  .intro p hp x hx
   rcases List.mem_cons.1 hp with rfl | hp
   .cases hx
   .obtain⟨q,hq,rfl⟩:=List.mem_map.1 hp
    cases hx
theorem P3 (hok:If n ops=true) (f i:Nat) {o:Oper} (l:HH) (ho:ops[i]? = some o) (hd:o.dst=none) (hf:Mb ops dn=[i]) (hcl:dn.all (fun j=>(UE ops f i).contains j||AfI ops j)=true) (hl:Live env l) (hs:HO ops dn i (l.map (·.1))=true) (hw:Wt ops l o.guard) {R:Value->GH->Prop} (ht:OT P w0 l H o R) (k:∀ v H',R v H'->(∀ k∈keys H',k∈KS∨w0.heap.size<=k)/\XD P n w0 ops KS bX (i::dn) env H' [] Q):XD P n w0 ops KS bX dn env H RS Q:=
 AbI hok f i l ho hf hcl hl hs hw ht (fun v H' h=>by rw[hd];exact k v H' h)
end
end Go.E
namespace Go.E
open Go
section
variable {P:Program} {n:Nat} {w0:World} {env:HH} {H:GH} {Q:Exit->Act->World->Prop} {ops:Array Oper} {rest:List Oper}
variable {d:Nat} {op:Op} {ty:TypeId} {pos:String} {af:Array Edge} {g:Option (Nat×Bool)} {x y z:Operand} {v:Value}
theorem Xf {f b off s:Nat} {ag:Bool} {t:TypeId} (hf:IQ P t f off s ag) (hc:(Nat.blt d n&&gk ops env g)=true) (hx:ev env x=some (.pointer (some ⟨b,0,none⟩))) (k:XO P n w0 ((d,.pointer (some ⟨b,off,none⟩))::env) H ops rest Q) :
  XO P n w0 env H ops (⟨some d,.fieldAddr t x f,ty,pos,af,g⟩::rest) Q:=xQ hc (AdJ hf hx) k
theorem Xl (v:Value) {b o N k:Nat} {T t:TypeId} {F:Nat->Value} (ht:TyS P t k false) (hc:(Nat.blt d n&&gk ops env g)=true) (hx:ev env x=some (.pointer (some ⟨b,o,none⟩))) (q:XO P n w0 ((d,v)::env) H ops rest Q) (hm:(b,BK N F T)∈H:=by exact MB) (ho:o<N:=by first | decide | omega) (hv:F o=v:=by first | rfl | exact Yt rfl | exact ZO rfl):XO P n w0 env H ops (⟨some d,.load t x,ty,pos,af,g⟩::rest) Q:=xQ hc (UQ hx ht hm ho hv) q
theorem Xi (i:Int) {b o N k:Nat} {T t:TypeId} {F:Nat->Value} (ht:TyS P t k false) (hc:(Nat.blt d n&&gk ops env g)=true) (hx:ev env x=some (.pointer (some ⟨b,o,none⟩))) (q:XO P n w0 ((d,.int .i64 i)::env) H ops rest Q) (hm:(b,BK N F T)∈H:=by exact MB) (ho:o<N:=by first | decide | omega) (hv:F o=.int .i64 i:=by first | rfl | exact Yt rfl):XO P n w0 env H ops (⟨some d,.load t x,ty,pos,af,g⟩::rest) Q:=xQ hc (UQ hx ht hm ho hv) q
end
section
variable {P:Program} {n:Nat} {w0:World} {ops:Array Oper} {KS:List Nat} {bX env:HH} {dn:List Nat} {H RS:GH} {Q:Exit->Act->World->Prop}
variable {d d':Nat} {l:HH} {x:Operand} {ty:TypeId} {pos:String} {af:Array Edge} {g:Option (Nat×Bool)}
theorem Bx (hok:If n ops=true) (i:Nat) {o:Oper} {d:Nat} {l:HH} {v:Value} (hr:rdy ops dn env i (Zc ops i)=some (o,d,l)) (hs:HO ops dn i (Zc ops i)=true) (ht:∀ H',OT P w0 l H' o (Is v H')) (k:XD P n w0 ops KS bX (i::dn) ((d,v)::env) H RS Q):XD P n w0 ops KS bX dn env H RS Q:=
 xb hok i _ hr hs (fun H' _=>ht H') k
theorem Bm {v:Value} (hok:If n ops=true) (i:Nat) (hr:rdy ops dn env i (Zc ops i)=some (⟨some d',.move x,ty,pos,af,g⟩,d,l)) (hs:HO ops dn i (Zc ops i)=true) (hx:ev l x=some v) (k:XD P n w0 ops KS bX (i::dn) ((d,v)::env) H RS Q):XD P n w0 ops KS bX dn env H RS Q:=
 Bx hok i hr hs (fun H'=>AhS hx) k
theorem Ba {v:Value} (hok:If n ops=true) (i:Nat) (hr:rdy ops dn env i (Zc ops i)=some (⟨some d',.assign x,ty,pos,af,g⟩,d,l)) (hs:HO ops dn i (Zc ops i)=true) (hx:ev l x=some v) (k:XD P n w0 ops KS bX (i::dn) ((d,v)::env) H RS Q):XD P n w0 ops KS bX dn env H RS Q:=
 Bx hok i hr hs (fun H'=>AhV hx) k
theorem Bp {b:Addr} (hok:If n ops=true) (i:Nat) (hr:rdy ops dn env i (Zc ops i)=some (⟨some d',.nilCheck x,ty,pos,af,g⟩,d,l)) (hs:HO ops dn i (Zc ops i)=true) (hx:ev l x=some (.pointer (some b))) (k:XD P n w0 ops KS bX (i::dn) ((d,.pointer (some b))::env) H RS Q):XD P n w0 ops KS bX dn env H RS Q:=
 Bx hok i hr hs (fun H'=>AdH hx) k
theorem Bf {f b off s:Nat} {ag:Bool} {t:TypeId} (hf:IQ P t f off s ag) (hok:If n ops=true) (i:Nat) (hr:rdy ops dn env i (Zc ops i)=some (⟨some d',.fieldAddr t x f,ty,pos,af,g⟩,d,l)) (hs:HO ops dn i (Zc ops i)=true) (hx:ev l x=some (.pointer (some ⟨b,0,none⟩))) (k:XD P n w0 ops KS bX (i::dn) ((d,.pointer (some ⟨b,off,none⟩))::env) H RS Q):XD P n w0 ops KS bX dn env H RS Q:=
 Bx hok i hr hs (fun H'=>AdJ hf hx) k
theorem Bl (v:Value) {b o N kk:Nat} {T t:TypeId} {F:Nat->Value} (ht:TyS P t kk false) (hok:If n ops=true) (i:Nat) (hr:rdy ops dn env i (Zc ops i)=some (⟨some d',.load t x,ty,pos,af,g⟩,d,l)) (hs:HO ops dn i (Zc ops i)=true) (hx:ev l x=some (.pointer (some ⟨b,o,none⟩))) (hm:(b,BK N F T)∈H) (k:XD P n w0 ops KS bX (i::dn) ((d,v)::env) H ([(b,BK N F T)]++RS) Q) (ho:o<N:=by first | decide | omega) (hv:F o=v:=by first | rfl | exact Yt rfl | exact ZO rfl):XD P n w0 ops KS bX dn env H RS Q:=
 NN hok i _ [(b,BK N F T)] (rsC hm Nd) hr hs (fun H' hy _=>UQ hx ht (hy _ mH) ho hv) k
theorem Bw {b s:Nat} {T t:TypeId} {F:Nat->Value} (ht:TyS P t s true) (hok:If n ops=true) (i:Nat) (hr:rdy ops dn env i (Zc ops i)=some (⟨some d',.load t x,ty,pos,af,g⟩,d,l)) (hs:HO ops dn i (Zc ops i)=true) (hx:ev l x=some (.pointer (some ⟨b,0,none⟩))) (hm:(b,BK s F T)∈H) (k:XD P n w0 ops KS bX (i::dn) ((d,AG s F)::env) H ([(b,BK s F T)]++RS) Q):XD P n w0 ops KS bX dn env H RS Q:=
 NN hok i _ [(b,BK s F T)] (rsC hm Nd) hr hs (fun H' hy _=>GA hx ht (hy _ mH)) k
theorem Bs (hok:If n ops=true) (i:Nat) {o:Oper} (hr:rdn ops dn env i (ksn ops i)=some (o,d,l)) (hs:HO ops dn i (ksn ops i)=true) (k:XD P n w0 ops KS bX (i::dn) ((d,undef)::env) H RS Q):XD P n w0 ops KS bX dn env H RS Q:=
 xbs hok i _ hr hs k
end
theorem Y {α:Sort _} {a:α}:a=a:=rfl
theorem Z {p:Prop} (h:p:=by kernel_rfl):p:=h
theorem U {p:Prop} (h:p:=by omega):p:=h
theorem D {p:Prop} (h:p:=by decide):p:=h
theorem RA {p:Prop} (h:p:=by(repeat' (first | exact Nd | refine rsC MB ?_ | refine Md ?_ ?_ | exact SG));done):p:=h
theorem KM {p:Prop} (h:p:=by(repeat (first | exact Ks.nil | refine aE (by assumption) ?_ | (refine aA ?_ ?_;focus (simp;done)) | refine aN (by assumption) ?_ | (refine aB ?_ ?_;focus (intro k hk;simp[hk];done)) | (refine aG (by assumption) ?_ ?_;focus (intro k hk;simp[hk];done))));done):p:=h
theorem H9 {p:Prop} (h:p:=by exact M13 rfl rfl rfl rfl rfl rfl rfl rfl rfl rfl rfl rfl rfl):p:=h
theorem al0 {p:Nat->Prop}:∀ i,i<0->p i:=fun i h=>absurd h (Nat.not_lt_zero i)
theorem alS {p:Nat->Prop} {n:Nat} (h:p n) (k:∀ i,i<n->p i):∀ i,i<n+1->p i:=fun i hi=>(Nat.lt_succ_iff_lt_or_eq.1 hi).elim (k i) (fun e=>e▸h)
theorem AJ {p:Prop} (h:p:=by(repeat (first | exact al0 | refine alS rfl ?_));done):p:=h
theorem SB {p:Prop} (h:p:=by intro y hy;simp[cat,hy]):p:=h
theorem SE {A B C:GH} (e:B=C) (h:∀ y∈A,y∈C:=by intro y hy;simp[cat,hy]):∀ y∈A,y∈B:=by rw[e];exact h
theorem SH {A B C:GH} (k:∀ x∈B,x∈C) (h:∀ x∈A,x∈B:=by(repeat (first | exact sgH | refine sgT ?_ | refine sgR ?_));done):∀ x∈A,x∈C:=fun x hx=>k x (h x hx)
theorem sX {ρ:Type} {r f:ρ} {K:(ρ->Prop)->Prop} (e:r=f) (h:K (Eq f)):K (Eq r):=e▸h
theorem KV {p:Prop} (h:p:=by(repeat' (first | assumption | exact Cov.refl _ | exact Cov.nil | (refine Cov.new ?_;focus (assumption;done)) | refine Cov.cons ?_ | refine Cov.app ?_ ?_ | refine aC ?_ ?_ | refine Cov.more ?_ ?_));done):p:=h
theorem qA {S:GH}:Pull S S []:=by have:=Pull.here S [];rwa[List.append_nil] at this
def Pk (w:World) (H F:GH):Prop:=∀ Z w',St w (Z++H) w'->St w (Z++F) w'
theorem pk0 {w:World} {H F:GH} (h:Pk w H F):∀ w',St w H w'->St w F w':=fun w'=>h [] w'
theorem pkZ {w:World} {H:GH} (h:Kp w H []):Pk w H []:=fun Z w' hs=>(aK h).st w' hs
theorem pkA {w:World} {H S R F:GH} (hp:Pull H S R) (h:Pk w R F):Pk w H (S++F):=fun Z w' hs=>by
 have h1:(Z++H).Perm ((Z++S)++R):=by rw[List.append_assoc];exact hp.perm.append_left Z
 have:=h (Z++S) w' (hs.perm h1)
 rwa[List.append_assoc] at this
theorem pkB {w:World} {H R F:GH} {x:Nat×Obj} (hp:Pull H [x] R) (h:Pk w R F):Pk w H (x::F):=pkA hp h
theorem pkD {w:World} {H A B C:GH} (h:Pk w H (A++(B++C))):Pk w H ((A++B)++C):=by rw[List.append_assoc];exact h
theorem PK {p:Prop} (h:p:=by refine pk0 ?_;(repeat (first | refine pkZ ?_ | refine pkD ?_ | (apply pkA;focus ((repeat (first | exact Pull.here _ _ | exact Pull.hereC _ _ | exact qA | apply Pull.there | apply Pull.thereC));done)) | (apply pkB;focus ((repeat (first | exact Pull.here _ _ | exact Pull.hereC _ _ | exact qA | apply Pull.there | apply Pull.thereC));done))));(repeat (first | exact Kp.nil | refine Kp.new (by assumption) ?_ | refine aI (Cov.fresh (by assumption)) ?_));done):p:=h
theorem ST {p:Prop} (h:p:=by first | exact fun _ h=>h | (refine Kp.st ?_;(repeat (first | exact Kp.nil | apply aK | apply Kp.keep | (refine Kp.new ?_ ?_;focus (assumption;done)) | (refine aI ?_ ?_;focus (exact Cov.fresh ‹_›;done))));done) | (refine pk0 ?_;(repeat (first | refine pkZ ?_ | refine pkD ?_ | (apply pkA;focus ((repeat (first | exact Pull.here _ _ | exact Pull.hereC _ _ | exact qA | apply Pull.there | apply Pull.thereC));done)) | (apply pkB;focus ((repeat (first | exact Pull.here _ _ | exact Pull.hereC _ _ | exact qA | apply Pull.there | apply Pull.thereC));done))));(repeat (first | exact Kp.nil | (refine Kp.new ?_ ?_;focus (assumption;done)) | (refine aI ?_ ?_;focus (exact Cov.fresh ‹_›;done))));done)):p:=h
section
variable {P:Program} {n:Nat} {w0 w:World} {env:HH} {H:GH} {Q:Exit->Act->World->Prop} {σ ρ:Type}
theorem xN {I:σ->HH->GH->Prop} {O:ρ->Exit->HH->GH->Prop} {o:σ ⊕ ρ} {s':σ} {e':HH} {H':GH} (ho:o=.inl s') (hI:I s' e' H') (hl:Live env e':=by exact sl rfl) (hst:∀ w,St w0 H w->St w0 H' w:=by exact ST) :
  XQ n w0 env H .normal (RQ n w0 I O o):=Ae0 H' hl hst ho hI
theorem xO {I:σ->HH->GH->Prop} {O:ρ->Exit->HH->GH->Prop} {o:σ ⊕ ρ} {r:ρ} {ex:Exit} {e':HH} {H':GH} (ho:o=.inr r) (hO:O r ex e' H') (hl:Live env e':=by exact sl rfl) (hst:∀ w,St w0 H w->St w0 H' w:=by exact ST) (hne:ex≠.normal:=by intro hh;cases hh) :
  XQ n w0 env H ex (RQ n w0 I O o):=Agz H' hl hst ho hne hO
theorem xL {f:σ->σ ⊕ ρ->Prop} {c:Code} (I:σ->HH->GH->Prop) (O:ρ->Exit->HH->GH->Prop) {s0:σ} {x:ρ} (hw:Wh f s0 x) {e1:HH} {H1:GH} (hI:I s0 e1 H1) (round:∀ s o e H,I s e H->f s o->XW P n w0 e H c (RQ n w0 I O o)) (out:∀ ex e' H',O x ex e' H'->XQ n w0 e' H' ex Q) (hl:Live env e1:=by exact sl rfl) (hst:∀ w,St w0 H w->St w0 H1 w:=by exact ST):XW P n w0 env H (.loop c) Q:=AhH I O hw ⟨e1,H1,hl,hst,hI⟩ round out
variable {fn:Func} {G:Value->GH->Prop} {a b t bl s:Nat} {ty T:TypeId} {f:Nat->Value} {v u:Value}
theorem cRa (hr:fn.results=#[.cell t ty]) (h:lk t env=some (.pointer (some ⟨bl,0,none⟩))) (ht:TyS P ty s true) (hm:(bl,BK s f T)∈H) (F:GH) (hF:∀ w',St w H w'->St w F w') (hG:G (AG s f) F):XQ n w env H .ret (bodyPost P fn (Ic w G)):=
 In (.inl rfl) (l:=[.cell t ty]) hr (.cell h ht hm .nil) rfl F hF hG
theorem VV (hr:fn.results=#[.cell t ty,.tmp a]) (h:lk t env=some (.pointer (some ⟨bl,0,none⟩))) (ht:TyS P ty s true) (hm:(bl,BK s f T)∈H) (hv:lk a env=some v) (F:GH) (hF:∀ w',St w H w'->St w F w') (hG:G (.tuple #[AG s f,v]) F):XQ n w env H .ret (bodyPost P fn (Ic w G)):=
 In (.inl rfl) (l:=[.cell t ty,.tmp a]) hr (.cell h ht hm (.tmp hv .nil)) rfl F hF hG
theorem O5 (hr:fn.results=#[.cell t ty,.tmp a,.tmp b]) (h:lk t env=some (.pointer (some ⟨bl,0,none⟩))) (ht:TyS P ty s true) (hm:(bl,BK s f T)∈H) (hv:lk a env=some v) (hu:lk b env=some u) (F:GH) (hF:∀ w',St w H w'->St w F w') (hG:G (.tuple #[AG s f,v,u]) F):XQ n w env H .ret (bodyPost P fn (Ic w G)):=
 In (.inl rfl) (l:=[.cell t ty,.tmp a,.tmp b]) hr (.cell h ht hm (.tmp hv (.tmp hu .nil))) rfl F hF hG
end
theorem uT {x:Nat×Obj} {t t':GH} {b:Nat} {o':Obj} (h:Upd t b o' t'):Upd (x::t) b o' (x::t'):=.there _ _ _ _ _ h
theorem uH {b:Nat} {o o':Obj} {t:GH}:Upd ((b,o)::t) b o' ((b,o')::t):=.here _ _ _ _
theorem qH {S R:GH}:Pull (S++R) S R:=.here _ _
theorem qK {x:Nat×Obj} {R:GH}:Pull (x::R) [x] R:=.hereC _ _
theorem qT {A H S R:GH} (h:Pull H S R):Pull (A++H) S (A++R):=.there _ h
theorem qC {x:Nat×Obj} {H S R:GH} (h:Pull H S R):Pull (x::H) S (x::R):=.thereC _ h
theorem Ma {q0 p:Prop} (e0:q0) (h:q0->p:=by intro e0;(repeat (first | refine vs rfl ?_ | refine vt rfl ?_ | refine vf rfl ?_ | refine vm rfl ?_));exact Gw (qk rfl (by simp[e0]) rfl)):p:=h e0
theorem P2 {q0 q1 p:Prop} (e0:q0) (e1:q1) (h:q0->q1->p:=by intro e0 e1;(repeat (first | refine vs rfl ?_ | refine vt rfl ?_ | refine vf rfl ?_ | refine vm rfl ?_));exact Gw (qk rfl (by simp[e0,e1]) rfl)):p:=h e0 e1
theorem Ng {q0 q1 q2 p:Prop} (e0:q0) (e1:q1) (e2:q2) (h:q0->q1->q2->p:=by intro e0 e1 e2;(repeat (first | refine vs rfl ?_ | refine vt rfl ?_ | refine vf rfl ?_ | refine vm rfl ?_));exact Gw (qk rfl (by simp[e0,e1,e2]) rfl)):p:=h e0 e1 e2
theorem V2 {q0 q1 q2 q3 p:Prop} (e0:q0) (e1:q1) (e2:q2) (e3:q3) (h:q0->q1->q2->q3->p:=by intro e0 e1 e2 e3;(repeat (first | refine vs rfl ?_ | refine vt rfl ?_ | refine vf rfl ?_ | refine vm rfl ?_));exact Gw (qk rfl (by simp[e0,e1,e2,e3]) rfl)):p:=h e0 e1 e2 e3
theorem VQf {q0 q1 q2 q3 q4 p:Prop} (e0:q0) (e1:q1) (e2:q2) (e3:q3) (e4:q4) (h:q0->q1->q2->q3->q4->p:=by intro e0 e1 e2 e3 e4;(repeat (first | refine vs rfl ?_ | refine vt rfl ?_ | refine vf rfl ?_ | refine vm rfl ?_));exact Gw (qk rfl (by simp[e0,e1,e2,e3,e4]) rfl)):p:=h e0 e1 e2 e3 e4
theorem VQg {q0 q1 q2 q3 q4 q5 p:Prop} (e0:q0) (e1:q1) (e2:q2) (e3:q3) (e4:q4) (e5:q5) (h:q0->q1->q2->q3->q4->q5->p:=by intro e0 e1 e2 e3 e4 e5;(repeat (first | refine vs rfl ?_ | refine vt rfl ?_ | refine vf rfl ?_ | refine vm rfl ?_));exact Gw (qk rfl (by simp[e0,e1,e2,e3,e4,e5]) rfl)):p:=h e0 e1 e2 e3 e4 e5
theorem VQh {q0 q1 q2 q3 q4 q5 q6 p:Prop} (e0:q0) (e1:q1) (e2:q2) (e3:q3) (e4:q4) (e5:q5) (e6:q6) (h:q0->q1->q2->q3->q4->q5->q6->p:=by intro e0 e1 e2 e3 e4 e5 e6;(repeat (first | refine vs rfl ?_ | refine vt rfl ?_ | refine vf rfl ?_ | refine vm rfl ?_));exact Gw (qk rfl (by simp[e0,e1,e2,e3,e4,e5,e6]) rfl)):p:=h e0 e1 e2 e3 e4 e5 e6
theorem VQi {q0 q1 q2 q3 q4 q5 q6 q7 p:Prop} (e0:q0) (e1:q1) (e2:q2) (e3:q3) (e4:q4) (e5:q5) (e6:q6) (e7:q7) (h:q0->q1->q2->q3->q4->q5->q6->q7->p:=by intro e0 e1 e2 e3 e4 e5 e6 e7;(repeat (first | refine vs rfl ?_ | refine vt rfl ?_ | refine vf rfl ?_ | refine vm rfl ?_));exact Gw (qk rfl (by simp[e0,e1,e2,e3,e4,e5,e6,e7]) rfl)):p:=h e0 e1 e2 e3 e4 e5 e6 e7
theorem VQj {q0 q1 q2 q3 q4 q5 q6 q7 q8 p:Prop} (e0:q0) (e1:q1) (e2:q2) (e3:q3) (e4:q4) (e5:q5) (e6:q6) (e7:q7) (e8:q8) (h:q0->q1->q2->q3->q4->q5->q6->q7->q8->p:=by intro e0 e1 e2 e3 e4 e5 e6 e7 e8;(repeat (first | refine vs rfl ?_ | refine vt rfl ?_ | refine vf rfl ?_ | refine vm rfl ?_));exact Gw (qk rfl (by simp[e0,e1,e2,e3,e4,e5,e6,e7,e8]) rfl)):p:=h e0 e1 e2 e3 e4 e5 e6 e7 e8
theorem VQk {q0 q1 q2 q3 q4 q5 q6 q7 q8 q9 p:Prop} (e0:q0) (e1:q1) (e2:q2) (e3:q3) (e4:q4) (e5:q5) (e6:q6) (e7:q7) (e8:q8) (e9:q9) (h:q0->q1->q2->q3->q4->q5->q6->q7->q8->q9->p:=by intro e0 e1 e2 e3 e4 e5 e6 e7 e8 e9;(repeat (first | refine vs rfl ?_ | refine vt rfl ?_ | refine vf rfl ?_ | refine vm rfl ?_));exact Gw (qk rfl (by simp[e0,e1,e2,e3,e4,e5,e6,e7,e8,e9]) rfl)):p:=h e0 e1 e2 e3 e4 e5 e6 e7 e8 e9
section
variable {P:Program} {n:Nat} {w0:World} {env:HH} {H:GH} {Q:Exit->Act->World->Prop} {ops:Array Oper} {x y:Code} {id:Nat} {l:List Oper} {z:Act->World->Prop}
theorem jT (h:XW P n w0 env H y Q):XW P n w0 env H .skip (Exit.then (y.wp P Q) Q):=GY (Gt h)
theorem jS (h:XW P n w0 env H x (Exit.then (y.wp P Q) Q)):XW P n w0 env H .skip (Exit.then ((Code.seq x y).wp P Q) Q):=GY (Gt (Gu h))
theorem jW (h:XO P n w0 env H l.toArray l (Exit.then (y.wp P Q) Q)):XW P n w0 env H .skip (Exit.then ((Code.seq (.region id l.toArray false) y).wp P Q) Q):=GY (Gt (wS h))
theorem qW (h:XO P n w0 env H l.toArray l (Exit.then (y.wp P Q) Q)):XQ n w0 env H .normal (Exit.then ((Code.seq (.region id l.toArray false) y).wp P Q) Q):=Gt (wS h)
theorem nV (h:XQ n w0 env H .ret Q):XO P n w0 env H ops [] (Exit.then (Code.ret.wp P Q) Q):=nS (Hl h)
theorem nU (h:XQ n w0 env H .ret Q):XO P n w0 env H ops [] (Exit.then (Code.ret.wp P (Exit.then z Q)) (Exit.then z Q)):=nS (Hl (Gx h))
theorem rU (h:XQ n w0 env H .ret Q):XW P n w0 env H .ret (Exit.then z Q):=Hl (Gx h)
theorem nY (h:XW P n w0 env H x (Exit.then (y.wp P Q) Q)):XO P n w0 env H ops [] (Exit.then ((Code.seq x y).wp P Q) Q):=nS (Gu h)
end
theorem Qeb {q0 p:Prop} (e0:q0) (h:q0->p:=by intro e0;first | rfl | (simp only[e0,decide_true,decide_false,bS,reduceIte,Bool.false_eq_true];done) | (simp[e0];done) | (simp_all;done)):p:=h e0
theorem Qxb {x q0 p:Prop} (X:x) (e0:q0) (h:x->q0->p:=by intro X e0;first | exact X | (simp only[e0,decide_true,decide_false,bS,reduceIte,Bool.false_eq_true];done) | (simp[e0];done) | (simp_all;done)):p:=h X e0
theorem Ze {q0 q1 p:Prop} (e0:q0) (e1:q1) (h:q0->q1->p:=by intro e0 e1;first | rfl | (simp only[e0,e1,decide_true,decide_false,bS,reduceIte,Bool.false_eq_true];done) | (simp[e0,e1];done) | (simp_all;done)):p:=h e0 e1
theorem XP {x q0 q1 p:Prop} (X:x) (e0:q0) (e1:q1) (h:x->q0->q1->p:=by intro X e0 e1;first | exact X | (simp only[e0,e1,decide_true,decide_false,bS,reduceIte,Bool.false_eq_true];done) | (simp[e0,e1];done) | (simp_all;done)):p:=h X e0 e1
theorem XS {q0 q1 q2 p:Prop} (e0:q0) (e1:q1) (e2:q2) (h:q0->q1->q2->p:=by intro e0 e1 e2;first | rfl | (simp only[e0,e1,e2,decide_true,decide_false,bS,reduceIte,Bool.false_eq_true];done) | (simp[e0,e1,e2];done) | (simp_all;done)):p:=h e0 e1 e2
theorem Za {x q0 q1 q2 p:Prop} (X:x) (e0:q0) (e1:q1) (e2:q2) (h:x->q0->q1->q2->p:=by intro X e0 e1 e2;first | exact X | (simp only[e0,e1,e2,decide_true,decide_false,bS,reduceIte,Bool.false_eq_true];done) | (simp[e0,e1,e2];done) | (simp_all;done)):p:=h X e0 e1 e2
theorem Qee {q0 q1 q2 q3 p:Prop} (e0:q0) (e1:q1) (e2:q2) (e3:q3) (h:q0->q1->q2->q3->p:=by intro e0 e1 e2 e3;first | rfl | (simp only[e0,e1,e2,e3,decide_true,decide_false,bS,reduceIte,Bool.false_eq_true];done) | (simp[e0,e1,e2,e3];done) | (simp_all;done)):p:=h e0 e1 e2 e3
theorem Qxe {x q0 q1 q2 q3 p:Prop} (X:x) (e0:q0) (e1:q1) (e2:q2) (e3:q3) (h:x->q0->q1->q2->q3->p:=by intro X e0 e1 e2 e3;first | exact X | (simp only[e0,e1,e2,e3,decide_true,decide_false,bS,reduceIte,Bool.false_eq_true];done) | (simp[e0,e1,e2,e3];done) | (simp_all;done)):p:=h X e0 e1 e2 e3
theorem Qef {q0 q1 q2 q3 q4 p:Prop} (e0:q0) (e1:q1) (e2:q2) (e3:q3) (e4:q4) (h:q0->q1->q2->q3->q4->p:=by intro e0 e1 e2 e3 e4;first | rfl | (simp only[e0,e1,e2,e3,e4,decide_true,decide_false,bS,reduceIte,Bool.false_eq_true];done) | (simp[e0,e1,e2,e3,e4];done) | (simp_all;done)):p:=h e0 e1 e2 e3 e4
theorem Qeg {q0 q1 q2 q3 q4 q5 p:Prop} (e0:q0) (e1:q1) (e2:q2) (e3:q3) (e4:q4) (e5:q5) (h:q0->q1->q2->q3->q4->q5->p:=by intro e0 e1 e2 e3 e4 e5;first | rfl | (simp only[e0,e1,e2,e3,e4,e5,decide_true,decide_false,bS,reduceIte,Bool.false_eq_true];done) | (simp[e0,e1,e2,e3,e4,e5];done) | (simp_all;done)):p:=h e0 e1 e2 e3 e4 e5
theorem Qeh {q0 q1 q2 q3 q4 q5 q6 p:Prop} (e0:q0) (e1:q1) (e2:q2) (e3:q3) (e4:q4) (e5:q5) (e6:q6) (h:q0->q1->q2->q3->q4->q5->q6->p:=by intro e0 e1 e2 e3 e4 e5 e6;first | rfl | (simp only[e0,e1,e2,e3,e4,e5,e6,decide_true,decide_false,bS,reduceIte,Bool.false_eq_true];done) | (simp[e0,e1,e2,e3,e4,e5,e6];done) | (simp_all;done)):p:=h e0 e1 e2 e3 e4 e5 e6
theorem Qei {q0 q1 q2 q3 q4 q5 q6 q7 p:Prop} (e0:q0) (e1:q1) (e2:q2) (e3:q3) (e4:q4) (e5:q5) (e6:q6) (e7:q7) (h:q0->q1->q2->q3->q4->q5->q6->q7->p:=by intro e0 e1 e2 e3 e4 e5 e6 e7;first | rfl | (simp only[e0,e1,e2,e3,e4,e5,e6,e7,decide_true,decide_false,bS,reduceIte,Bool.false_eq_true];done) | (simp[e0,e1,e2,e3,e4,e5,e6,e7];done) | (simp_all;done)):p:=h e0 e1 e2 e3 e4 e5 e6 e7
theorem Qej {q0 q1 q2 q3 q4 q5 q6 q7 q8 p:Prop} (e0:q0) (e1:q1) (e2:q2) (e3:q3) (e4:q4) (e5:q5) (e6:q6) (e7:q7) (e8:q8) (h:q0->q1->q2->q3->q4->q5->q6->q7->q8->p:=by intro e0 e1 e2 e3 e4 e5 e6 e7 e8;first | rfl | (simp only[e0,e1,e2,e3,e4,e5,e6,e7,e8,decide_true,decide_false,bS,reduceIte,Bool.false_eq_true];done) | (simp[e0,e1,e2,e3,e4,e5,e6,e7,e8];done) | (simp_all;done)):p:=h e0 e1 e2 e3 e4 e5 e6 e7 e8
theorem Qek {q0 q1 q2 q3 q4 q5 q6 q7 q8 q9 p:Prop} (e0:q0) (e1:q1) (e2:q2) (e3:q3) (e4:q4) (e5:q5) (e6:q6) (e7:q7) (e8:q8) (e9:q9) (h:q0->q1->q2->q3->q4->q5->q6->q7->q8->q9->p:=by intro e0 e1 e2 e3 e4 e5 e6 e7 e8 e9;first | rfl | (simp only[e0,e1,e2,e3,e4,e5,e6,e7,e8,e9,decide_true,decide_false,bS,reduceIte,Bool.false_eq_true];done) | (simp[e0,e1,e2,e3,e4,e5,e6,e7,e8,e9];done) | (simp_all;done)):p:=h e0 e1 e2 e3 e4 e5 e6 e7 e8 e9
theorem Qel {q0 q1 q2 q3 q4 q5 q6 q7 q8 q9 D6 p:Prop} (e0:q0) (e1:q1) (e2:q2) (e3:q3) (e4:q4) (e5:q5) (e6:q6) (e7:q7) (e8:q8) (e9:q9) (u7:D6) (h:q0->q1->q2->q3->q4->q5->q6->q7->q8->q9->D6->p:=by intro e0 e1 e2 e3 e4 e5 e6 e7 e8 e9 u7;first | rfl | (simp only[e0,e1,e2,e3,e4,e5,e6,e7,e8,e9,u7,decide_true,decide_false,bS,reduceIte,Bool.false_eq_true];done) | (simp[e0,e1,e2,e3,e4,e5,e6,e7,e8,e9,u7];done) | (simp_all;done)):p:=h e0 e1 e2 e3 e4 e5 e6 e7 e8 e9 u7
end Go.E
namespace Go.E
theorem okA {a p A B:Prop} (h:a->A->B):a->p/\A->p/\B:=fun e x=>⟨x.1,h e x.2⟩
theorem okI {ρ:Type} {r f f':ρ} {c:Prop} [Decidable c] {A A' B B':Prop} (h:r=f->A->B) (h':r=f'->A'->B'):r=(if c then f else f')->(if c then A else A')->(if c then B else B'):=by
 intro e x
 by_cases hc:c
 .rw[Ae hc] at e x ⊢;exact h e x
 .rw[Af hc] at e x ⊢;exact h' e x
theorem okJ {ρ:Type} {r f f':ρ} {c:Prop} [Decidable c] {B B':Prop} (h:r=f->B) (h':r=f'->B'):r=(if c then f else f')->(if c then B else B'):=by
 intro e
 by_cases hc:c
 .rw[Ae hc] at e ⊢;exact h e
 .rw[Af hc] at e ⊢;exact h' e
theorem okE {T:Type} {v:T} {a b:Prop} {S:T->Prop} (h:a->b->S v):a->b->∃ x,x=v/\S x:=fun e p=>⟨v,rfl,h e p⟩
theorem okL {a b:Prop}:a->b->a:=fun h _=>h
theorem okV {a b:Prop}:a->b->b:=fun _ h=>h
theorem OKW {ρ:Type} {f:ρ} {P:Prop} {S:ρ->Prop} (h:P) (k:∀ r,r=f->P->S r:=by intro r;(repeat' (first | exact okL | exact okV | refine okI ?_ ?_ | refine okA ?_ | refine okE ?_));done):S f:=k f rfl h
theorem Tz {ρ:Type} {f:ρ} {S:ρ->Prop} (k:∀ r,r=f->S r:=by intro r;(repeat' (first | exact id | refine okJ ?_ ?_));done):S f:=k f rfl
theorem Pc {ρ:Type} {f:ρ} {P:Prop} {K:(ρ->Prop)->Prop} (h:P) (k:∀ r,r=f->P->K (Eq r):=by intro r;(repeat' (first | exact okL | exact okV | refine okI ?_ ?_ | refine okA ?_ | refine okE ?_));done):K (Eq f):=k f rfl h
end Go.E
namespace Go.E
open Go
def Aes (n0 nX jE:Int) (r:Bool):Prop:=
 r=((decide (nX<=n0))&&(decide (n0<=jE)))
def HM (n0 nX jE:Int):Bool:=
 (decide (nX<=n0))&&(decide (n0<=jE))
theorem M0 {n0 nX jE}:Aes n0 nX jE (HM n0 nX jE):=Tz
def WT (n0:Int) (r:Bool):Prop:=
 r=((HM n0 1 64))
def JS (n0:Int):Bool:=
 (HM n0 1 64)
theorem RF {n0}:WT n0 (JS n0):=Tz
def AgE (n0:Int) (r:Bool):Prop:=
 r=((HM n0 1 1048576))
def Kh (n0:Int):Bool:=
 (HM n0 1 1048576)
theorem TD {n0}:AgE n0 (Kh n0):=Tz
def Aai (m0:NI) (r:Bool):Prop:=
 if m0 0=11 then
  if m0 1=0 then
   r=((decide (m0 1=0))&&((JS (m0 2))))
  else
   r=(((JS (m0 1)))&&(decide (m0 2=0)))
 else
  if((decide (m0 0=1))||((decide (m0 0=4))||((decide (m0 0=6))||(decide (m0 0=8)))))=true then
   r=((decide (m0 1=0))&&((JS (m0 2))))
  else
   r=(((JS (m0 1)))&&(decide (m0 2=0)))
def Vu (m0:NI):Bool:=
 if m0 0=11 then
  if m0 1=0 then
   (decide (m0 1=0))&&((JS (m0 2)))
  else
   ((JS (m0 1)))&&(decide (m0 2=0))
 else
  if((decide (m0 0=1))||((decide (m0 0=4))||((decide (m0 0=6))||(decide (m0 0=8)))))=true then
   (decide (m0 1=0))&&((JS (m0 2)))
  else
   ((JS (m0 1)))&&(decide (m0 2=0))
theorem AfK {m0}:Aai m0 (Vu m0):=Tz
def WZ (r0:NI) (r:Bool):Prop:=
 r=((((decide (1<=r0 0))&&(decide (r0 0<=250)))&&(decide (0<=r0 1)))&&(decide (r0 1<=250)))
def HQ (r0:NI):Bool:=
 (((decide (1<=r0 0))&&(decide (r0 0<=250)))&&(decide (0<=r0 1)))&&(decide (r0 1<=250))
theorem UC {r0}:WZ r0 (HQ r0):=Tz
def OG (m0:NI) (io sA:Int) (o:(Int) ⊕ ((Unit) ⊕ (Unit))):Prop:=
 if sA<(io.toNat:Int) then
  (0<=sA/\sA<(io.toNat:Nat))/\(
  if m0 (12+(sA.toNat*2))=m0 (12+(io.toNat*2)) then
   o=(.inr (.inr ()))
  else
   (GN (sA+1))/\(
   o=(.inl (sA+1))))
 else
  o=(.inr (.inl ()))
def UI (io:Int) (o:(Int) ⊕ ((Unit) ⊕ (Unit))):Prop:=
 (GN (io+1))/\(
 o=(.inl (io+1)))
def UH (o:(Int) ⊕ ((Unit) ⊕ (Unit))):Prop:=
 o=(.inr (.inr ()))
def OH (m0:NI) (io:Int) (o:(Int) ⊕ ((Unit) ⊕ (Unit))):Prop:=
 if io<8 then
  (0<=io/\io<8)/\(
  if m0 11<=io then
   if((IJ 2 (fun i=>(fun i=>m0 (12+i)) ((io.toNat*2)+i)) (fun _=>0)))=true then
    (GN (io+1))/\(
    o=(.inl (io+1)))
   else
    o=(.inr (.inr ()))
  else
   if((!((Kh (m0 (12+(io.toNat*2))))))||(!((HM (m0 (12+((io.toNat*2)+1))) 1 1048576))))=true then
    o=(.inr (.inr ()))
   else
    (0<=io/\io<=8)/\(
    ∃ x:(Unit) ⊕ (Unit),Wh (fun(s:Int) (o:(Int) ⊕ ((Unit) ⊕ (Unit)))=>OG m0 io s o) (0:Int) x/\(match x with | .inl _=>UI io o | .inr _=>UH o)))
 else
  o=(.inr (.inl ()))
def UK (r:Bool):Prop:=
 r=(true)
def UJ (r:Bool):Prop:=
 r=(false)
def W4 (m0:NI) (r:Bool):Prop:=
 if(((!((HM (m0 11) 1 8)))||(!((Kh (m0 9)))))||(!((HM (m0 10) 0 1048576))))=true then
  r=(false)
 else
  ∃ x:(Unit) ⊕ (Unit),Wh (fun(s:Int) (o:(Int) ⊕ ((Unit) ⊕ (Unit)))=>OH m0 s o) (0:Int) x/\(match x with | .inl _=>UK r | .inr _=>UJ r)
end Go.E
namespace Go.E
open Go
theorem Acw {k:Nat} (h:k<9000000000):GN ((k:Int)+1):=⟨Aa,Aa⟩
def RR (m:Nat->Int) (i k:Nat):Bool:=!decide (m (12+k*2)=m (12+i*2))
def MH (m:Nat->Int) (i:Nat):Bool:=
 if m 11<=i then IJ 2 (fun j=>m (12+(i*2+j))) (fun _=>0)
 else Kh (m (12+i*2))&&HM (m (12+(i*2+1))) 1 1048576&&(List.range i).all (RR m i)
def SV (m:Nat->Int):Bool:=HM (m 11) 1 8&&Kh (m 9)&&HM (m 10) 0 1048576&&(List.range 8).all (MH m)
theorem ZI (m:Nat->Int) (i:Nat) (hi:i<8):Wh (fun(s:Int) (o:Int ⊕ (Unit ⊕ Unit))=>OG m (i:Int) s o) 0 (if(List.range i).all (RR m i)=true then .inl () else .inr ()):=by
 refine Wh.all i (RR m i) _ _ (fun k hk hp=>?_) (fun k hk hp=>?_) ?_
 .unfold OG
  rw[Ae (by simp;exact hk)]
  refine⟨by simp;exact hk,?_⟩
  simp only[RR,Bool.not_eq_true',decide_eq_false_iff_not] at hp
  rw[Af (by simpa using hp)]
  exact⟨Acw Aa,rfl⟩
 .unfold OG
  rw[Ae (by simp;exact hk)]
  refine⟨by simp;exact hk,?_⟩
  simp only[RR,Bool.not_eq_false',decide_eq_true_eq] at hp
  rw[Ae (by simpa using hp)]
 .unfold OG
  rw[Af Ad]
theorem ZJ (m:Nat->Int):Wh (fun(s:Int) (o:Int ⊕ (Unit ⊕ Unit))=>OH m s o) 0 (if(List.range 8).all (MH m)=true then .inl () else .inr ()):=by
 have key:∀ k:Nat,k<8->OH m k (if MH m k=true then .inl ((k:Int)+1) else .inr (.inr ())):=by
  intro k hk
  unfold OH
  rw[Ae Aa]
  refine⟨Aa,?_⟩
  unfold MH
  by_cases h1:m 11<=k
  .rw[Ae h1,Ae h1]
   simp only[Int.toNat_natCast]
   by_cases h2:IJ 2 (fun j=>m (12+(k*2+j))) (fun _=>0)=true
   .rw[Ae h2,Ae h2];exact⟨Acw Aa,rfl⟩
   .rw[Af h2,Af h2]
  .rw[Af h1,Af h1]
   simp only[Int.toNat_natCast]
   by_cases h2:Kh (m (12+k*2))=true
   .by_cases h3:HM (m (12+(k*2+1))) 1 1048576=true
    .rw[Af (by simp[h2,h3])]
     refine⟨Aa,_,ZI m k hk,?_⟩
     by_cases h4:(List.range k).all (RR m k)=true
     .rw[Ae h4,h2,h3,h4]
      exact⟨Acw Aa,rfl⟩
     .rw[Af h4,Af (by simp only[h2,h3,Bool.true_and];exact h4)]
      rfl
    .rw[Ae (by simp[h3]),Af (by simp[h3])]
   .rw[Ae (by simp[h2]),Af (by simp[h2])]
 refine Wh.all 8 (MH m) _ _ (fun k hk hp=>?_) (fun k hk hp=>?_) ?_
 .have:=key k hk;rwa[Ae hp] at this
 .have:=key k hk;rwa[Af (by simp[hp])] at this
 .unfold OH
  rw[Af Aa]
theorem Afp {m:Nat->Int}:W4 m (SV m):=by
 unfold W4 SV
 by_cases h:((!HM (m 11) 1 8)||(!Kh (m 9))||(!HM (m 10) 0 1048576))=true
 .rw[Ae h]
  have:(HM (m 11) 1 8&&Kh (m 9)&&HM (m 10) 0 1048576)=false:=by
   revert h;cases HM (m 11) 1 8 <;> cases Kh (m 9) <;> cases HM (m 10) 0 1048576 <;> simp
  rw[this];rfl
 .rw[Af h]
  have:(HM (m 11) 1 8&&Kh (m 9)&&HM (m 10) 0 1048576)=true:=by
   revert h;cases HM (m 11) 1 8 <;> cases Kh (m 9) <;> cases HM (m 10) 0 1048576 <;> simp
  rw[this,Bool.true_and]
  refine⟨_,ZJ m,?_⟩
  by_cases h1:(List.range 8).all (MH m)=true
  .rw[Ae h1,h1];rfl
  .rw[Af h1];simp only[Bool.not_eq_true] at h1;rw[h1];rfl
end Go.E
namespace Go.E
open Go
def AdY (m0:NI) (r:Bool×NI):Prop:=
 if((decide (m0 0=1))||(decide (m0 0=2)))=true then
  r=((((((HQ (fun i=>m0 (5+i))))&&((HM (m0 7) 1 4)))&&((HM (m0 4) 1 1048576)))&&((Kh (m0 3))),(Gq (Gq (Gq (GX m0 5 2 (fun _=>0)) 7 0) 4 0) 3 0)))
 else
  if m0 0=3 then
   r=((((((HM (m0 4) 1 1048576))&&((HM (m0 8) 1 15)))&&((HM 0 0 1)))&&((Kh (m0 3))),(Gq (Gq (Gq (Gq m0 4 0) 8 0) 8 0) 3 0)))
  else
   if((decide (m0 0=5))||(decide (m0 0=6)))=true then
    r=((((HM (m0 8) 0 1))&&((Kh (m0 3))),(Gq (Gq m0 8 0) 3 0)))
   else
    if((decide (m0 0=4))||((decide (m0 0=7))||((decide (m0 0=8))||(decide (m0 0=9)))))=true then
     r=(((Kh (m0 3)),(Gq m0 3 0)))
    else
     if m0 0=10 then
      r=(((((Kh (m0 3)))&&((Kh (m0 9))))&&(decide (m0 9<m0 3)),(Gq (Gq m0 3 0) 9 0)))
     else
      if m0 0=11 then
       r=(((SV m0),(GX (Gq (Gq (Gq m0 11 0) 9 0) 10 0) 12 16 (fun _=>0))))
      else
       r=((false,m0))
def U1 (m0:NI):Bool×NI:=
 if((decide (m0 0=1))||(decide (m0 0=2)))=true then
  (((((HQ (fun i=>m0 (5+i))))&&((HM (m0 7) 1 4)))&&((HM (m0 4) 1 1048576)))&&((Kh (m0 3))),(Gq (Gq (Gq (GX m0 5 2 (fun _=>0)) 7 0) 4 0) 3 0))
 else
  if m0 0=3 then
   (((((HM (m0 4) 1 1048576))&&((HM (m0 8) 1 15)))&&((HM 0 0 1)))&&((Kh (m0 3))),(Gq (Gq (Gq (Gq m0 4 0) 8 0) 8 0) 3 0))
  else
   if((decide (m0 0=5))||(decide (m0 0=6)))=true then
    (((HM (m0 8) 0 1))&&((Kh (m0 3))),(Gq (Gq m0 8 0) 3 0))
   else
    if((decide (m0 0=4))||((decide (m0 0=7))||((decide (m0 0=8))||(decide (m0 0=9)))))=true then
     ((Kh (m0 3)),(Gq m0 3 0))
    else
     if m0 0=10 then
      ((((Kh (m0 3)))&&((Kh (m0 9))))&&(decide (m0 9<m0 3)),(Gq (Gq m0 3 0) 9 0))
     else
      if m0 0=11 then
       ((SV m0),(GX (Gq (Gq (Gq m0 11 0) 9 0) 10 0) 12 16 (fun _=>0)))
      else
       (false,m0)
theorem AgY {m0}:AdY m0 (U1 m0):=Tz
def Xa (m0:NI) (r:Int):Prop:=
 if((Vu m0))=true then
  if((U1 m0).1)=true then
   if((IJ 28 ((U1 m0).2) (Gq (Gq (Gq (fun _=>0) 0 (m0 0)) 1 (m0 1)) 2 (m0 2))))=true then
    r=(0)
   else
    r=(5)
  else
   r=(5)
 else
  r=(5)
def Js (m0:NI):Int:=
 if((Vu m0))=true then
  if((U1 m0).1)=true then
   if((IJ 28 ((U1 m0).2) (Gq (Gq (Gq (fun _=>0) 0 (m0 0)) 1 (m0 1)) 2 (m0 2))))=true then
    0
   else
    5
  else
   5
 else
  5
theorem UX {m0}:Xa m0 (Js m0):=Tz
end Go.E
namespace Go.E
open Go
theorem P1 {p:Nat->Prop}:(∀ i,i<28->p i)↔(p 0/\p 1/\p 2/\p 3/\p 4/\p 5/\p 6/\p 7/\p 8/\p 9/\p 10/\p 11/\p 12/\p 13/\p 14/\p 15/\p 16/\p 17/\p 18/\p 19/\p 20/\p 21/\p 22/\p 23/\p 24/\p 25/\p 26/\p 27):=
 ⟨fun h=>⟨h 0 (by omega),h 1 (by omega),h 2 (by omega),h 3 (by omega),h 4 (by omega),h 5 (by omega),h 6 (by omega),h 7 (by omega),h 8 (by omega),h 9 (by omega),h 10 (by omega),h 11 (by omega),h 12 (by omega),h 13 (by omega),h 14 (by omega),h 15 (by omega),h 16 (by omega),h 17 (by omega),h 18 (by omega),h 19 (by omega),h 20 (by omega),h 21 (by omega),h 22 (by omega),h 23 (by omega),h 24 (by omega),h 25 (by omega),h 26 (by omega),h 27 (by omega)⟩,fun⟨h0,h1,h2,h3,h4,h5,h6,h7,h8,h9,r3,oJ,DO,FW,FV,FU,FT,FS,FQ,FP,FO,FN,FM,wu,FL,FK,FJ,FI⟩ i hi=>match i,hi with | 0,_=>h0 | 1,_=>h1 | 2,_=>h2 | 3,_=>h3 | 4,_=>h4 | 5,_=>h5 | 6,_=>h6 | 7,_=>h7 | 8,_=>h8 | 9,_=>h9 | 10,_=>r3 | 11,_=>oJ | 12,_=>DO | 13,_=>FW | 14,_=>FV | 15,_=>FU | 16,_=>FT | 17,_=>FS | 18,_=>FQ | 19,_=>FP | 20,_=>FO | 21,_=>FN | 22,_=>FM | 23,_=>wu | 24,_=>FL | 25,_=>FK | 26,_=>FJ | 27,_=>FI | q+28,h=>absurd h (by omega)⟩
theorem AfL (m:Nat->Int):Vu m=Oa m:=by
 unfold Vu Oa shB JS
 have hin:∀ a b c,HM a b c=M3 a b c:=fun a b c=>rfl
 simp only[hin]
 by_cases h1:m 0=11
 .rw[Ae h1,Ae h1]
  by_cases h2:m 1=0
  .rw[Ae h2,Ae h2];simp[h2]
  .rw[Af h2,Af h2]
 .rw[Af h1,Af h1]
  by_cases h2:m 0=1∨m 0=4∨m 0=6∨m 0=8
  .rw[Ae h2,Ae (by simpa using h2)]
  .rw[Af h2,Af (by simpa using h2)]
theorem Aa2 (m:Nat->Int) (i:Nat):RR m i=fun k=>!decide (m (12+k*2+0)=m (12+(i*2+0))):=by
 funext k;simp[RR]
theorem WR (m:Nat->Int) (i:Nat):MH m i=Pa m i:=by
 unfold MH Pa AdT Pd Kh
 rw[AjS,Aa2]
 rfl
theorem Afq (m:Nat->Int):SV m=Pb m:=by
 unfold SV Pb
 rw[show MH m=Pa m from funext (WR m)]
 rfl
theorem AgJ (m:Nat->Int):HQ (fun i=>m (5+i))=W0 (m 5) (m 6):=by
 simp[HQ,W0,M3,Bool.and_assoc]
theorem AgZ (m:Nat->Int):U1 m=(S1 m,TS m):=by
 unfold U1 S1 TS
 have hin:∀ a b c,HM a b c=M3 a b c:=fun a b c=>rfl
 have htx:∀ a,Kh a=Pd a:=fun a=>rfl
 have FY:M3 0 0 1=true:=rfl
 simp only[hin,htx,Afq,AgJ]
 by_cases h1:m 0=1∨m 0=2
 .rw[Ae (by simpa using h1),Ae h1,Ae h1]
 .rw[Af (by simpa using h1),Af h1,Af h1]
  by_cases h2:m 0=3
  .rw[Ae h2,Ae h2,Ae h2,FY,Bool.and_true]
  .rw[Af h2,Af h2,Af h2]
   by_cases h3:m 0=5∨m 0=6
   .rw[Ae (by simpa using h3),Ae h3,Ae h3]
   .rw[Af (by simpa using h3),Af h3,Af h3]
    by_cases h4:m 0=4∨m 0=7∨m 0=8∨m 0=9
    .rw[Ae (by simpa using h4),Ae h4,Ae h4]
    .rw[Af (by simpa using h4),Af h4,Af h4]
     by_cases h5:m 0=10
     .rw[Ae h5,Ae h5,Ae h5]
     .rw[Af h5,Af h5,Af h5]
      by_cases h6:m 0=11
      .rw[Ae h6,Ae h6,Ae h6]
      .rw[Af h6,Af h6,Af h6]
theorem Yv (m:Nat->Int):Js m=if Pf m=true then 0 else 5:=by
 unfold Js Pf
 rw[AgZ,AfL]
 simp only
 show(if Oa m=true then if S1 m=true then if IJ 28 (TS m) (QI m)=true then 0 else 5 else 5 else 5)=_
 cases Oa m <;> cases S1 m <;> cases IJ 28 (TS m) (QI m) <;> rfl
theorem RT (m:Nat->Int):Js m=0↔Pf m=true:=by
 rw[Yv];cases Pf m <;> simp
end Go.E
namespace Go.E
open Go
end Go.E
namespace Go.E
open Go
def LF (a b:Int):Bool:=decide (a=b)
def LD (_ b:Int):Prop:=b≠0
def Mk (e0 i3:Int) (o:(Int) ⊕ ((Unit) ⊕ (Int))):Prop:=
 if i3<=15 then
  (i3≠0)/\(
  (LD e0 i3)/\(
  if((LF e0 i3))=true then
   o=(.inr (.inr i3))
  else
   (GN (i3+1))/\(
   o=(.inl (i3+1)))))
 else
  o=(.inr (.inl ()))
def VA (r:Int):Prop:=
 r=((-1))
def Vz (x2 r:Int):Prop:=
 r=(x2)
def XI (e0 r:Int):Prop:=
 if e0=0 then
  r=(0)
 else
  ∃ x:(Unit) ⊕ (Int),Wh (fun(s:Int) (o:(Int) ⊕ ((Unit) ⊕ (Int)))=>Mk e0 s o) (1:Int) x/\(match x with | .inl _=>VA r | .inr x2=>Vz x2 r)
end Go.E
namespace Go.E
open Go
def Hp (e:Int):Int:=if 0<=e/\e<=15 then e else -1
theorem Ib {e:Int}:XI e (Hp e):=by
 unfold XI
 refine GO (fun h=>?_) (fun h=>?_)
 .subst h;rfl
 .by_cases hr:1<=e/\e<=15
  .refine⟨.inr e,?_,?_⟩
   .have:=aH (f:=fun(s:Int) (o:Int ⊕ (Unit ⊕ Int))=>Mk e s o) (fun k=>(k:Int)+1) (e.toNat-1) (r:=.inr e) ?_ ?_
    .simpa using this
    .intro k hk
     unfold Mk
     rw[Ae Aa]
     refine⟨Aa,by unfold LD;omega,?_⟩
     rw[Af (by simp[LF];omega)]
     exact⟨⟨Aa,Aa⟩,by congr 2⟩
    .unfold Mk
     have e1:((e.toNat-1:Nat):Int)+1=e:=Aa
     simp only[e1]
     rw[Ae Aa]
     refine⟨Aa,by unfold LD;omega,?_⟩
     rw[Ae (by simp[LF])]
     trivial
   .show Hp e=e
    unfold Hp;rw[Ae Aa]
  .refine⟨.inl (),?_,?_⟩
   .have:=aH (f:=fun(s:Int) (o:Int ⊕ (Unit ⊕ Int))=>Mk e s o) (fun k=>(k:Int)+1) 15 (r:=.inl ()) ?_ ?_
    .simpa using this
    .intro k hk
     unfold Mk
     rw[Ae Aa]
     refine⟨Aa,by unfold LD;omega,?_⟩
     rw[Af (by simp[LF];omega)]
     exact⟨⟨Aa,Aa⟩,by congr 2⟩
    .unfold Mk
     rw[Af Aa]
   .show Hp e=-1
    unfold Hp;rw[Af Aa]
end Go.E
namespace Go.E
open Go
section
variable {α:Type}
def AcR (d:List (Int×α)):Prop:=(d.map (·.1)).Nodup
theorem Yw {d:List (Int×α)} {k:Int}:KZ HT d k=true↔k∈d.map (·.1):=by
 induction d with
 | nil=>simp[KZ,Lj]
 | cons p d ih=>
  unfold KZ at ih ⊢
  simp only[Lj,List.map_cons,List.mem_cons]
  by_cases h:k=p.1
  .simp[HT,h]
  .have:HT k p.1=false:=by simp[HT,h]
   rw[this]
   simp[h,ih]
theorem Acr (d:List (Int×α)) (k:Int) (v:α):(IH HT d k v).map (·.1)=if k∈d.map (·.1) then d.map (·.1) else d.map (·.1)++[k]:=by
 induction d with
 | nil=>simp[IH]
 | cons p d ih=>
  simp only[IH]
  by_cases h:k=p.1
  .simp[HT,h]
  .have h':HT k p.1=false:=by simp[HT,h]
   rw[h']
   simp only[Bool.false_eq_true,if_false,List.map_cons,ih,List.mem_cons,h,false_or]
   split <;> simp
theorem V5 {d:List (Int×α)} (h:AcR d) (k:Int) (v:α):AcR (IH HT d k v):=by
 unfold AcR at h ⊢
 rw[Acr]
 split
 .exact h
 .rename_i hk
  exact List.nodup_append.2 ⟨h,Ad,fun a ha b hb=>by simp only[List.mem_singleton] at hb;subst hb;exact fun e=>hk (e▸ha)⟩
theorem Qk {d:List (Int×α)} {k:Int}:k∈Hu d↔KZ HT d k=true:=by
 unfold Hu
 rw[List.mem_mergeSort,Yw]
theorem S6 (d:List (Int×α)):(Hu d).length=d.length:=by
 unfold Hu
 rw[List.length_mergeSort,List.length_map]
theorem Wb {l:List Int} (h:l.Pairwise (fun a b=>a<=b)) (hn:l.Nodup):l.Pairwise (fun a b=>a<b):=by
 refine(List.Pairwise.and h hn).imp ?_
 rintro a b ⟨h1,h2⟩
 omega
theorem WW {d:List (Int×α)} (h:AcR d):(Hu d).Pairwise (fun a b=>a<b):=by
 refine Wb ?_ ?_
 .have:=List.pairwise_mergeSort (le:=leI) (fun a b c h1 h2=>by simp only[leI,decide_eq_true_eq] at *;omega) (fun a b=>by simp only[leI,Bool.or_eq_true,decide_eq_true_eq];omega) (d.map (·.1))
  exact this.imp fun h=>by simpa [leI] using h
 .exact(List.mergeSort_perm _ _).nodup_iff.2 h
theorem UA {l l':List Int} (h:l.Pairwise (fun a b=>a<b)) (h':l'.Pairwise (fun a b=>a<b)) (hm:∀ x,x∈l↔x∈l'):l=l':=by
 have n:∀ {l:List Int},l.Pairwise (fun a b=>a<b)->l.Nodup:=fun h=>h.imp fun h=> Aa
 refine List.Perm.eq_of_pairwise (le:=fun a b=>a<b) (fun a b _ _ h1 h2=>by omega) h h' ?_
 exact(List.perm_ext_iff_of_nodup (n h) (n h')).2 hm
theorem Adk {d:List (Int×α)} (hu:AcR d) {l:List Int} (hl:l.Pairwise (fun a b=>a<b)) (h:∀ x,x∈l↔KZ HT d x=true):Hu d=l:=
 UA (WW hu) hl fun x=>by rw[Qk,h]
end
theorem YV {α:Type} [Inhabited α] {l:List α} {p:α->Bool} {k:Nat} (hk:k<l.length):(l.take (k+1)).filter p=(l.take k).filter p++(if p (l[k]!)=true then [l[k]!] else []):=by
 rw[List.take_add_one,List.getElem?_eq_getElem hk,List.filter_append,getElem!_pos l k hk]
 by_cases h:p l[k]=true <;> simp[h]
theorem AdZ {α β:Type} [Inhabited α] {l:List α} {f:α->β} {k:Nat} (hk:k<l.length):(l.take (k+1)).map f=(l.take k).map f++[f (l[k]!)]:=by
 rw[List.take_add_one,List.getElem?_eq_getElem hk,List.map_append,getElem!_pos l k hk]
 rfl
theorem RC {α:Type} (l:List α):l.take l.length=l:=List.take_of_length_le (Nat.le_refl _)
theorem AdW {α:Type} [Inhabited α] {l:List α} {k:Nat} (hk:k<l.length):l[k]! ∈ l:=by
 rw[getElem!_pos l k hk];exact List.getElem_mem hk
end Go.E
namespace Go.E
open Go
theorem Z8 {α σ:Type} [Inhabited α] {f:σ->α->σ} {z:σ} {l:List α} {k:Nat} (hk:k<l.length):(l.take (k+1)).foldl f z=f ((l.take k).foldl f z) (l[k]!):=by
 rw[List.take_add_one,List.getElem?_eq_getElem hk,List.foldl_append,getElem!_pos l k hk]
 rfl
def Jh (x:Int):List Int->List Int
 | []=>[x]
 | y::r=>if y<x then y::Jh x r else if y=x then y::r else x::y::r
def HL (l:List Int):List Int:=l.foldl (fun out x=>Jh x out) []
def ML (l:List Int):Prop:=l.length<=1000000000
theorem K1 {x y:Int} {l:List Int}:y∈Jh x l↔y=x∨y∈l:=by
 induction l with
 | nil=>simp[Jh]
 | cons z l ih=>
  unfold Jh
  split
  .simp only[List.mem_cons,ih]
   constructor
   .rintro(h | h | h)
    .exact .inr (.inl h)
    .exact .inl h
    .exact .inr (.inr h)
   .rintro(h | h | h)
    .exact .inr (.inl h)
    .exact .inl h
    .exact .inr (.inr h)
  .split
   .rename_i h1 h2
    simp only[List.mem_cons]
    constructor
    .exact .inr
    .rintro(h | h)
     .exact .inl Aa
     .exact h
   .simp only[List.mem_cons]
theorem JY {x:Int} {l:List Int} (h:l.Pairwise fun a b=>a<b):(Jh x l).Pairwise fun a b=>a<b:=by
 induction l with
 | nil=>simp[Jh]
 | cons z l ih=>
  have hz:=List.pairwise_cons.1 h
  unfold Jh
  split
  .rename_i h1
   refine List.pairwise_cons.2 ⟨fun y hy=>?_,ih hz.2⟩
   rcases K1.1 hy with rfl | hy
   .exact h1
   .exact hz.1 y hy
  .split
   .exact h
   .rename_i h1 h2
    refine List.pairwise_cons.2 ⟨fun y hy=>?_,h⟩
    rcases List.mem_cons.1 hy with rfl | hy
    .omega
    .have:=hz.1 y hy;omega
theorem Ad5 (x:Int) (l:List Int):(Jh x l).length<=l.length+1:=by
 induction l with
 | nil=>simp[Jh]
 | cons z l ih=>
  unfold Jh
  split
  .simp only[List.length_cons];omega
  .split <;> simp
theorem UZ {x:Int} {l:List Int}:x∈HL l↔x∈l:=by
 have key:∀ (l out:List Int),x∈l.foldl (fun out x=>Jh x out) out↔x∈out∨x∈l:=by
  intro l
  induction l with
  | nil=>intro out;simp
  | cons y l ih=>
   intro out
   rw[List.foldl_cons,ih,K1,List.mem_cons]
   constructor
   .rintro((h | h) | h)
    .exact .inr (.inl h)
    .exact .inl h
    .exact .inr (.inr h)
   .rintro(h | h | h)
    .exact .inl (.inr h)
    .exact .inl (.inl h)
    .exact .inr h
 unfold HL
 rw[key]
 simp
theorem VX (l:List Int):(HL l).Pairwise fun a b=>a<b:=by
 have key:∀ (l out:List Int),(out.Pairwise fun a b=>a<b)->(l.foldl (fun out x=>Jh x out) out).Pairwise fun a b=>a<b:=by
  intro l
  induction l with
  | nil=>intro out h;exact h
  | cons y l ih=>intro out h;rw[List.foldl_cons];exact ih _ (JY h)
 exact key l [] List.Pairwise.nil
theorem U5 (l:List Int):(HL l).length<=l.length:=by
 have key:∀ (l out:List Int),(l.foldl (fun out x=>Jh x out) out).length<=out.length+l.length:=by
  intro l
  induction l with
  | nil=>intro out;simp
  | cons y l ih=>
   intro out
   rw[List.foldl_cons,List.length_cons]
   have:=ih (Jh y out)
   have:=Ad5 y out
   omega
 have:=key l []
 simpa [HL] using this
def JL (x:Int):List Int->Nat
 | []=>0
 | y::r=>if y<x then JL x r+1 else 0
theorem WS (x:Int) (l:List Int):JL x l<=l.length:=by
 induction l with
 | nil=>simp[JL]
 | cons y r ih=>unfold JL;split <;> simp;omega
theorem AaM {x:Int} {l:List Int} {k:Nat} (h:k<JL x l):l[k]! < x:=by
 induction l generalizing k with
 | nil=>simp[JL] at h
 | cons y r ih=>
  unfold JL at h
  split at h
  .cases k with
   | zero=>simpa
   | succ k=>simpa using ih (by omega)
  .omega
theorem AaN {x:Int} {l:List Int} (h:JL x l<l.length):¬ l[JL x l]! < x:=by
 induction l with
 | nil=>simp at h
 | cons y r ih=>
  unfold JL at h ⊢
  split
  .rename_i hy
   rw[Ae hy] at h
   simp only[List.length_cons] at h
   simpa using ih Aa
  .rename_i hy
   simpa using hy
theorem Wu (x:Int) (l:List Int):Jh x l=if JL x l<l.length/\l[JL x l]! = x then l else l.take (JL x l)++[x]++l.drop (JL x l):=by
 induction l with
 | nil=>simp[Jh,JL]
 | cons y r ih=>
  unfold Jh JL
  by_cases h:y<x
  .rw[Ae h,Ae h,ih]
   simp only[List.length_cons,Nat.add_lt_add_iff_right,List.take_succ_cons,List.drop_succ_cons]
   have:(y::r)[JL x r+1]! = r[JL x r]!:=Ad
   rw[this]
   split <;> simp
  .rw[Af h,Af h]
   by_cases h2:y=x
   .rw[Ae h2,Ae ⟨Ad,by simpa using h2⟩]
   .rw[Af h2,Af (fun h=>h2 (by simpa using h.2))]
    simp
def JI (a b:List Int):Bool:=decide (a=b)
def PJ (a _:List Int):Prop:=a.length<9000000000000000000
theorem Tj (a:List Int):JI a a=true:=by simp[JI]
theorem Ahv {a b:List Int} (hl:a.length=b.length):(List.range a.length).all (fun k=>decide (a[k]! = b[k]!))=decide (a=b):=by
 rw[Bool.eq_iff_iff,List.all_eq_true,decide_eq_true_eq]
 constructor
 .intro h
  refine List.ext_getElem hl fun i h1 h2=>?_
  have:=h i (List.mem_range.2 h1)
  rwa[decide_eq_true_eq,getElem!_pos a i h1,getElem!_pos b i h2] at this
 .rintro rfl
  exact fun i _=> Ad
def IC (s:List Int) (v:Int):Bool:=decide (v∈s)
def L6 (s:List Int) (_:Int):Prop:=s.length<=1000000000
theorem Abz (s:List Int) (v:Int):s.any (fun x=>decide (v=x))=IC s v:=by
 unfold IC
 rw[Bool.eq_iff_iff,List.any_eq_true,decide_eq_true_eq]
 constructor
 .rintro⟨x,hx,h⟩
  rw[decide_eq_true_eq] at h
  rw[h];exact hx
 .exact fun h=>⟨v,h,Ad⟩
def Agq (l:LM):List Int:=l.flatMap fun e=>[e 0,e 2]
end Go.E
namespace Go.E
open Go Go.Proofs Go.Shelf Go.RowKit Go.Sort Go.Proofs.Tryz
section
variable {P:Program} {ρm:Ren}
theorem AeG (LM:SlLaysM.n5 P ρm) {w:World} {v:Value} {B:GH} {T:TypeId} {l:List Int} (hJ:OJ T 1 ic B v l) (hB:∀ b o,(b,o)∈B->w.heap[b]? = some o) (hnd:(keys B).Nodup) (hl:l.length<=1000000000000) :
  Con P (ρm.f 5) #[v] w (fun u F=>u=.tuple #[]/\OJ T 1 ic F v (l.mergeSort leI)/\Cov w B F):=by
 have hst:St w B w:=⟨rfl,rfl,rfl,Nat.le_refl _,hB,hnd,fun _ _ _=>rfl⟩
 have hJ':=hJ
 rcases hJ with ⟨rfl,rfl⟩ | ⟨b,o,cap,N,F,hm,rfl,h1,h2,h3,h4⟩
 .refine Calls.mono (AnyM.slices_Sort_int_none LM none 0 w) ?_
  rintro e w' ⟨rfl,rfl⟩
  exact⟨_,B,rfl,hst,rfl,by simpa using hJ',Cov.refl _⟩
 .have hb:=hB _ _ hm
  have hbs:b<w.heap.size:=(Array.getElem?_eq_some_iff.1 hb).1
  have hH:Holds (Value.int .i64) w b o l.toArray:=by
   intro j hj
   have hj':j<l.length:=by simpa using hj
   refine⟨?_,by simp[World.frozen?,hb,BK]⟩
   rw[Kc hb Aa,h4 j Aa,O0 hj',getElem!_pos l.toArray j hj]
   rfl
  refine Calls.mono (AnyM.slices_Sort_int LM b o cap l w hH hbs Aa) ?_
  rintro e w' ⟨rfl,n,os,rfl⟩
  have hls:(l.mergeSort leI).length=l.length:=List.length_mergeSort _
  generalize hd:(l.mergeSort fun x y=>decide (x<=y))=s
  have hs:l.mergeSort leI=s:=hd
  rw[hs] at hls
  have hnew:(grow (putRow (Value.int .i64) (Sort.ahead w n) b o s.toArray) os).heap[b]? = some (.cells (putCells (Value.int .i64) o s.toArray (CV N F)) T (0,0)):=by
   rw[heap_grow_old _ _ (by simpa using hbs)]
   simp[putRow,mapBlock,Sort.ahead,Array.getElem?_modify,hb,onCells,BK]
  have hsz:(putCells (Value.int .i64) o s.toArray (CV N F)).size=N:=by simp[putCells]
  have hget:∀ i,i<s.length->(putCells (Value.int .i64) o s.toArray (CV N F)).getD (o+i) undef=eG 1 ic s i:=by
   intro i hi
   have hoi:o+i<N:=Aa
   rw[O0 hi,Array.getD_eq_getD_getElem?]
   simp[putCells,KB hoi,hoi,hi,ic]
  obtain⟨B',hB'⟩:=aJ (BK N (fun i=>(putCells (Value.int .i64) o s.toArray (CV N F)).getD i undef) T) hm
  have hBK:(grow (putRow (Value.int .i64) (Sort.ahead w n) b o s.toArray) os).heap[b]? = some (BK N (fun i=>(putCells (Value.int .i64) o s.toArray (CV N F)).getD i undef) T):=by
   rw[hnew]
   unfold BK
   have:=AbF (putCells (Value.int .i64) o s.toArray (CV N F))
   rw[hsz] at this
   rw[<- this]
  have hold:∀ k,k<w.heap.size->k≠b->(grow (putRow (Value.int .i64) (Sort.ahead w n) b o s.toArray) os).heap[k]? = w.heap[k]?:=by
   intro k hk hne
   rw[heap_grow_old _ _ (by simpa using hk)]
   have:b≠k:=fun e=>hne e.symm
   simp[putRow,mapBlock,Sort.ahead,Array.getElem?_modify,this]
  refine⟨_,B',rfl,⟨rfl,rfl,rfl,Ad,fun k x hk=>?_,by rw[hB'.keys];exact hnd,fun k hk hnk=>hold k hk fun e=>hnk (by rw[hB'.keys,e];exact hB'.mem)⟩,rfl,?_,Cov.upd hB'⟩
  .rcases hB'.spec hnd k x hk with ⟨rfl,rfl⟩ | ⟨hne,hk⟩
   .exact hBK
   .have hx:=hB _ _ hk
    rw[hold k (Array.getElem?_eq_some_iff.1 hx).1 hne]
    exact hx
  .exact .inr ⟨b,o,cap,N,_,hB'.isin,by rw[hls],Aa,Aa,h3,fun i hi=>by rw[hget i Aa]⟩
def Yc (l:List Int):List Int:=l.mergeSort leI
def Pp (l:List Int):Prop:=l.length<=1000000000000
theorem AcD (LM:SlLaysM.n5 P ρm) {w:World} {v:Value} {B:GH} {T:TypeId} {l:List Int} (hJ:OJ T 1 ic B v l) (hB:Has w (cat [B])) (hl:Pp l) :
  Con P (ρm.f 5) #[v] w (IF fun u Ls=>Cov w (cat [B]) (cat Ls)/\u=.tuple #[]/\∃ C,Ls=[C]/\OJ T 1 ic C v (Yc l)/\Cov w B C):=by
 have e:cat [B]=B:=by simp[cat]
 rw[e] at hB ⊢
 refine(AeG LM hJ hB.1 hB.2 hl).mono fun u F ⟨h1,h2,h3⟩=>⟨[F],by simp[cat],?_,h1,F,rfl,h2,h3⟩
 show Cov w B (cat [F])
 simpa [cat] using h3
end
end Go.E
namespace Go.E
open Go
def row (F:Nat->Value) (o:Nat) (vs:List Value):Nat->Value:=fun k=>if o<=k/\k<o+vs.length then vs.getD (k-o) undef else F k
structure Same (b:Nat) (w w':World):Prop where
 os:w'.os=w.os
 tape:w'.tape=w.tape
 output:w'.output=w.output
 size:w'.heap.size=w.heap.size
 other:∀ k,k≠b->w'.heap[k]? = w.heap[k]?
theorem Same.refl (b:Nat) (w:World):Same b w w:=⟨rfl,rfl,rfl,rfl,fun _ _=>rfl⟩
theorem Same.trans {b:Nat} {u v w:World} (h:Same b u v) (k:Same b v w):Same b u w:=
 ⟨k.os.trans h.os,k.tape.trans h.tape,k.output.trans h.output,k.size.trans h.size,fun i hi=>(k.other i hi).trans (h.other i hi)⟩
theorem WU (w:World) (b o:Nat) (v:Value):Same b w (w.setCell ⟨b,o,none⟩ v):=by
 refine⟨rfl,rfl,rfl,by simp[World.setCell],fun k hk=>?_⟩
 have:b≠k:=fun e=>hk e.symm
 simp[World.setCell,Array.getElem?_modify,this]
theorem Zz {w:World} {b o N:Nat} {F:Nat->Value} {T:TypeId} {v:Value} (h:w.heap[b]? = some (BK N F T)) (ho:o<N):(w.setCell ⟨b,o,none⟩ v).heap[b]? = some (BK N (upd F o v) T):=by
 have e:(CV N F).setIfInBounds o v=CV N (upd F o v):=by
  refine Sf Ad fun i hi=>?_
  rw[Array.getElem?_setIfInBounds]
  by_cases hio:o=i
  .subst hio
   simp[ho,upd]
  .rw[Af hio,KB hi]
   simp only[upd]
   rw[Af (fun e=>hio e.symm)]
 simp only[World.setCell,Array.getElem?_modify,h,BK]
 simp[e]
theorem KF:∀ (vs:List Value) {w:World} {b o N:Nat} {F:Nat->Value} {T:TypeId},w.heap[b]? = some (BK N F T)->o+vs.length<=N->(w.setCells b o vs).heap[b]? = some (BK N (row F o vs) T)/\Same b w (w.setCells b o vs)
 | [],w,b,o,N,F,T,h,_=>⟨by
   rw[show World.setCells w b o []=w from rfl,h]
   refine congrArg some (Rm fun i hi=>?_)
   unfold row
   rw[Af Ad],Same.refl b w⟩
 | v::vs,w,b,o,N,F,T,h,ho=>by
  simp only[List.length_cons] at ho
  obtain⟨h1,h2⟩:=KF vs (Zz (v:=v) (o:=o) h Aa) (o:=o+1) Aa
  refine⟨?_,(WU w b o v).trans h2⟩
  show((w.setCell ⟨b,o,none⟩ v).setCells b (o+1) vs).heap[b]? = _
  rw[h1]
  refine congrArg some (Rm fun i hi=>?_)
  unfold row
  simp only[List.length_cons]
  by_cases h3:o+1<=i/\i<o+1+vs.length
  .rw[Ae h3,Ae Aa,show i-o=(i-(o+1))+1 by omega]
   simp
  .rw[Af h3]
   by_cases h4:i=o
   .subst h4
    rw[Ae Aa]
    simp[upd]
   .rw[Af Aa]
    simp only[upd]
    rw[Af h4]
end Go.E
namespace Go.E
open Go Go.Proofs Go.Shelf Go.RowKit Go.Proofs.Tryz
section
variable {P:Program} {ρ:Ren}
def Iw (l:List Int) (i:Nat) (x:Int):List Int:=l.take i++[x]++l.drop i
theorem Ws {l:List Int} {i:Nat} {x:Int} (hi:i<=l.length):(Iw l i x).length=l.length+1:=by
 unfold Iw;simp;omega
theorem R8 {l:List Int} {i:Nat} {x:Int} (hi:i<=l.length) {k:Nat} (hk:k<l.length+1) :
  eG 1 ic (Iw l i x) k=if k<i then .int .i64 (l.getD k 0) else if k=i then .int .i64 x else .int .i64 (l.getD (k-1) 0):=by
 have hlen:=Ws (x:=x) hi
 rw[O0 (show k<(Iw l i x).length by omega)]
 show Value.int .i64 ((Iw l i x)[k]'Aa)=_
 have e:(Iw l i x)[k]'Aa=if k<i then l.getD k 0 else if k=i then x else l.getD (k-1) 0:=by
  unfold Iw
  by_cases h1:k<i
  .rw[Ae h1,List.getElem_append_left (by simp;omega),List.getElem_append_left (by simp;omega),List.getElem_take,List.getD_eq_getElem?_getD,List.getElem?_eq_getElem Aa]
   rfl
  .rw[Af h1]
   by_cases h2:k=i
   .subst h2
    rw[Ae rfl,List.getElem_append_left (by simp;omega),List.getElem_append_right (by simp;omega)]
    simp
   .rw[Af h2,List.getElem_append_right (by simp;omega),List.getElem_drop,List.getD_eq_getElem?_getD,List.getElem?_eq_getElem Aa]
    simp only[Option.getD_some]
    congr 1
    simp
    omega
 rw[e]
 split
 .rfl
 .split <;> rfl
theorem Aa1 {w w':World} {B:GH} {T:TypeId} {l':List Int} {C:Array Value} {n:Nat} (hB:Has w B) (os:w'.os=w.os) (tape:w'.tape=w.tape) (out:w'.output=w.output) (hs:w.heap.size<=w'.heap.size) (hn:w'.heap[w.heap.size]? = some (.cells C T (0,0))) (ho:∀ k,k<w.heap.size->w'.heap[k]? = w.heap[k]?) (hc:C.size=n) (hl:l'.length<=n) (hm:n<=maxLen) (hg:∀ k,k<l'.length->C[k]? = some (eG 1 ic l' k)) :
  ∃ F,St w F w'/\OJ T 1 ic F (.slice (some ⟨w.heap.size,0,none⟩) l'.length n) l'/\Cov w B F:=by
 have hlt:∀ k,k∈keys B->k<w.heap.size:=fun k hk=>by
  obtain⟨⟨b,o⟩,hm,rfl⟩:=List.mem_map.1 hk
  exact(Array.getElem?_eq_some_iff.1 (hB.1 b o hm)).1
 have hBK:w'.heap[w.heap.size]? = some (BK n (fun k=>C.getD k undef) T):=by
  rw[hn]
  unfold BK
  have:=AbF C
  rw[hc] at this
  rw[<- this]
 refine⟨(w.heap.size,BK n (fun k=>C.getD k undef) T)::B,⟨os,tape,out,hs,fun b o hm=>?_,?_,fun k hk _=>ho k hk⟩,?_,?_⟩
 .rcases List.mem_cons.1 hm with e | hm
  .cases e;exact hBK
  .have hx:=hB.1 b o hm
   rw[ho b (Array.getElem?_eq_some_iff.1 hx).1];exact hx
 .rw[keys_cons]
  exact List.nodup_cons.2 ⟨fun hh=>Nat.lt_irrefl _ (hlt _ hh),hB.2⟩
 .refine .inr ⟨w.heap.size,0,n,n,_,List.mem_cons_self,rfl,hl,Aa,hm,fun k hk=>?_⟩
  rw[Nat.zero_add,Array.getD_eq_getD_getElem?,hg k Aa]
  rfl
 .refine⟨fun k hk=>?_,fun k hk=>?_⟩
  .rw[keys_cons] at hk
   rcases List.mem_cons.1 hk with rfl | hk
   .exact .inr (Nat.le_refl _)
   .exact .inl hk
  .rw[keys_cons];exact List.mem_cons_of_mem _ hk
theorem Yf {w w':World} {B:GH} {T:TypeId} {l':List Int} {b o cap N:Nat} {F F':Nat->Value} (hB:Has w B) (hm:(b,BK N F T)∈B) (os:w'.os=w.os) (tape:w'.tape=w.tape) (out:w'.output=w.output) (hs:w'.heap.size=w.heap.size) (hn:w'.heap[b]? = some (BK N F' T)) (ho:∀ k,k≠b->w'.heap[k]? = w.heap[k]?) (hl:l'.length<=cap) (hN:o+cap*1<=N) (hc:cap<=maxLen) (hg:∀ k,k<l'.length->F' (o+k)=eG 1 ic l' k) :
  ∃ B',St w B' w'/\OJ T 1 ic B' (.slice (some ⟨b,o,none⟩) l'.length cap) l'/\Cov w B B':=by
 obtain⟨B',hB'⟩:=aJ (BK N F' T) hm
 have hst:St w B w:=⟨rfl,rfl,rfl,Nat.le_refl _,hB.1,hB.2,fun _ _ _=>rfl⟩
 exact⟨B',hst.upd hB' hn ho os tape out hs,.inr ⟨b,o,cap,N,F',hB'.isin,rfl,hl,hN,hc,fun k hk=>hg k Aa⟩,Cov.upd hB'⟩
theorem Sh (n:Nat):(Builtin.zeroCells (Value.int .i64 0).cells n).size=n:=by
 simp[Builtin.zeroCells,Value.cells]
theorem PL (w:World) (o:Obj):(w.drew.alloc o).heap=w.heap.push o:=rfl
theorem Aal (L:Lays2.n21 P ρ) {w:World} {v:Value} {B:GH} {l:List Int} {i:Nat} {x:Int} {vb:Nat} {T':TypeId} (hJ:OJ (ρ.t 3) 1 ic B v l) (hB:Has w B) (hvb:w.heap[vb]? = some (BK 1 (fun _=>.int .i64 x) T')) (hne:vb∉keys B) (hi:i<=l.length) (hl:l.length<=1000000000000) :
  Con P (ρ.f 21) #[v,.int .i64 i,.slice (some ⟨vb,0,none⟩) 1 1] w (fun u F=>OJ (ρ.t 3) 1 ic F u (Iw l i x)/\Cov w B F):=by
 have hlen:=Ws (x:=x) hi
 have hvs:∀ j u,[Value.int .i64 x][j]? = some u->w.cell? ⟨vb,0+j,none⟩=some u:=by
  intro j u hj
  cases j with
  | zero=>
   simp only[List.getElem?_cons_zero,Option.some.injEq] at hj
   rw[<- hj]
   exact Kc hvb Aa
  | succ j=>simp at hj
 have BQ:∀ u∈[Value.int .i64 x],u.oneCell'=true:=fun u hu=>by rw[List.mem_singleton.1 hu];rfl
 have hmax:l.length+1<=maxLen:=by simp[maxLen];omega
 have endNew:∀ {base:Option Addr} {c:Nat},i=l.length->l.length<=c->c<l.length+1->(base=none->l.length=0)->(∀ a,base=some a->∀ j u,(l.map (Value.int .i64))[j]? = some u->w.cell? (a.add j)=some u) ->
   Con P (ρ.f 21) #[.slice base l.length c,.int .i64 i,.slice (some ⟨vb,0,none⟩) 1 1] w (fun u F=>OJ (ρ.t 3) 1 ic F u (Iw l i x)/\Cov w B F):=by
  intro base c he Fi Fh hnil hcs
  subst he
  refine Calls.mono (Any2.slices_Insert_int_end_grow L base l.length c vb 0 1 1 (l.map (Value.int .i64)) [Value.int .i64 x] w Aa Fi Fh Aa Ad rfl hnil hcs hvs BQ) ?_
  rintro e w' ⟨rfl,rfl⟩
  have hge:=grownCap_ge w (l.length+1) c (ρ.t 3)
  have hle:=grownCap_le_maxLen w (l.length+1) c (ρ.t 3) hmax
  generalize grownCap w (l.length+1) c (ρ.t 3)=cap at hge hle ⊢
  obtain⟨F,h1,h2,h3⟩:=Aa1 (w:=w) (w':=w.drew.alloc (.cells ((l.map (Value.int .i64)++[Value.int .i64 x]).toArray++Builtin.zeroCells (Value.int .i64 0).cells (cap-(l.length+1))) (ρ.t 3))) (T:=ρ.t 3) (l':=Iw l l.length x) (n:=cap) hB rfl rfl rfl (by rw[PL,Array.size_push];omega) (by rw[PL,Array.getElem?_push,Ae rfl]) (fun k hk=>by rw[PL,Array.getElem?_push,Af Aa]) (by rw[Array.size_append,Sh];simp;omega) Aa hle (fun k hk=>by
   rw[hlen] at hk
   rw[R8 hi hk,Array.getElem?_append_left (by simp;omega)]
   by_cases h1:k<l.length
   .rw[Ae h1]
    simp[List.getElem?_append_left,h1]
   .rw[Af h1,Ae Aa,show k=l.length by omega]
    simp)
  rw[hlen] at h2
  exact⟨_,F,rfl,h1,h2,h3⟩
 rcases hJ with ⟨rfl,rfl⟩ | ⟨b,o,cap,N,F,hm,rfl,h1,h2,h3,h4⟩
 .exact endNew (by simpa using hi) (Nat.le_refl _) Ad (fun _=>rfl) (fun a ha=>by cases ha)
 .have hb:=hB.1 _ _ hm
  have hbs:b<w.heap.size:=(Array.getElem?_eq_some_iff.1 hb).1
  have hcs:∀ j u,(l.map (Value.int .i64))[j]? = some u->w.cell? ⟨b,o+j,none⟩=some u:=by
   intro j u hj
   rw[List.getElem?_map] at hj
   obtain⟨z,hz,rfl⟩:=Option.map_eq_some_iff.1 hj
   obtain⟨hjl,rfl⟩:=List.getElem?_eq_some_iff.1 hz
   rw[Kc hb Aa,h4 j Aa,O0 hjl]
   rfl
  by_cases hroom:l.length+1<=cap
  .by_cases hie:i=l.length
   .subst hie
    refine Calls.mono (Any2.slices_Insert_int_end_room L b o l.length cap vb 0 1 1 [Value.int .i64 x] w Aa hroom (by simp[maxLen] at h3;omega) rfl (fun j hj=>by rw[Kc hb Aa];rfl) (fun j hj=>by simp[World.frozen?,hb,BK]) hvs BQ) ?_
    rintro e w' ⟨rfl,rfl⟩
    obtain⟨g1,g2⟩:=KF [Value.int .i64 x] (o:=o+l.length) hb (by simp;omega)
    obtain⟨B',s1,s2,s3⟩:=Yf (l':=Iw l l.length x) (o:=o) (cap:=cap) hB hm g2.os g2.tape g2.output g2.size g1 g2.other Aa h2 h3 (fun k hk=>by
     rw[hlen] at hk
     rw[R8 hi hk]
     unfold row
     simp only[List.length_singleton]
     by_cases oe:k<l.length
     .rw[Af Aa,Ae oe,h4 k Aa,O0 oe,List.getD_eq_getElem?_getD,List.getElem?_eq_getElem oe]
      rfl
     .rw[Ae Aa,Af oe,Ae Aa,show o+k-(o+l.length)=0 by omega]
      rfl)
    rw[hlen] at s2
    exact⟨_,B',rfl,s1,s2,s3⟩
   .have hil:i<l.length:=Aa
    have hbk:b∈keys B:=List.mem_map.2 ⟨_,hm,rfl⟩
    refine Calls.mono (Any2.slices_Insert_int_shift L b o l.length cap i vb 0 1 1 (l.map (Value.int .i64)) [Value.int .i64 x] w hil Aa hroom (by simp[maxLen] at h3;omega) (fun e=>hne (e▸hbk)) Ad rfl hcs (fun j hj=>by rw[Kc hb Aa];rfl) (fun j hj=>by simp[World.frozen?,hb,BK]) hvs
     (fun u hu=>by obtain⟨z,_,rfl⟩:=List.mem_map.1 hu;rfl) BQ T' (ρ.t 3) 1 N (by simp[World.shape?,hvb,BK]) (by simp[World.shape?,hb,BK]) Aa (by simp[World.frozen?,hvb,BK]) (by simp[World.frozen?,hvb,BK])) ?_
    rintro e w' ⟨rfl,rfl⟩
    obtain⟨g1,g2⟩:=KF ((l.map (Value.int .i64)).drop i) (w:=w.drew) (o:=o+(i+1)) (show w.drew.heap[b]? = _ from hb) (by simp;omega)
    obtain⟨k1,k2⟩:=KF [Value.int .i64 x] (o:=o+i) g1 (by simp;omega)
    have g:=g2.trans k2
    obtain⟨B',s1,s2,s3⟩:=Yf (l':=Iw l i x) (o:=o) (cap:=cap) hB hm g.os g.tape g.output g.size k1 g.other Aa h2 h3 (fun k hk=>by
     rw[hlen] at hk
     rw[R8 hi hk]
     unfold row
     simp only[List.length_singleton,List.length_drop,List.length_map]
     by_cases oe:k<i
     .rw[Af Aa,Af Aa,Ae oe,h4 k Aa,O0 Aa,List.getD_eq_getElem?_getD,List.getElem?_eq_getElem (show k<l.length by omega)]
      rfl
     .by_cases AB:k=i
      .subst AB
       rw[Ae Aa,Af oe,Ae rfl,Nat.sub_self]
       rfl
      .rw[Af Aa,Ae Aa,Af oe,Af AB,show o+k-(o+(i+1))=k-(i+1) by omega,List.getD_eq_getElem?_getD,List.getElem?_drop,show i+(k-(i+1))=k-1 by omega,List.getElem?_map,List.getD_eq_getElem?_getD,List.getElem?_eq_getElem (show k-1<l.length by omega)]
       rfl)
    rw[hlen] at s2
    exact⟨_,B',rfl,s1,s2,s3⟩
  .by_cases hie:i=l.length
   .exact endNew hie h1 Aa (fun h=>by cases h) (fun a ha j u hj=>by
     cases ha
     rw[Addr.add_lit]
     exact hcs j u hj)
   .have hil:i<l.length:=Aa
    refine Calls.mono (Any2.slices_Insert_int_grow L b o l.length cap i vb 0 1 1 (l.map (Value.int .i64)) [Value.int .i64 x] w hil Aa h1 Aa Aa Ad rfl hcs hvs (fun u hu=>by obtain⟨z,_,rfl⟩:=List.mem_map.1 hu;rfl) BQ) ?_
    rintro e w' ⟨rfl,rfl⟩
    have hge:=grownCap_ge w (l.length+1) cap (ρ.t 3)
    have hle:=grownCap_le_maxLen w (l.length+1) cap (ρ.t 3) hmax
    generalize grownCap w (l.length+1) cap (ρ.t 3)=cp at hge hle ⊢
    generalize hA:(((l.map (Value.int .i64)).take i).toArray++Builtin.zeroCells (Value.int .i64 0).cells (l.length+1-i)++Builtin.zeroCells (Value.int .i64 0).cells (cp-(l.length+1)))=A
    have hAs:A.size=cp:=by
     rw[<- hA,Array.size_append,Array.size_append,Sh,Sh]
     simp
     omega
    have g0:(w.alloc (.cells A (ρ.t 3))).drew.heap[w.heap.size]? = some (BK cp (fun k=>A.getD k undef) (ρ.t 3)):=by
     show(w.heap.push _)[w.heap.size]? = _
     rw[Array.getElem?_push,Ae rfl]
     have:=AbF A
     rw[hAs] at this
     unfold BK
     rw[<- this]
    obtain⟨g1,g2⟩:=KF [Value.int .i64 x] (o:=i) g0 (by simp;omega)
    obtain⟨k1,k2⟩:=KF ((l.map (Value.int .i64)).drop i) (w:=((w.alloc (.cells A (ρ.t 3))).drew.setCells w.heap.size i [Value.int .i64 x]).drew) (o:=i+1) (show((w.alloc (.cells A (ρ.t 3))).drew.setCells w.heap.size i [Value.int .i64 x]).drew.heap[w.heap.size]? = _ from g1) (by simp;omega)
    obtain⟨F2,s1,s2,s3⟩:=Aa1 (l':=Iw l i x) (T:=ρ.t 3) (n:=cp) hB (k2.os.trans g2.os) (k2.tape.trans g2.tape) (k2.output.trans g2.output)
     (by
      have e1:=k2.size.trans g2.size
      rw[e1]
      show w.heap.size<=(w.heap.push _).size
      rw[Array.size_push];omega) k1 (fun k hk=>by
      rw[k2.other k Aa]
      show((w.alloc (.cells A (ρ.t 3))).drew.setCells w.heap.size i [Value.int .i64 x]).heap[k]? = _
      rw[g2.other k Aa]
      show(w.heap.push _)[k]? = _
      rw[Array.getElem?_push,Af Aa]) Ad Aa hle (fun k hk=>by
      rw[hlen] at hk
      rw[R8 hi hk,KB Aa]
      unfold row
      simp only[List.length_singleton,List.length_drop,List.length_map]
      by_cases oe:k<i
      .rw[Af Aa,Af Aa,Ae oe,<- hA,Array.getD_eq_getD_getElem?,Array.getElem?_append_left (by simp;omega),Array.getElem?_append_left (by simp;omega)]
       simp[List.getElem?_take,oe,List.getElem?_eq_getElem (show k<l.length by omega)]
      .by_cases AB:k=i
       .subst AB
        rw[Af Aa,Ae Aa,Af oe,Ae rfl,Nat.sub_self]
        rfl
       .rw[Ae Aa,Af oe,Af AB,List.getD_eq_getElem?_getD,List.getElem?_drop,show i+(k-(i+1))=k-1 by omega,List.getElem?_map,List.getD_eq_getElem?_getD,List.getElem?_eq_getElem (show k-1<l.length by omega)]
        rfl)
    rw[hlen] at s2
    exact⟨_,F2,rfl,s1,s2,s3⟩
theorem Y1 (L:Lays2.n21 P ρ) {w:World} {v:Value} {B:GH} {l:List Int} {i x:Int} {vb:Nat} {T':TypeId} (hJ:OJ (ρ.t 3) 1 ic B v l) (hB:Has w (cat [B])) (hvb:w.heap[vb]? = some (BK 1 (fun _=>.int .i64 x) T')) (hne:vb∉keys B) (h0:0<=i/\i<=l.length) (hl:Pp l) :
  Con P (ρ.f 21) #[v,.int .i64 i,.slice (some ⟨vb,0,none⟩) 1 1] w (IF fun u Ls=>Cov w (cat [B]) (cat Ls)/\∃ C,Ls=[C]/\OJ (ρ.t 3) 1 ic C u (Iw l i.toNat x)/\Cov w B C):=by
 have e:cat [B]=B:=by simp[cat]
 rw[e] at hB ⊢
 have:=Aal L (i:=i.toNat) (x:=x) hJ hB hvb hne Aa hl
 rw[show((i.toNat:Nat):Int)=i by omega] at this
 refine this.mono fun u F ⟨h1,h2⟩=>⟨[F],by simp[cat],?_,F,rfl,h1,h2⟩
 show Cov w B (cat [F])
 simpa [cat] using h2
theorem PV (L:Lays2.n21 P ρ) {w0 w:World} {v:Value} {B:GH} {Rs:List GH} {l:List Int} {i x:Int} {vb:Nat} {T':TypeId} {G:Nat->Value} (hJ:OJ (ρ.t 3) 1 ic B v l) (hw:St w0 (cat ([B]++Rs)) w) (hm:(vb,BK 1 G T')∈cat Rs) (hG:G 0=.int .i64 x) (h0:0<=i/\i<=l.length) (hl:Pp l) :
  Con P (ρ.f 21) #[v,.int .i64 i,.slice (some ⟨vb,0,none⟩) 1 1] w (IF fun u Ls=>Cov w (cat [B]) (cat Ls)/\∃ C,Ls=[C]/\OJ (ρ.t 3) 1 ic C u (Iw l i.toNat x)/\Cov w B C):=by
 have e:cat ([B]++Rs)=B++cat Rs:=by simp[cat]
 have hw':=hw
 rw[e] at hw'
 have h1:=hw'.own _ _ (List.mem_append_right B hm)
 rw[Rm (g:=fun _=>.int .i64 x) (fun k hk=>by rw[show k=0 by omega];exact hG)] at h1
 refine Y1 L hJ hw.hasC h1 ?_ h0 hl
 have:=hw'.nd
 rw[keys_append] at this
 intro hh
 exact(List.nodup_append.1 this).2.2 _ hh _ (List.mem_map.2 ⟨_,hm,rfl⟩) rfl
end
end Go.E
namespace Go.E
open Go
def VB (s0 r:(List Int)):Prop:=
 (s0=[]->(
  r=([])))/\(
  ((0+s0.length)*8<=140737488355328)/\(
  r=(([]++s0))))
def VD (s0 r:LM):Prop:=
 (s0=[]->(
  r=([])))/\(
  ((0+s0.length)*40<=140737488355328)/\(
  r=(([]++s0))))
def VF (s0 r:LM):Prop:=
 (s0=[]->(
  r=([])))/\(
  ((0+s0.length)*56<=140737488355328)/\(
  r=(([]++s0))))
def WP (bp aY aW bm:Int) (a8:Bool) (aZ:Int) (bq:NI) (a7:Int) (aT aX a6:(List Int)) (bn:LM) (r:Int):Prop:=
 if aY=1 then
  if(a8)=true then
   r=(8)
  else
   r=(0)
 else
  r=(11)
def It (bp aY aW bm:Int) (a8:Bool) (aZ:Int) (bq:NI) (a7:Int) (aT aX a6:(List Int)) (bn:LM):Int:=
 if aY=1 then
  if(a8)=true then
   8
  else
   0
 else
  11
theorem X8 {bp aY aW bm a8 aZ bq a7 aT aX a6 bn}:WP bp aY aW bm a8 aZ bq a7 aT aX a6 bn (It bp aY aW bm a8 aZ bq a7 aT aX a6 bn):=Tz
def WN (bp aY aW bm:Int) (a8:Bool) (aZ:Int) (bq:NI) (a7:Int) (aT aX a6:(List Int)) (bn:LM) (r:NI):Prop:=
 r=((Gq (GX (Gq (Gq (Gq (Gq (fun _=>0) 0 1) 2 aZ) 3 bp) 4 bm) 5 2 bq) 7 a7))
def IX (bp aY aW bm:Int) (a8:Bool) (aZ:Int) (bq:NI) (a7:Int) (aT aX a6:(List Int)) (bn:LM):NI:=
 (Gq (GX (Gq (Gq (Gq (Gq (fun _=>0) 0 1) 2 aZ) 3 bp) 4 bm) 5 2 bq) 7 a7)
theorem Us {bp aY aW bm a8 aZ bq a7 aT aX a6 bn}:WN bp aY aW bm a8 aZ bq a7 aT aX a6 bn (IX bp aY aW bm a8 aZ bq a7 aT aX a6 bn):=Tz
def Sr (bp cI fb:Int) (eL:(List Int)) (fp:LM) (kU:Int) (o:(LM×Int) ⊕ (LM)):Prop:=
 if kU<(eL.length:Int) then
  (0<=kU/\kU<eL.length)/\(
  ((fp.length+1)*224<=140737488355328)/\(
  (GN (kU+1))/\(
  o=(.inl ((fp++[(Gq (Gq (Gq (Gq (fun _=>0) 0 cI) 2 (eL[kU.toNat]!)) 3 bp) 8 fb)]),kU+1)))))
 else
  o=(.inr fp)
def WM (fp r:LM):Prop:=
 r=(fp)
def AaK (bp aY aW bm:Int) (a8:Bool) (aZ:Int) (bq:NI) (a7:Int) (aT aX a6:(List Int)) (bn:LM) (cI fb:Int) (eL:(List Int)) (r:LM):Prop:=
 ∃ x:LM,Wh (fun(s:LM×Int) (o:(LM×Int) ⊕ (LM))=>Sr bp cI fb eL s.1 s.2 o) (([],0):LM×Int) x/\WM x r
def OS (s0:(List Int)) (v1 x8:Int) (o:(Int) ⊕ ((Unit) ⊕ (Int))):Prop:=
 if x8<(s0.length:Int) then
  (0<=x8/\x8<s0.length)/\(
  if v1=s0[x8.toNat]! then
   o=(.inr (.inr x8))
  else
   (GN (x8+1))/\(
   o=(.inl (x8+1))))
 else
  o=(.inr (.inl ()))
def Vk (r:Bool):Prop:=
 r=(false)
def PM (x4:Int) (r:Bool):Prop:=
 r=(decide (0<=x4))
def Xv (s0:(List Int)) (v1:Int) (r:Bool):Prop:=
 ∃ x:(Unit) ⊕ (Int),Wh (fun(s:Int) (o:(Int) ⊕ ((Unit) ⊕ (Int)))=>OS s0 v1 s o) (0:Int) x/\(match x with | .inl _=>Vk r | .inr x4=>PM x4 r)
def ZB (x0:Int) (r:Bool):Prop:=
 r=(!(decide (x0=x0)))
def SJ (x0:Int):Bool:=
 !(decide (x0=x0))
theorem AaQ {x0}:ZB x0 (SJ x0):=Tz
def Aas (x0:Int) (r:Bool):Prop:=
 r=(!(decide (x0=x0)))
def P0 (x0:Int):Bool:=
 !(decide (x0=x0))
theorem Abx {x0}:Aas x0 (P0 x0):=Tz
def ZU (x0 y1:Int) (r:Bool):Prop:=
 r=((((P0 x0))&&(!((P0 y1))))||(decide (x0<y1)))
def PG (x0 y1:Int):Bool:=
 (((P0 x0))&&(!((P0 y1))))||(decide (x0<y1))
theorem Afx {x0 y1}:ZU x0 y1 (PG x0 y1):=Tz
def Ln (x0:(List Int)) (cU i7 j8:Int) (o:(Int×Int) ⊕ (Int)):Prop:=
 if i7<j8 then
  (GN (i7+j8))/\(
  (0<=IntKind.i64.wrap ((IntKind.u64.wrap (i7+j8)) / 2)/\IntKind.i64.wrap ((IntKind.u64.wrap (i7+j8)) / 2)<x0.length)/\(
  (
   if((PG (x0[(IntKind.i64.wrap ((IntKind.u64.wrap (i7+j8)) / 2)).toNat]!) cU))=true then
    (GN ((IntKind.i64.wrap ((IntKind.u64.wrap (i7+j8)) / 2))+1))/\(
    True)
   else
    True)/\(
  o=(.inl ((if((PG (x0[(IntKind.i64.wrap ((IntKind.u64.wrap (i7+j8)) / 2)).toNat]!) cU))=true then(IntKind.i64.wrap ((IntKind.u64.wrap (i7+j8)) / 2))+1 else i7),(if((PG (x0[(IntKind.i64.wrap ((IntKind.u64.wrap (i7+j8)) / 2)).toNat]!) cU))=true then j8 else IntKind.i64.wrap ((IntKind.u64.wrap (i7+j8)) / 2)))))))
 else
  o=(.inr i7)
def Ou (x0:(List Int)) (cU i7:Int) (r:Int×Bool):Prop:=
 (((decide (i7<(x0.length:Int)))=true)->0<=i7/\i7<x0.length)/\(((decide (i7<(x0.length:Int)))=true)->((decide (x0[i7.toNat]! = cU))=false)->0<=i7/\i7<x0.length)/\(
 r=((i7,(decide (i7<(x0.length:Int)))&&((decide (x0[i7.toNat]! = cU))||(((SJ (x0[i7.toNat]!)))&&((SJ cU)))))))
def RH (x0:(List Int)) (cU:Int) (r:Int×Bool):Prop:=
 ∃ x:Int,Wh (fun(s:Int×Int) (o:(Int×Int) ⊕ (Int))=>Ln x0 cU s.1 s.2 o) ((0,(x0.length:Int)):Int×Int) x/\Ou x0 cU x r
def NH (c0:NI) (bZ fx oM:Int) (o:(Int×Int) ⊕ (Int)):Prop:=
 if oM<9 then
  (0<=oM/\oM<9)/\(
  if((decide (oM=0))||(decide (bZ<1)))=true then
   (GN (oM+1))/\(
   o=(.inl (fx,oM+1)))
  else
   if c0 (1+(oM.toNat*3))=bZ then
    o=(.inr oM)
   else
    (GN (oM+1))/\(
    o=(.inl (fx,oM+1))))
 else
  o=(.inr fx)
def Uj (fx:Int) (r:Int×Int):Prop:=
 if fx=0 then
  r=((0,10))
 else
  r=((fx,0))
def Abt (c0:NI) (bZ:Int) (r:Int×Int):Prop:=
 ∃ x:Int,Wh (fun(s:Int×Int) (o:(Int×Int) ⊕ (Int))=>NH c0 bZ s.1 s.2 o) ((0,0):Int×Int) x/\Uj x r
def Aer (m0:NI) (r:Bool):Prop:=
 r=((decide (m0 0=11))&&(decide ((Js m0)=0)))
def JN (m0:NI):Bool:=
 (decide (m0 0=11))&&(decide ((Js m0)=0))
theorem Ve {m0}:Aer m0 (JN m0):=Tz
def UN (gz:Int) (m1:NI) (r:NI×Int):Prop:=
 if((JN m1))=true then
  if((JN (Gq (Gq m1 1 0) 2 gz)))=true then
   r=(((Gq (Gq m1 1 0) 2 gz),0))
  else
   r=(((fun _=>0),1))
 else
  r=(((fun _=>0),5))
def J0 (gz:Int) (m1:NI):NI×Int:=
 if((JN m1))=true then
  if((JN (Gq (Gq m1 1 0) 2 gz)))=true then
   ((Gq (Gq m1 1 0) 2 gz),0)
  else
   ((fun _=>0),1)
 else
  ((fun _=>0),5)
theorem Aca {gz m1}:UN gz m1 (J0 gz m1):=Tz
def Mm (m0:NI) (n4 kU:Int) (o:(Int×Int) ⊕ (Int)):Prop:=
 if kU<((m0 11).toNat:Int) then
  (0<=kU/\kU<((m0 11).toNat:Nat))/\(
  (GN (kU+1))/\(
  o=(.inl ((if n4<(m0 (12+(kU.toNat*2))) then(m0 (12+(kU.toNat*2))) else n4),kU+1))))
 else
  o=(.inr n4)
def QL (n4:Int) (r:Int×Int):Prop:=
 r=((n4,0))
def Rr (m0:NI) (r:Int×Int):Prop:=
 if((JN m0))=true then
  (0<=m0 11/\m0 11<=8)/\(
  ∃ x:Int,Wh (fun(s:Int×Int) (o:(Int×Int) ⊕ (Int))=>Mm m0 s.1 s.2 o) ((0,0):Int×Int) x/\QL x r)
 else
  r=((0,5))
def Aat (m0:NI) (r:Bool):Prop:=
 if((!((JN m0)))||(!(decide (m0 9=m0 12))))=true then
  r=(false)
 else
  if m0 10=0 then
   r=(true)
  else
   if m0 10=m0 13 then
    r=(true)
   else
    r=(false)
def Nb (m0:NI):Bool:=
 if((!((JN m0)))||(!(decide (m0 9=m0 12))))=true then
  false
 else
  if m0 10=0 then
   true
  else
   if m0 10=m0 13 then
    true
   else
    false
theorem AfR {m0}:Aat m0 (Nb m0):=Tz
def Ny (m0:NI) (dO:LM) (x8 sy:Int) (o:(Int) ⊕ ((Unit) ⊕ (Int))):Prop:=
 if sy<(dO.length:Int) then
  (0<=sy/\sy<dO.length)/\(
  if((IJ 2 (fun i=>m0 ((12+(x8.toNat*2))+i)) (dO[sy.toNat]!)))=true then
   o=(.inr (.inr sy))
  else
   (GN (sy+1))/\(
   o=(.inl (sy+1))))
 else
  o=(.inr (.inl ()))
def RW (x8:Int) (o:(Int) ⊕ ((Unit) ⊕ (Int))):Prop:=
 o=(.inr (.inr x8))
def N0 (x8 x4:Int) (o:(Int) ⊕ ((Unit) ⊕ (Int))):Prop:=
 if 0<=x4 then
  (GN (x8+1))/\(
  o=(.inl (x8+1)))
 else
  o=(.inr (.inr x8))
def OM (m0:NI) (dO:LM) (x8:Int) (o:(Int) ⊕ ((Unit) ⊕ (Int))):Prop:=
 if x8<((m0 11).toNat:Int) then
  (0<=x8/\x8<((m0 11).toNat:Nat))/\(
  ∃ x:(Unit) ⊕ (Int),Wh (fun(s:Int) (o:(Int) ⊕ ((Unit) ⊕ (Int)))=>Ny m0 dO x8 s o) (0:Int) x/\(match x with | .inl _=>RW x8 o | .inr x4=>N0 x8 x4 o))
 else
  o=(.inr (.inl ()))
def U4 (r:Bool):Prop:=
 r=(true)
def U3 (x4:Int) (r:Bool):Prop:=
 r=(!(decide (0<=x4)))
def Xd (m0:NI) (dO:LM) (r:Bool):Prop:=
 if((JN m0))=true then
  (0<=m0 11/\m0 11<=8)/\(
  ∃ x:(Unit) ⊕ (Int),Wh (fun(s:Int) (o:(Int) ⊕ ((Unit) ⊕ (Int)))=>OM m0 dO s o) (0:Int) x/\(match x with | .inl _=>U4 r | .inr x4=>U3 x4 r))
 else
  r=(false)
def Hf (r0:NI) (n1:Int):Int×Int:=
 if((HQ r0))=true then
  if((decide (n1<1))||(decide (64<n1)))=true then
   (0,2)
  else
   ((((r0 0)-1).tmod n1)+1,0)
 else
  (0,1)
def JZ (r0:NI) (n1:Int) (k:(Int×Int)->Prop:=fun _=>True):Prop:=
 if((HQ r0))=true then
  if((decide (n1<1))||(decide (64<n1)))=true then
   k ((0,2))
  else
   (GN ((r0 0)-1))/\(
   (n1≠0)/\(
   (GN ((((r0 0)-1).tmod n1)+1))/\(
   k (((((r0 0)-1).tmod n1)+1,0)))))
 else
  k ((0,1))
theorem Yl {r0 n1} (hP:JZ r0 n1):JZ r0 n1 (Eq (Hf r0 n1)):=Pc hP
end Go.E
namespace Go.E
open Go
def G3 (s:List Int):List Int:=s
def IW (s:List Int):Prop:=s.length<=1000000000
theorem JP {s:List Int} (h:IW s):VB s (G3 s):=by
 unfold IW at h
 exact⟨fun e=>e,Aa,rfl⟩
def Od (s:LM):LM:=s
def PX (s:LM):Prop:=s.length<=1000000000
theorem WA {s:LM} (h:PX s):VD s (Od s):=by
 unfold PX at h
 exact⟨fun e=>e,Aa,rfl⟩
def Li (tx kind code s:Int):Nat->Int:=Gq (Gq (Gq (Gq (fun _=>0) 0 kind) 2 s) 3 tx) 8 code
def KD (tx _st _re _sq:Int) (_op:Bool) (_sh:Int) (_at:Nat->Int) (_mo:Int) (_to _vo _ac:List Int) (_go:LM) (kind code:Int) (shards:List Int):LM:=shards.map (Li tx kind code)
def Rv (_tx _st _re _sq:Int) (_op:Bool) (_sh:Int) (_at:Nat->Int) (_mo:Int) (_to _vo _ac:List Int) (_go:LM) (_kind _code:Int) (shards:List Int):Prop:=shards.length<=1000000
theorem Ur {tx st re sq:Int} {op:Bool} {sh:Int} {at_:Nat->Int} {mo:Int} {to_ vo ac:List Int} {go:LM} {kind code:Int} {shards:List Int} (h:Rv tx st re sq op sh at_ mo to_ vo ac go kind code shards) :
  AaK tx st re sq op sh at_ mo to_ vo ac go kind code shards (KD tx st re sq op sh at_ mo to_ vo ac go kind code shards):=by
 unfold Rv at h
 unfold AaK
 refine⟨shards.map (Li tx kind code),?_,rfl⟩
 have:=aH (f:=fun(s:LM×Int) (o:(LM×Int) ⊕ (LM))=>Sr tx kind code shards s.1 s.2 o) (fun k:Nat=>((shards.take k).map (Li tx kind code),(k:Int))) shards.length (r:=shards.map (Li tx kind code)) (fun k hk=>by
   dsimp only
   unfold Sr
   rw[Ae Aa,Int.toNat_natCast,AdZ hk]
   exact⟨⟨Aa,Aa⟩,by simp;omega,⟨Aa,Aa⟩,rfl⟩) (by
   dsimp only
   unfold Sr
   rw[Af Aa,RC])
 simpa using this
theorem R0 {s:List Int} {v:Int} (h:L6 s v):Xv s v (IC s v):=by
 unfold L6 at h
 unfold Xv
 obtain⟨r,hr,h2⟩:=Wh.find (f:=fun(t:Int) (o:(Int) ⊕ ((Unit) ⊕ (Int)))=>OS s v t o) s.length (fun k=>decide (v=s[k]!)) (.inl ()) (fun k=>.inr (k:Int)) (fun k hk hp=>by
   unfold OS
   rw[Ae Aa,Int.toNat_natCast,Af (by simpa using hp)]
   exact⟨⟨Aa,Aa⟩,JK Aa,rfl⟩) (fun k hk hp=>by
   unfold OS
   rw[Ae Aa,Int.toNat_natCast,Ae (by simpa using hp)]
   exact⟨⟨Aa,Aa⟩,rfl⟩) (by
   unfold OS
   rw[Af Aa])
 refine⟨r,hr,?_⟩
 rw[Tt s fun x=>decide (v=x),Abz] at h2
 rcases h2 with ⟨rfl,h2⟩ | ⟨k,hk,rfl,h2⟩
 .rw[h2];rfl
 .rw[h2]
  show PM (k:Int) true
  unfold PM
  rw[decide_eq_true Aa]
theorem Aa6 (a b:Int):PG a b=decide (a<b):=by simp[PG,P0]
theorem YS {l:List Int} {k:Nat} (h:k<l.length):l[k]! = l[k]:=by simp[h]
theorem Adh {x:Int} {l:List Int} (hs:l.Pairwise fun a b=>a<b) {k:Nat} (hk:k<l.length):l[k]! < x↔k<JL x l:=by
 refine⟨fun h=>?_,AaM⟩
 by_cases hc:k<JL x l
 .exact hc
 .exfalso
  have h1:=AaN (x:=x) (l:=l) Aa
  rcases Nat.eq_or_lt_of_le (Nat.le_of_not_lt hc) with e | e
  .rw[e] at h1;exact h1 h
  .have h2:=List.pairwise_iff_getElem.1 hs _ _ Aa hk e
   rw[YS hk] at h
   rw[YS Aa] at h1
   omega
def Hd (l:List Int) (x:Int):Int×Bool:=((JL x l:Int),decide (JL x l<l.length)&&decide (l[JL x l]! = x))
def Pq (l:List Int) (_:Int):Prop:=l.Pairwise (fun a b=>a<b)/\l.length<=1000000000
theorem Acy {i j:Int} (h0:0<=i) (h1:i<=j) (h2:j<=1000000000):IntKind.i64.wrap (IntKind.u64.wrap (i+j) / 2)=(i+j) / 2:=by
 have e:IntKind.u64.wrap (i+j)=i+j:=by
  simp only[IntKind.wrap,IntKind.bits]
  have:(i+j) % 2 ^ 64=i+j:=Int.emod_eq_of_lt Aa Aa
  simp[IntKind.signed]
  omega
 rw[e]
 exact WH ⟨Aa,Aa⟩
theorem SF {l:List Int} {x:Int} (h:Pq l x):RH l x (Hd l x):=by
 obtain⟨hs,hn⟩:=h
 unfold RH
 have hle:=WS x l
 obtain⟨r,hr,rfl⟩:=aL (f:=fun(s:Int×Int) (o:(Int×Int) ⊕ (Int))=>Ln l x s.1 s.2 o) (fun s=>0<=s.1/\s.1<=(JL x l:Int)/\(JL x l:Int)<=s.2/\s.2<=l.length) (fun s=>(s.2-s.1).toNat) (fun r=>r=(JL x l:Int)) (s:=((0,(l.length:Int)):Int×Int)) ⟨Ad,Ad,by simp;omega,Ad⟩ (by
  rintro⟨i,j⟩ ⟨h0,h1,h2,h3⟩
  dsimp only at h0 h1 h2 h3
  by_cases hij:i<j
  .left
   dsimp only
   have hw:=Acy h0 (Int.le_of_lt hij) Aa
   have hm:i<=(i+j) / 2/\(i+j) / 2<j:=Aa
   have hb:((i+j) / 2).toNat<l.length:=Aa
   have hi:=Adh (x:=x) hs hb
   by_cases hc:l[((i+j) / 2).toNat]! < x
   .have hc':=hi.1 hc
    refine⟨((i+j) / 2+1,j),?_,⟨by dsimp only;omega,by dsimp only;omega,h2,h3⟩,by dsimp only;omega⟩
    unfold Ln
    rw[Ae hij,hw,Aa6,decide_eq_true hc,Ae rfl,Ae rfl,Ae rfl]
    exact⟨⟨Aa,Aa⟩,⟨Aa,Aa⟩,⟨⟨Aa,Aa⟩,trivial⟩,rfl⟩
   .have hc':¬ ((i+j) / 2).toNat<JL x l:=fun hh=>hc (hi.2 hh)
    refine⟨(i,(i+j) / 2),?_,⟨h0,h1,by dsimp only;omega,by dsimp only;omega⟩,by dsimp only;omega⟩
    unfold Ln
    rw[Ae hij,hw,Aa6,decide_eq_false hc,Af Ab,Af Ab,Af Ab]
    exact⟨⟨Aa,Aa⟩,⟨Aa,Aa⟩,trivial,rfl⟩
  .right
   dsimp only
   refine⟨i,?_,Aa⟩
   unfold Ln
   rw[Af hij])
 refine⟨_,hr,?_⟩
 unfold Ou Hd
 rw[Int.toNat_natCast]
 refine⟨fun h=>⟨Aa,by simpa using h⟩,fun h _=>⟨Aa,by simpa using h⟩,?_⟩
 rw[show decide ((JL x l:Int)<(l.length:Int))=decide (JL x l<l.length) from decide_eq_decide.2 Aa]
 simp[SJ]
theorem SI {l:List Int} {x:Int}:0<=(Hd l x).1/\(Hd l x).1<=(l.length:Int):=by
 have:=WS x l
 exact⟨by simp[Hd],by simp[Hd];omega⟩
theorem AaD (l:List Int) (x:Int):(if(Hd l x).2=true then l else Iw (G3 l) ((Hd l x).1).toNat x)=Jh x l:=by
 rw[Wu]
 unfold Hd Iw G3
 rw[Int.toNat_natCast]
 by_cases h:JL x l<l.length/\l[JL x l]! = x
 .rw[Ae h,Ae (by rw[decide_eq_true h.1,decide_eq_true h.2];rfl)]
 .rw[Af h,Af (by rw[Bool.and_eq_true,decide_eq_true_eq,decide_eq_true_eq];exact h)]
end Go.E
namespace Go.E
open Go
def YQ (c:Nat->Int) (tx:Int) (j:Nat):Bool:=decide (0<j)&&decide (1<=tx)&&decide (c (1+j*3)=tx)
def L9 (c:Nat->Int) (tx:Int):Int:=((List.range 9).find? (YQ c tx)).elim 0 fun j=>(j:Int)
def Kg (c:Nat->Int) (tx:Int):Int×Int:=if L9 c tx=0 then(0,10) else(L9 c tx,0)
theorem Abm {n:Nat} {p:Nat->Bool} {i:Nat} (hi:i<n) (h:p i=true) (hn:∀ j,j<i->p j=false):(List.range n).find? p=some i:=
 List.find?_range_eq_some.2 ⟨h,List.mem_range.2 hi,fun j hj=>by rw[hn j hj];rfl⟩
theorem Abl {n:Nat} {p:Nat->Bool} (hn:∀ j,j<n->p j=false):(List.range n).find? p=none:=
 List.find?_eq_none.2 fun j hj=>by rw[hn j (List.mem_range.1 hj)];decide
theorem Aan {c:Nat->Int} {tx:Int}:Abt c tx (Kg c tx):=by
 unfold Abt
 refine(aL (f:=fun(s:Int×Int) (o:(Int×Int) ⊕ (Int))=>NH c tx s.1 s.2 o) (s:=((0,0):Int×Int)) (fun s=>s.1=0/\0<=s.2/\s.2<=9/\∀ j:Nat,(j:Int)<s.2->YQ c tx j=false) (fun s=>(9-s.2).toNat) (fun r=>r=L9 c tx) ⟨rfl,Aa,Aa,fun j hj=>by omega⟩ ?_).elim fun r hr=>⟨r,hr.1,?_⟩
 .rintro⟨w,x⟩ ⟨rfl,x0,x1,hno⟩
  simp only at x0 x1 hno
  by_cases hx:x<9
  .have hin:GN (x+1):=⟨Aa,Aa⟩
   have hx':(x.toNat:Int)=x:=Aa
   by_cases hh:YQ c tx x.toNat=true
   .refine .inr ⟨x,?_,?_⟩
    .show NH c tx 0 x _
     unfold NH
     unfold YQ at hh
     simp only[Bool.and_eq_true,decide_eq_true_eq] at hh
     rw[Ae hx,Af (by simp only[Bool.or_eq_true,decide_eq_true_eq];omega),Ae hh.2]
     exact⟨⟨x0,hx⟩,rfl⟩
    .unfold L9
     rw[Abm (i:=x.toNat) Aa hh fun j hj=>hno j Aa]
     exact hx'.symm
   .refine .inl ⟨(0,x+1),?_,⟨rfl,by simp only;omega,by simp only;omega,fun j hj=>?_⟩,by simp only;omega⟩
    .show NH c tx 0 x _
     unfold NH
     rw[Ae hx]
     refine⟨⟨x0,hx⟩,GO (fun h=>⟨hin,rfl⟩) fun h=>?_⟩
     simp only[Bool.or_eq_true,decide_eq_true_eq] at h
     rw[Af (fun e=>hh (by unfold YQ;simp only[Bool.and_eq_true,decide_eq_true_eq];exact⟨⟨Aa,Aa⟩,e⟩))]
     exact⟨hin,rfl⟩
    .simp only at hj
     by_cases hjx:(j:Int)<x
     .exact hno j hjx
     .rw[show j=x.toNat by omega]
      simpa using hh
  .refine .inr ⟨0,?_,?_⟩
   .show NH c tx 0 x _
    unfold NH
    rw[Af hx]
   .unfold L9
    rw[Abl fun j hj=>hno j Aa]
    rfl
 .rw[hr.2]
  unfold Uj Kg
  split <;> rfl
theorem AcG (c:Nat->Int) (tx:Int):(L9 c tx=0/\∀ j:Nat,1<=j->j<=8->1<=tx->c (1+j*3)≠tx)∨∃ j:Nat,L9 c tx=j/\1<=j/\j<=8/\1<=tx/\c (1+j*3)=tx:=by
 unfold L9
 cases h:(List.range 9).find? (YQ c tx) with
 | none=>
  refine .inl ⟨rfl,fun j h1 h2 h3 h4=>?_⟩
  have:=List.find?_eq_none.1 h j (List.mem_range.2 Aa)
  exact this (by unfold YQ;simp only[Bool.and_eq_true,decide_eq_true_eq];exact⟨⟨Aa,h3⟩,h4⟩)
 | some j=>
  obtain⟨h1,h2,_⟩:=List.find?_range_eq_some.1 h
  have h2:=List.mem_range.1 h2
  unfold YQ at h1
  simp only[Bool.and_eq_true,decide_eq_true_eq] at h1
  exact .inr ⟨j,rfl,Aa,Aa,h1.1.2,h1.2⟩
end Go.E
namespace Go.E
open Go
theorem Ug (m:Nat->Int):JN m=true↔m 0=11/\Pf m=true:=by
 unfold JN
 rw[Bool.and_eq_true,decide_eq_true_eq,decide_eq_true_eq,RT]
theorem YO {m:Nat->Int} (h:JN m=true):Pb m=true:=by
 obtain⟨h0,h1⟩:=(Ug m).1 h
 unfold Pf at h1
 simp only[Bool.and_eq_true] at h1
 have:=h1.1.2
 unfold S1 at this
 rw[Af Aa,Af Aa,Af Aa,Af Aa,Af Aa,Ae h0] at this
 exact this
theorem YP {m:Nat->Int} (h:JN m=true):1<=m 11/\m 11<=8:=by
 have:=YO h
 unfold Pb M3 at this
 simp only[Bool.and_eq_true,decide_eq_true_eq] at this
 exact this.1.1.1
def QM (m:Nat->Int):Nat->Int
 | 0=>0
 | k+1=>if QM m k<m (12+k*2) then m (12+k*2) else QM m k
def Ik (m:Nat->Int):Int×Int:=if JN m=true then(QM m (m 11).toNat,0) else(0,5)
theorem AbO {m:Nat->Int}:Rr m (Ik m):=by
 unfold Rr Ik
 by_cases h:JN m=true
 .rw[Ae h,Ae h]
  have hn:=YP h
  refine⟨⟨Aa,Aa⟩,QM m (m 11).toNat,?_,rfl⟩
  refine aH (fun k:Nat=>((QM m k,(k:Int)):Int×Int)) (m 11).toNat (fun k hk=>?_) ?_
  .unfold Mm
   simp only
   rw[Ae Aa]
   exact⟨⟨Aa,Aa⟩,JK Aa,rfl⟩
  .show Mm m _ _ _
   unfold Mm
   rw[Af Aa]
 .rw[Af h,Af h]
def KU (m:Nat->Int) (i:Nat):Nat->Int:=fun j=>m (12+i*2+j)
def NB (l:LM) (s:Nat->Int):Bool:=l.any fun x=>IJ 2 s x
def K3 (m:Nat->Int) (l:LM):Bool:=JN m&&(List.range (m 11).toNat).all fun i=>NB l (KU m i)
def NE (m:Nat->Int) (l:LM):Prop:=l.length<9000000000000000000
theorem Afw {m:Nat->Int} {l:LM} (hl:NE m l):Xd m l (K3 m l):=by
 unfold NE at hl
 unfold Xd K3
 by_cases h:JN m=true
 .rw[Ae h,h,Bool.true_and]
  have hn:=YP h
  have inner:∀ x:Nat,∃ r,Wh (fun(s:Int) (o:Int ⊕ (Unit ⊕ Int))=>Ny m l (x:Int) s o) 0 r/\((r=.inl ()/\NB l (KU m x)=false)∨∃ k:Int,0<=k/\r=.inr k/\NB l (KU m x)=true):=by
   intro x
   refine(Wh.find (f:=fun(s:Int) (o:Int ⊕ (Unit ⊕ Int))=>Ny m l (x:Int) s o) l.length (fun k=>IJ 2 (KU m x) (l[k]!)) (.inl ()) (fun k=>.inr (k:Int)) ?_ ?_ ?_).elim fun r hr=>?_
   .intro k hk hp
    unfold Ny
    rw[Ae Aa]
    refine⟨⟨Aa,Aa⟩,?_⟩
    rw[Af]
    .exact⟨JK Aa,rfl⟩
    .intro hh
     rw[Int.toNat_natCast,Int.toNat_natCast] at hh
     have:IJ 2 (KU m x) (l[k]!)=true:=hh
     rw[hp] at this;cases this
   .intro k hk hp
    unfold Ny
    rw[Ae Aa]
    refine⟨⟨Aa,Aa⟩,?_⟩
    rw[Ae]
    rw[Int.toNat_natCast,Int.toNat_natCast]
    exact hp
   .unfold Ny
    rw[Af Aa]
   .obtain⟨h1,h2⟩:=hr
    refine⟨r,h1,?_⟩
    rw[Tt l fun y=>IJ 2 (KU m x) y] at h2
    rcases h2 with ⟨h2,h3⟩ | ⟨k,h2,h3,h4⟩
    .exact .inl ⟨h2,h3⟩
    .exact .inr ⟨k,Aa,h3,h4⟩
  have round:∀ k:Nat,(k:Int)<9000000000000000000->∀ (r:Unit ⊕ Int),((r=.inl ()/\NB l (KU m k)=false)∨∃ q:Int,0<=q/\r=.inr q/\NB l (KU m k)=true)->∀ o:Int ⊕ (Unit ⊕ Int),
    (NB l (KU m k)=true->o=.inl ((k:Int)+1))->(NB l (KU m k)=false->o=.inr (.inr (k:Int)))->(match r with | .inl _=>RW (k:Int) o | .inr x4=>N0 (k:Int) x4 o):=by
   intro k hk r hr o h1 h2
   rcases hr with ⟨rfl,h3⟩ | ⟨q,hq,rfl,h3⟩
   .exact h2 h3
   .show N0 (k:Int) q o
    unfold N0
    rw[Ae hq]
    exact⟨⟨Aa,Aa⟩,h1 h3⟩
  refine(Wh.find (f:=fun(s:Int) (o:Int ⊕ (Unit ⊕ Int))=>OM m l s o) (m 11).toNat (fun k=>!NB l (KU m k)) (.inl ()) (fun k=>.inr (k:Int)) ?_ ?_ ?_).elim fun r hr=>?_
  .intro k hk hp
   unfold OM
   rw[Ae Aa]
   obtain⟨r,h1,h2⟩:=inner k
   exact⟨⟨Aa,Aa⟩,r,h1,round k Aa r h2 _ (fun _=>rfl) fun hf=>by simp only[hf,Bool.not_false] at hp;cases hp⟩
  .intro k hk hp
   unfold OM
   rw[Ae Aa]
   obtain⟨r,h1,h2⟩:=inner k
   exact⟨⟨Aa,Aa⟩,r,h1,round k Aa r h2 _ (fun hf=>by simp only[hf,Bool.not_true] at hp;cases hp) fun _=>rfl⟩
  .unfold OM
   rw[Af Aa]
  .obtain⟨h1,h2⟩:=hr
   refine⟨⟨Aa,Aa⟩,r,h1,?_⟩
   rcases h2 with ⟨rfl,h3⟩ | ⟨k,hk,rfl,h3⟩
   .show _=true
    rw[<- Bool.not_eq_false,List.all_eq_not_any_not,h3];simp
   .show _=(!decide (0<=(k:Int)))
    rw[List.all_eq_not_any_not,h3];simp
 .rw[Af h]
  have:JN m=false:=by simpa using h
  rw[this,Bool.false_and]
end Go.E
namespace Go.E
def VH (s:LM):LM:=s
def VG (s:LM):Prop:=s.length<=1000000000
theorem WB {s:LM} (h:VG s):VF s (VH s):=by
 unfold VG at h
 exact⟨fun e=>e,Aa,rfl⟩
end Go.E
