/- The stripped code of some functions of this seat's program, printed by a program; that it is that code is proved by the kernel. No condition. -/
import Derived.Test.YtmbboehmnfhjjaaGreatDoorU2
set_option maxRecDepth 100000
set_option linter.defProp false
set_option linter.unusedSimpArgs false
set_option linter.unusedVariables false
namespace Go.Proofs.YtmbboehmnfhjjaaGreatDoor
open Go.Vc
noncomputable def Fi:=fc Tryz.f6 [0,1,3,4,6,10,11,12,13,32,33,34,35]
def Kn:=aQ Fi Tryz.func6 0 [(0,none)]
def fK:=aR Fi
noncomputable def uS:=fc Tryz.f11 [0,1,4,5,6,8,9,13,17,28,48]
def AB:=aQ uS Tryz.func11 2 []
def d8:=aR uS [] [(11, .q 0 13 (.r 13 [1,2,3,6,9,11,12] (.q 14 1 .o))),(15, .q 0 6 (.r 6 [2,3,4] (.q 7 4 .o)))]
noncomputable def tC:=fc Tryz.f9 [0]
def zj:=aQ tC Tryz.func9 0 [(0,none)]
def Dm:=aR tC
noncomputable def BR:=fc Tryz.f36 [0,1,4]
def Ih:=aQ BR Tryz.func36 2 [(4,none)]
def Me:=aR BR
noncomputable def wW:=fc Tryz.f15 [0,1,4,5,6,7,9,13,15,17,19,27,37,64,66,67,68,69,87,88,89,90,124,125,126,127]
def Dn:=aQ wW Tryz.func15 2 [(4,none),(5,none)]
def cQ:=aR wW [] [(7, .q 0 4 (.q 5 4 (.q 10 4 (.r 4 [5,6,7,8,10,11,12,13] (.r 9 [10,11,12,13] (.q 14 3 .o)))))),(13, .q 0 8 (.r 8 [2,3,4] (.r 9 [2,3,4] (.q 10 4 .o)))),(18, .q 0 13 (.q 14 4 (.q 19 2 (.q 22 2 (.r 13 [2,3,4,6,7,8,14,15,16,17,19,20,22,23] (.r 18 [2,3,4,6,7,8,19,20,22,23] (.q 21 1 (.q 24 1 (.r 25 [2,3,4] (.q 26 4 .o)))))))))),(23, .q 0 13 (.q 14 4 (.q 19 2 (.q 22 4 (.r 13 [2,3,4,6,7,8,14,15,16,17,19,20,22,23,24,25] (.r 18 [2,3,4,6,7,8,19,20,22,23,24,25] (.q 21 1 (.q 26 1 (.r 27 [2,3,4] (.q 28 4 .o))))))))))]
noncomputable def BS:=fc Tryz.f118 [0,2]
def Ii:=aQ BS Tryz.func118 1 [(2,none)]
def wX:=aR BS
noncomputable def uT:=fc Tryz.f45 [0,2,3,22]
def AE:=aQ uT Tryz.func45 1 [(2,none)]
def iI:=aR uT
noncomputable def wY:=fc Tryz.f44 [0,2,3]
def Dp:=aQ wY Tryz.func44 1 [(2,none)]
def lU:=aR wY
noncomputable def BU:=fc Tryz.f17 [0,1,4,5,8,10,18,21,27]
def Ij:=aQ BU Tryz.func17 2 [(4,none)]
def eP:=aR BU [] [(5, .q 0 5 (.r 5 [1,2,3] (.q 6 2 .o)))]
noncomputable def zk:=fc Tryz.f46 [0,1,4,5,6,8,9,14,22,33,40,55,56,57,58,65,67,79]
def Fj:=aQ zk Tryz.func46 2 [(4,none)]
def dr:=aR zk
noncomputable def BV:=fc Tryz.f109 [0,1,2,6,7,9]
def Ik:=aQ BV Tryz.func109 3 [(6,none)]
def lv:=aR BV [] [(3, .q 0 5 (.r 5 [1,2,3] (.q 6 2 .o)))]
noncomputable def BW:=fc Tryz.f52 [0,1,2,6,7,12,18]
def Il:=aQ BW Tryz.func52 3 [(6,none)]
def lA:=aR BW
noncomputable def zl:=fc Tryz.f113 [0,1,2,6,7,9,11,20,24,25,26,27,33]
def Fl:=aQ zl Tryz.func113 3 [(6,none)]
def gD:=aR zl
noncomputable def zn:=fc Tryz.f19 [0,1,2,6,7,9,10,13,14,15,16,23]
def Fo:=aQ zn Tryz.func19 3 [(6,none),(7,none)]
def kj:=aR zn
noncomputable def Jh:=fc Tryz.f50 [0,1,2,6,7,8,9,17,30,51]
def Mf:=aQ Jh Tryz.func50 3 [(6,none)]
def iA:=aR Jh
noncomputable def zr:=fc Tryz.f114 [0,2,5]
def Fp:=aQ zr Tryz.func114 1 [(2,none)]
def uU:=aR zr
noncomputable def zt:=fc Tryz.f54 [0,1,2,5,6,7,12,21]
def Fq:=aQ zt Tryz.func54 3 [(6,none)]
def iE:=aR zt [] [(5, .q 0 1 (.q 2 2 (.r 1 [2,3] (.q 4 3 .o))))]
noncomputable def zw:=fc Tryz.f53 [0,1,2,3,8,9,11,13,14,15,19,20,21,22,36,43,44,45,46,62,69]
def Fs:=aQ zw Tryz.func53 4 [(8,some 72),(9,none)]
def ez:=aR zw
noncomputable def zx:=fc Tryz.f21 [0,1,2,3,4,10,11,12,13,14,15,21,31,46,50]
def Ft:=aQ zx Tryz.func21 5 [(10,some 72),(11,none)]
def fU:=aR zx
noncomputable def Fu:=fc Tryz.f120 [0,1,2,6,7,9,13,14,15,16,30]
def Ko:=aQ Fu Tryz.func120 3 [(6,some 72),(7,none)]
def jk:=aR Fu
noncomputable def zy:=fc Tryz.f121 [0,1,2,3,8,9,11,12,13,14,15,19,20,21,22,37,52]
def Fv:=aQ zy Tryz.func121 4 [(8,some 72),(9,none)]
def gF:=aR zy
noncomputable def wZ:=fc Tryz.f23 [0,1,2,3,4,5,12,13,14,15,16,17,23,33,47,58,62,76]
def Dq:=aQ wZ Tryz.func23 6 [(12,some 72),(13,none)]
def dY:=aR wZ
noncomputable def w9:=fc Tryz.f58 [0,1,2,3,4,10,11,12,13,14,15,16,17,18,19,20,21,22,23,24,32,42,62,86,92,111,117]
def Dr:=aQ w9 Tryz.func58 5 [(10,some 72),(11,none)]
def cX:=aR w9
noncomputable def nC:=fc Tryz.f61 [0,1,2,5,6,7,8,9,10,14,19,21,58,62,80]
def Ds:=aQ nC Tryz.func61 3 [(6,some 72),(7,none)]
def dt:=aR nC [8] [(7, .q 0 10 (.b (.r 10 [] (.q 11 3 (.r 14 [1,2,3,5,6,7,8,9] (.r 15 [] (.q 16 1 .o))))) (.r 14 [1,2,3,5,6,7,8,9] (.r 10 [] (.q 11 3 (.r 15 [] (.q 16 1 .o)))))))]
noncomputable abbrev aaM:=tl Tryz.prog nC 8
def mZ:=eZ nC 8
noncomputable def sy:=fc Tryz.f122 [0,1,2,3,4]
def xQ:=aQ sy Tryz.func122 2 [(4,none)]
def qD:=aR sy [] [(1, .q 0 12 (.q 13 2 (.r 12 [13,14] (.q 15 4 .o))))]
noncomputable def BX:=fc Tryz.f25 [0,1,2,3,4,5,6,14,15,16,17,18,30,40,45]
def Im:=aQ BX Tryz.func25 7 [(14,some 72),(15,none)]
def hZ:=aR BX
noncomputable def xa:=fc Tryz.f27 [0,1,4,5,6,11,15]
def Du:=aQ xa Tryz.func27 2 [(4,none),(5,none)]
def lW:=aR xa
noncomputable def nD:=fc Tryz.f63 [0,1,4,5,6,8,19,29,30,31,32,39]
def Dv:=aQ nD Tryz.func63 2 [(4,none)]
def gd:=aR nD [5]
noncomputable abbrev Kq:=tl Tryz.prog nD 5
def Dy:=eZ nD 5
end Go.Proofs.YtmbboehmnfhjjaaGreatDoor
