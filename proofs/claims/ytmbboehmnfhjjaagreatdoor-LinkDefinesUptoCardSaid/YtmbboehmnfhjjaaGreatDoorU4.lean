/- The stripped code of some functions of this seat's program, printed by a program; that it is that code is proved by the kernel. No condition. -/
import Derived.Test.YtmbboehmnfhjjaaGreatDoorU2
set_option maxRecDepth 100000
set_option linter.defProp false
set_option linter.unusedSimpArgs false
set_option linter.unusedVariables false
namespace Go.Proofs.YtmbboehmnfhjjaaGreatDoor
open Go.Vc
noncomputable def Jb:=fc Tryz.f157 [0,1,2,4,5]
def LR:=aQ Jb Tryz.func157 2 [(4,none),(5,none)]
def BE:=aR Jb [] [(1, .q 0 6 (.q 7 6 (.r 6 [7,8,9,10,11] (.q 13 3 .o))))]
noncomputable def EG:=fc Tryz.f160 [0,1,2,4,5,13]
def JY:=aQ EG Tryz.func160 2 [(4,none),(5,none)]
def oq:=aR EG
noncomputable def wO:=fc Tryz.f85 [0,1,2,3,4,5,6,8,9,10,11,12,15,17,18,27,30,34,44,45,67,74,83,91]
def CX:=aQ wO Tryz.func85 2 [(4,none)]
def bL:=aR wO
noncomputable def BF:=fc Tryz.f159 [0,1,2,3,4,5,6,7,8,10,11,12,32,68,71,72,76,88,104]
def HG:=aQ BF Tryz.func159 2 [(4,none)]
def cA:=aR BF
noncomputable def kX:=fc Tryz.f86 [0,1,2,3,4,5,6,7,8,9,11,12,13,15,53,64,67,77,80,95,96,97,98,108,111,118]
def HI:=aQ kX Tryz.func86 1 [(2,none)]
def bJ:=aR kX [6,16]
noncomputable abbrev Ny:=tl Tryz.prog kX 16
def HJ:=eZ kX 16
noncomputable abbrev Nz:=tl Tryz.prog kX 6
def HK:=eZ kX 6 [16]
noncomputable def EH:=fc Tryz.f87 [0,1,2,3,4,6,7,8,9,10,11,33,40,44,48,61,69,74]
def JZ:=aQ EH Tryz.func87 3 [(6,none)]
def bR:=aR EH
noncomputable def EI:=fc Tryz.f163 [0,1,2,3,6,7,8,9,15,17,19,21]
def J0:=aQ EI Tryz.func163 3 [(6,none)]
def fq:=aR EI
noncomputable def pq:=fc Tryz.f88 [0,1,2,3,4,6,7,8,9,10,11,12,13,14,15,16,17,19,46,53,56,75,82,87,92,94,95,96,97,108,115]
def HL:=aQ pq Tryz.func88 3 [(6,none),(7,none)]
def aW:=aR pq [20]
noncomputable abbrev NA:=tl Tryz.prog pq 20
def HN:=eZ pq 20
noncomputable def EJ:=fc Tryz.f164 [0,1,2,3,6,7,15,26,35,40,60]
def J6:=aQ EJ Tryz.func164 3 [(6,none)]
def eM:=aR EJ
noncomputable def Jc:=fc Tryz.f166 [0,1,2,3,4,5,6,7,8,9,10,11,12,13,14,15,17,19,20,21,23,32,48,56,57,58,59,69,70,71,72,117,132]
def LU:=aQ Jc Tryz.func166 2 [(4,none),(5,none)]
def dn:=aR Jc
noncomputable def yW:=fc Tryz.f161 [0,1,4,5,7,8,9,10,11,17]
def EK:=aQ yW Tryz.func161 2 [(4,none)]
def mD:=aR yW
noncomputable def wP:=fc Tryz.f162 [0,1,2,6]
def CY:=aQ wP Tryz.func162 3 [(6,none)]
def lS:=aR wP [] [(1, .q 0 6 (.r 6 [4,5] (.q 7 2 .o)))]
noncomputable def wQ:=fc Tryz.f35 [0,1,2,3,4,5,6,7,8,9,10,11,12,13,14,15,16,17,18,21,22,23,24,32,39,43,44,45,46,55,61,62,63,64,76]
def CZ:=aQ wQ Tryz.func35 1 [(2,none),(3,none),(4,none),(5,none)]
def co:=aR wQ
end Go.Proofs.YtmbboehmnfhjjaaGreatDoor
