/- The stripped code of some functions of this seat's program, printed by a program; that it is that code is proved by the kernel. -/
import Derived.Test.YtmbboehmnfhjjaaGreatDoorU2
set_option maxRecDepth 100000
set_option linter.defProp false
set_option linter.unusedSimpArgs false
set_option linter.unusedVariables false
namespace Go.Proofs.YtmbboehmnfhjjaaGreatDoor
open Go.Vc
noncomputable def Fg:=fc Tryz.f92 [0,2]
def Kl:=aQ Fg Tryz.func92 1 [(2,none)]
def NM:=aR Fg
noncomputable def uR:=fc Tryz.f97 [0,2,3,4,5,6,7,8,9,42,61]
def AA:=aQ uR Tryz.func97 1 [(2,none),(3,none),(4,none)]
def fS:=aR uR
noncomputable def Jg:=fc Tryz.f98 [0,1,2,3,9,42]
def Mb:=aQ Jg Tryz.func98 4 []
def pu:=aR Jg
noncomputable def Fh:=fc Tryz.f95 [0,2,3,4,5,6,7,8,9,36,47,48]
def Km:=aQ Fh Tryz.func95 1 [(2,some 103)]
def dv:=aR Fh
noncomputable def BP:=fc Tryz.f96 [0,2,3,4,5,6,7,8,35,46,48]
def Ig:=aQ BP Tryz.func96 1 [(2,some 107)]
def dl:=aR BP
noncomputable def rY:=fc Tryz.f170 [0,2,3,4,5,6,7,8,9,10,11,52,99,110,111]
def Mc:=aQ rY Tryz.func170 1 [(2,some 88)]
def cK:=aR rY [14] [(4, .q 0 8 (.r 8 [1,2,3] (.q 9 3 .o)))]
noncomputable abbrev Q7:=tl Tryz.prog rY 14
def Md:=eZ rY 14
noncomputable def cJ:=fc Tryz.f38 [0,2,3,4,5,6,7,8,9,10,11,12,13,14,16,17,28,53,66,83,141,167,193,219,241,261]
def xG:=aQ cJ Tryz.func38 1 [(2,some 96),(3,none),(4,none)]
def aJ:=aR cJ [4,9,16,19,23,27,31,36,38] [(21, .q 0 3 (.r 3 [0,1] (.r 4 [0,1] (.q 5 3 .o)))),(25, .q 0 3 (.r 3 [0,1] (.r 4 [0,1] (.q 5 3 .o)))),(29, .q 0 3 (.r 3 [0,1] (.r 4 [0,1] (.q 5 3 .o)))),(39, .q 0 15 (.r 15 [2,3,4,5,6,7,9,10,11,12,13,14] (.q 16 2 .o)))]
noncomputable abbrev Dd:=tl Tryz.prog cJ 38
def xH:=eZ cJ 38
noncomputable abbrev De:=tl Tryz.prog cJ 36
def xI:=eZ cJ 36 [38]
noncomputable abbrev Df:=tl Tryz.prog cJ 31
def xJ:=eZ cJ 31 [36,38]
noncomputable abbrev Dg:=tl Tryz.prog cJ 27
def xK:=eZ cJ 27 [31,36,38]
noncomputable abbrev Dh:=tl Tryz.prog cJ 23
def xL:=eZ cJ 23 [27,31,36,38]
noncomputable abbrev Di:=tl Tryz.prog cJ 19
def xM:=eZ cJ 19 [23,27,31,36,38]
noncomputable abbrev Dj:=tl Tryz.prog cJ 16
def xN:=eZ cJ 16 [19,23,27,31,36,38]
noncomputable abbrev Dk:=tl Tryz.prog cJ 9
def xO:=eZ cJ 9 [16,19,23,27,31,36,38]
noncomputable abbrev Dl:=tl Tryz.prog cJ 4
def xP:=eZ cJ 4 [9,16,19,23,27,31,36,38]
end Go.Proofs.YtmbboehmnfhjjaaGreatDoor
