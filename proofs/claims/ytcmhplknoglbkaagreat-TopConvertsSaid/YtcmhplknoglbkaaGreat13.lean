/- Part 13 of the proof of TopConvertsSaid. -/
import Derived.Shelf.Slices.Turned
import Derived.Shelf.Slices.SearchI
import Derived.Shelf.Slices.Clone
import Derived.Shelf.Slices.Cells
import Derived.Shelf.Slices.Empties
import Derived.Shelf.Slices.Empties2
import Derived.Ground.Names2Prog
import Derived.Ground.SlgfProg
import Derived.Shelf.SlicesE.DeleteFunc
import Derived.Shelf.Spec.SlicesInsert
import Derived.Shelf.Spec.SlicesInsertGrow
import Derived.Shelf.SlGeneric
import Derived.Shelf.SlIterI.Nil
import Derived.Shelf.SortM.Plain
import Derived.Shelf.SortM.SortNone
import Derived.Ground.GgzProg
import Derived.Ground.SlgmProg
import Derived.Ground.SlsfProg
import Derived.Shelf.SlSortCmp.WholeK
import Derived.Test.YtcmhplknoglbkaaGreatProg
import Derived.Shelf.Small.Wraps
import Derived.RangeFuncNested
import Derived.RangeFuncBound
import Derived.RangeFuncCalls
import Derived.RangeFuncLeaves
import Derived.RangeFuncBox
import Derived.RangeFuncWrites
import Derived.Shelf.Abstract
import Derived.Shelf.RegionOpen
import Derived.OwnWalkIn
import Derived.TacticsInMore
import Derived.LoopNIn
import Derived.LoopIn
import Derived.Maps.AppendAt
import Derived.Test.YtcmhplknoglbkaaGreat0
import Derived.Test.YtcmhplknoglbkaaGreat1
import Derived.Test.YtcmhplknoglbkaaGreat6
import Derived.Test.YtcmhplknoglbkaaGreat9
set_option linter.all false
set_option maxRecDepth 100000
set_option maxHeartbeats 4000000
open Go.Proofs.Tryz
open Array renaming replicate_succ->qc,replicate_zero->qd
open Go renaming Calls->aD,CallsIn->q9,callsIn_of_wp->C6,undef->aZ
open Go.Ending renaming returned->aA
open Go.Fn renaming func->ek
open Go.IntKind renaming i64->R
open Go.Lib renaming compareInt->y4
open Go.Obj renaming cells->bf
open Go.Proofs.AnyQ renaming slices_SortFunc->af1
open Go.Proofs.Lays renaming n107->awZ,n122->aw0
open Go.Proofs.Lays2 renaming n15->aw3,n21->aw4,n25->aw5
open Go.Proofs.SlLaysF0 renaming n6->af2
open Go.Proofs.SlLaysH renaming n10->aw7
open Go.Proofs.SlLaysM renaming n5->aw8
open Go.Proofs.SlLaysZI renaming n6->aw9,n7->axa
open Go.Proofs.Tryz renaming func193->UW,func194->Oo,func256->U3,func271->U4,func272->U5,func312->agA,func317->U9,func318->U',func339->agD,isAgg0->vY,isAgg144->agQ,isAgg188->Vf,isAgg3->pn,isAgg300->agR,isAgg311->Jq,isAgg315->Ow,isAgg371->Vg,isAgg372->Vh,isAgg4->tl,isAgg42->Vi,isAgg420->Vj,isAgg423->Vk,isAgg448->Vl,isAgg5->Jr,isAgg80->Vm,isAgg82->AO,isAgg9->FI,ntmps256->ahi,prog->ax,sizeOf0->v7,sizeOf144->ahx,sizeOf188->VB,sizeOf3->po,sizeOf300->ahy,sizeOf311->Jt,sizeOf315->OD,sizeOf371->VC,sizeOf372->VD,sizeOf4->tm,sizeOf42->VE,sizeOf420->VF,sizeOf423->VG,sizeOf448->VH,sizeOf5->Ju,sizeOf80->VI,sizeOf82->AP,sizeOf9->FK,underlying0->v8,underlying144->ahz,underlying188->VJ,underlying3->j2,underlying300->ahB,underlying311->Jv,underlying315->OG,underlying371->VL,underlying372->VM,underlying4->tp,underlying42->VN,underlying420->VO,underlying423->VP,underlying448->VR,underlying5->lj,underlying80->VT,underlying82->ik,underlying9->y7,zeroValue0->wa,zeroValue144->ahD,zeroValue188->VU,zeroValue3->qi,zeroValue300->ahE,zeroValue311->Jw,zeroValue315->OH,zeroValue371->VV,zeroValue372->VW,zeroValue4->tq,zeroValue42->VX,zeroValue420->VY,zeroValue423->VZ,zeroValue448->V0,zeroValue5->Jx,zeroValue80->V1,zeroValue82->AS,zeroValue9->FM
open Go.Proofs renaming ltOf->FN
open Go.RowKit renaming Below->uL
open Go.RowKit.Below renaming refl->OL
open Go.Sort renaming HoldsK->OM,alloc_eq_grow->ON,grow->FO
open Go.Value renaming func->dK,int->J,pointer->ay,slice->ad
open List renaming append_toArray->qq,cons_append->py,ext_getElem->W8,length_cons->jT,length_nil->l2,nil_append->na,push_toArray->qs,size_toArray->iR
open Nat renaming le_refl->cp,zero_le->cQ
open Option renaming none->af,some->ab
namespace Go.Proofs.YtcmhplknoglbkaaGreat
open Go.Shelf
def Tryz.aqc:Go.Shelf.Ren:=⟨λ|107=>190|108=>262|n=>n,λ|28=>82|3=>3|4=>4|0=>0|n=>n,λ|n=>n⟩
def Tryz.abV:awZ ax Tryz.aqc:={
 mixed:=aT
 f107:=func190.trans (congrArg ab aT)
 f108:=func262.trans (congrArg ab aT)
 t0:=v8
 a0:=vY
 z0:=v7
 v0:=wa
 t3:=j2
 a3:=pn
 z3:=po
 v3:=qi
 t4:=tp
 a4:=tl
 z4:=tm
 v4:=tq
 t28:=ik
 a28:=AO
 z28:=AP
 v28:=AS}
def Tryz.aqk:Go.Shelf.Ren:=⟨λ|15=>380|n=>n,λ|22=>82|3=>3|4=>4|n=>n,λ|n=>n⟩
def Tryz.SM:aw3 ax Tryz.aqk:={
 mixed:=aT
 f15:=func380.trans (congrArg ab aT)
 t3:=j2
 a3:=pn
 z3:=po
 v3:=qi
 t4:=tp
 a4:=tl
 z4:=tm
 v4:=tq
 t22:=ik
 a22:=AO
 z22:=AP
 v22:=AS
 i3:=by rfl}
def Tryz.aql:Go.Shelf.Ren:=⟨λ|25=>305|31=>339|32=>340|37=>194|n=>n,λ|22=>82|3=>3|4=>4|40=>311|0=>0|n=>n,λ|n=>n⟩
def Tryz.abY:aw5 ax Tryz.aql:={
 mixed:=aT
 f25:=func305.trans (congrArg ab aT)
 f31:=agD.trans (congrArg ab aT)
 f32:=func340.trans (congrArg ab aT)
 f37:=Oo.trans (congrArg ab aT)
 t0:=v8
 a0:=vY
 z0:=v7
 v0:=wa
 t3:=j2
 a3:=pn
 z3:=po
 v3:=qi
 t4:=tp
 a4:=tl
 z4:=tm
 v4:=tq
 t22:=ik
 a22:=AO
 z22:=AP
 v22:=AS
 t40:=Jv
 a40:=Jq
 z40:=Jt
 v40:=Jw}
def Tryz.abX:Go.Shelf.Ren:=⟨λ|21=>306|27=>341|28=>342|35=>364|39=>382|n=>n,λ|22=>82|3=>3|4=>4|0=>0|n=>n,λ|n=>n⟩
def Tryz.H7:aw4 ax Tryz.abX:={
 mixed:=aT
 f21:=func306.trans (congrArg ab aT)
 f27:=func341.trans (congrArg ab aT)
 f28:=func342.trans (congrArg ab aT)
 f35:=func364.trans (congrArg ab aT)
 f39:=func382.trans (congrArg ab aT)
 t0:=v8
 a0:=vY
 z0:=v7
 v0:=wa
 t3:=j2
 a3:=pn
 z3:=po
 v3:=qi
 t4:=tp
 a4:=tl
 z4:=tm
 v4:=tq
 t22:=ik
 a22:=AO
 z22:=AP
 v22:=AS
 i3:=by rfl}
def Tryz.aqg:Go.Shelf.Ren:=⟨λ|10=>334|6=>363|n=>n,λ|22=>82|23=>3|25=>144|3=>3|4=>4|0=>0|n=>n,λ|n=>n⟩
def Tryz.aqf:aw7 ax Tryz.aqg:={
 mixed:=aT
 f6:=⟨f363.name,bj,func363.trans (congrArg ab aT)⟩
 f10:=⟨f334.name,bj,func334.trans (congrArg ab aT)⟩
 t0:=v8
 a0:=vY
 z0:=v7
 v0:=wa
 t3:=j2
 a3:=pn
 z3:=po
 v3:=qi
 t4:=tp
 a4:=tl
 z4:=tm
 v4:=tq
 t22:=ik
 a22:=AO
 z22:=AP
 v22:=AS
 a23:=pn
 z23:=po
 t25:=ahz
 a25:=agQ
 z25:=ahx
 v25:=ahD}
def Tryz.abO:Go.Shelf.Ren:=⟨λ|7=>381|10=>388|n=>n,λ|23=>467|26=>3|3=>4|28=>300|0=>0|27=>143|33=>144|4=>4|n=>n,λ|n=>n⟩
def Tryz.abN:axa ax Tryz.abO:={
 mixed:=aT
 f7:=⟨f381.name,bj,func381.trans (congrArg ab aT)⟩
 f10:=⟨f388.name,bj,func388.trans (congrArg ab aT)⟩
 t0:=v8
 a0:=vY
 z0:=v7
 v0:=wa
 t4:=tp
 a4:=tl
 z4:=tm
 v4:=tq
 t23:=Tryz.underlying467
 a23:=isAgg467
 z23:=sizeOf467
 v23:=zeroValue467
 t26:=j2
 a26:=pn
 z26:=po
 v26:=qi
 t27:=underlying143
 a27:=isAgg143
 z27:=sizeOf143
 v27:=zeroValue143
 t28:=ahB
 a28:=agR
 z28:=ahy
 v28:=ahE
 t33:=ahz
 a33:=agQ
 z33:=ahx
 v33:=ahD}
def Tryz.aew:Go.Shelf.Ren:=⟨λ|6=>183|8=>254|9=>255|11=>312|13=>193|12=>313|23=>271|24=>272|14=>345|15=>346|16=>347|17=>348|18=>349|19=>350|20=>339|21=>351|22=>352|25=>373|26=>317|27=>318|28=>374|29=>375|30=>194|31=>386|n=>n,λ|26=>3|28=>300|24=>82|0=>0|3=>3|37=>311|48=>315|50=>42|4=>4|40=>372|39=>371|45=>188|5=>5|9=>9|51=>420|55=>423|57=>448|58=>80|33=>144|n=>n,λ|n=>n⟩
def Tryz.aup:aw9 ax Tryz.aew:={
 mixed:=aT
 f6:=⟨f183.name,bj,func183.trans (congrArg ab aT)⟩
 f8:=⟨f254.name,bj,func254.trans (congrArg ab aT)⟩
 f11:=⟨f312.name,bj,agA.trans (congrArg ab aT)⟩
 t0:=v8
 a0:=vY
 z0:=v7
 v0:=wa
 t24:=ik
 a24:=AO
 z24:=AP
 v24:=AS
 t26:=j2
 a26:=pn
 z26:=po
 v26:=qi
 t28:=ahB
 a28:=agR
 z28:=ahy
 v28:=ahE
 i26:=by rfl}
def Tryz.auh:Go.Shelf.Ren:=⟨λ|5=>255|8=>193|7=>313|19=>271|20=>272|10=>345|11=>346|12=>347|13=>348|14=>349|15=>350|16=>339|17=>351|18=>352|30=>373|31=>317|32=>318|33=>374|34=>375|35=>194|40=>386|n=>n,λ|23=>82|25=>3|3=>3|32=>311|22=>82|0=>0|44=>315|46=>42|4=>4|36=>372|35=>371|41=>188|5=>5|9=>9|53=>420|57=>423|63=>448|64=>80|n=>n,λ|n=>n⟩
def Tryz.aet:aw8 ax Tryz.auh:={
 mixed:=aT
 f5:=⟨f255.name,bj,func255.trans (congrArg ab aT)⟩
 f7:=⟨f313.name,bj,func313.trans (congrArg ab aT)⟩
 f8:=UW.trans (congrArg ab aT)
 f10:=⟨f345.name,bj,func345.trans (congrArg ab aT)⟩
 f11:=⟨f346.name,bj,func346.trans (congrArg ab aT)⟩
 f12:=⟨f347.name,bj,func347.trans (congrArg ab aT)⟩
 f13:=⟨f348.name,bj,func348.trans (congrArg ab aT)⟩
 f14:=⟨f349.name,bj,func349.trans (congrArg ab aT)⟩
 f15:=⟨f350.name,bj,func350.trans (congrArg ab aT)⟩
 f16:=⟨f339.name,bj,agD.trans (congrArg ab aT)⟩
 f17:=⟨f351.name,bj,func351.trans (congrArg ab aT)⟩
 f18:=⟨f352.name,bj,func352.trans (congrArg ab aT)⟩
 f19:=U4.trans (congrArg ab aT)
 f20:=U5.trans (congrArg ab aT)
 f30:=⟨f373.name,bj,func373.trans (congrArg ab aT)⟩
 f31:=U9.trans (congrArg ab aT)
 f32:=U'.trans (congrArg ab aT)
 f33:=⟨f374.name,bj,func374.trans (congrArg ab aT)⟩
 f34:=⟨f375.name,bj,func375.trans (congrArg ab aT)⟩
 f35:=⟨f194.name,bj,Oo.trans (congrArg ab aT)⟩
 f40:=⟨f386.name,bj,func386.trans (congrArg ab aT)⟩
 t0:=v8
 a0:=vY
 z0:=v7
 v0:=wa
 t3:=j2
 a3:=pn
 z3:=po
 v3:=qi
 t4:=tp
 a4:=tl
 z4:=tm
 v4:=tq
 t5:=lj
 a5:=Jr
 z5:=Ju
 v5:=Jx
 t9:=y7
 a9:=FI
 z9:=FK
 v9:=FM
 t22:=ik
 a22:=AO
 z22:=AP
 v22:=AS
 t23:=ik
 a23:=AO
 z23:=AP
 v23:=AS
 t25:=j2
 a25:=pn
 z25:=po
 v25:=qi
 t32:=Jv
 a32:=Jq
 z32:=Jt
 v32:=Jw
 t35:=VL
 a35:=Vg
 z35:=VC
 v35:=VV
 t36:=VM
 a36:=Vh
 z36:=VD
 v36:=VW
 t41:=VJ
 a41:=Vf
 z41:=VB
 v41:=VU
 t44:=OG
 a44:=Ow
 z44:=OD
 v44:=OH
 t46:=VN
 a46:=Vi
 z46:=VE
 v46:=VX
 t53:=VO
 a53:=Vj
 z53:=VF
 v53:=VY
 t57:=VP
 a57:=Vk
 z57:=VG
 v57:=VZ
 t63:=VR
 a63:=Vl
 z63:=VH
 v63:=V0
 t64:=VT
 a64:=Vm
 z64:=VI
 v64:=V1}
def Tryz.aqe:Go.Shelf.Ren:=⟨λ|122=>108|215=>194|n=>n,λ|3=>3|4=>4|n=>n,λ|n=>n⟩
def Tryz.aqd:aw0 ax Tryz.aqe:={
 mixed:=aT
 f122:=Tryz.func108.trans (congrArg ab aT)
 f215:=Oo.trans (congrArg ab aT)
 t3:=j2
 a3:=pn
 z3:=po
 v3:=qi
 t4:=tp
 a4:=tl
 z4:=tm
 v4:=tq}
def Tryz.aqo:Go.Shelf.Ren:=⟨λ|6=>307|15=>193|14=>343|28=>271|29=>272|20=>365|21=>366|22=>367|23=>368|24=>369|25=>370|26=>371|27=>372|46=>383|47=>317|48=>318|49=>384|50=>385|57=>389|n=>n,λ|22=>409|24=>413|25=>415|3=>3|39=>311|0=>0|53=>315|55=>42|4=>4|46=>372|45=>371|50=>188|5=>5|9=>9|66=>420|70=>423|76=>448|77=>80|n=>n,λ|n=>n⟩
def Tryz.ab0:af2 ax Tryz.aqo:={
 mixed:=aT
 f6:=⟨f307.name,bj,func307.trans (congrArg ab aT)⟩
 f14:=⟨f343.name,bj,func343.trans (congrArg ab aT)⟩
 f15:=UW.trans (congrArg ab aT)
 f20:=⟨f365.name,bj,func365.trans (congrArg ab aT)⟩
 f21:=⟨f366.name,bj,func366.trans (congrArg ab aT)⟩
 f22:=⟨f367.name,bj,func367.trans (congrArg ab aT)⟩
 f23:=⟨f368.name,bj,func368.trans (congrArg ab aT)⟩
 f24:=⟨f369.name,bj,func369.trans (congrArg ab aT)⟩
 f25:=⟨f370.name,bj,func370.trans (congrArg ab aT)⟩
 f26:=⟨f371.name,bj,func371.trans (congrArg ab aT)⟩
 f27:=⟨f372.name,bj,func372.trans (congrArg ab aT)⟩
 f28:=U4.trans (congrArg ab aT)
 f29:=U5.trans (congrArg ab aT)
 f46:=⟨f383.name,bj,func383.trans (congrArg ab aT)⟩
 f47:=U9.trans (congrArg ab aT)
 f48:=U'.trans (congrArg ab aT)
 f49:=⟨f384.name,bj,func384.trans (congrArg ab aT)⟩
 f50:=⟨f385.name,bj,func385.trans (congrArg ab aT)⟩
 f57:=⟨f389.name,bj,func389.trans (congrArg ab aT)⟩
 t0:=v8
 a0:=vY
 z0:=v7
 v0:=wa
 t3:=j2
 a3:=pn
 z3:=po
 v3:=qi
 t4:=tp
 a4:=tl
 z4:=tm
 v4:=tq
 t5:=lj
 a5:=Jr
 z5:=Ju
 v5:=Jx
 t9:=y7
 a9:=FI
 z9:=FK
 v9:=FM
 t22:=underlying409
 a22:=isAgg409
 z22:=sizeOf409
 v22:=zeroValue409
 t25:=underlying415
 a25:=isAgg415
 z25:=sizeOf415
 v25:=zeroValue415
 t39:=Jv
 a39:=Jq
 z39:=Jt
 v39:=Jw
 t45:=VL
 a45:=Vg
 z45:=VC
 v45:=VV
 t46:=VM
 a46:=Vh
 z46:=VD
 v46:=VW
 t50:=VJ
 a50:=Vf
 z50:=VB
 v50:=VU
 t53:=OG
 a53:=Ow
 z53:=OD
 v53:=OH
 t55:=VN
 a55:=Vi
 z55:=VE
 v55:=VX
 t66:=VO
 a66:=Vj
 z66:=VF
 v66:=VY
 t70:=VP
 a70:=Vk
 z70:=VG
 v70:=VZ
 t76:=VR
 a76:=Vl
 z76:=VH
 v76:=V0
 t77:=VT
 a77:=Vm
 z77:=VI
 v77:=V1}
def Tryz.aqn:Go.Shelf.Ren:=⟨λ|6=>106|15=>193|14=>192|28=>271|29=>272|20=>263|21=>264|22=>265|23=>266|24=>267|25=>268|26=>269|27=>270|46=>316|47=>317|48=>318|49=>319|50=>320|57=>353|n=>n,λ|22=>24|24=>73|25=>172|3=>3|39=>311|0=>0|53=>315|55=>42|4=>4|46=>372|45=>371|50=>188|5=>5|9=>9|66=>420|70=>423|76=>448|77=>80|n=>n,λ|n=>n⟩
def Tryz.abZ:af2 ax Tryz.aqn:={
 mixed:=aT
 f6:=⟨f106.name,bj,func106.trans (congrArg ab aT)⟩
 f14:=⟨f192.name,bj,func192.trans (congrArg ab aT)⟩
 f15:=UW.trans (congrArg ab aT)
 f20:=⟨f263.name,bj,func263.trans (congrArg ab aT)⟩
 f21:=⟨f264.name,bj,func264.trans (congrArg ab aT)⟩
 f22:=⟨f265.name,bj,func265.trans (congrArg ab aT)⟩
 f23:=⟨f266.name,bj,func266.trans (congrArg ab aT)⟩
 f24:=⟨f267.name,bj,func267.trans (congrArg ab aT)⟩
 f25:=⟨f268.name,bj,func268.trans (congrArg ab aT)⟩
 f26:=⟨f269.name,bj,func269.trans (congrArg ab aT)⟩
 f27:=⟨f270.name,bj,func270.trans (congrArg ab aT)⟩
 f28:=U4.trans (congrArg ab aT)
 f29:=U5.trans (congrArg ab aT)
 f46:=⟨f316.name,bj,func316.trans (congrArg ab aT)⟩
 f47:=U9.trans (congrArg ab aT)
 f48:=U'.trans (congrArg ab aT)
 f49:=⟨f319.name,bj,func319.trans (congrArg ab aT)⟩
 f50:=⟨f320.name,bj,func320.trans (congrArg ab aT)⟩
 f57:=⟨f353.name,bj,func353.trans (congrArg ab aT)⟩
 t0:=v8
 a0:=vY
 z0:=v7
 v0:=wa
 t3:=j2
 a3:=pn
 z3:=po
 v3:=qi
 t4:=tp
 a4:=tl
 z4:=tm
 v4:=tq
 t5:=lj
 a5:=Jr
 z5:=Ju
 v5:=Jx
 t9:=y7
 a9:=FI
 z9:=FK
 v9:=FM
 t22:=Tryz.underlying24
 a22:=isAgg24
 z22:=sizeOf24
 v22:=zeroValue24
 t25:=underlying172
 a25:=isAgg172
 z25:=sizeOf172
 v25:=zeroValue172
 t39:=Jv
 a39:=Jq
 z39:=Jt
 v39:=Jw
 t45:=VL
 a45:=Vg
 z45:=VC
 v45:=VV
 t46:=VM
 a46:=Vh
 z46:=VD
 v46:=VW
 t50:=VJ
 a50:=Vf
 z50:=VB
 v50:=VU
 t53:=OG
 a53:=Ow
 z53:=OD
 v53:=OH
 t55:=VN
 a55:=Vi
 z55:=VE
 v55:=VX
 t66:=VO
 a66:=Vj
 z66:=VF
 v66:=VY
 t70:=VP
 a70:=Vk
 z70:=VG
 v70:=VZ
 t76:=VR
 a76:=Vl
 z76:=VH
 v76:=V0
 t77:=VT
 a77:=Vm
 z77:=VI
 v77:=V1}
open Go.RowKit Go.MapKept
def wM:Nat->List (Int×Int)->List jQ
 |_,[]=>[]
 |k,e::t=>(e,(k:Int))::wM (k+1) t
def iG(l:List (Int×Int)):List jQ:=wM 0 l
theorem YM e:∀(t) k,wM k (t++[e])=wM k t++[(e,((k+t.length:Nat):Int))]
 |[],k=>aa
 |x::t,k=>by simp only[py,wM,YM e t (k+1),jT];rw[show k+1+t.length=k+(t.length+1) by omega]
def amC t e:iG (t++[e])=iG t++[(e,(t.length:Int))]:=by grind[iG,YM]
def YK:∀(t) k,(wM k t).length=t.length
 |[],_=>aa
 |_::t,k=>by simp[wM,YK t (k+1)]
theorem zJ l:(iG l).length=l.length:=YK l 0
theorem Q5:∀(t) (k i),(wM k t)[i]?=(t[i]?).map λe=>(e,((k+i:Nat):Int))
 |[],_,i=>by rfl
 |e::t,k,0=>by rfl
 |e::t,k,i+1=>by simp only[wM,List.getElem?_cons_succ];rw[Q5 t (k+1) i,show k+1+i=k+(i+1) by omega]
theorem DY l(i:Nat):(iG l)[i]?=(l[i]?).map λe=>(e,(i:Int)):=by grind[iG,Q5]
theorem Ab{l x}:x∈iG l↔∃i:Nat,l[i]?=ab x.1/\x.2=(i:Int):=by
 rw[List.mem_iff_getElem?];constructor;·grind[DY]
 .rintro⟨i,hi,h2⟩;refine⟨i,?_⟩;grind[DY]
def ot(x:jQ):List Value:=[J R x.1.1,J R x.1.2,J R x.2]
def qx(S:List jQ):List Value:=S.flatMap ot
def akE S:(qx S).length=S.length*3:=by
 unfold qx;induction S with
 |nil=>rfl
 |cons e r a=>grind[ot]
def akF S x:qx (S++[x])=qx S++ot x:=by simp[qx]
def X6:∀(S) (j c),j<S.length->c<3->(qx S)[j*3+c]?=(ot (S[j]?.getD ya))[c]?
 |[],j,c,a,_=>by grind
 |x::S,0,c,_,hc=>by grind[ot,qx]
 |x::S,j+1,c,a,hc=>by
  show(ot x++qx S)[(j+1)*3+c]?=_;rw[List.getElem?_append_right (by simp[ot];omega)];have bD:(j+1)*3+c -(ot x).length=j*3+c:=by simp[ot];omega
  rw[bD,X6 S j c (by simpa using a) hc];simp
theorem nb.lW{w base n c A S}(h:w.ownsRow base 413 3 (ad A n c) n (qx S)):n=S.length/\nb w A S:=by
 have b:n=S.length:=by have:=h.1;rw[akE]at this;omega
 refine⟨b,λl=>?_⟩;rcases h.2 with⟨hv,f⟩|⟨g,cap,cur,hv,hb,i,k,hcm,hcs,d⟩;·omega
 .injection hv with h1 h2 h3;subst h1;refine⟨g,0,rfl,λj a=>?_⟩
  have key:∀c,c<3->∀u,(ot (S[j]?.getD ya))[c]?=ab u->w.cell? ⟨g,0+j*3+c,af⟩=ab u:=λc hc u e=>by rw[<-X6 S j c a hc,<-d,List.getElem?_take,if_pos ae]at e;grind[World.cell?]
  exact⟨key 0 ae _ aa,key 1 ae _ aa,key 2 ae _ aa⟩
def Yc(x y)w:aD ax 108 #[J R x,J R y] w λe w'=>e=aA (J R (y4 x y))/\w'=w:=Any.cmp_Compare_int Tryz.aqd x y w
def aus(x y:jQ)W:aD ax 308 #[.agg #[J R x.1.1,J R x.1.2,J R x.2],.agg #[J R y.1.1,J R y.1.2,J R y.2]] W λe w'=>e=aA (J R (y4 x.1.1 y.1.1))/\∃q b,w'=FO (W.drewN q) b:=by have hcon:=λa=>Yc x.1.1 y.1.1 a;generalize y4 x.1.1 y.1.1=r at hcon⊢;go_enter func308,ntmps308;go_wp2_with (go_at_call 108;refine(hcon _).mono ?_;rintro e w' ⟨rfl,rfl⟩);go_ret;exact⟨aa,0,_,by rw[ON,ON,Sort.grow_grow];rfl⟩
def KG(x y:jQ):Int:=y4 x.1.1 y.1.1
theorem Mb(x y):FN KG x y=decide (x.1.1<y.1.1):=by grind[FN,KG,y4]
def auH:Sort.SWO (FN KG) where
 irrefl x:=by grind[Mb]
 trans x y z h1 h2:=by grind[Mb]
 ntrans x y z h1 h2:=by grind[Mb]
def amo args w:(callFunc 308 args).run ax w=.ok (.enter 308 args) w:=aT
def aq.putRowK F w(blk off)d(hb:F blk):aq F w (Sort.putRowK ot 3 w blk off d):=
 ⟨aa,aa,aa,by show w.heap.size<=(w.heap.modify blk _).size;simp,λk _ a=>by show(w.heap.modify blk _)[k]?=_;grind⟩
def aq.Zh F w os:aq F w (FO w os):=
 ⟨aa,aa,aa,by show w.heap.size<=(w.heap++os).size;rw[Array.size_append];omega,λk hk _=>by show(w.heap++os)[k]?=_;rw[Array.getElem?_append_left hk]⟩
def aq.Xy F w q:aq F w (Sort.ahead w q):=⟨aa,aa,aa,cp _,λ_ _ _=>aa⟩
def getElem!_toArray(S:List jQ)j(a:j<S.length):S.toArray[j]! =S[j]?.getD default:=aU
def nb.holds{w g S cur}(i:w.heap[g]?=ab (bf cur 413 (0,0)))(h:nb w (ab ⟨g,0,af⟩) S):OM ot 3 w g 0 S.toArray:=λt d=>by
 rw[Sort.size_flatK]at d;have j:t<S.length*3:=ae;have c:t/3<S.length:=ae;rw[Sort.get_flatK _ 3 _ t d,getElem!_toArray S _ c];obtain⟨b,off,e,hc⟩:=h ae;cases e;have a:=hc (t/3) c;have hr:t%3=0\/t%3=1\/t%3=2:=ae;refine⟨?_,by grind[World.frozen?]⟩;have f:S[t/3]?.getD default=S[t/3]?.getD ya:=aT;rw[f];rcases hr with hr|hr|hr;·have bD:0+t=0+t/3*3:=ae;rw[hr,bD];exact a.1
 .have bD:0+t=0+t/3*3+1:=ae;rw[hr,bD];exact a.2.1
 .have bD:0+t=0+t/3*3+2:=ae;rw[hr,bD];exact a.2.2
def nb.arl{w g d}(h:OM ot 3 w g 0 d):nb w (ab ⟨g,0,af⟩) d.toList:=λ_=>by refine⟨g,0,rfl,λj b=>?_⟩;have hj':j<d.size:=ae;have a:d.toList[j]?.getD ya=d[j]!:=aG;rw[a];exact⟨(h.cell hj' (c:=0) ae).1,(h.cell hj' (c:=1) ae).1,(h.cell hj' (c:=2) ae).1⟩
def aun(base n c)A S w(hv:w.ownsRow base 413 3 (ad A n c) n (qx S))(u:0<S.length)(hlen:S.length<=1048576):
 aD ax 307 #[ad A n c,dK (ek 308) #[] #[]] w λe w'=>e=aA (.tuple #[])/\∃a,a.Perm S/\a.Pairwise (λx y=>x.1.1<=y.1.1)/\nb w' A a/\aq (λi=>(ad A n c).ownBlock=ab i) w w':=by
 obtain⟨o,p⟩:=nb.lW hv;subst o;rcases hv.2 with⟨k,r⟩|⟨g,cap,cur,k,hb,d,t,hcm,hcs,z⟩;·omega
 .injection k with h1 h2 h3;subst h1 h3;have b:=nb.holds d p
  have h:=af1 Tryz.ab0 3 isAgg413 sizeOf413 ot (λ_=>aa) (λx v hv=>by simp[ot]at hv;rcases hv with rfl|rfl|rfl<;>rfl) KG auH 308 #[] g 0 c S.toArray w amo
   (λm os gC _ x y=>aus x y _) b (Array.getElem?_eq_some_iff.1 d).1 aG;simp only[iR]at h;change aD ax 307 _ _ _ at h;refine h.mono ?_;clear h;rintro e w' ⟨rfl,cE,m,os,f,q,rfl⟩;have hsz:cE.size=S.length:=by have:=f.1;simpa using this
  refine⟨aa,cE.toList,?_,?_,?_,((aq.Xy (λi=>(ad _ _ c).ownBlock=ab i) w m).trans (aq.putRowK (λi=>(ad _ _ c).ownBlock=ab i) _ g 0 cE aa) (λ_ _ h=>h)).trans (aq.Zh _ _ os) (λ_ _ h=>h)⟩
  .have:=f.2.2;have bD:(cE.extract 0 S.length).toList=cE.toList:=by rw[<-hsz];simp
   grind
  .rw[List.pairwise_iff_getElem];intro i j hi s l;have:=q i j (cQ _) l aG;grind[Mb]
  .refine nb.arl ?_;refine Sort.holdsK_grow ot 3 _ os g 0 cE ?_ (Sort.holdsK_putRowK ot 3 _ g 0 S.toArray cE (Sort.holdsK_ahead ot 3 w m g 0 S.toArray b) ae);show g<(w.heap.modify g _).size;grind
namespace G
open Go.RowKit Go.Shelf Go.Sort Go.Maps
attribute [local go_sem] Oper.semAt_some
def SC:(ax.info? 3).map (λi=>(i.zero,i.size,i.bytes))=ab (ab (J R 0),1,8):=aw
def upto{a:Type}(f:Nat->a)(k:Nat):List a:=(List.range k).map f
theorem ae0{a}(f:Nat->a)k:upto f (k+1)=upto f k++[f k]:=by simp[upto,List.range_succ]
theorem au5{a}(f:Nat->a)k:(upto f k).length=k:=by simp[upto]
theorem au4(a:List Int):upto (λj=>a[j]?.getD 0) a.length=a:=by
 apply W8;·simp[upto]
 .grind[upto]
def au6(a:List Int){k}(hk:k<=a.length):upto (λj=>a[j]?.getD 0) k=a.take k:=by
 apply W8;·grind[upto]
 grind[upto]
set_option maxHeartbeats 2000000 in
def au7 F n (q:F.fn 256) (hro:F.round=af) (z:1<=n) (l bZ f b off len cap) (c:List Int) (A:len*8<=140737488351232) (hb:b<f) (d g:List Int->World->Prop)
 (zN:∀pre x W,d pre W->pre.length<len->YieldAt F (n -1) ax l #[J R x] W λe a=>
   (e=aA (.bool true)/\d (pre++[x]) a/\uL f W a)\/(e=aA (.bool false)/\g (pre++[x]) a))
 W (yg:W.cell? ⟨bZ,0,af⟩=ab (ad (ab ⟨b,off,af⟩) len cap)) (hc:∀j,j<len->W.cell? ⟨b,off+j,af⟩=ab (J R (c[j]?.getD 0))) (h0:d [] W):
 q9 F n ax 256 #[dK (.yield l) #[] #[],ay (ab ⟨bZ,0,af⟩)] W λe a=>(∃v,e=aA v)/\
  ((∃cq,cq=upto (λj=>c[j]?.getD 0) len/\d cq a)\/(∃pre,(∃k,k<=len/\pre=upto (λj=>c[j]?.getD 0) k)/\g pre a)):=by
 refine C6 U3 aa q ?_ hro;simp only[ahi,iR,jT,l2,qc,qd,qs,qq,na,py];gi_wp2
 gi_loopw [7] (λi wr=>∃k:Nat,k<=len/\i=J R k/\d (upto (λj=>c[j]?.getD 0) k) wr/\uL f W wr)
  (λi _=>len -(intOf i).toNat);case atStart=>exact⟨0,cQ _,aa,h0,OL _ _⟩
 case round=>
  obtain⟨k,hk,rfl,m,o⟩:=hrel;have t:k<len->wr.cell? ⟨b,off+k,af⟩=ab (J R (c[k]?.getD 0)):=λh=>(o.cell (p:=⟨b,off+k,af⟩) hb).trans (hc k h);by_cases hlt:k<len
  .obtain⟨fn,tmps,assign,body,B,s⟩:=zN _ (c[k]?.getD 0) wr m (by grind[au5]);have y:=t hlt;gi_wp2;refine s.mono ?_;rintro e u (⟨rfl,w,hk3⟩|⟨rfl,r⟩)
   .gi_wp2;go_roundw;case rel=>exact⟨k+1,ae,aU,by grind[ae0],o.trans hk3⟩
    case measure=>grind[intOf]
   .gi_wp2;refine bodyPost_ret (results_none aa _ _ _) aa ?_;exact⟨⟨_,aa⟩,.inr ⟨_,⟨_,ae,(ae0 _ _).symm⟩,r⟩⟩
  .obtain rfl:k=len:=ae;gi_wp2;go_end0;exact⟨⟨_,aa⟩,.inl ⟨_,aa,m⟩⟩
def au8 F n(c:F.fn 256)(hro:F.round=af)(l bZ cap)A(a:List Int->World->Prop)W(g:W.cell? ⟨bZ,0,af⟩=ab (ad A 0 cap))(f:a [] W):
 q9 F n ax 256 #[dK (.yield l) #[] #[],ay (ab ⟨bZ,0,af⟩)] W λe b=>(∃v,e=aA v)/\a [] b:=by
 refine C6 U3 aa c ?_ hro;simp only[ahi,iR,jT,l2,qc,qd,qs,qq,na,py];gi_wp2;gi_loopw [7] (λi wr=>i=J R 0/\a [] wr) (λ_ _=>0);case atStart=>grind
 case round=>
  obtain⟨rfl,d⟩:=hrel;gi_wp2;go_end0;exact⟨⟨_,aa⟩,d⟩
def au9 F n(b:F.fn 184)(hro:F.round=af)a(len cap)w:
 q9 F n ax 184 #[ad a len cap] w λe w'=>e=aA (dK (ek 256) #[] #[ay (ab ⟨w.heap.size,0,af⟩)])/\w'=w.alloc (bf #[ad a len cap] 82):=by
 refine C6 func184 aa b ?_ hro;simp only[ntmps184,iR,jT,l2,qc,qd,qs,qq,na,py];gi_wp2;go_ret;exact⟨aa,aa⟩
def ava F n (i:F.fn 256) (hro:F.round=af) (t:1<=n) (bZ d cap) A a (v:a.length*8<=140737488351232) w (r:bZ<w.heap.size) (u:w.heap.size=d)
 (hc:w.cell? ⟨bZ,0,af⟩=ab (ad A a.length cap)) (f':cX w A a):
 SeqStopsK F n ax 256 #[ay (ab ⟨bZ,0,af⟩)] (λx:Int=>#[J R x]) (uL d) (λcq=>cq=a) (λpre=>pre<+:a) a.length w:=λl g o W m _ _ s h=>by
 have hc':=(m.cell (p:=⟨bZ,0,af⟩) r).trans hc;rcases Nat.eq_zero_or_pos a.length with hz|hz;·obtain rfl:=List.eq_nil_of_length_eq_zero hz;exact(au8 F n i hro l bZ _ A g W hc' h).mono λe q ⟨f,c⟩=>⟨f,.inl ⟨_,aa,c⟩⟩
 .obtain⟨b,off,rfl,hcs⟩:=f' hz;have hb:b<d:=u▸World.block_lt_of_cell? w _ (hcs 0 hz);refine(au7 F n i hro t l bZ d b off a.length cap a v hb g o s W hc' (λj c=>(m.cell (p:=⟨b,off+j,af⟩) aG).trans (hcs j c)) h).mono ?_;rintro e q ⟨f,⟨cq,rfl,c⟩|⟨pre,⟨k,hk,rfl⟩,c⟩⟩;·grind[au4]
  .exact⟨f,.inr ⟨_,by rw[au6 a hk];exact List.take_prefix _ _,c⟩⟩
set_option maxHeartbeats 2000000 in
def appendSeq_in F n (m:F.fn 312) (g:F.fn 256) (hro:F.round=af) (y:3<=n) (bZ cap) A a (hbytes:a.length*8<=140737488351232) w
 (yg:bZ<w.heap.size) (hc0:w.cell? ⟨bZ,0,af⟩=ab (ad A a.length cap)) (f':cX w A a):
 q9 F n ax 312 #[ad af 0 0,dK (ek 256) #[] #[ay (ab ⟨bZ,0,af⟩)]] w λe f=>∃v,e=aA v/\f.ownsRow w.heap.size 3 1 v a.length (a.map (J R))/\(v=ad af 0 0↔a=[])/\uL w.heap.size w f:=by
 have h1:1<=n:=ae;obtain⟨r,hi,hz0,hz1,hz2⟩:=info_parts SC;refine callsIn_of_wp_marks agA aa m ?_ hro;simp only[ntmps312,iR,jT,l2,qc,qd,qs,qq,na,py];gi_wp2;have k:=Boxed.new w 82 (ad af 0 0);have d:uL w.heap.size w (w.alloc (bf #[ad af 0 0] 82)):=(OL _ w).alloc (cp _) _
 have hseq:SeqStopsK F (n -1) ax 256 #[ay (ab ⟨bZ,0,af⟩)] (λx:Int=>#[J R x]) (uL w.heap.size) (λcq=>cq=a) (λpre=>pre<+:a) a.length (w.alloc (bf #[ad af 0 0] 82)):=
  λl i j W p=>ava F (n -1) g hro ae bZ w.heap.size cap A a hbytes w yg aa hc0 f' l i j W (d.trans (p.mono d.size))
 refine wpIn_rangeFunc_ownG hro h1 (gf:=256) (lb:=_) aa g (enters_of U3 aw aa)
  hseq belowK_t (belowK_b aU) (OL _ _) (λ_=>aa)
  (λpre W=>(∃v,Boxed W w.heap.size 82 v/\W.ownsRow w.heap.size 3 1 v pre.length (pre.map (J R))/\(v=ad af 0 0↔pre=[]))/\uL w.heap.size w W)
  (λ_ _ _=>False)
  (OwnFrom.and (Own.from (holdsRow_own w.heap.size w.heap.size 82 3 1 (λpre=>pre.length) (λpre=>pre.map (J R)) (λpre v=>v=ad af 0 0↔pre=[])) _) (ownFrom_below (cp _) aU))
  (λ_ _ _ _ _ q _ _=>q)
  ⟨⟨_,k,World.ownsRow_nil _ _ _ _,aU⟩,d⟩
  (λx=>{tmps:=#[ad af 0 0,dK (ek 256) #[] #[ay (ab ⟨bZ,0,af⟩)],ay (ab ⟨w.heap.size,0,af⟩),aZ,ad af 0 0,J R x,dK (ek 256) #[] #[ay (ab ⟨bZ,0,af⟩)],J R x,aZ,aZ,aZ,aZ,aZ],defers:=[]}) ?assign ?body ?done ?stop
 case assign=>
  intro l x W K c;gi_wp2;exact c
 case body=>
  rintro l pre x W ⟨⟨v,hv,hrow,hnil⟩,b⟩ hlt;have hc:=hv.cell;gi_wp2_with (gi_at_builtin;refine wpListIn_append_own _ aa _ _ 82 aa w.heap.size 3 r (J R 0) 1 8 ik hi hz0 hz1 hz2 aa bj _ _ _ aa (hrow.alloc _) ⟨W.heap.size,0,af⟩ 1 1 [J R x] aa aa (cell_one_new _ _ _) (by simp[Value.oneCell']) (by grind[maxLen]) ae (by have:=b.size;simp;omega) ?_;intro v' w1 hown' hgrow _;obtain⟨t,s,rfl⟩:=ownsRow_succ hown';obtain⟨h,hv2,hr2,hk2,hb2⟩:=hv.appended bj hrow b.size (cp _) hown' hgrow;have hc1:=h.cell;have u:=h.frozen);exact⟨hk2.from _,hb2,⟨_,hv2,aG,aU⟩,b.trans hb2⟩
 case done=>
  rintro D cq W o rfl ⟨⟨v,hv,hrow,hnil⟩,b⟩ c;have hc:=hv.cell;gi_wp2;refine⟨aU,.inl ⟨_,_,aa,run_takeDeferred c,?_⟩⟩;exact⟨_,results_tmp aa _ _ _,v,aa,ownsRow_putObj hrow _ c aa,hnil,b.trans (belowK_b (w:=w) (cp _) W D _ _ (by simp at o;omega) c aa aa)⟩
 case stop=>simp
end G
end Go.Proofs.YtcmhplknoglbkaaGreat
