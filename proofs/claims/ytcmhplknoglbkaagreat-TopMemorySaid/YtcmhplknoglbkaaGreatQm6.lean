/- Part 6 of the proof of TopMemorySaid. -/
import Derived.Test.YtcmhplknoglbkaaGreatProg
import Derived.DeepKeys4
import Derived.Maps.OwnOps
import Derived.BigQuiet
import Derived.Deep.QuietTactic
import Derived.StillTailTactics
import Derived.Deep.RegionHeld3
import Derived.Deep.AppendLies
import Derived.Deep.DeepCutAuto
import Derived.Shelf.Slices.Turned
import Derived.Shelf.Slices.SearchI
import Derived.Shelf.Slices.Clone
import Derived.Shelf.Slices.Cells
import Derived.Shelf.Slices.Empties
import Derived.Shelf.Slices.Empties2
import Derived.Ground.Names2Prog
import Derived.Ground.SlgfProg
import Derived.Shelf.SlicesE.DeleteFunc
import Derived.Shelf.Spec.SlicesInsert
import Derived.Shelf.Spec.SlicesInsertGrow
import Derived.Shelf.SlGeneric
import Derived.Shelf.SlIterI.Nil
import Derived.Shelf.SortM.Plain
import Derived.Shelf.SortM.SortNone
import Derived.Ground.GgzProg
import Derived.Ground.SlgmProg
import Derived.Ground.SlsfProg
import Derived.Shelf.SlSortCmp.WholeK
import Derived.Shelf.Small.Wraps
import Derived.RangeFuncNested
import Derived.RangeFuncBound
import Derived.RangeFuncCalls
import Derived.RangeFuncLeaves
import Derived.RangeFuncBox
import Derived.RangeFuncWrites
import Derived.Shelf.Abstract
import Derived.Shelf.RegionOpen
import Derived.OwnWalkIn
import Derived.TacticsInMore
import Derived.LoopNIn
import Derived.LoopIn
import Derived.Maps.AppendAt
import Derived.Sort.OwnSorted
import Derived.Lib.SlKeysI
import Derived.Maps.RangeWalk
import Derived.Test.YtcmhplknoglbkaaGreatQm0
import Derived.Test.YtcmhplknoglbkaaGreatQm1
import Derived.Test.YtcmhplknoglbkaaGreatQm3
import Derived.Test.YtcmhplknoglbkaaGreatQm4
set_option linter.all false
set_option maxRecDepth 100000
set_option maxHeartbeats 4000000
open Go.Proofs.Tryz
open Array renaming getElem?_append_left->Kd,getElem?_eq_some_iff->tA,replicate_succ->pV,replicate_zero->pW,toList_filter->ahB
open Bool renaming false->ao,true->az
open Function renaming comp_def->Kn
open Go.Builtin renaming delete_->Vs,zeroCells->nt
open Go renaming Calls->aD,CallsIn->rU,MapEntry->O1,Value->aP,World->aQ,callsIn_of_wp->D0,callsIn_wide->sM,cell_of_one->p2,cell_of_row->fE,execOp->bA,grownCap->x',grownCap_ge->zK,grownCap_le_maxLen->zL,heap_alloc_new->fL,info_parts->vf,intKeys->W3,leftOf->BS,maxLen->eB,run_underlying->gN,step_append_lies->akg,undef->a7,wpList->cN,wpList_plain->D2
open Go.ChangeMaps renaming heap_setBlock_other->DR,heap_setBlock_same->DS,modify_eq_set->ahX,setBlock->la
open Go.Ending renaming returned->aB
open Go.Fence renaming wide->mQ
open Go.Fn renaming func->ed
open Go.Instr renaming entry->ah1,lookup->qQ,mapUpdate->DU
open Go.IntKind renaming i64->R
open Go.Lib renaming compareInt->zC
open Go.Lit renaming int->Gy
open Go.MapKept renaming heap_alloc->Vz,run_getObj_map->zD,run_setObj_map->GA,stamped_iff->O2
open Go.Maps renaming keyOf_int_mk->VA,size->Kv
open Go.Obj renaming cells->bo,map->iU,mapIter->Kw
open Go.Oper renaming wp->iy
open Go.Proofs.Any2 renaming slices_Insert_int_end_grow->ah8
open Go.Proofs.AnyQ renaming slices_SortFunc->aia
open Go.Proofs.Lays renaming n107->azB,n122->azC
open Go.Proofs.Lays2 renaming n15->azF,n21->azG,n25->azH
open Go.Proofs.SlLaysF0 renaming n6->aib
open Go.Proofs.SlLaysH renaming n10->azJ
open Go.Proofs.SlLaysM renaming n5->azK
open Go.Proofs.SlLaysZI renaming n6->azL,n7->azM
open Go.Proofs.Tryz renaming func193->VI,func194->O7,func256->VP,func271->VQ,func272->VR,func317->VV,func318->VW,isAgg0->wF,isAgg188->V1,isAgg3->qR,isAgg311->KB,isAgg315->Pc,isAgg371->V3,isAgg372->V4,isAgg4->tE,isAgg42->V5,isAgg420->V6,isAgg423->V7,isAgg448->V8,isAgg80->V9,isAgg82->BL,prog->ax,sizeOf0->wH,sizeOf188->Wn,sizeOf3->qT,sizeOf311->KE,sizeOf315->Pj,sizeOf371->Wp,sizeOf372->Wq,sizeOf4->tF,sizeOf42->Wr,sizeOf420->Ws,sizeOf423->Wt,sizeOf448->Wu,sizeOf5->KF,sizeOf80->Wv,sizeOf82->BN,sizeOf9->GF,underlying0->wI,underlying188->Ww,underlying3->jD,underlying302->Pl,underlying303->BO,underlying311->KG,underlying315->Pm,underlying371->Wz,underlying372->WA,underlying4->tG,underlying42->Pn,underlying420->WC,underlying423->WD,underlying448->WG,underlying5->mm,underlying80->WI,underlying82->jo,underlying9->DY,zeroValue0->wJ,zeroValue188->WJ,zeroValue3->qU,zeroValue311->KH,zeroValue315->Pp,zeroValue371->WL,zeroValue372->WM,zeroValue4->tH,zeroValue42->WN,zeroValue420->WO,zeroValue423->WQ,zeroValue448->WR,zeroValue5->KI,zeroValue80->WS,zeroValue82->BP,zeroValue9->GH
open Go.Proofs renaming enters_of->lf,ltOf->GI
open Go.Result renaming ok->bf
open Go.RowKit renaming Below->va,Hid->aE,intOf->bQ
open Go.RowKit.Below renaming refl->Pt
open Go.Sort renaming HoldsK->Pv,ahead->KK,alloc_eq_grow->Pw,grow->GJ
open Go.TypeDesc renaming map->wL
open Go.Value renaming agg->ar,bool->ai,cells->Px,func->dI,int->J,map->dL,oneCell'->zG,ownBlock->x8,pointer->ay,slice->ae,tuple->bn
open Go.WideElems renaming rd->aj9
open Go.World renaming block_lt_of_cell?->vd,frozen?->wM,news_of_block->akd,ownsRow_nil->BR,shape?->W1,size_alloc->zI
open List renaming append_toArray->p7,cons_append->pj,eq_nil_of_length_eq_zero->j3,ext_getElem->X7,filter_congr->Ek,filter_cons->Hd,filter_eq_self->z',filter_map->QK,getElem?_drop->He,getElem?_eq_getElem->cE,getElem?_eq_some_iff->eJ,getElem?_map->j4,getElem?_take->tR,length->q4,length_cons->jQ,length_drop->tS,length_map->hB,length_nil->mq,map_cons->j5,map_map->En,mem_append->iX,mem_append_left->Cd,mem_filter->nB,mem_map->gP,mem_of_getElem?->cX,nil_append->lJ,nodup_append->yu,pairwise_cons->wY,pairwise_iff_getElem->mr,push_toArray->qa,range->dQ,size_toArray->iK,take_length->lp
open Nat renaming eq_zero_or_pos->lX,le_refl->b9,zero_add->iY,zero_le->cC
open Option renaming none->af,some->ab
open Or renaming inl->b1,inr->cm
namespace Go.Proofs.YtcmhplknoglbkaaGreat
namespace G
open Go.RowKit Go.MapKept Go.WideMaps
open Go.Maps (Keyed)
def encI(x:Int):Value:=J R x
def cO(x:Int):Prop:=-9223372036854775808<=x/\x<=9223372036854775807
def vF(e:Int×Int):Value:=ar #[J R e.1,J R e.2]
def rA(e:Int×Int):Prop:=cO e.1/\cO e.2
def Og{x}(h:cO x):(Gy R x).wf=true:=WalkArith.wf_i64 h
def pD:sH ax 3 encI cO:=
 ⟨Maps.int_keyed jD,λh=>⟨_,VA jD (Og h)⟩,λh=>by grind[encI]⟩
def laidOut:laidOutB ax=true:=aw
def apd:(192:TypeId)<ax.types.size:=of_decide_eq_true aw
def ao7:ax.keyTypeAt 2 192=true:=aw
def apa:KeyLaw ax 192:=by refine deep_law_laid laidOut (m:=2) ad apd ao7 ?_;kernel_rfl
def ape:ax.keyType 192=true:=aw
def ao8:ax.cellsOf 192=2:=aw
def asv:ax.cellsOf 3=1:=aw
def axQ:∃m,ax.types.size=m+1:=by have h:(decide (0<ax.types.size))=true:=aw;have a:0<ax.types.size:=of_decide_eq_true h;exact⟨ax.types.size -1,ad⟩
def apb{e}(h:rA e)n:ax.keyLits (n+1+1) 192 (vF e).cells.toList=ab [Gy R e.1,Gy R e.2]:=by have h1:=Og h.1;have a:=Og h.2;simp[Program.keyLits,ao8,asv,vF,Px,h1,a]
def ao9 e:(vF e).formed ax 192=true:=bc
def apc{e}(h:rA e):∃l,keyOf ax 192 (vF e)=ab l:=by obtain⟨m,b⟩:=axQ;have a:=apb h m;unfold keyOf;rw[b,a,underlying192];simp only[ape,ao9,Bool.and_self,if_true,Option.map_some];exact⟨_,aa⟩
def M8:sH ax 192 vF rA:=
 ⟨Keyed.of_law apa,apc,λ{x y} h=>by grind[vF]⟩
open Go.RowKit Go.MapKept
def succ(E:List (Int×Int))(u:Int):List Int:=(E.filter (λe=>decide (e.1=u))).map (·.2)
def pred(E:List (Int×Int))(v:Int):List Int:=(E.filter (λe=>decide (e.2=v))).map (·.1)
def axx E e u:succ (E++[e]) u=if u=e.1 then succ E u++[e.2]else succ E u:=by grind[succ]
def ava E e v:pred (E++[e]) v=if v=e.2 then pred E v++[e.1]else pred E v:=by grind[pred]
theorem Js E u:(succ E u).length<=E.length:=by grind[succ]
theorem T8 E u:(pred E u).length<=E.length:=by grind[pred]
def yx(w:aQ)(a:List (Int×aP))(f:Int->List Int):Prop:=
 ∀u,(∀v,ej a u=ab v->w.ownsRow 0 3 1 v (f u).length ((f u).map (J R)))/\(ej a u=af->f u=[])
def sW(p q:Int×aP):Prop:=∀g,p.2.ownBlock=ab g->q.2.ownBlock≠ab g
def sW.symm{p q}(h:sW p q):sW q p:=λg b a=>h g a b
structure kP (w:aQ) (F:Nat->Prop) (b:Nat) (n:Int) (oA mP mO:List (Int×Int)) (fV mo fI:Nat) (e4 eX:List (Int×aP)):Prop where
 blk:w.heap[b]?=ab (bo #[J R n,dL (ab fV),dL (ab mo),dL (ab fI)] 305 (0,0))
 mX:d' w fV vF rA (oA.map (λe=>(e,ai az)))
 out:d' w mo encI cO e4
 ng:d' w fI encI cO eX
 qE:yx w e4 (succ mP)
 qC:yx w eX (pred mO)
 Ny:∀p∈e4,∀q∈e4,p.1≠q.1->sW p q
 Nx:∀p∈eX,∀q∈eX,p.1≠q.1->sW p q
 Dk:∀p∈e4,∀q∈eX,sW p q
 Gt:F b
 DN:F fV
 DP:F mo
 DO:F fI
 xZ:∀p∈e4,∀g,p.2.ownBlock=ab g->F g
 xY:∀p∈eX,∀g,p.2.ownBlock=ab g->F g
 TH:fV≠mo
 TG:fV≠fI
 TL:mo≠fI
 lo:e4.length<=mP.length
 li:eX.length<=mO.length
 n0:0<=n
 mI:n<=1048576
def hA(w:aQ)(F:Nat->Prop)(b:Nat)(n:Int)(E:List (Int×Int)):Prop:=
 (∃fV mo fI e4 eX,kP w F b n E E E fV mo fI e4 eX)/\E.Nodup/\∀e∈E,(0<=e.1/\e.1<n)/\(0<=e.2/\e.2<n)/\e.1≠e.2
section
variable {w w':aQ} {F G:Nat->Prop} {b:Nat} {n:Int} {E oA mP mO:List (Int×Int)} {fV mo fI:Nat} {e4 eX:List (Int×aP)}
theorem pH{base e:Nat}{v m xs}(h:w.ownsRow base e 1 v m xs)(k:av G w w')(hn:∀g,v.ownBlock=ab g->¬G g):w'.ownsRow base e 1 v m xs:=by
 refine⟨h.1,?_⟩;rcases h.2 with h2|⟨g,cap,cur,rfl,hb,hh,r⟩;·grind
 .exact cm ⟨g,_,_,aa,hb,k.heap hh (hn g aa),r⟩
def yx.only{a f}(h:yx w a f)(k:av G w w')(hn:∀p∈a,∀g,p.2.ownBlock=ab g->¬G g):yx w' a f:=λu=>
 ⟨λv hv=>pH ((h u).1 v hv) k (hn _ (sn hv)),(h u).2⟩
def kP.only(h:kP w F b n oA mP mO fV mo fI e4 eX)(k:av G w w')(hn:∀i,F i->¬G i):kP w' F b n oA mP mO fV mo fI e4 eX:=
 {h with
  blk:=k.heap h.blk (hn _ h.Gt)
  mX:=h.mX.only k (hn _ h.DN)
  out:=h.out.only k (hn _ h.DP)
  ng:=h.ng.only k (hn _ h.DO)
  qE:=h.qE.only k (λp c g a=>hn _ (h.xZ p c g a))
  qC:=h.qC.only k (λp c g a=>hn _ (h.xY p c g a))}
def kP.F3(h:kP w F b n oA mP mO fV mo fI e4 eX):(∀p∈e4,∀g,p.2.ownBlock=ab g->g<w.heap.size)/\(∀p∈eX,∀g,p.2.ownBlock=ab g->g<w.heap.size):=
 ⟨λp c g a=>(((h.qE p.1).1 p.2 (xw h.out.nodup c)).lt g a).2,λp c g a=>(((h.qC p.1).1 p.2 (xw h.ng.nodup c)).lt g a).2⟩
theorem kP.mono(h:kP w F b n oA mP mO fV mo fI e4 eX)(a:∀i,i<w.heap.size->F i->G i):kP w G b n oA mP mO fV mo fI e4 eX:=
 {h with
  Gt:=a _ (tA.1 h.blk).1 h.Gt
  DN:=a _ h.mX.lt h.DN
  DP:=a _ h.out.lt h.DP
  DO:=a _ h.ng.lt h.DO
  xZ:=λp d g c=>a _ (h.F3.1 p d g c) (h.xZ p d g c)
  xY:=λp d g c=>a _ (h.F3.2 p d g c) (h.xY p d g c)}
def hA.only(h:hA w F b n E)(k:av G w w')(hn:∀i,F i->¬G i):hA w' F b n E:=by obtain⟨⟨fV,mo,fI,e4,eX,g⟩,r⟩:=h;exact⟨⟨fV,mo,fI,e4,eX,g.only k hn⟩,r⟩
def hA.aI(h:hA w F b n E)(k:au w w'):hA w' F b n E:=h.only k (λ_ _ a=>a)
theorem hA.mono(h:hA w F b n E)(a:∀i,i<w.heap.size->F i->G i):hA w G b n E:=by obtain⟨⟨fV,mo,fI,e4,eX,g⟩,r⟩:=h;exact⟨⟨fV,mo,fI,e4,eX,g.mono a⟩,r⟩
def NR{b f}(h:yx w b f){p:Int×aP}(d:ej b p.1=ab p.2){g i es c}(a:p.2.ownBlock=ab g)(hi:w.heap[i]?=ab (iU es c)):g≠i:=by
 rintro rfl;rcases((h p.1).1 p.2 d).2 with⟨hv,_⟩|⟨e,cap,cur,hv,_,hh,_⟩;·rw[hv]at a;cases a
 grind[x8]
def _root_.Go.Proofs.YtcmhplknoglbkaaGreat.d'.uv{fv enc}{ok:fv->Prop}{a i}(h:d' w i enc ok a):∃es c,w.heap[i]?=ab (iU es c):=by obtain⟨es,c,hb,_⟩:=h;exact⟨es,c,hb⟩
def kP.L9(h:kP w F b n oA mP mO fV mo fI e4 eX){e}(a:w.grownBy w' (ab fV))(j:d' w' fV vF rA (kb (oA.map (λe=>(e,ai az))) e (ai az)))(l:e∉oA):
 kP w' F b n (oA++[e]) mP mO fV mo fI e4 eX:=by
 have k:av (λi=>i=fV) w w':=av.of_grownBy a (λi e=>aH);obtain⟨es,c,d⟩:=h.mX.uv;have hh:so (oA.map (λe=>(e,ai az))) e=false:=by grind[IX]
 rw[Nq _ hh]at j
 exact{h with
  blk:=k.heap h.blk (by rintro rfl;rw[h.blk]at d;cases d)
  mX:=aH
  out:=h.out.only k (λe=>h.TH e.symm)
  ng:=h.ng.only k (λe=>h.TG e.symm)
  qE:=h.qE.only k (λp f g a=>NR h.qE (xw h.out.nodup f) a d)
  qC:=h.qC.only k (λp f g a=>NR h.qC (xw h.ng.nodup f) a d)}
def kP.I6(h:kP w F b n oA mP mO fV mo fI e4 eX)u:w.ownsRow 0 3 1 ((ej e4 u).getD (ae af 0 0)) (succ mP u).length ((succ mP u).map (J R)):=by
 cases hm:ej e4 u with
 |none=>rw[(h.qE u).2 hm];exact BR _ _ _ _
 |some v=>exact(h.qE u).1 v hm
def kP.Ti(h:kP w F b n oA mP mO fV mo fI e4 eX)u:w.ownsRow 0 3 1 ((ej eX u).getD (ae af 0 0)) (pred mO u).length ((pred mO u).map (J R)):=by
 cases hm:ej eX u with
 |none=>rw[(h.qC u).2 hm];exact BR _ _ _ _
 |some v=>exact(h.qC u).1 v hm
def FU{base e:Nat}{v m xs}(h:w.ownsRow base e 1 v m xs){g t cs fr}(b:w.heap[g]?=ab (bo cs t fr))(hne:e≠t):v.ownBlock≠ab g:=by
 rcases h.2 with⟨rfl,_⟩|⟨a,cap,cur,rfl,_,hh,_⟩;·simp[x8]
 grind[x8]
theorem tl{base e:Nat}{v m xs}(h:w.ownsRow base e 1 v m xs){g es c}(b:w.heap[g]?=ab (iU es c)):v.ownBlock≠ab g:=by
 rcases h.2 with⟨rfl,_⟩|⟨a,cap,cur,rfl,_,hh,_⟩;·simp[x8]
 grind[x8]
def yx.put {a f e w1 u x v' mo es c} (h:yx w a f) (k:∀p∈a,∀q∈a,p.1≠q.1->sW p q)
 (eT:av (λi=>((ej a u).getD (ae af 0 0)).ownBlock=ab i) w w1) (hrow:w1.ownsRow 0 3 1 v' ((f u).length+1) ((f u).map (J R)++[J R x]))
 (te:w.heap[mo]?=ab (iU es c)) (fw:av (λi=>i=mo) w1 w') (hf:∀y,e y=if y=u then f y++[x]else f y):yx w' (kb a u v') e:=by
 have l:((ej a u).getD (ae af 0 0)).ownBlock≠ab mo:=by
  cases hm:ej a u with
  |none=>simp[x8]
  |some v=>exact tl ((h u).1 v hm) te
 have m:w1.heap[mo]?=ab (iU es c):=eT.heap te l;intro y;rw[TB,hf];by_cases d:y=u;·grind[pH,tl]
 .rw[if_neg d,if_neg d];refine⟨λv hv=>?_,(h y).2⟩;have hold:=(h y).1 v hv
  have n:w1.ownsRow 0 3 1 v (f y).length ((f y).map (J R)):=by
   refine pH hold eT (λg j b=>?_);cases hm:ej a u with
   |none=>rw[hm]at b;cases b
   |some o=>
    rw[hm]at b;exact k _ (sn hv) _ (sn hm) d g j b
  grind[pH,tl]
def aem {a u v' B} (j:∀p∈a,∀q∈a,p.1≠q.1->sW p q) (hlt:∀p∈a,∀g,p.2.ownBlock=ab g->g<B)
 (hloc:v'.ownBlock=((ej a u).getD (ae af 0 0)).ownBlock\/∃g,v'.ownBlock=ab g/\B<=g):(∀p∈kb a u v',∀q∈kb a u v',p.1≠q.1->sW p q)/\
  ∀q:Int×aP,(∀g,q.2.ownBlock=ab g->g<B)->(∀p∈a,sW p q)->∀p∈kb a u v',sW p q:=by
 have key:∀q:Int×aP,(∀g,q.2.ownBlock=ab g->g<B)->(∀b,ej a u=ab b->sW (u,b) q)->sW (u,v') q:=by
  intro q d h g i k;rcases hloc with h1|⟨il,h1,f⟩
  .cases hm:ej a u with
   |none=>
    rw[hm]at h1;have f:v'.ownBlock=none:=h1;grind
   |some b=>
    rw[hm]at h1;have f:v'.ownBlock=b.ownBlock:=h1;exact h b hm g (f▸i) k
  grind
 constructor
 .intro p c q d hne;rcases AY c with rfl|⟨c,arN⟩<;>rcases AY d with rfl|⟨d,aBA⟩;·omega
  .grind[sn]
  .exact(key p (hlt p c) (λb h=>j _ (sn h) p c (λe=>arN e.symm))).symm
  .grind
 .intro q d l p c;grind[AY,sn]
def Cp{g i t:Nat}{cs fr es c}(h:w.heap[g]?=ab (bo cs t fr))(hi:w.heap[i]?=ab (iU es c)):g≠i:=aH
def kP.outs (h:kP w F b n oA mP mO fV mo fI e4 eX) {w1 u x v'}
 (eT:av (λi=>((ej e4 u).getD (ae af 0 0)).ownBlock=ab i) w w1) (hrow:w1.ownsRow 0 3 1 v' ((succ mP u).length+1) ((succ mP u).map (J R)++[J R x]))
 (hloc:v'.ownBlock=((ej e4 u).getD (ae af 0 0)).ownBlock\/∃g,v'.ownBlock=ab g/\w.heap.size<=g) (fw:av (λi=>i=mo) w1 w')
 (hm:d' w' mo encI cO (kb e4 u v')) (hF:∀i,w.heap.size<=i->F i):kP w' F b n oA (mP++[(u,x)]) mO fV mo fI (kb e4 u v') eX:=by
 obtain⟨C,z,k⟩:=h.mX.uv;obtain⟨E,B,d⟩:=h.out.uv;obtain⟨D,A,l⟩:=h.ng.uv;have hr:=h.I6 u;have r:=FU hr h.blk aS;have ne:=tl hr k;have t:=tl hr d;have s:=tl hr l
 have hoi:∀p∈eX,∀g,p.2.ownBlock=ab g->((ej e4 u).getD (ae af 0 0)).ownBlock≠ab g:=by
  intro p c g a hv;cases gA:ej e4 u with
  |none=>rw[gA]at hv;cases hv
  |some v=>
   rw[gA]at hv;exact h.Dk _ (sn gA) p c g hv a
 have hop:=aem h.Ny h.F3.1 hloc;have f:=h.qC.only eT (λp c g a=>hoi p c g a);have m:=eT.heap d t
 exact{h with
  blk:=fw.heap (eT.heap h.blk r) (Cp h.blk d)
  mX:=(h.mX.only eT ne).only fw h.TH
  out:=hm
  ng:=(h.ng.only eT s).only fw (λe=>h.TL e.symm)
  qE:=h.qE.put h.Ny eT hrow d fw (λy=>axx mP _ y)
  qC:=f.only fw (λp c g a=>NR f (xw h.ng.nodup c) a m)
  lo:=by have:=ad1 e4 u v';have:=h.lo;simp;omega
  Ny:=hop.1
  Dk:=λp c q j=>hop.2 q (h.F3.2 q j) (λp' o=>h.Dk p' o q j) p c
  xZ:=λp c g a=>by
   rcases AY c with rfl|⟨c,_⟩
   .rcases hloc with h1|⟨il,h1,h2⟩
    .replace a:v'.ownBlock=ab g:=a;rw[h1]at a;cases gA:ej e4 u with
     |none=>rw[gA]at a;cases a
     |some v=>rw[gA]at a;exact h.xZ _ (sn gA) g a
    grind
   .exact h.xZ p c g a}
def kP.ins (h:kP w F b n oA mP mO fV mo fI e4 eX) {w1 u x v'}
 (eT:av (λi=>((ej eX x).getD (ae af 0 0)).ownBlock=ab i) w w1) (hrow:w1.ownsRow 0 3 1 v' ((pred mO x).length+1) ((pred mO x).map (J R)++[J R u]))
 (hloc:v'.ownBlock=((ej eX x).getD (ae af 0 0)).ownBlock\/∃g,v'.ownBlock=ab g/\w.heap.size<=g) (fw:av (λi=>i=fI) w1 w')
 (hm:d' w' fI encI cO (kb eX x v')) (hF:∀i,w.heap.size<=i->F i):kP w' F b n oA mP (mO++[(u,x)]) fV mo fI e4 (kb eX x v'):=by
 obtain⟨B,v,f⟩:=h.mX.uv;obtain⟨D,A,k⟩:=h.out.uv;obtain⟨C,z,d⟩:=h.ng.uv;have hr:=h.Ti x;have m:=FU hr h.blk aS;have ne:=tl hr f;have r:=tl hr k;have o:=tl hr d
 have hoi:∀p∈e4,∀g,p.2.ownBlock=ab g->((ej eX x).getD (ae af 0 0)).ownBlock≠ab g:=by
  intro p c g a hv;cases gA:ej eX x with
  |none=>rw[gA]at hv;cases hv
  |some t=>
   rw[gA]at hv;exact h.Dk p c _ (sn gA) g a hv
 have hop:=aem h.Nx h.F3.2 hloc;have e:=h.qE.only eT (λp c g a=>hoi p c g a);have j:=eT.heap d o
 exact{h with
  blk:=fw.heap (eT.heap h.blk m) (Cp h.blk d)
  mX:=(h.mX.only eT ne).only fw h.TG
  ng:=hm
  out:=(h.out.only eT r).only fw h.TL
  qC:=h.qC.put h.Nx eT hrow d fw (λy=>ava mO _ y)
  qE:=e.only fw (λp c g a=>NR e (xw h.out.nodup c) a j)
  li:=by have:=ad1 eX x v';have:=h.li;simp;omega
  Nx:=hop.1
  Dk:=λp c q l=>(hop.2 p (h.F3.1 p c) (λs hq'=>(h.Dk p c s hq').symm) q l).symm
  xY:=λp c g a=>by
   rcases AY c with rfl|⟨c,_⟩
   .rcases hloc with h1|⟨il,h1,h2⟩
    .replace a:v'.ownBlock=ab g:=a;rw[h1]at a;cases gA:ej eX x with
     |none=>rw[gA]at a;cases a
     |some t=>rw[gA]at a;exact h.xY _ (sn gA) g a
    grind
   .exact h.xY p c g a}
def hA.new{n}(c:0<=n)(h1:n<=1048576)(w:aQ):
 hA ((((w.alloc (iU #[] 0)).alloc (iU #[] 0)).alloc (iU #[] 0)).alloc (bo #[J R n,dL (ab w.heap.size),dL (ab (w.heap.size+1)),dL (ab (w.heap.size+2))] 305))
  (λk=>w.heap.size<=k/\k<w.heap.size+4) (w.heap.size+3) n []:=by
 have a0:=d'.made w vF rA;have a:=d'.made (w.alloc (iU #[] 0)) encI cO;have b:=d'.made ((w.alloc (iU #[] 0)).alloc (iU #[] 0)) encI cO;simp only[zI]at a b;refine⟨⟨w.heap.size,w.heap.size+1,w.heap.size+2,[],[],?_⟩,bg,bg⟩
 exact{
  blk:=by have:=fL (((w.alloc (iU #[] 0)).alloc (iU #[] 0)).alloc (iU #[] 0)) (bo #[J R n,dL (ab w.heap.size),dL (ab (w.heap.size+1)),dL (ab (w.heap.size+2))] 305);simpa using this
  mX:=((a0.only (av.alloc (F:=λ_=>False) _ _) (λh=>h)).only (av.alloc (F:=λ_=>False) _ _) (λh=>h)).only (av.alloc (F:=λ_=>False) _ _) (λh=>h)
  out:=(a.only (av.alloc (F:=λ_=>False) _ _) (λh=>h)).only (av.alloc (F:=λ_=>False) _ _) (λh=>h)
  ng:=b.only (av.alloc (F:=λ_=>False) _ _) (λh=>h)
  qE:=λu=>⟨λv hv=>by grind[ej],λ_=>aa⟩
  qC:=λu=>⟨λv hv=>by grind[ej],λ_=>aa⟩
  Ny:=bg
  Nx:=bg
  Dk:=bg
  Gt:=ad
  DN:=ad
  DP:=ad
  DO:=ad
  xZ:=bg
  xY:=bg
  TH:=ad
  TG:=ad
  TL:=ad
  lo:=bg
  li:=bg
  n0:=c
  mI:=h1}
end
open Go.RowKit Go.MapKept
def U3 w:(zeroValue 4).run ax w=bf (ai ao) w:=aw
def Gk w:(zeroValue 82).run ax w=bf (ae af 0 0) w:=aw
set_option maxHeartbeats 400000 in
def ad7 n w(d:0<=n)(h1:n<=1048576):
 aD ax 179 #[J R n] w λe w'=>∃b,e=aB (ay (ab ⟨b,0,af⟩))/\hA w' (λk=>w.heap.size<=k/\k<w'.heap.size) b n []/\au w w':=by
 have f:decide (n<0)=false:=aH;have g:decide (1048576<n)=false:=aH;have h:=@run_makeMap ax;have c:=hid (hA.new d h1 w);go_enter func179,ntmps179;go_wp2;go_ret;refine⟨_,aa,c.out.mono (λi _ hi=>⟨hi.1,ad⟩),?_⟩;exact(((av.alloc w _).trans (av.alloc _ _) (λ_ _ a=>a)).trans (av.alloc _ _) (λ_ _ a=>a)).trans (av.alloc _ _) (λ_ _ a=>a)
set_option maxHeartbeats 400000 in
def xu b n w(hc:w.cell? ⟨b,0,af⟩=ab (J R n)):aD ax 303 #[ay (ab ⟨b,0,af⟩)] w λe w'=>e=aB (J R n)/\w=w':=by go_enter func303,ntmps303;go_wp2;go_ret;exact⟨aa,aa⟩
def qw(n v:Int):Bool:=decide (0<=v/\v<n)
set_option maxHeartbeats 400000 in
def zx b(n v)w(hc:w.cell? ⟨b,0,af⟩=ab (J R n)):aD ax 253 #[ay (ab ⟨b,0,af⟩),J R v] w λe w'=>e=aB (ai (qw n v))/\w=w':=by
 by_cases c:0<=v
 .have h1:decide (0<=v)=true:=aH;have hr:qw n v=decide (v<n):=by grind[qw]
  have a:=hid hr;clear hr;go_enter Tryz.func253,Tryz.ntmps253;go_wp2_with (go_at_call 303;refine(xu _ _ _ hc).mono ?_;rintro e w' ⟨rfl,rfl⟩);go_ret;exact⟨by rw[a.out];rfl,aa⟩
 .have h1:decide (0<=v)=false:=aH;have hr:qw n v=false:=by grind[qw]
  have a:=hid hr;clear hr;go_enter Tryz.func253,Tryz.ntmps253;go_wp2;go_ret;exact⟨by rw[a.out];rfl,aa⟩
open Go.RowKit Go.MapKept
def canAdd(n:Int)(E:List (Int×Int))(e:Int×Int):Bool:=qw n e.1&&qw n e.2&&decide (e.1≠e.2)&&!decide (e∈E)
def qd(n:Int)(E:List (Int×Int))(e:Int×Int):List (Int×Int):=if canAdd n E e then E++[e]else E
def jz(n:Int)(E l:List (Int×Int)):List (Int×Int):=l.foldl (qd n) E
def Fs:(ax.info? 3).map (λi=>(i.zero,i.size,i.bytes))=ab (ab (J R 0),1,8):=aw
def amk n(E l:List (Int×Int)){k e}(h:l[k]?=ab e):jz n E (l.take (k+1))=qd n (jz n E (l.take k)) e:=by grind[jz,List.take_add_one]
def amj n(E l):E.length<=(jz n E l).length/\(jz n E l).length<=E.length+l.length:=by
 unfold jz;induction l generalizing E with
 |nil=>simp
 |cons e r a=>grind[qd]
set_option maxHeartbeats 400000 in
def Yv b n E F A c l w(fB:hA w F b n E)(hl:kU w A l)(ks:∀e∈l,rA e)(fN:E.length+l.length<=1099511627776)(bx:∀blk off,A=ab ⟨blk,off,af⟩->¬F blk):
 aD ax 182 #[ay (ab ⟨b,0,af⟩),ae A l.length c] w λe w'=>e=aB (J R ((jz n E l).length -E.length:Nat))/\
  hA w' (λk=>F k\/(w.heap.size<=k/\k<w'.heap.size)) b n (jz n E l)/\av F w w':=by
 go_enter func182,ntmps182;go_wp2
 go_loopw [5,10] (λs i wr=>∃k:Nat,k<=l.length/\i=J R k/\s=J R ((jz n E (l.take k)).length -E.length:Nat)/\
  hA wr (λk=>F k\/w.heap.size<=k) b n (jz n E (l.take k))/\av F w wr) (λ_ i _=>l.length -(bQ i).toNat);case atStart=>exact⟨0,cC _,aa,by simp[jz],by simpa [jz]using fB.mono (λi _ h=>b1 h),av.refl _ _⟩
 case round=>
  obtain⟨k,hk,rfl,rfl,EP,hO⟩:=hrel;by_cases hlt:k<l.length
  .have ab1:=hl.only hO bx;obtain⟨hD,off,rfl,hcell⟩:=ab1 ad;obtain⟨h1,h2⟩:=hcell k hlt;obtain⟨⟨u,x⟩,pC⟩:∃p,l[k]?=ab p:=⟨l[k],bg⟩;have c3:rA (u,x):=ks _ (cX pC);have hst:=amk n E l pC;have hle:=amj n E (l.take k);have uF:(l.take k).length=k:=aH;simp only[pC,Option.getD_some]at h1 h2;clear hcell hl ks ab1;have eg:=hid hst;have alk:=hid pC;clear hst pC;rw[uF]at hle;clear uF;generalize jz n E (l.take k)=jN at*;have hb0:(k:Int)<(l.length:Int):=ad;obtain⟨⟨fV,mo,fI,e4,eX,g⟩,ey,hval⟩:=EP;have abP:av (λ_=>False) wr (wr.alloc (bo #[J R u,J R x] 192)):=av.alloc _ _;have g1:=g.only abP (λ_ _ h=>h);have hblk:=fL wr (bo #[J R u,J R x] 192);have b0:(wr.alloc (bo #[J R u,J R x] 192)).cell? ⟨wr.heap.size,0,af⟩=ab (J R u):=fE _ _ 0 _ _ _ (fL wr _);have c1:(wr.alloc (bo #[J R u,J R x] 192)).cell? ⟨wr.heap.size,1,af⟩=ab (J R x):=fE _ _ 1 _ _ _ (fL wr _);have k3:wr.heap.size<(wr.alloc (bo #[J R u,J R x] 192)).heap.size:=bg;go_wp2_with fail;generalize kp:wr.heap.size=B at*;generalize dg:wr.alloc (bo #[J R u,J R x] 192)=W at*;clear dg kp h1 h2;have nh:=fE _ _ 0 _ _ _ g1.blk;have eT:=fE _ _ 1 _ _ _ g1.blk;have fw:=fE _ _ 2 _ _ _ g1.blk;have lN:=fE _ _ 3 _ _ _ g1.blk;simp at nh eT fw lN
   have gX:aE (∀nq,hA (W.drewN nq) (λk=>F k\/w.heap.size<=k) b n jN/\av F w (W.drewN nq)):=
    hid λnq=>⟨⟨⟨fV,mo,fI,e4,eX,g1.only (av.drewN (F:=λ_=>False) W nq) (λ_ _ h=>h)⟩,ey,hval⟩,(hO.trans abP (λ_ _ h=>h.elim)).trans (av.drewN (F:=F) W nq) (λ_ _ h=>h)⟩;by_cases og:canAdd n jN (u,x)=az
   .have aaX:=og;simp only[canAdd,Bool.and_eq_true,Bool.not_eq_true',decide_eq_true_eq,decide_eq_false_iff_not]at aaX;obtain⟨⟨⟨qv,hv2⟩,pC⟩,xm⟩:=aaX;have hq:(u==x)=false:=by simpa using pC
    have hlk:∀nq,(qQ 302 (dL (ab fV)) (ar #[J R u,J R x]) ao).run ax (W.drewN nq)=bf (ai ao) (W.drewN nq):=λnq=>by have h:=((g1.mX.only (av.drewN (F:=λ_=>False) W nq) (λh=>h)).lookup M8 Pl U3 c3).1;rw[Np.2 (λp hp e=>by obtain⟨ko,CP,rfl⟩:=gP.1 hp;exact xm (e▸CP))]at h;exact h
    have W':aE (qd n jN (u,x)=jN++[(u,x)]):=hid (by unfold qd;rw[if_pos og])
    have XI:aE ((jN++[(u,x)]).Nodup/\∀e∈jN++[(u,x)],(0<=e.1/\e.1<n)/\(0<=e.2/\e.2<n)/\e.1≠e.2):=hid (by
     refine⟨yu.2 ⟨ey,bg,λa ha c hc e=>?_⟩,λe he=>?_⟩;·simp at hc;exact xm (hc▸e▸ha)
     .rcases iX.1 he with he|he;·exact hval e he
      .simp only[List.mem_singleton]at he;subst he;exact⟨by simpa [qw]using qv,by simpa [qw]using hv2,pC⟩);have zS:=hid xm;have alk:=hid pC;clear pC xm og;go_quiet ((go_at_call 253;(first|exact Dv (zx _ _ _ _ nh)|exact FY (zx _ _ _ _ nh))));clear hlk hq qv hv2;go_wp2_with fail;have EO:(W.drewN nq).heap[B]?=ab (bo #[J R u,J R x] 192 (0,0)):=hblk;have g2:kP (W.drewN nq) (λk=>F k\/w.heap.size<=k) b n jN jN jN fV mo fI e4 eX:=g1.only (av.drewN (F:=λ_=>False) W nq) (λ_ _ h=>h);have nH:av F w (W.drewN nq):=(gX.out nq).2;clear gX nh eT fw lN b0 c1 g1 hblk;generalize W.drewN nq=ic at*;have b0:=fE _ _ 0 _ _ _ EO;have c1:=fE _ _ 1 _ _ _ EO;have eT:=fE _ _ 1 _ _ _ g2.blk;simp at b0 c1 eT;go_still_tail 5,aw;change cN _ _ _ _ _ ic.drew;refine JD aa _ _ _ aa M8 Pl (g2.mX.only (av.drew (F:=λ_=>False) ic) (λh=>h)) (by unfold eB;simp;omega) aa c3 aa (ai _) aa ?_;intro fg jS hg2 hs2;have g3:=(g2.only (av.drew (F:=λ_=>False) ic) (λ_ _ h=>h)).L9 hg2 jS zS.out;obtain⟨ZW,aAm,ab6⟩:=g2.mX.uv;obtain⟨aAv,aAn,arB⟩:=g2.out.uv;obtain⟨aAw,aAo,ary⟩:=g2.ng.uv;have py:av (λk=>F k\/w.heap.size<=k) ic.drew fg:=av.of_grownBy hg2 (λi e=>by cases e;exact b1 g2.DN);have rk:fg.heap[B]?=ab (bo #[J R u,J R x] 192 (0,0)):=(av.of_grownBy (F:=λi=>i=fV) hg2 (λi e=>by cases e;exact b1 aa)).heap (show ic.drew.heap[B]?=_ from EO) (Cp EO ab6);have S9:w.heap.size<=ic.heap.size:=nH.size;have pz:av F w fg:=nH.trans py.axT (λi hi h=>by rcases h with h|h;exact h;omega);have aAG:aE (ic.heap[B]?=ab (bo #[J R u,J R x] 192 (0,0))):=hid EO;obtain⟨aAx,aAp,vT⟩:=g3.out.uv;clear jS hg2 py b0 c1 eT ab6 arB ary EO nH hs2 S9 g2;have b0:=fE _ _ 0 _ _ _ rk;have c1:=fE _ _ 1 _ _ _ rk;have fw:=fE _ _ 2 _ _ _ g3.blk;simp at b0 c1 fw;go_wp2_with fail;go_frame;go_cut []from 46 to 62 (λDE=>∃QC,kP DE (λk=>F k\/w.heap.size<=k) b n (jN++[(u,x)]) (jN++[(u,x)]) jN fV mo fI QC eX/\av F w DE/\DE.heap[B]?=ab (bo #[J R u,J R x] 192 (0,0)))
    case first=>
     have hrow:=g3.I6 u;have arn:=Js jN u
     have CY:∀w',av (λi=>((ej e4 u).getD (ae af 0 0)).ownBlock=ab i) fg w'->(qQ 303 (dL (ab mo)) (J R u) ao).run ax w'=bf ((ej e4 u).getD (ae af 0 0)) w':=λw' hw'=>
      ((g3.out.only hw' (λe=>tl hrow vT e)).lookup pD BO Gk c3.1).1;have lz:=FU hrow g3.blk aS;have zd:=FU hrow rk aS
     have yh:aE (∀i,((ej e4 u).getD (ae af 0 0)).ownBlock=ab i->F i\/w.heap.size<=i):=hid λi hi=>by
      cases hm:ej e4 u with
      |none=>rw[hm]at hi;cases hi
      |some v=>rw[hm]at hi;exact g3.xZ _ (sn hm) i hi
     have P0:=hid (λ(w' w1:aQ) (v':aP)=>g3.outs (w':=w') (w1:=w1) (u:=u) (x:=x) (v':=v'));generalize eS:(ej e4 u).getD (ae af 0 0)=ez at*;have pe:=hid eS;clear eS;have b0:=fE _ _ 0 _ _ _ rk;have c1:=fE _ _ 1 _ _ _ rk;have fw:=fE _ _ 2 _ _ _ g3.blk;simp at b0 c1 fw
     have I:aE (∀w',av (λi=>ez.ownBlock=ab i) fg w'->w'.cell? ⟨b,2,af⟩=ab (dL (ab mo))/\w'.cell? ⟨B,0,af⟩=ab (J R u)/\w'.cell? ⟨B,1,af⟩=ab (J R x)):=
      hid λw' hw'=>⟨hw'.cell fw lz,hw'.cell b0 zd,hw'.cell c1 zd⟩;have arq:=CY fg.drew (av.drew _);have ars:=λo=>CY (fg.alloc o).drew ((av.alloc _ _).trans (av.drew _) (λ_ _ h=>h));have cg:aE (∀w',av (λi=>ez.ownBlock=ab i) fg w'->d' w' mo encI cO e4):=hid λw' hw'=>g3.out.only hw' (λe=>tl hrow vT e);have art:=g3.lo;have vk:=hid (And.intro (Cp g3.blk vT) (Cp rk vT));have zT:=hid zd;clear CY lz zd vT;obtain⟨i0,jd,hz0,hz1,hz2⟩:=vf Fs
     go_region_held3 (λw'=>w'.cell? ⟨b,2,af⟩=ab (dL (ab mo))/\w'.cell? ⟨B,0,af⟩=ab (J R u)/\w'.cell? ⟨B,1,af⟩=ab (J R x))
      (first
        |exact I.out _ (av.drew _)
        |exact I.out _ ((av.alloc _ _).trans (av.drew _) (λ_ _ h=>h))
        |exact I.out _ (((av.alloc _ _).trans (av.drew _) (λ_ _ h=>h)).trans (av.of_grownBy hgrow (λi e=>b1 e)) (λ_ _ h=>h))
        |exact q0.out)
      (first
        |(refine akg _ bc _ _ _ bc 0 3 i0 _ 1 8 jo jd hz0 hz1 hz2 aa ad ez _ _ bc ((hrow.alloc _).drew)
           ⟨fg.heap.size,0,af⟩ 1 1 [J R x] bc bc (akd (cs:=#[J R x]) (t:=3) (fr:=(0,0)) (fL fg _)) (by simp[zG])
           ad (by unfold eB;omega) ad bg (fg.heap.size+1) bg ?_;intro vI cap w1 hown1 hgrow hat Ih;obtain⟨ie,IB,SG,hg3,hs3⟩:=(cg.out _ (((av.alloc _ _).trans (av.drew _) (λ_ _ h=>h)).trans (av.of_grownBy hgrow (λi e=>b1 e)) (λ_ _ h=>h))).update pD BO (by unfold eB;omega) c3.1 (ae (ab ⟨vI,0,af⟩) ((succ jN u).length+1) cap);replace IB:(DU 303 (dL (ab mo)) (J R u) (ae (ab ⟨vI,0,af⟩) ((succ jN u).length+1) cap)).run ax w1=bf () ie:=IB
          have q0:aE (ie.cell? ⟨b,2,af⟩=ab (dL (ab mo))/\ie.cell? ⟨B,0,af⟩=ab (J R u)/\ie.cell? ⟨B,1,af⟩=ab (J R x)):=hid (by have hs1:=I.out _ (((av.alloc _ _).trans (av.drew _) (λ_ _ h=>h)).trans (av.of_grownBy hgrow (λi e=>b1 e)) (λ_ _ h=>h));have lN:av (λi=>i=mo) w1 ie:=av.of_grownBy hg3 (λi e=>by cases e;exact b1 aa);exact⟨lN.cell hs1.1 vk.out.1,lN.cell hs1.2.1 vk.out.2,lN.cell hs1.2.2 vk.out.2⟩)))
     all_goals
      go_wp2_with fail;go_meet;have c8:av (λi=>ez.ownBlock=ab i) fg w1:=((av.alloc _ _).trans (av.drew _) (λ_ _ h=>h)).trans (av.of_grownBy hgrow (λi e=>b1 e)) (λ_ _ h=>h);have iR:av (λi=>i=mo) w1 ie:=av.of_grownBy hg3 (λi e=>by cases e;exact b1 aa);have S9:w.heap.size<=fg.heap.size:=pz.size
      have hloc:(ae (ab ⟨vI,0,af⟩) ((succ jN u).length+1) cap).ownBlock=ez.ownBlock\/∃g,(ae (ab ⟨vI,0,af⟩) ((succ jN u).length+1) cap).ownBlock=ab g/\fg.heap.size<=g:=by
       rcases hat with h|h;·exact b1 h.symm
       .exact cm ⟨vI,aa,ad⟩
      have ef:=P0.out ie w1 _ c8 hown1 hloc iR SG (λi hi=>cm ad);refine⟨_,ef,(pz.trans c8 ?_).trans iR ?_,iR.heap (c8.heap rk zT.out) vk.out.2⟩
      .intro i hi h;have h2:=yh.out i h;rcases h2 with h2|h2;·exact h2
       .omega
      .intro i hi h;rcases(g3.DP:_)with h2|h2;·exact h▸h2
       .omega
    case rest=>
     obtain⟨QC,g4,pz,rk⟩:=hcut;obtain⟨aAy,aAq,vT⟩:=g4.ng.uv;go_wp2_with fail;go_cut []from 63 to 79 (λDE=>∃X3,kP DE (λk=>F k\/w.heap.size<=k) b n (jN++[(u,x)]) (jN++[(u,x)]) (jN++[(u,x)]) fV mo fI QC X3/\av F w DE/\DE.heap[B]?=ab (bo #[J R u,J R x] 192 (0,0)))
     case first=>
      have hrow:=g4.Ti x;have arn:=T8 jN x
      have CY:∀w',av (λi=>((ej eX x).getD (ae af 0 0)).ownBlock=ab i) wc w'->(qQ 303 (dL (ab fI)) (J R x) ao).run ax w'=bf ((ej eX x).getD (ae af 0 0)) w':=λw' hw'=>
       ((g4.ng.only hw' (λe=>tl hrow vT e)).lookup pD BO Gk c3.2).1;have lz:=FU hrow g4.blk aS;have zd:=FU hrow rk aS
      have yh:aE (∀i,((ej eX x).getD (ae af 0 0)).ownBlock=ab i->F i\/w.heap.size<=i):=hid λi hi=>by
       cases hm:ej eX x with
       |none=>rw[hm]at hi;cases hi
       |some v=>rw[hm]at hi;exact g4.xY _ (sn hm) i hi
      have P0:=hid (λ(w' w1:aQ) (v':aP)=>g4.ins (w':=w') (w1:=w1) (u:=u) (x:=x) (v':=v'));generalize eS:(ej eX x).getD (ae af 0 0)=ez at*;have pe:=hid eS;clear eS;have b0:=fE _ _ 0 _ _ _ rk;have c1:=fE _ _ 1 _ _ _ rk;have fw:=fE _ _ 3 _ _ _ g4.blk;simp at b0 c1 fw
      have I:aE (∀w',av (λi=>ez.ownBlock=ab i) wc w'->w'.cell? ⟨b,3,af⟩=ab (dL (ab fI))/\w'.cell? ⟨B,0,af⟩=ab (J R u)/\w'.cell? ⟨B,1,af⟩=ab (J R x)):=
       hid λw' hw'=>⟨hw'.cell fw lz,hw'.cell b0 zd,hw'.cell c1 zd⟩;have arq:=CY wc.drew (av.drew _);have ars:=λo=>CY (wc.alloc o).drew ((av.alloc _ _).trans (av.drew _) (λ_ _ h=>h));have cg:aE (∀w',av (λi=>ez.ownBlock=ab i) wc w'->d' w' fI encI cO eX):=hid λw' hw'=>g4.ng.only hw' (λe=>tl hrow vT e);have art:=g4.li;have vk:=hid (And.intro (Cp g4.blk vT) (Cp rk vT));have zT:=hid zd;clear CY lz zd vT;obtain⟨i0,jd,hz0,hz1,hz2⟩:=vf Fs
      go_region_held3 (λw'=>w'.cell? ⟨b,3,af⟩=ab (dL (ab fI))/\w'.cell? ⟨B,0,af⟩=ab (J R u)/\w'.cell? ⟨B,1,af⟩=ab (J R x))
       (first
         |exact I.out _ (av.drew _)
         |exact I.out _ ((av.alloc _ _).trans (av.drew _) (λ_ _ h=>h))
         |exact I.out _ (((av.alloc _ _).trans (av.drew _) (λ_ _ h=>h)).trans (av.of_grownBy hgrow (λi e=>b1 e)) (λ_ _ h=>h))
         |exact q0.out)
       (first
         |(refine akg _ bc _ _ _ bc 0 3 i0 _ 1 8 jo jd hz0 hz1 hz2 aa ad ez _ _ bc ((hrow.alloc _).drew)
            ⟨wc.heap.size,0,af⟩ 1 1 [J R u] bc bc (akd (cs:=#[J R u]) (t:=3) (fr:=(0,0)) (fL wc _)) (by simp[zG])
            ad (by unfold eB;omega) ad bg (wc.heap.size+1) bg ?_;intro vI cap w1 hown1 hgrow hat Ih;obtain⟨ie,IB,SG,hg4,hs3⟩:=(cg.out _ (((av.alloc _ _).trans (av.drew _) (λ_ _ h=>h)).trans (av.of_grownBy hgrow (λi e=>b1 e)) (λ_ _ h=>h))).update pD BO (by unfold eB;omega) c3.2 (ae (ab ⟨vI,0,af⟩) ((pred jN x).length+1) cap);replace IB:(DU 303 (dL (ab fI)) (J R x) (ae (ab ⟨vI,0,af⟩) ((pred jN x).length+1) cap)).run ax w1=bf () ie:=IB
           have q0:aE (ie.cell? ⟨b,3,af⟩=ab (dL (ab fI))/\ie.cell? ⟨B,0,af⟩=ab (J R u)/\ie.cell? ⟨B,1,af⟩=ab (J R x)):=hid (by have hs1:=I.out _ (((av.alloc _ _).trans (av.drew _) (λ_ _ h=>h)).trans (av.of_grownBy hgrow (λi e=>b1 e)) (λ_ _ h=>h));have lN:av (λi=>i=fI) w1 ie:=av.of_grownBy hg4 (λi e=>by cases e;exact b1 aa);exact⟨lN.cell hs1.1 vk.out.1,lN.cell hs1.2.1 vk.out.2,lN.cell hs1.2.2 vk.out.2⟩)))
      all_goals
       go_wp2_with fail;go_meet;have c8:av (λi=>ez.ownBlock=ab i) wc w1:=((av.alloc _ _).trans (av.drew _) (λ_ _ h=>h)).trans (av.of_grownBy hgrow (λi e=>b1 e)) (λ_ _ h=>h);have iR:av (λi=>i=fI) w1 ie:=av.of_grownBy hg4 (λi e=>by cases e;exact b1 aa);have S9:w.heap.size<=wc.heap.size:=pz.size
       have hloc:(ae (ab ⟨vI,0,af⟩) ((pred jN x).length+1) cap).ownBlock=ez.ownBlock\/∃g,(ae (ab ⟨vI,0,af⟩) ((pred jN x).length+1) cap).ownBlock=ab g/\wc.heap.size<=g:=by
        rcases hat with h|h;·exact b1 h.symm
        .exact cm ⟨vI,aa,ad⟩
       have ef:=P0.out ie w1 _ c8 hown1 hloc iR SG (λi hi=>cm ad);refine⟨_,ef,(pz.trans c8 ?_).trans iR ?_,iR.heap (c8.heap rk zT.out) vk.out.2⟩
       .intro i hi h;have h2:=yh.out i h;rcases h2 with h2|h2;·exact h2
        .omega
       .intro i hi h;rcases(g4.DO:_)with h2|h2;·exact h▸h2
        .omega
     case rest=>
      obtain⟨X3,g5,pz,rk⟩:=hcut;clear rk;go_wp2;go_roundw
      case rel=>
       refine⟨k+1,ad,by go_num,?_,?_,pz⟩;·rw[eg.out,W'.out];have bE:((jN++[(u,x)]).length -E.length:Nat)=(jN.length -E.length)+1:=aH;rw[bE];go_num
       .rw[eg.out,W'.out];exact⟨⟨_,_,_,_,_,g5⟩,XI.out.1,XI.out.2⟩
      case measure=>grind[bQ]
   .have Fo:qd n jN (u,x)=jN:=by unfold qd;rw[if_neg og]
    have zY:=hid Fo;have GM:=hid og;clear Fo og;cases qv:qw n u with
    |false=>
     go_quiet ((go_at_call 253;exact Dv (zx _ _ _ _ nh)));go_wp2;go_roundw;case rel=>exact⟨k+1,ad,by go_num,by rw[eg.out,zY.out],by rw[eg.out,zY.out];exact(gX.out _).1,(gX.out _).2⟩
     case measure=>simp[bQ];omega
    |true=>
     cases hv2:qw n x with
     |false=>
      go_quiet ((go_at_call 253;(first|exact Dv (zx _ _ _ _ nh)|exact FY (zx _ _ _ _ nh))));go_wp2;go_roundw;case rel=>exact⟨k+1,ad,by go_num,by rw[eg.out,zY.out],by rw[eg.out,zY.out];exact(gX.out _).1,(gX.out _).2⟩
      case measure=>simp[bQ];omega
     |true=>
      by_cases pC:u=x
      .have hq:(u==x)=true:=by simpa using pC
       have jw:=hid pC;clear pC;go_quiet ((go_at_call 253;(first|exact Dv (zx _ _ _ _ nh)|exact FY (zx _ _ _ _ nh))));go_wp2;go_roundw;case rel=>exact⟨k+1,ad,by go_num,by rw[eg.out,zY.out],by rw[eg.out,zY.out];exact(gX.out _).1,(gX.out _).2⟩
       case measure=>simp[bQ];omega
      .have hq:(u==x)=false:=by simpa using pC
       have xm:(u,x)∈jN:=by have:=GM.out;simpa [canAdd,qv,hv2,pC]using this
       have hlk:∀nq,(qQ 302 (dL (ab fV)) (ar #[J R u,J R x]) ao).run ax (W.drewN nq)=bf (ai az) (W.drewN nq):=λnq=>by have h:=((g1.mX.only (av.drewN (F:=λ_=>False) W nq) (λh=>h)).lookup M8 Pl U3 c3).1;rw[xw g1.mX.nodup (gP.2 ⟨(u,x),xm,aa⟩)]at h;exact h
       clear pC xm;go_quiet ((go_at_call 253;(first|exact Dv (zx _ _ _ _ nh)|exact FY (zx _ _ _ _ nh))));go_wp2;go_roundw;case rel=>exact⟨k+1,ad,by go_num,by rw[eg.out,zY.out],by rw[eg.out,zY.out];exact(gX.out _).1,(gX.out _).2⟩
       case measure=>simp[bQ];omega
  .obtain rfl:k=l.length:=ad;rw[lp]at*;have akD:=hid EP;have fc:=hid hO;clear EP hO fB ks fN bx hl;go_wp2;go_ret;exact⟨aa,akD.out.mono (λi hi h=>by rcases h with h|h;exact b1 h;exact cm ⟨h,hi⟩),fc.out⟩
end G
open Go.RowKit Go.MapKept
def oG.at{w p S}(h:oG w p S){i x}(hx:S[i]?=ab x):∃b o c,w.cell? ⟨p,0,af⟩=ab (ae (ab ⟨b,o,af⟩) S.length c)/\w.cell? ⟨b,o+i*3,af⟩=ab (J R x.1.1)/\w.cell? ⟨b,o+i*3+1,af⟩=ab (J R x.1.2)/\w.cell? ⟨b,o+i*3+2,af⟩=ab (J R x.2):=by obtain⟨A,c,h1,a,d⟩:=h;have hi:=(eJ.1 hx).1;obtain⟨b,o,rfl,hc⟩:=a ad;grind[p2]
def amn(i:Nat)(rR cM p)S off W x(hx:S[i]?=ab x)(l:eY x.1)(f:W.cell? ⟨rR,0,af⟩=ab (ay (ab ⟨p,0,af⟩)))(h1:W.cell? ⟨cM,0,af⟩=ab (J R off))(g:oG W p S)r(hr:decide (off<x.1.1+x.1.2)=r):
 aD ax 344 #[J R i,ay (ab ⟨rR,0,af⟩),ay (ab ⟨cM,0,af⟩)] W λe w'=>e=aB (ai r)/\au W w':=by
 obtain⟨b,o,c,c8,c4,a,_⟩:=g.at hx;obtain⟨⟨cW,bk⟩,iu⟩:=x;obtain⟨k,v2,v3⟩:=l;simp only at c4 a k v2 v3 hr;have hi:=(eJ.1 hx).1;have hb0:(i:Int)<(S.length:Int):=ad
 have d:aE (∀w',au W w'->w'.cell? ⟨rR,0,af⟩=ab (ay (ab ⟨p,0,af⟩))/\w'.cell? ⟨cM,0,af⟩=ab (J R off)/\w'.cell? ⟨p,0,af⟩=ab (ae (ab ⟨b,o,af⟩) S.length c)/\w'.cell? ⟨b,o+i*3,af⟩=ab (J R cW)/\w'.cell? ⟨b,o+i*3+1,af⟩=ab (J R bk)):=
  hid (λw' h=>⟨h.cell f (λh=>h),h.cell h1 (λh=>h),h.cell c8 (λh=>h),h.cell c4 (λh=>h),h.cell a (λh=>h)⟩);clear f h1 c8 c4 a g hx;generalize S.length=n at*;go_enter func344,ntmps344;go_wp2_with fail
 go_region_held3 (λw'=>w'.cell? ⟨rR,0,af⟩=ab (ay (ab ⟨p,0,af⟩))/\w'.cell? ⟨cM,0,af⟩=ab (J R off)/\w'.cell? ⟨p,0,af⟩=ab (ae (ab ⟨b,o,af⟩) n c)/\w'.cell? ⟨b,o+i*3,af⟩=ab (J R cW)/\w'.cell? ⟨b,o+i*3+1,af⟩=ab (J R bk))
  (first
    |exact d.out _ (av.drew _)
    |exact d.out _ j)
  (first
    |(go_at_call 117;refine(l1 cW bk _ k v2 v3).mono ?_;rintro e m ⟨rfl,ha0⟩;have j:au W m:=au.trans (av.drew _) ha0))
 all_goals
  go_wp2;go_ret;exact⟨bc,j⟩
def apg args w:(callFunc 344 args).run ax w=bf (.enter 344 args) w:=bc
def uT(S:List jO)(off:Int)(i:Nat):Bool:=decide (off<(S[i]?.getD yN).1.1+(S[i]?.getD yN).1.2)
def j0.at{S}(h:j0 S){i:Nat}{x}(hx:S[i]?=ab x):eY x.1/\0<x.1.2:=h.2 x (cX hx)
def j0.lt{S}(h:j0 S){i j:Nat}{x y}(hx:S[i]?=ab x)(c:S[j]?=ab y)(a:i<j):x.1.1+x.1.2<=y.1.1:=by obtain⟨hi,rfl⟩:=eJ.1 hx;obtain⟨b,rfl⟩:=eJ.1 c;exact mr.1 h.1 i j hi b a
def auV{S}(h:j0 S)off(a b)(hab:a<=b)(hb:b<S.length)(e:uT S off a=az):uT S off b=true:=by
 unfold uT at*;rcases Nat.lt_or_eq_of_le hab with hlt|rfl;·have c:=cE (l:=S) (i:=a) ad;have hb':=cE (l:=S) (i:=b) hb;have h1:=h.lt c hb' hlt;have d:=(h.at hb').2;grind
 .omega
def amm p S off w(c:oG w p S)(j:j0 S):
 aD ax 310 #[ay (ab ⟨p,0,af⟩),J R off] w λe w'=>∃k:Nat,e=aB (J R k)/\IsCut S.length (uT S off) k/\au w w':=by
 have hlen:=c;obtain⟨_,_,_,_,n⟩:=hlen;have b:=hid (And.intro c j);have o:∀(g:Fn) (first cap:Array aP) (w:aQ),(Instr.makeFunc g first cap).run ax w=bf (dI g first cap) w:=λ_ _ _ _=>aa;clear c j
 have a:aE (au w ((w.alloc (bo #[ay (ab ⟨p,0,af⟩)] 295)).alloc (bo #[J R off] 3))/\((w.alloc (bo #[ay (ab ⟨p,0,af⟩)] 295)).alloc (bo #[J R off] 3)).cell? ⟨w.heap.size,0,af⟩=ab (ay (ab ⟨p,0,af⟩))/\((w.alloc (bo #[ay (ab ⟨p,0,af⟩)] 295)).alloc (bo #[J R off] 3)).cell? ⟨w.heap.size+1,0,af⟩=ab (J R off)):=hid (by have g1:=fL w (bo #[ay (ab ⟨p,0,af⟩)] 295);have g2:=fL (w.alloc (bo #[ay (ab ⟨p,0,af⟩)] 295)) (bo #[J R off] 3);rw[zI]at g2;exact⟨au.trans (av.alloc _ _) (av.alloc _ _),(av.alloc (F:=λ_=>False) _ _).cell (p2 g1) (λh=>h),p2 g2⟩);go_enter func310,ntmps310;go_wp2_with fail;go_at_call 311;clear o;generalize (w.alloc (bo #[ay (ab ⟨p,0,af⟩)] 295)).alloc (bo #[J R off] 3)=aq at*;refine(xu p S aq (b.out.1.aI a.out.1)).mono ?_;rintro e w1 ⟨rfl,rfl⟩
 have m:aE (aD ax 287 #[J R S.length,dI (ed 344) #[] #[ay (ab ⟨w.heap.size,0,af⟩),ay (ab ⟨w.heap.size+1,0,af⟩)]] aq λe w'=>∃k:Nat,e=aB (J R k)/\IsCut S.length (uT S off) k/\au aq w'):=hid (by refine NW _ _ S.length (uT S off) aq n apg (λW i hi d=>?_) (auV b.out.2 off);have hx:=cE (l:=S) (i:=i) hi;exact amn i _ _ p S off W _ hx (b.out.2.at hx).1 (d.cell a.out.2.1 (λh=>h)) (d.cell a.out.2.2 (λh=>h)) (b.out.1.aI (au.trans a.out.1 d)) _ (by grind[uT]));go_wp2_with (go_at_call 287;have f:=m.out;with_reducible refine f.mono ?_;clear f;rintro e q ⟨k,rfl,hk,hg2⟩);go_ret;exact⟨k,aa,hk,au.trans a.out.1 hg2⟩
def IsCut.before{S off k}(h:IsCut S.length (uT S off) k){i x}(hx:S[i]?=ab x)(hi:i<k):x.1.1+x.1.2<=off:=by have:=h.2.1 i hi;grind[uT]
def IsCut.behind{S off k}(h:IsCut S.length (uT S off) k){i x}(hx:S[i]?=ab x)(hi:k<=i):off<x.1.1+x.1.2:=by have:=h.2.2 i hi (eJ.1 hx).1;grind[uT]
open Go.Shelf
def Tryz.asX:Go.Shelf.Ren:=⟨λ|107=>190|108=>262|n=>n,λ|28=>82|3=>3|4=>4|0=>0|n=>n,λ|n=>n⟩
def Tryz.adx:azB ax Tryz.asX:={
 mixed:=bc
 f107:=func190.trans (congrArg ab bc)
 f108:=func262.trans (congrArg ab bc)
 t0:=wI
 a0:=wF
 z0:=wH
 v0:=wJ
 t3:=jD
 a3:=qR
 z3:=qT
 v3:=qU
 t4:=tG
 a4:=tE
 z4:=tF
 v4:=tH
 t28:=jo
 a28:=BL
 z28:=BN
 v28:=BP}
def Tryz.as5:Go.Shelf.Ren:=⟨λ|15=>380|n=>n,λ|22=>82|3=>3|4=>4|n=>n,λ|n=>n⟩
def Tryz.Tq:azF ax Tryz.as5:={
 mixed:=bc
 f15:=func380.trans (congrArg ab bc)
 t3:=jD
 a3:=qR
 z3:=qT
 v3:=qU
 t4:=tG
 a4:=tE
 z4:=tF
 v4:=tH
 t22:=jo
 a22:=BL
 z22:=BN
 v22:=BP
 i3:=by rfl}
def Tryz.as6:Go.Shelf.Ren:=⟨λ|25=>305|31=>339|32=>340|37=>194|n=>n,λ|22=>82|3=>3|4=>4|40=>311|0=>0|n=>n,λ|n=>n⟩
def Tryz.adA:azH ax Tryz.as6:={
 mixed:=bc
 f25:=func305.trans (congrArg ab bc)
 f31:=Tryz.func339.trans (congrArg ab bc)
 f32:=func340.trans (congrArg ab bc)
 f37:=O7.trans (congrArg ab bc)
 t0:=wI
 a0:=wF
 z0:=wH
 v0:=wJ
 t3:=jD
 a3:=qR
 z3:=qT
 v3:=qU
 t4:=tG
 a4:=tE
 z4:=tF
 v4:=tH
 t22:=jo
 a22:=BL
 z22:=BN
 v22:=BP
 t40:=KG
 a40:=KB
 z40:=KE
 v40:=KH}
def Tryz.adz:Go.Shelf.Ren:=⟨λ|21=>306|27=>341|28=>342|35=>364|39=>382|n=>n,λ|22=>82|3=>3|4=>4|0=>0|n=>n,λ|n=>n⟩
def Tryz.IS:azG ax Tryz.adz:={
 mixed:=bc
 f21:=func306.trans (congrArg ab bc)
 f27:=func341.trans (congrArg ab bc)
 f28:=func342.trans (congrArg ab bc)
 f35:=func364.trans (congrArg ab bc)
 f39:=func382.trans (congrArg ab bc)
 t0:=wI
 a0:=wF
 z0:=wH
 v0:=wJ
 t3:=jD
 a3:=qR
 z3:=qT
 v3:=qU
 t4:=tG
 a4:=tE
 z4:=tF
 v4:=tH
 t22:=jo
 a22:=BL
 z22:=BN
 v22:=BP
 i3:=by rfl}
def Tryz.as1:Go.Shelf.Ren:=⟨λ|10=>334|6=>363|n=>n,λ|22=>82|23=>3|25=>144|3=>3|4=>4|0=>0|n=>n,λ|n=>n⟩
def Tryz.as0:azJ ax Tryz.as1:={
 mixed:=bc
 f6:=⟨f363.name,aS,func363.trans (congrArg ab bc)⟩
 f10:=⟨f334.name,aS,func334.trans (congrArg ab bc)⟩
 t0:=wI
 a0:=wF
 z0:=wH
 v0:=wJ
 t3:=jD
 a3:=qR
 z3:=qT
 v3:=qU
 t4:=tG
 a4:=tE
 z4:=tF
 v4:=tH
 t22:=jo
 a22:=BL
 z22:=BN
 v22:=BP
 a23:=qR
 z23:=qT
 t25:=Tryz.underlying144
 a25:=Tryz.isAgg144
 z25:=Tryz.sizeOf144
 v25:=Tryz.zeroValue144}
def Tryz.adp:Go.Shelf.Ren:=⟨λ|7=>381|10=>388|n=>n,λ|23=>467|26=>3|3=>4|28=>300|0=>0|27=>143|33=>144|4=>4|n=>n,λ|n=>n⟩
def Tryz.ado:azM ax Tryz.adp:={
 mixed:=bc
 f7:=⟨f381.name,aS,func381.trans (congrArg ab bc)⟩
 f10:=⟨f388.name,aS,Tryz.func388.trans (congrArg ab bc)⟩
 t0:=wI
 a0:=wF
 z0:=wH
 v0:=wJ
 t4:=tG
 a4:=tE
 z4:=tF
 v4:=tH
 t23:=Tryz.underlying467
 a23:=isAgg467
 z23:=sizeOf467
 v23:=zeroValue467
 t26:=jD
 a26:=qR
 z26:=qT
 v26:=qU
 t27:=underlying143
 a27:=isAgg143
 z27:=sizeOf143
 v27:=zeroValue143
 t28:=Tryz.underlying300
 a28:=Tryz.isAgg300
 z28:=Tryz.sizeOf300
 v28:=Tryz.zeroValue300
 t33:=Tryz.underlying144
 a33:=Tryz.isAgg144
 z33:=Tryz.sizeOf144
 v33:=Tryz.zeroValue144}
def Tryz.af8:Go.Shelf.Ren:=⟨λ|6=>183|8=>254|9=>255|11=>312|13=>193|12=>313|23=>271|24=>272|14=>345|15=>346|16=>347|17=>348|18=>349|19=>350|20=>339|21=>351|22=>352|25=>373|26=>317|27=>318|28=>374|29=>375|30=>194|31=>386|n=>n,λ|26=>3|28=>300|24=>82|0=>0|3=>3|37=>311|48=>315|50=>42|4=>4|40=>372|39=>371|45=>188|5=>5|9=>9|51=>420|55=>423|57=>448|58=>80|33=>144|n=>n,λ|n=>n⟩
def Tryz.axi:azL ax Tryz.af8:={
 mixed:=bc
 f6:=⟨f183.name,aS,Tryz.func183.trans (congrArg ab bc)⟩
 f8:=⟨f254.name,aS,Tryz.func254.trans (congrArg ab bc)⟩
 f11:=⟨f312.name,aS,Tryz.func312.trans (congrArg ab bc)⟩
 t0:=wI
 a0:=wF
 z0:=wH
 v0:=wJ
 t24:=jo
 a24:=BL
 z24:=BN
 v24:=BP
 t26:=jD
 a26:=qR
 z26:=qT
 v26:=qU
 t28:=Tryz.underlying300
 a28:=Tryz.isAgg300
 z28:=Tryz.sizeOf300
 v28:=Tryz.zeroValue300
 i26:=by rfl}
def Tryz.axa:Go.Shelf.Ren:=⟨λ|5=>255|8=>193|7=>313|19=>271|20=>272|10=>345|11=>346|12=>347|13=>348|14=>349|15=>350|16=>339|17=>351|18=>352|30=>373|31=>317|32=>318|33=>374|34=>375|35=>194|40=>386|n=>n,λ|23=>82|25=>3|3=>3|32=>311|22=>82|0=>0|44=>315|46=>42|4=>4|36=>372|35=>371|41=>188|5=>5|9=>9|53=>420|57=>423|63=>448|64=>80|n=>n,λ|n=>n⟩
def Tryz.af5:azK ax Tryz.axa:={
 mixed:=bc
 f5:=⟨f255.name,aS,Tryz.func255.trans (congrArg ab bc)⟩
 f7:=⟨f313.name,aS,func313.trans (congrArg ab bc)⟩
 f8:=VI.trans (congrArg ab bc)
 f10:=⟨f345.name,aS,func345.trans (congrArg ab bc)⟩
 f11:=⟨f346.name,aS,func346.trans (congrArg ab bc)⟩
 f12:=⟨f347.name,aS,func347.trans (congrArg ab bc)⟩
 f13:=⟨f348.name,aS,func348.trans (congrArg ab bc)⟩
 f14:=⟨f349.name,aS,func349.trans (congrArg ab bc)⟩
 f15:=⟨f350.name,aS,func350.trans (congrArg ab bc)⟩
 f16:=⟨f339.name,aS,Tryz.func339.trans (congrArg ab bc)⟩
 f17:=⟨f351.name,aS,func351.trans (congrArg ab bc)⟩
 f18:=⟨f352.name,aS,func352.trans (congrArg ab bc)⟩
 f19:=VQ.trans (congrArg ab bc)
 f20:=VR.trans (congrArg ab bc)
 f30:=⟨f373.name,aS,func373.trans (congrArg ab bc)⟩
 f31:=VV.trans (congrArg ab bc)
 f32:=VW.trans (congrArg ab bc)
 f33:=⟨f374.name,aS,func374.trans (congrArg ab bc)⟩
 f34:=⟨f375.name,aS,func375.trans (congrArg ab bc)⟩
 f35:=⟨f194.name,aS,O7.trans (congrArg ab bc)⟩
 f40:=⟨f386.name,aS,func386.trans (congrArg ab bc)⟩
 t0:=wI
 a0:=wF
 z0:=wH
 v0:=wJ
 t3:=jD
 a3:=qR
 z3:=qT
 v3:=qU
 t4:=tG
 a4:=tE
 z4:=tF
 v4:=tH
 t5:=mm
 a5:=Tryz.isAgg5
 z5:=KF
 v5:=KI
 t9:=DY
 a9:=Tryz.isAgg9
 z9:=GF
 v9:=GH
 t22:=jo
 a22:=BL
 z22:=BN
 v22:=BP
 t23:=jo
 a23:=BL
 z23:=BN
 v23:=BP
 t25:=jD
 a25:=qR
 z25:=qT
 v25:=qU
 t32:=KG
 a32:=KB
 z32:=KE
 v32:=KH
 t35:=Wz
 a35:=V3
 z35:=Wp
 v35:=WL
 t36:=WA
 a36:=V4
 z36:=Wq
 v36:=WM
 t41:=Ww
 a41:=V1
 z41:=Wn
 v41:=WJ
 t44:=Pm
 a44:=Pc
 z44:=Pj
 v44:=Pp
 t46:=Pn
 a46:=V5
 z46:=Wr
 v46:=WN
 t53:=WC
 a53:=V6
 z53:=Ws
 v53:=WO
 t57:=WD
 a57:=V7
 z57:=Wt
 v57:=WQ
 t63:=WG
 a63:=V8
 z63:=Wu
 v63:=WR
 t64:=WI
 a64:=V9
 z64:=Wv
 v64:=WS}
def Tryz.asZ:Go.Shelf.Ren:=⟨λ|122=>108|215=>194|n=>n,λ|3=>3|4=>4|n=>n,λ|n=>n⟩
def Tryz.asY:azC ax Tryz.asZ:={
 mixed:=bc
 f122:=Tryz.func108.trans (congrArg ab bc)
 f215:=O7.trans (congrArg ab bc)
 t3:=jD
 a3:=qR
 z3:=qT
 v3:=qU
 t4:=tG
 a4:=tE
 z4:=tF
 v4:=tH}
def Tryz.as9:Go.Shelf.Ren:=⟨λ|6=>307|15=>193|14=>343|28=>271|29=>272|20=>365|21=>366|22=>367|23=>368|24=>369|25=>370|26=>371|27=>372|46=>383|47=>317|48=>318|49=>384|50=>385|57=>389|n=>n,λ|22=>409|24=>413|25=>415|3=>3|39=>311|0=>0|53=>315|55=>42|4=>4|46=>372|45=>371|50=>188|5=>5|9=>9|66=>420|70=>423|76=>448|77=>80|n=>n,λ|n=>n⟩
def Tryz.adC:aib ax Tryz.as9:={
 mixed:=bc
 f6:=⟨f307.name,aS,func307.trans (congrArg ab bc)⟩
 f14:=⟨f343.name,aS,func343.trans (congrArg ab bc)⟩
 f15:=VI.trans (congrArg ab bc)
 f20:=⟨f365.name,aS,func365.trans (congrArg ab bc)⟩
 f21:=⟨f366.name,aS,func366.trans (congrArg ab bc)⟩
 f22:=⟨f367.name,aS,func367.trans (congrArg ab bc)⟩
 f23:=⟨f368.name,aS,func368.trans (congrArg ab bc)⟩
 f24:=⟨f369.name,aS,func369.trans (congrArg ab bc)⟩
 f25:=⟨f370.name,aS,func370.trans (congrArg ab bc)⟩
 f26:=⟨f371.name,aS,func371.trans (congrArg ab bc)⟩
 f27:=⟨f372.name,aS,func372.trans (congrArg ab bc)⟩
 f28:=VQ.trans (congrArg ab bc)
 f29:=VR.trans (congrArg ab bc)
 f46:=⟨f383.name,aS,func383.trans (congrArg ab bc)⟩
 f47:=VV.trans (congrArg ab bc)
 f48:=VW.trans (congrArg ab bc)
 f49:=⟨f384.name,aS,func384.trans (congrArg ab bc)⟩
 f50:=⟨f385.name,aS,func385.trans (congrArg ab bc)⟩
 f57:=⟨f389.name,aS,func389.trans (congrArg ab bc)⟩
 t0:=wI
 a0:=wF
 z0:=wH
 v0:=wJ
 t3:=jD
 a3:=qR
 z3:=qT
 v3:=qU
 t4:=tG
 a4:=tE
 z4:=tF
 v4:=tH
 t5:=mm
 a5:=Tryz.isAgg5
 z5:=KF
 v5:=KI
 t9:=DY
 a9:=Tryz.isAgg9
 z9:=GF
 v9:=GH
 t22:=underlying409
 a22:=isAgg409
 z22:=sizeOf409
 v22:=zeroValue409
 t25:=underlying415
 a25:=isAgg415
 z25:=sizeOf415
 v25:=zeroValue415
 t39:=KG
 a39:=KB
 z39:=KE
 v39:=KH
 t45:=Wz
 a45:=V3
 z45:=Wp
 v45:=WL
 t46:=WA
 a46:=V4
 z46:=Wq
 v46:=WM
 t50:=Ww
 a50:=V1
 z50:=Wn
 v50:=WJ
 t53:=Pm
 a53:=Pc
 z53:=Pj
 v53:=Pp
 t55:=Pn
 a55:=V5
 z55:=Wr
 v55:=WN
 t66:=WC
 a66:=V6
 z66:=Ws
 v66:=WO
 t70:=WD
 a70:=V7
 z70:=Wt
 v70:=WQ
 t76:=WG
 a76:=V8
 z76:=Wu
 v76:=WR
 t77:=WI
 a77:=V9
 z77:=Wv
 v77:=WS}
def Tryz.as8:Go.Shelf.Ren:=⟨λ|6=>106|15=>193|14=>192|28=>271|29=>272|20=>263|21=>264|22=>265|23=>266|24=>267|25=>268|26=>269|27=>270|46=>316|47=>317|48=>318|49=>319|50=>320|57=>353|n=>n,λ|22=>24|24=>73|25=>172|3=>3|39=>311|0=>0|53=>315|55=>42|4=>4|46=>372|45=>371|50=>188|5=>5|9=>9|66=>420|70=>423|76=>448|77=>80|n=>n,λ|n=>n⟩
def Tryz.adB:aib ax Tryz.as8:={
 mixed:=bc
 f6:=⟨f106.name,aS,func106.trans (congrArg ab bc)⟩
 f14:=⟨f192.name,aS,func192.trans (congrArg ab bc)⟩
 f15:=VI.trans (congrArg ab bc)
 f20:=⟨f263.name,aS,func263.trans (congrArg ab bc)⟩
 f21:=⟨f264.name,aS,func264.trans (congrArg ab bc)⟩
 f22:=⟨f265.name,aS,func265.trans (congrArg ab bc)⟩
 f23:=⟨f266.name,aS,func266.trans (congrArg ab bc)⟩
 f24:=⟨f267.name,aS,func267.trans (congrArg ab bc)⟩
 f25:=⟨f268.name,aS,func268.trans (congrArg ab bc)⟩
 f26:=⟨f269.name,aS,func269.trans (congrArg ab bc)⟩
 f27:=⟨f270.name,aS,func270.trans (congrArg ab bc)⟩
 f28:=VQ.trans (congrArg ab bc)
 f29:=VR.trans (congrArg ab bc)
 f46:=⟨f316.name,aS,func316.trans (congrArg ab bc)⟩
 f47:=VV.trans (congrArg ab bc)
 f48:=VW.trans (congrArg ab bc)
 f49:=⟨f319.name,aS,func319.trans (congrArg ab bc)⟩
 f50:=⟨f320.name,aS,func320.trans (congrArg ab bc)⟩
 f57:=⟨f353.name,aS,func353.trans (congrArg ab bc)⟩
 t0:=wI
 a0:=wF
 z0:=wH
 v0:=wJ
 t3:=jD
 a3:=qR
 z3:=qT
 v3:=qU
 t4:=tG
 a4:=tE
 z4:=tF
 v4:=tH
 t5:=mm
 a5:=Tryz.isAgg5
 z5:=KF
 v5:=KI
 t9:=DY
 a9:=Tryz.isAgg9
 z9:=GF
 v9:=GH
 t22:=Tryz.underlying24
 a22:=isAgg24
 z22:=sizeOf24
 v22:=zeroValue24
 t25:=underlying172
 a25:=isAgg172
 z25:=sizeOf172
 v25:=zeroValue172
 t39:=KG
 a39:=KB
 z39:=KE
 v39:=KH
 t45:=Wz
 a45:=V3
 z45:=Wp
 v45:=WL
 t46:=WA
 a46:=V4
 z46:=Wq
 v46:=WM
 t50:=Ww
 a50:=V1
 z50:=Wn
 v50:=WJ
 t53:=Pm
 a53:=Pc
 z53:=Pj
 v53:=Pp
 t55:=Pn
 a55:=V5
 z55:=Wr
 v55:=WN
 t66:=WC
 a66:=V6
 z66:=Ws
 v66:=WO
 t70:=WD
 a70:=V7
 z70:=Wt
 v70:=WQ
 t76:=WG
 a76:=V8
 z76:=Wu
 v76:=WR
 t77:=WI
 a77:=V9
 z77:=Wv
 v77:=WS}
def w9:Nat->List (Int×Int)->List jO
 |_,[]=>[]
 |k,e::t=>(e,(k:Int))::w9 (k+1) t
def iN(l:List (Int×Int)):List jO:=w9 0 l
theorem ZT e:∀(t) k,w9 k (t++[e])=w9 k t++[(e,((k+t.length:Nat):Int))]
 |[],k=>aa
 |x::t,k=>by simp only[pj,w9,ZT e t (k+1),jQ];rw[show k+1+t.length=k+(t.length+1) by omega]
def apv t e:iN (t++[e])=iN t++[(e,(t.length:Int))]:=by grind[iN,ZT]
def ZR:∀(t) k,(w9 k t).length=t.length
 |[],_=>aa
 |_::t,k=>by simp[w9,ZR t (k+1)]
theorem Az l:(iN l).length=l.length:=ZR l 0
theorem RP:∀(t) (k i),(w9 k t)[i]?=(t[i]?).map λe=>(e,((k+i:Nat):Int))
 |[],_,i=>by rfl
 |e::t,k,0=>by rfl
 |e::t,k,i+1=>by simp only[w9,List.getElem?_cons_succ];rw[RP t (k+1) i,show k+1+i=k+(i+1) by omega]
theorem EK l(i:Nat):(iN l)[i]?=(l[i]?).map λe=>(e,(i:Int)):=by grind[iN,RP]
theorem AX{l x}:x∈iN l↔∃i:Nat,l[i]?=ab x.1/\x.2=(i:Int):=by
 rw[List.mem_iff_getElem?];constructor;·grind[EK]
 .rintro⟨i,hi,h2⟩;refine⟨i,?_⟩;grind[EK]
def oT(x:jO):List Value:=[J R x.1.1,J R x.1.2,J R x.2]
def rf(S:List jO):List Value:=S.flatMap oT
def anr S:(rf S).length=S.length*3:=by
 unfold rf;induction S with
 |nil=>rfl
 |cons e r a=>grind[oT]
def ans S x:rf (S++[x])=rf S++oT x:=by simp[rf]
def Y6:∀(S) (j c),j<S.length->c<3->(rf S)[j*3+c]?=(oT (S[j]?.getD yN))[c]?
 |[],j,c,a,_=>by grind
 |x::S,0,c,_,hc=>by grind[oT,rf]
 |x::S,j+1,c,a,hc=>by
  show(oT x++rf S)[(j+1)*3+c]?=_;rw[List.getElem?_append_right (by simp[oT];omega)];have bE:(j+1)*3+c -(oT x).length=j*3+c:=by simp[oT];omega
  rw[bE,Y6 S j c (by simpa using a) hc];simp
theorem nC.ot{w base n c A S}(h:w.ownsRow base 413 3 (ae A n c) n (rf S)):n=S.length/\nC w A S:=by
 have hn:n=S.length:=by have:=h.1;rw[anr]at this;omega
 refine⟨hn,λk=>?_⟩;rcases h.2 with⟨hv,e⟩|⟨g,cap,cur,hv,hb,f,i,hcm,hcs,b⟩;·omega
 .injection hv with h1 h2 h3;subst h1;refine⟨g,0,rfl,λj a=>?_⟩
  have key:∀c,c<3->∀u,(oT (S[j]?.getD yN))[c]?=ab u->w.cell? ⟨g,0+j*3+c,af⟩=ab u:=λc hc u d=>by rw[<-Y6 S j c a hc,<-b,tR,if_pos ad]at d;grind[World.cell?]
  exact⟨key 0 ad _ aa,key 1 ad _ aa,key 2 ad _ aa⟩
def Zc(x y)w:aD ax 108 #[J R x,J R y] w λe w'=>e=aB (J R (zC x y))/\w'=w:=Any.cmp_Compare_int Tryz.asY x y w
def axl(x y:jO)W:aD ax 308 #[ar #[J R x.1.1,J R x.1.2,J R x.2],ar #[J R y.1.1,J R y.1.2,J R y.2]] W λe w'=>e=aB (J R (zC x.1.1 y.1.1))/\∃q b,w'=GJ (W.drewN q) b:=by have hcon:=λa=>Zc x.1.1 y.1.1 a;generalize zC x.1.1 y.1.1=r at hcon⊢;go_enter func308,ntmps308;go_wp2_with (go_at_call 108;refine(hcon _).mono ?_;rintro e w' ⟨rfl,rfl⟩);go_ret;exact⟨aa,0,_,by rw[Pw,Pw,Sort.grow_grow];rfl⟩
def LW(x y:jO):Int:=zC x.1.1 y.1.1
theorem Nj(x y):GI LW x y=decide (x.1.1<y.1.1):=by grind[GI,LW,zC]
def axA:Sort.SWO (GI LW) where
 irrefl x:=by grind[Nj]
 trans x y z h1 h2:=by grind[Nj]
 ntrans x y z h1 h2:=by grind[Nj]
def apf args w:(callFunc 308 args).run ax w=bf (.enter 308 args) w:=bc
def av.putRowK F w(blk off)d(hb:F blk):av F w (Sort.putRowK oT 3 w blk off d):=
 ⟨aa,aa,aa,by show w.heap.size<=(w.heap.modify blk _).size;simp,λk _ hn=>by show(w.heap.modify blk _)[k]?=_;grind⟩
def av.aao F w os:av F w (GJ w os):=
 ⟨aa,aa,aa,by show w.heap.size<=(w.heap++os).size;rw[Array.size_append];omega,λk hk _=>by show(w.heap++os)[k]?=_;rw[Kd hk]⟩
def av.Yx F w q:av F w (KK w q):=⟨aa,aa,aa,b9 _,λ_ _ _=>aa⟩
def getElem!_toArray(S:List jO)j(a:j<S.length):S.toArray[j]! =S[j]?.getD default:=bg
def nC.holds{w g S cur}(i:w.heap[g]?=ab (bo cur 413 (0,0)))(h:nC w (ab ⟨g,0,af⟩) S):Pv oT 3 w g 0 S.toArray:=λt d=>by
 rw[Sort.size_flatK]at d;have j:t<S.length*3:=ad;have c:t/3<S.length:=ad;rw[Sort.get_flatK _ 3 _ t d,getElem!_toArray S _ c];obtain⟨b,off,e,hc⟩:=h ad;cases e;have a:=hc (t/3) c;have hr:t%3=0\/t%3=1\/t%3=2:=ad;refine⟨?_,by grind[wM]⟩;have f:S[t/3]?.getD default=S[t/3]?.getD yN:=bc;rw[f];rcases hr with hr|hr|hr;·have bE:0+t=0+t/3*3:=ad;rw[hr,bE];exact a.1
 .have bE:0+t=0+t/3*3+1:=ad;rw[hr,bE];exact a.2.1
 .have bE:0+t=0+t/3*3+2:=ad;rw[hr,bE];exact a.2.2
def nC.at3{w g d}(h:Pv oT 3 w g 0 d):nC w (ab ⟨g,0,af⟩) d.toList:=λ_=>by refine⟨g,0,rfl,λj b=>?_⟩;have hj':j<d.size:=ad;have a:d.toList[j]?.getD yN=d[j]!:=aH;rw[a];exact⟨(h.cell hj' (c:=0) ad).1,(h.cell hj' (c:=1) ad).1,(h.cell hj' (c:=2) ad).1⟩
def axg(base n c)A S w(hv:w.ownsRow base 413 3 (ae A n c) n (rf S))(t:0<S.length)(hlen:S.length<=1048576):
 aD ax 307 #[ae A n c,dI (ed 308) #[] #[]] w λe w'=>e=aB (bn #[])/\∃a,a.Perm S/\a.Pairwise (λx y=>x.1.1<=y.1.1)/\nC w' A a/\av (λi=>(ae A n c).ownBlock=ab i) w w':=by
 obtain⟨hn,o⟩:=nC.ot hv;subst hn;rcases hv.2 with⟨k,q⟩|⟨g,cap,cur,k,hb,d,s,hcm,hcs,u⟩;·omega
 .injection k with h1 h2 h3;subst h1 h3;have b:=nC.holds d o
  have h:=aia Tryz.adC 3 isAgg413 sizeOf413 oT (λ_=>aa) (λx v hv=>by simp[oT]at hv;rcases hv with rfl|rfl|rfl<;>rfl) LW axA 308 #[] g 0 c S.toArray w apf
   (λm os fT _ x y=>axl x y _) b (tA.1 d).1 aH;simp only[iK]at h;change aD ax 307 _ _ _ at h;refine h.mono ?_;clear h;rintro e w' ⟨rfl,cI,m,os,f,p,rfl⟩;have hsz:cI.size=S.length:=by have:=f.1;simpa using this
  refine⟨aa,cI.toList,?_,?_,?_,((av.Yx (λi=>(ae _ _ c).ownBlock=ab i) w m).trans (av.putRowK (λi=>(ae _ _ c).ownBlock=ab i) _ g 0 cI aa) (λ_ _ h=>h)).trans (av.aao _ _ os) (λ_ _ h=>h)⟩
  .have:=f.2.2;have bE:(cI.extract 0 S.length).toList=cI.toList:=by rw[<-hsz];simp
   grind
  .rw[mr];intro i j hi r l;have:=p i j (cC _) l aH;grind[Nj]
  .refine nC.at3 ?_;refine Sort.holdsK_grow oT 3 _ os g 0 cI ?_ (Sort.holdsK_putRowK oT 3 _ g 0 S.toArray cI (Sort.holdsK_ahead oT 3 w m g 0 S.toArray b) ad);show g<(w.heap.modify g _).size;grind
namespace G
open Go.RowKit Go.Shelf Go.Sort Go.Maps
attribute [local go_sem] Oper.semAt_some
def Tg:(ax.info? 3).map (λi=>(i.zero,i.size,i.bytes))=ab (ab (J R 0),1,8):=aw
def upto{a:Type}(f:Nat->a)(k:Nat):List a:=(dQ k).map f
theorem agN{a}(f:Nat->a)k:upto f (k+1)=upto f k++[f k]:=by simp[upto,List.range_succ]
theorem axW{a}(f:Nat->a)k:(upto f k).length=k:=by simp[upto]
theorem axV(a:List Int):upto (λj=>a[j]?.getD 0) a.length=a:=by
 apply X7;·simp[upto]
 .grind[upto]
def axX(a:List Int){k}(hk:k<=a.length):upto (λj=>a[j]?.getD 0) k=a.take k:=by
 apply X7;·grind[upto]
 grind[upto]
set_option maxHeartbeats 2000000 in
def axY F n (q:F.fn 256) (hro:F.round=af) (hn:1<=n) (l bS f b off len cap) (c:List Int) (z:len*8<=140737488351232) (hb:b<f) (d g:List Int->aQ->Prop)
 (AG:∀pre x W,d pre W->pre.length<len->YieldAt F (n -1) ax l #[J R x] W λe a=>
   (e=aB (ai az)/\d (pre++[x]) a/\va f W a)\/(e=aB (ai ao)/\g (pre++[x]) a))
 W (yT:W.cell? ⟨bS,0,af⟩=ab (ae (ab ⟨b,off,af⟩) len cap)) (hc:∀j,j<len->W.cell? ⟨b,off+j,af⟩=ab (J R (c[j]?.getD 0))) (h0:d [] W):
 rU F n ax 256 #[dI (.yield l) #[] #[],ay (ab ⟨bS,0,af⟩)] W λe a=>(∃v,e=aB v)/\
  ((∃bY,bY=upto (λj=>c[j]?.getD 0) len/\d bY a)\/(∃pre,(∃k,k<=len/\pre=upto (λj=>c[j]?.getD 0) k)/\g pre a)):=by
 refine D0 VP aa q ?_ hro;simp only[Tryz.ntmps256,iK,jQ,mq,pV,pW,qa,p7,lJ,pj];gi_wp2
 gi_loopw [7] (λi wr=>∃k:Nat,k<=len/\i=J R k/\d (upto (λj=>c[j]?.getD 0) k) wr/\va f W wr)
  (λi _=>len -(intOf i).toNat);case atStart=>exact⟨0,cC _,aa,h0,Pt _ _⟩
 case round=>
  obtain⟨k,hk,rfl,m,o⟩:=hrel;have t:k<len->wr.cell? ⟨b,off+k,af⟩=ab (J R (c[k]?.getD 0)):=λh=>(o.cell (p:=⟨b,off+k,af⟩) hb).trans (hc k h);by_cases hlt:k<len
  .obtain⟨fn,tmps,assign,body,A,s⟩:=AG _ (c[k]?.getD 0) wr m (by grind[axW]);have y:=t hlt;gi_wp2;refine s.mono ?_;rintro e u (⟨rfl,w,hk3⟩|⟨rfl,r⟩)
   .gi_wp2;go_roundw;case rel=>exact⟨k+1,ad,bg,by grind[agN],o.trans hk3⟩
    case measure=>grind[intOf]
   .gi_wp2;refine bodyPost_ret (results_none aa _ _ _) aa ?_;exact⟨⟨_,aa⟩,cm ⟨_,⟨_,ad,(agN _ _).symm⟩,r⟩⟩
  .obtain rfl:k=len:=ad;gi_wp2;go_end0;exact⟨⟨_,aa⟩,b1 ⟨_,aa,m⟩⟩
def axZ F n(c:F.fn 256)(hro:F.round=af)(l bS cap)A(a:List Int->aQ->Prop)W(g:W.cell? ⟨bS,0,af⟩=ab (ae A 0 cap))(f:a [] W):
 rU F n ax 256 #[dI (.yield l) #[] #[],ay (ab ⟨bS,0,af⟩)] W λe b=>(∃v,e=aB v)/\a [] b:=by
 refine D0 VP aa c ?_ hro;simp only[Tryz.ntmps256,iK,jQ,mq,pV,pW,qa,p7,lJ,pj];gi_wp2;gi_loopw [7] (λi wr=>i=J R 0/\a [] wr) (λ_ _=>0);case atStart=>grind
 case round=>
  obtain⟨rfl,d⟩:=hrel;gi_wp2;go_end0;exact⟨⟨_,aa⟩,d⟩
def ax0 F n(b:F.fn 184)(hro:F.round=af)a(len cap)w:
 rU F n ax 184 #[ae a len cap] w λe w'=>e=aB (dI (ed 256) #[] #[ay (ab ⟨w.heap.size,0,af⟩)])/\w'=w.alloc (bo #[ae a len cap] 82):=by
 refine D0 func184 aa b ?_ hro;simp only[ntmps184,iK,jQ,mq,pV,pW,qa,p7,lJ,pj];gi_wp2;go_ret;exact⟨aa,aa⟩
def ax1 F n (i:F.fn 256) (hro:F.round=af) (hn:1<=n) (bS d cap) A a (u:a.length*8<=140737488351232) w (r:bS<w.heap.size) (t:w.heap.size=d)
 (hc:w.cell? ⟨bS,0,af⟩=ab (ae A a.length cap)) (fC:dA w A a):
 SeqStopsK F n ax 256 #[ay (ab ⟨bS,0,af⟩)] (λx:Int=>#[J R x]) (va d) (λbY=>bY=a) (λpre=>pre<+:a) a.length w:=λl g o W m _ _ s h=>by
 have hc':=(m.cell (p:=⟨bS,0,af⟩) r).trans hc;rcases lX a.length with hz|hz;·obtain rfl:=j3 hz;exact(axZ F n i hro l bS _ A g W hc' h).mono λe q ⟨f,c⟩=>⟨f,b1 ⟨_,aa,c⟩⟩
 .obtain⟨b,off,rfl,hcs⟩:=fC hz;have hb:b<d:=t▸vd w _ (hcs 0 hz);refine(axY F n i hro hn l bS d b off a.length cap a u hb g o s W hc' (λj c=>(m.cell (p:=⟨b,off+j,af⟩) aH).trans (hcs j c)) h).mono ?_;rintro e q ⟨f,⟨bY,rfl,c⟩|⟨pre,⟨k,hk,rfl⟩,c⟩⟩;·grind[axV]
  .exact⟨f,cm ⟨_,by rw[axX a hk];exact List.take_prefix _ _,c⟩⟩
set_option maxHeartbeats 2000000 in
def appendSeq_in F n (m:F.fn 312) (g:F.fn 256) (hro:F.round=af) (hn:3<=n) (bS cap) A a (hbytes:a.length*8<=140737488351232) w
 (yT:bS<w.heap.size) (hc0:w.cell? ⟨bS,0,af⟩=ab (ae A a.length cap)) (fC:dA w A a):
 rU F n ax 312 #[ae af 0 0,dI (ed 256) #[] #[ay (ab ⟨bS,0,af⟩)]] w λe f=>∃v,e=aB v/\f.ownsRow w.heap.size 3 1 v a.length (a.map (J R))/\(v=ae af 0 0↔a=[])/\va w.heap.size w f:=by
 have h1:1<=n:=ad;obtain⟨r,hi,hz0,hz1,hz2⟩:=vf Tg;refine callsIn_of_wp_marks Tryz.func312 aa m ?_ hro;simp only[ntmps312,iK,jQ,mq,pV,pW,qa,p7,lJ,pj];gi_wp2;have k:=Boxed.new w 82 (ae af 0 0);have d:va w.heap.size w (w.alloc (bo #[ae af 0 0] 82)):=(Pt _ w).alloc (b9 _) _
 have hseq:SeqStopsK F (n -1) ax 256 #[ay (ab ⟨bS,0,af⟩)] (λx:Int=>#[J R x]) (va w.heap.size) (λbY=>bY=a) (λpre=>pre<+:a) a.length (w.alloc (bo #[ae af 0 0] 82)):=
  λl i j W p=>ax1 F (n -1) g hro ad bS w.heap.size cap A a hbytes w yT aa hc0 fC l i j W (d.trans (p.mono d.size))
 refine wpIn_rangeFunc_ownG hro h1 (gf:=256) (lb:=_) aa g (lf VP aw aa)
  hseq belowK_t (belowK_b bg) (Pt _ _) (λ_=>aa)
  (λpre W=>(∃v,Boxed W w.heap.size 82 v/\W.ownsRow w.heap.size 3 1 v pre.length (pre.map (J R))/\(v=ae af 0 0↔pre=[]))/\va w.heap.size w W)
  (λ_ _ _=>False)
  (OwnFrom.and (Own.from (holdsRow_own w.heap.size w.heap.size 82 3 1 (λpre=>pre.length) (λpre=>pre.map (J R)) (λpre v=>v=ae af 0 0↔pre=[])) _) (ownFrom_below (b9 _) bg))
  (λ_ _ _ _ _ q _ _=>q)
  ⟨⟨_,k,BR _ _ _ _,bg⟩,d⟩
  (λx=>{tmps:=#[ae af 0 0,dI (ed 256) #[] #[ay (ab ⟨bS,0,af⟩)],ay (ab ⟨w.heap.size,0,af⟩),a7,ae af 0 0,J R x,dI (ed 256) #[] #[ay (ab ⟨bS,0,af⟩)],J R x,a7,a7,a7,a7,a7],defers:=[]}) ?assign ?body ?done ?stop
 case assign=>
  intro l x W K c;gi_wp2;exact c
 case body=>
  rintro l pre x W ⟨⟨v,hv,hrow,hnil⟩,b⟩ hlt;have hc:=hv.cell;gi_wp2_with (gi_at_builtin;refine wpListIn_append_own _ aa _ _ 82 aa w.heap.size 3 r (J R 0) 1 8 jo hi hz0 hz1 hz2 aa aS _ _ _ aa (hrow.alloc _) ⟨W.heap.size,0,af⟩ 1 1 [J R x] aa aa (cell_one_new _ _ _) (by simp[zG]) (by grind[eB]) ad (by have:=b.size;simp;omega) ?_;intro v' w1 hown' hgrow _;obtain⟨t,s,rfl⟩:=ownsRow_succ hown';obtain⟨h,hv2,hr2,hk2,hb2⟩:=hv.appended aS hrow b.size (b9 _) hown' hgrow;have hc1:=h.cell;have u:=h.frozen);exact⟨hk2.from _,hb2,⟨_,hv2,aH,bg⟩,b.trans hb2⟩
 case done=>
  rintro D bY W o rfl ⟨⟨v,hv,hrow,hnil⟩,b⟩ c;have hc:=hv.cell;gi_wp2;refine⟨bg,b1 ⟨_,_,aa,run_takeDeferred c,?_⟩⟩;exact⟨_,results_tmp aa _ _ _,v,aa,ownsRow_putObj hrow _ c aa,hnil,b.trans (belowK_b (w:=w) (b9 _) W D _ _ (by simp at o;omega) c aa aa)⟩
 case stop=>simp
open Go.RowKit Go.Shelf Go.Sort Go.Maps
def rG(xs:List Int):List Int:=xs.mergeSort (λx y=>decide (x<=y))
def zp xs:(rG xs).Perm xs:=List.mergeSort_perm _ _
theorem N0 xs:(rG xs).length=xs.length:=(zp xs).length_eq
def N1 xs:(rG xs).Pairwise (·<=·):=by have:=List.pairwise_mergeSort (le:=λx y:Int=>decide (x<=y)) (λa b c h1 d=>aH) (λa b=>aH) xs;exact this.imp (λh=>aH)
def apx{l l':List Int}(d:l.Perm l')(h:l.Pairwise (·<=·))(c:l'.Pairwise (·<=·)):l=l':=
 d.eq_of_pairwise (λa b _ _ h1 e=>ad) h c
def axd{xs bY}(a:bY.Perm xs)(b:bY.Pairwise (·<=·)):rG xs=bY:=
 apx ((zp xs).trans a.symm) (N1 xs) b
def axc{xs bY}(a:xs.Perm bY):rG xs=rG bY:=axd ((zp bY).trans a.symm) (N1 bY)
def collect_in F n (d:F.fn 254) (f:F.fn 312) (g:F.fn 256) (hro:F.round=af) (hn:4<=n) (bS cap) A a (hbytes:a.length*8<=140737488351232) w
 (yT:bS<w.heap.size) (hc0:w.cell? ⟨bS,0,af⟩=ab (ae A a.length cap)) (fC:dA w A a):
 rU F n ax 254 #[dI (ed 256) #[] #[ay (ab ⟨bS,0,af⟩)]] w λe b=>∃v,e=aB v/\b.ownsRow w.heap.size 3 1 v a.length (a.map (J R))/\(v=ae af 0 0↔a=[])/\va w.heap.size w b:=by
 have h1:1<=n:=ad;have c:=hid (appendSeq_in F (n -1) f g hro ad bS cap A a hbytes w yT hc0 fC);clear hc0 fC;refine D0 Tryz.func254 aa d ?_ hro;simp only[ntmps254,iK,jQ,mq,pV,pW,qa,p7,lJ,pj];gi_wp2_with (gi_at_call 312;refine(c.out).mono ?_;rintro e w' ⟨v,rfl,hrow,hnil,hb⟩);go_ret;exact⟨v,aa,hrow,hnil,hb⟩
def Uy m:AnyZI.SortsIn ax Tryz.af8 mQ m:=
 ⟨λblk off cap b W a hblk hsz=>sM.2 (AnyM.slices_Sort_int Tryz.af5 blk off cap b W a hblk hsz),
  λp cap W=>sM.2 (AnyM.slices_Sort_int_none Tryz.af5 p cap W)⟩
def sorted_in (bS cap) A a (hbytes:a.length*8<=140737488351232) w
 (yT:bS<w.heap.size) (hc0:w.cell? ⟨bS,0,af⟩=ab (ae A a.length cap)) (fC:dA w A a):
 rU mQ 6 ax 183 #[dI (ed 256) #[] #[ay (ab ⟨bS,0,af⟩)]] w λe h=>∃v,e=aB v/\h.ownsRow w.heap.size 3 1 v a.length ((rG a).map encZ)/\va w.heap.size w h:=by
 have r:=hid (collect_in mQ 5 trivial trivial trivial aa ad bS cap A a hbytes w yT hc0 fC);have l:=λblk off cap C W f hblk hsz=>(Uy 5).1 blk off cap C W f hblk hsz;have m:=λp cap W=>(Uy 5).2 p cap W;have D:mQ.fn 254:=trivial;have hf2:mQ.fn 255:=trivial;have s:=hid l;have t:=hid m;clear hc0 fC l m;refine D0 Tryz.func183 aa trivial ?_ aa;simp only[ntmps183,iK,jQ,mq,pV,pW,qa,p7,lJ,pj];gi_wp2_with (gi_at_call 254;refine(r.out).mono ?_;rintro e W ⟨v,rfl,hrow,hnil,hb⟩);rcases hrow.2 with⟨rfl,hz⟩|⟨c,i,cur,rfl,hbase,hgb,n,o,q,B⟩;·have z:a=[]:=j3 hz;subst z;have b:rU mQ 5 ax 255 #[ae af 0 0] W λe w'=>e=aB (bn #[])/\w'=W:=t.out af 0 W;have g:=hid b;clear b;gi_wp2_with (gi_at_call 255;refine(g.out).mono ?_;rintro e w' ⟨rfl,rfl⟩);go_ret;exact⟨_,aa,by simpa [rG]using hrow,hb⟩
 .have f:Holds encZ W c 0 a.toArray:=holds_of_block_i hgb aH;have u:c<W.heap.size:=(tA.1 hgb).1;have hsz:a.length<4611686018427387904:=ad;have b:rU mQ 5 ax 255 #[ae (ab ⟨c,0,af⟩) a.length i] W λe w'=>e=aB (bn #[])/\∃k os,w'=GJ (putRow encZ (KK W k) c 0 (a.mergeSort λx y=>decide (x<=y)).toArray) os:=s.out c 0 i a W f u hsz;have g:=hid b;have d:=hid (And.intro hgb (And.intro n (And.intro o q)));clear b f hgb n o q B hrow;gi_wp2_with (gi_at_call 255;refine(g.out).mono ?_;rintro e w' ⟨rfl,F,os,rfl⟩);go_ret;exact⟨_,aa,ownsRow_sorted_i bg hbase d.out.1 d.out.2.1 d.out.2.2.1 d.out.2.2.2,hb.grown (grownBy_sorted_i _) hb.size (λj E=>aH)⟩
def agQ A(len cap)w:
 aD ax 184 #[ae A len cap] w λe w'=>e=aB (dI (ed 256) #[] #[ay (ab ⟨w.heap.size,0,af⟩)])/\w.alloc (bo #[ae A len cap] 82)=w':=
 ((sM (n:=2)).1 (ax0 mQ 2 trivial aa A len cap w)).mono λ_ _ ⟨h1,a⟩=>⟨h1,a.symm⟩
def q5(w w':aQ)(v:aP)(xs:List Int):Prop:=w'.ownsRow w.heap.size 3 1 v xs.length (xs.map (J R))
def q5.form{w w' v xs}(h:q5 w w' v xs):∃A c,v=ae A xs.length c/\dA w' A xs/\xs.length<=c/\c<=eB/\∀b off,A=ab ⟨b,off,af⟩->w.heap.size<=b/\b<w'.heap.size:=by
 have a:=h;rcases h.2 with⟨rfl,hz⟩|⟨g,cap,cur,rfl,hb,j,h1,d,f,i⟩;·grind[dA.nil]
 .exact⟨_,_,aa,dA.ot a,h1,d,λb off e=>aH⟩
def af9(bS cap)A a(hbytes:a.length*8<=140737488351232)w(hc0:w.cell? ⟨bS,0,af⟩=ab (ae A a.length cap))(c:dA w A a):
 aD ax 183 #[dI (ed 256) #[] #[ay (ab ⟨bS,0,af⟩)]] w λe w'=>∃v,e=aB v/\q5 w w' v (rG a)/\au w w':=
 ((sM (n:=6)).1 (sorted_in bS cap A a hbytes w (vd w _ hc0) hc0 c)).mono λ_ _ ⟨v,h1,d,b⟩=>
  ⟨v,h1,by grind[q5,N0],av.Nw b (b9 _)⟩
theorem Hw A c xs x w(hx:dA w A xs)(h1:xs.length<=9223372036854775807):
 aD ax 190 #[ae A xs.length c,J R x] w λe w'=>e=aB (ai (decide (x∈xs)))/\w=w':=by
 rcases lX xs.length with d|d;·obtain rfl:xs=[]:=j3 d;exact(Any.slices_Contains_int_empty Tryz.adx A c x w).mono λ_ _ ⟨a,b⟩=>⟨aH,b.symm⟩
 .obtain⟨eF,gC,rfl,c1⟩:=hx d;refine(Any.slices_Contains_int Tryz.adx eF gC xs.length c xs x w (b9 _) h1 (λj f=>bg)).mono λ_ _ ⟨a,b⟩=>⟨?_,b.symm⟩;grind
def anL A c xs w(hx:dA w A xs)(h1:xs.length*8<=140737488355328):
 aD ax 380 #[ae A xs.length c] w λe w'=>∃v,e=aB v/\q5 w w' v xs/\au w w':=by
 rcases A with _|a
 .obtain rfl:xs=[]:=by
   rcases lX xs.length with f|f;·grind
   .obtain⟨_,_,h,_⟩:=hx f;cases h
  exact(Any.slices_Clone_int_nil Tryz.Tq 0 c w).mono λ_ _ ⟨a,b⟩=>⟨_,a,b▸BR _ _ _ _,b▸av.refl _ _⟩
 .rcases lX xs.length with f|f;·obtain rfl:xs=[]:=j3 f;exact(Any.slices_Clone_int_zero Tryz.Tq a c w).mono λ_ _ ⟨v,a,b,_,d⟩=>⟨v,a,b,av.Nw d (b9 _)⟩
  .obtain⟨eF,gC,e,c1⟩:=hx f;cases e;refine(Any.slices_Clone_int Tryz.Tq eF gC xs.length c xs w (b9 _) h1 (λj g=>bg)).mono λ_ _ ⟨v,a,b,_,d⟩=>⟨v,a,?_,av.Nw d (b9 _)⟩;rw[lp]at b;exact b
open Go.RowKit Go.Shelf Go.Sort Go.Maps Go.MapKept
open Go.WideElems (rg rg_of)
open Go.WideShapes (sorted_perm)
def agO:aP->Int|.int _ x=>x|_=>0
abbrev Eu:aP->Option (DataW Unit×List MemPlace):=λ_=>ab (.nil,[])
def auL{P k}(hk:P.underlying k=ab (.int R)){w ms a}(h:d' w ms encI cO a):
 ∃D,w.ownsMap P k Eu ms a.length D/\(W3 D).Perm (a.map (·.1))/\Kv D=a.length:=by
 obtain⟨es,m,hb,j,hz,c,n⟩:=h;have hlen:es.size=a.length:=by have:=congrArg q4 c;simpa using this
 have g:∀e∈es.toList,∃x,e.key=encI x/\cO x:=λe b=>by have:(e.key,e.val)∈es.toList.map (λe=>(e.key,e.val)):=gP.2 ⟨e,b,aa⟩;grind
 have i:∀e∈es.toList,aj9 P k Eu e=ab (Gy R (agO e.key),.nil):=λe b=>by obtain⟨x,hx,l⟩:=g e b;rw[hx];unfold aj9;rw[hx,encI,VA hk (Og l)];rfl
 refine⟨_,⟨es,_,hb,⟨hz,j,λe b=>⟨_,i e b⟩⟩,ad,aa⟩,?_,?_⟩
 .have h1:(es.toList.map (rg P k Eu)).map (λp=>_root_.Go.intOf p.1)=a.map (·.1):=by
   have d:(es.toList.map (rg P k Eu)).map (λp=>_root_.Go.intOf p.1)=(es.toList.map (λe=>(e.key,e.val))).map (λq=>agO q.1):=by grind[List.map_congr_left,_root_.Go.intOf,rg_of]
   rw[d,c,En];rfl
  rw[<-h1];have f:=(sorted_perm (es.toList.map (rg P k Eu))).map (λp=>_root_.Go.intOf p.1);exact f
 .grind[Kv,length_sorted]
def auK{w ms a}(h:d' w ms encI cO a):
 ∃D,w.ownsMap ax 3 Eu ms a.length D/\(W3 D).Perm (a.map (·.1))/\Kv D=a.length:=auL jD h
def Tn a w:aD ax 381 #[dL a] w λe w'=>e=aB (dI (ed 388) #[] #[ay (ab ⟨w.heap.size,0,af⟩)])/\w.alloc (bo #[dL a] 467)=w':=by have h:rU mQ 5 ax 381 #[dL a] w λe w'=>e=aB (dI (ed 388) #[] #[ay (ab ⟨w.heap.size,0,af⟩)])/\w'=w.alloc (bo #[dL a] 467):=AnyZI.keys_in Tryz.ado mQ 5 trivial aa a w;exact((sM (n:=5)).1 h).mono λ_ _ ⟨h1,b⟩=>⟨h1,b.symm⟩
def axj(fb ms)a(hbytes:a.length*8<=140737488351232)w(hc:w.cell? ⟨fb,0,af⟩=ab (dL (ab ms)))(h:d' w ms encI cO a):
 aD ax 183 #[dI (ed 388) #[] #[ay (ab ⟨fb,0,af⟩)]] w λe w'=>∃v,e=aB v/\q5 w w' v (rG (a.map (·.1)))/\au w w':=by
 obtain⟨D,hown,d,hsz⟩:=auK h
 have hseq:SeqGives mQ 3 ax 388 #[ay (ab ⟨fb,0,af⟩)] encZ (λb=>b.Perm (W3 D)) (Kv D) w:=
  AnyZI.keys_gives (ρ:=Tryz.adp) {Tryz.ado with} mQ _ trivial aa ad fb ms a.length D _ (vd w _ hc) hc hown;have c:=AnyZI.sorted_in Tryz.axi mQ 6 trivial trivial trivial trivial aa ad (Uy _) (lf Tryz.func255 aw aa) 388 #[ay (ab ⟨fb,0,af⟩)] trivial (lf Tryz.func388 aw aa) _ (Kv D) (by grind[eB]) ad w hseq;refine((sM (n:=6)).1 (show rU mQ 6 ax 183 _ _ _ from c)).mono λe w'=>?_;rintro⟨v,b,rfl,hS,hrow,_,hb⟩;refine⟨v,aa,?_,av.Nw hb (b9 _)⟩;have h1:rG (a.map (·.1))=rG b:=axc ((hS.trans d).symm);unfold q5;rw[h1,N0];exact hrow
def IW{E u x}:x∈succ E u↔(u,x)∈E:=by unfold succ;simp only[gP,nB,decide_eq_true_eq];simp
def atC{E u x}:u∈pred E x↔(u,x)∈E:=by unfold pred;simp only[gP,nB,decide_eq_true_eq];simp
inductive Path (E:List (Int×Int)) (v:Int):Int->Prop where
 |one {x:Int} (h:(v,x)∈E):Path E v x
 |more {x y:Int} (h:Path E v x) (e:(x,y)∈E):Path E v y
def X2(E:List (Int×Int))(v:Int)(xs:List Int):Prop:=xs.Pairwise (·<·)/\∀x,x∈xs↔Path E v x
def De{xs:List Int}(h:xs.Pairwise (·<·)):xs.Nodup:=h.imp (λh=>ad)
def ZV{xs bY:List Int}(hx:xs.Pairwise (·<·))(c:bY.Pairwise (·<·))(h:∀x,x∈xs↔x∈bY):xs=bY:=
 ((List.perm_ext_iff_of_nodup (De hx) (De c)).2 h).eq_of_pairwise (λa b _ _ h1 d=>ad) hx c
structure tB (E:List (Int×Int)) (v:Int) (seen stack:List Int):Prop where
 A1:seen.Nodup
 path:∀x,x∈seen\/x∈stack->Path E v x
 first:∀y∈succ E v,y∈seen\/y∈stack
 closed:∀s∈seen,∀y∈succ E s,y∈seen\/y∈stack
def tB.start E v:tB E v [] (succ E v):=
 ⟨bg,λx h=>by rcases h with h|h;cases h;exact .one (IW.1 h),λy h=>cm h,λ_ h=>aH⟩
def tB.skip{E v x seen st}(h:tB E v seen (st++[x]))(hx:x∈seen):tB E v seen st:=by
 have key:∀y,y∈seen\/y∈st++[x]->y∈seen\/y∈st:=λy a=>by grind
 exact⟨h.A1,λy a=>h.path y (a.imp id (λa=>Cd _ a)),λy a=>key y (h.first y a),λs b y a=>key y (h.closed s b y a)⟩
def tB.visit{E v x seen st}(h:tB E v seen (st++[x]))(hx:x∉seen):tB E v (seen++[x]) (st++succ E x):=by
 have f:Path E v x:=h.path x (cm bg);have key:∀y,y∈seen\/y∈st++[x]->y∈seen++[x]\/y∈st++succ E x:=λy c=>by grind
 refine⟨yu.2 ⟨h.A1,bg,λa g b hb e=>?_⟩,λy c=>?_,λy c=>key y (h.first y c),λs d y c=>?_⟩;·grind
 .rcases c with c|c
  .rcases iX.1 c with c|c;·exact h.path y (b1 c)
   .grind
  .rcases iX.1 c with c|c;·exact h.path y (cm (Cd _ c))
   .exact .more f (IW.1 c)
 .rcases iX.1 d with d|d;·exact key y (h.closed s d y c)
  grind
def tB.done{E v seen}(h:tB E v seen [])x:x∈seen↔Path E v x:=by
 refine⟨λhx=>h.path x (b1 hx),λp=>?_⟩;induction p with
 |one e=>
  rcases h.first _ (IW.2 e)with h|h;·omega
  .grind
 |more _ e a=>
  rcases h.closed _ a _ (IW.2 e)with h|h;·omega
  .grind
def gm(n:Nat):List Int:=(dQ n).map (λi:Nat=>(i:Int))
theorem AZ{n x}:x∈gm n↔0<=x/\x<n:=by
 unfold gm;simp;constructor;·omega
 .rintro⟨h0,h1⟩;exact⟨x.toNat,ad,ad⟩
def Jz n:(gm n).Pairwise (·<·):=by unfold gm;rw[List.pairwise_map];exact List.pairwise_lt_range.imp (λh=>ad)
def FD{n:Nat}{xs:List Int}(hn:xs.Nodup)(h:∀x∈xs,0<=x/\x<n):xs.length<=n:=by have:=hn.length_le_of_subset (l₂:=gm n) (λx hx=>AZ.2 (h x hx));simpa [gm]using this
def A7{E n}(a:∀e∈E,(0<=e.1/\e.1<n)/\(0<=e.2/\e.2<n)/\e.1≠e.2){v x}(p:Path E v x):0<=x/\x<n:=by
 cases p with
 |one e=>grind
 |more _ e=>grind
def aoQ{n s t m L}(b:s<n)(a:m<=L):(n -(s+1))*(L+1)+(t+m)<(n -s)*(L+1)+(t+1):=by
 have:(n -s)*(L+1)=(n -(s+1))*(L+1)+(L+1):=by rw[<-Nat.succ_mul];congr 1;omega
 omega
def F6{t fr}g:∀(b) o (w:aQ) cur,w.heap[g]?=ab (bo cur t fr)->
 ∃a,(w.setCells g o b).heap[g]?=ab (bo a t fr)/\a.size=cur.size/\∀j,a[j]?=if o<=j/\j<o+b.length/\j<cur.size then b[j -o]? else cur[j]?
 |[],o,w,cur,h=>⟨cur,h,rfl,λj=>aH⟩
 |v::r,o,w,cur,h=>by
  have h1:(w.setCell ⟨g,o,af⟩ v).heap[g]?=ab (bo (cur.setIfInBounds o v) t fr):=by grind[World.setCell]
  obtain⟨a,c,e,d⟩:=F6 g r (o+1) _ _ h1;refine⟨a,c,aH,λj=>?_⟩;rw[d j,Array.getElem?_setIfInBounds];grind[Nat.le_of_not_lt]
def _root_.Go.Proofs.YtcmhplknoglbkaaGreat.av.setCells w(g o)a:av (λk=>k=g) w (w.setCells g o a):=by
 induction a generalizing o w with
 |nil=>exact av.refl _ _
 |cons v r b=>exact(av.setCell (F:=λk=>k=g) w (p:=_) aa v).trans (b _ _) (λ_ _ h=>h)
def e9(w:aQ)(base:Nat)(v:aP)(xs:List Int):Prop:=∃A c,v=ae A xs.length c/\((A=af/\xs=[]/\c=0)\/
 ∃g off cur,A=ab ⟨g,off,af⟩/\base<=g/\w.heap[g]?=ab (bo cur 3 (0,0))/\xs.length<=c/\c<=eB/\off+c<=cur.size/\∀j,j<xs.length->cur[off+j]?=ab (J R (xs[j]?.getD 0)))
theorem e9.ot{w base v n xs}(h:w.ownsRow base 3 1 v n (xs.map (J R))):e9 w base v xs:=by
 have hn:xs.length=n:=by simpa using h.1
 subst hn;rcases h.2 with⟨rfl,a⟩|⟨g,cap,cur,rfl,hb,c,h1,b,f,i⟩;·obtain rfl:=j3 a;exact⟨_,0,aa,b1 ⟨aa,aa,aa⟩⟩
 .refine⟨_,cap,aa,cm ⟨g,0,cur,rfl,hb,c,h1,b,ad,λj d=>?_⟩⟩;have e:(cur.toList.take (xs.length*1))[j]?=ab (J R xs[j]):=aH;rw[tR,if_pos ad]at e;simpa [d]using e
def e9.only{F w w' base v xs}(h:e9 w base v xs)(k:av F w w')(hn:∀g,v.ownBlock=ab g->¬F g):e9 w' base v xs:=by obtain⟨A,c,rfl,h⟩:=h;refine⟨A,c,aa,h.imp id ?_⟩;rintro⟨g,off,cur,rfl,h1,h2,r⟩;exact⟨g,_,_,aa,h1,k.heap h2 (hn g aa),r⟩
def e9.lt{w base v xs}(h:e9 w base v xs){g}(a:v.ownBlock=ab g):base<=g/\g<w.heap.size:=by
 obtain⟨A,c,rfl,⟨rfl,_⟩|⟨d,off,cur,rfl,h1,b,r⟩⟩:=h;·cases a
 .cases a;exact⟨h1,(tA.1 b).1⟩
def e9.lC{w base c A xs}(h:e9 w base (ae A xs.length c) xs):dA w A xs:=λl=>by
 obtain⟨a,b,e,⟨rfl,rfl,_⟩|⟨g,off,cur,rfl,h1,d,f,i,j,k⟩⟩:=h;·grind
 grind[fE]
def e9.form{w base v xs}(h:e9 w base v xs):∃A c,v=ae A xs.length c/\xs.length<=c/\c<=maxLen:=by
 obtain⟨A,c,rfl,⟨_,rfl,rfl⟩|⟨g,off,cur,rfl,h1,a,b,d,r⟩⟩:=h;·grind
 .grind
def e9.tail{w base n c A x xs}(h:e9 w base (ae A n c) (x::xs)):∃g off,A=ab ⟨g,off,af⟩/\n=xs.length+1/\xs.length+1<=c/\c<=eB/\w.cell? ⟨g,off,af⟩=ab (J R x)/\
 e9 w base (ae (ab ⟨g,off+1,af⟩) xs.length (c -1)) xs/\(xs=[]->e9 w base (ae (ab ⟨g,off,af⟩) xs.length (c -1)) xs):=by
 obtain⟨k,l,e,⟨rfl,m,_⟩|⟨g,off,cur,rfl,h1,a,b,f,o,d⟩⟩:=h;·grind
 .injection e with bE cr fz;subst bE cr fz;simp at b d;refine⟨g,off,aa,aa,b,f,?_,⟨_,_,aa,cm ⟨g,off+1,cur,rfl,h1,a,ad,ad,ad,λj i=>?_⟩⟩,?_⟩;·rw[fE w g _ _ _ _ a];simpa using d 0 ad
  .grind
  .rintro rfl;exact⟨_,_,aa,cm ⟨g,off,cur,aa,h1,a,cC _,ad,ad,λj i=>aH⟩⟩
def uI(xs:List Int)(i:Nat)(x:Int):List Int:=xs.take i++x::xs.drop i
def asr{xs i}x(hi:i<=xs.length):(uI xs i x).length=xs.length+1:=by grind[uI]
theorem M6{xs i}x(hi:i<=xs.length)j:(uI xs i x)[j]?=if j<i then xs[j]? else if j=i then ab x else xs[j -1]?:=by grind[uI]
theorem U4 n:(nt (J R 0).cells n).size=n:=by simp[nt,Px]
def asu base v xs i x d w(z:e9 w base v xs)(hi:i<=xs.length)(O:w.heap[d]?=ab (bo #[J R x] 3 (0,0)))(hne:∀g,v.ownBlock=ab g->g≠d)(W:xs.length<=1048576)(hbase:base<=w.heap.size):
 aD ax 306 #[v,J R i,ae (ab ⟨d,0,af⟩) 1 1] w λe w'=>∃v',e=aB v'/\e9 w' base v' (uI xs i x)/\av (λk=>v.ownBlock=ab k) w w'/\(v'.ownBlock=v.ownBlock\/∃k,v'.ownBlock=ab k/\w.heap.size<=k):=by
 obtain⟨A,c,rfl,z⟩:=z;have hlen:=asr x hi
 have p:∀(j:Nat) (u:aP),[J R x][j]?=ab u->w.cell? ⟨d,0+j,af⟩=ab u:=λj u N=>by
  rw[fE w d _ _ _ _ O];cases j with
  |zero=>grind
  |succ j=>grind
 have l:∀u∈[J R x],u.oneCell'=true:=by simp[zG]
 have B:(xs.map (J R)).length=xs.length:=bg;have G:=TQ xs;have L:∀j,j<xs.length->(xs.map (J R))[j]?=ab (J R (xs[j]?.getD 0)):=λj b=>by grind
 have X:∀j,j<xs.length+1->∃y,(uI xs i x)[j]?=ab y:=λj b=>⟨_,cE ad⟩;rcases z with⟨rfl,rfl,rfl⟩|⟨g,off,cur,rfl,hb,C,h1,H,T,U⟩
 .obtain rfl:i=0:=aH;refine(ah8 Tryz.IS af 0 0 d 0 1 1 [] [J R x] w ad (b9 _) ad ad aa aa (λ_=>aa) (λa h=>bg) p l).mono ?_;rintro e w' ⟨rfl,rfl⟩;have D:=zK w (0+1) 0 3;have m:=zL w (0+1) 0 3 (by grind[eB]);refine⟨_,aa,⟨_,_,aa,cm ⟨w.heap.size,0,_,aa,hbase,fL w.drew _,D,m,?_,λj b=>?_⟩⟩,?_,cm ⟨_,aa,b9 _⟩⟩;·grind[U4]
  .grind[uI]
  .exact(av.drew w).trans (av.alloc _ _) (λ_ _ h=>h)
 .have hcs:∀(j:Nat) (u:aP),(xs.map (J R))[j]?=ab u->w.cell? ⟨g,off+j,af⟩=ab u:=λj u N=>by grind[fE]
  have K:∀j,w.frozen? ⟨g,j,af⟩=false:=λj=>by grind[wM]
  have I:∀j,w.frozen? ⟨d,j,af⟩=false:=λj=>by grind[wM]
  have hsp:∀j,j<c->(w.cell? ⟨g,off+j,af⟩).isSome=true:=λj b=>by rw[fE w g _ _ _ _ C];simp;omega
  have M:d≠g:=λe=>hne g aa e.symm;by_cases hroom:xs.length+1<=c
  .by_cases E:i<xs.length
   .refine(Any2.slices_Insert_int_shift Tryz.IS g off xs.length c i d 0 1 1 (xs.map (J R)) [J R x] w E ad hroom (by grind[eB]) M B aa hcs (λj b=>hsp j ad) (λj _=>K _) p G l 3 3 1 cur.size
     (by grind[W1]) (by grind[W1]) ad (I _) (I _)).mono ?_;rintro e w' ⟨rfl,rfl⟩;obtain⟨q,r,F,s⟩:=F6 g ((xs.map (J R)).drop i) (off+(i+1)) w.drew cur C;obtain⟨f,eF,eK,pt⟩:=F6 g [J R x] (off+i) _ q r;refine⟨_,aa,⟨_,c,aH,cm ⟨g,off,f,rfl,hb,eF,ad,H,ad,λj b=>?_⟩⟩,?_,b1 aa⟩
    .rw[hlen]at b;rw[pt,s,M6 x hi];simp only[jQ,mq,tS,hB];by_cases o:j<i;·grind
     .by_cases n:j=i;·subst n;rw[if_pos ad,if_neg ad,if_pos aa];simp
      .rw[if_neg ad,if_pos ad,if_neg o,if_neg n,He,show i+(off+j -(off+(i+1)))=j -1 by omega];exact L _ ad
    .exact((av.drew w).trans (av.setCells _ g _ _) (λ_ _ h=>by rw[h];rfl)).trans (av.setCells _ g _ _) (λ_ _ h=>by rw[h];rfl)
   .obtain rfl:i=xs.length:=ad;refine(Any2.slices_Insert_int_end_room Tryz.IS g off xs.length c d 0 1 1 [J R x] w ad hroom (by grind[eB]) aa (λj b=>aH) (λj _=>K _) p l).mono ?_;rintro e w' ⟨rfl,rfl⟩;obtain⟨f,eF,eK,pt⟩:=F6 g [J R x] (off+xs.length) w cur C;refine⟨_,aa,⟨_,c,aH,cm ⟨g,off,f,rfl,hb,eF,ad,H,ad,λj b=>?_⟩⟩,?_,b1 aa⟩;·grind[M6]
    .exact(av.setCells w g _ _).mono (λ_ _ h=>by rw[h];rfl)
  .have V:c=xs.length:=ad;by_cases E:i<xs.length
   .refine(Any2.slices_Insert_int_grow Tryz.IS g off _ c i d 0 1 1 _ _ w E ad h1 ad ad B aa hcs p G l).mono ?_;rintro e w' ⟨rfl,rfl⟩;have D:=zK w (xs.length+1) c 3;have m:=zL w (xs.length+1) c 3 (by grind[eB]);obtain⟨q,r,F,s⟩:=F6 w.heap.size [J R x] i (w.alloc (bo (((xs.map (J R)).take i).toArray++nt (J R 0).cells (xs.length+1 -i)++nt (J R 0).cells (x' w (xs.length+1) c 3 -(xs.length+1))) 3)).drew _ (fL w _);obtain⟨f,eF,eK,pt⟩:=F6 w.heap.size ((xs.map (J R)).drop i) (i+1) (((w.alloc (bo (((xs.map (J R)).take i).toArray++nt (J R 0).cells (xs.length+1 -i)++nt (J R 0).cells (x' w (xs.length+1) c 3 -(xs.length+1))) 3)).drew.setCells w.heap.size i [J R x]).drew) q r;have hsz:q.size=x' w (xs.length+1) c 3:=by grind[U4]
    refine⟨_,aa,⟨_,_,by rw[hlen];rfl,cm ⟨w.heap.size,0,f,rfl,hbase,eF,ad,m,ad,λj b=>?_⟩⟩,?_,cm ⟨_,aa,b9 _⟩⟩
    .rw[hlen]at b;rw[pt,s,M6 x hi,iY,<-F,hsz];simp only[jQ,mq,tS,hB];by_cases o:j<i;·rw[if_neg ad,if_neg ad,if_pos o,Kd (by simp;omega),Kd (by simp;omega)];grind
     .by_cases n:j=i;·subst n;rw[if_neg ad,if_pos ad,if_neg o,if_pos aa];simp
      .rw[if_pos ad,if_neg o,if_neg n,He,show i+(j -(i+1))=j -1 by omega];exact L _ ad
    .have P:=(au.trans (av.alloc w (bo (((xs.map (J R)).take i).toArray++nt (J R 0).cells (xs.length+1 -i)++nt (J R 0).cells (x' w (xs.length+1) c 3 -(xs.length+1))) 3)) (av.drew _));have Q:av (λk=>k=w.heap.size) w _:=(au.to P).trans (av.setCells _ w.heap.size i [J R x]) (λ_ _ h=>h);have S:=(Q.trans (av.drew _) (λ_ _ h=>h)).trans (av.setCells _ w.heap.size (i+1) ((xs.map (J R)).drop i)) (λ_ _ h=>h);exact S.mono (λk hk e=>ad)
   .obtain rfl:i=xs.length:=ad;refine(ah8 Tryz.IS (ab ⟨g,off,af⟩) xs.length c d 0 1 1 (xs.map (J R)) [J R x] w ad h1 ad ad B aa (λh=>aH) (λa h=>by grind[mW]) p l).mono ?_;rintro e w' ⟨rfl,rfl⟩;have D:=zK w (xs.length+1) c 3;have m:=zL w (xs.length+1) c 3 (by grind[eB]);refine⟨_,aa,⟨_,_,by rw[hlen];rfl,cm ⟨w.heap.size,0,_,aa,hbase,fL w.drew _,ad,m,?_,λj b=>?_⟩⟩,?_,cm ⟨_,aa,b9 _⟩⟩;·simp[U4,show Tryz.adz.t 3=3 from aa];omega
    .rw[hlen]at b;rw[M6 x hi,iY,Kd aH];grind
    .exact(av.drew w).trans (av.alloc _ _) (λ_ _ h=>h)
def NW A c xs x w(hx:dA w A xs)(f:xs.Pairwise (·<=·))(h1:xs.length<=1048576):
 aD ax 305 #[ae A xs.length c,J R x] w λe w'=>∃r,e=aB (bn #[J R (xs.countP (·<x):Nat),ai r])/\∃q,w'=w.drewN q:=by
 rcases lX xs.length with a|a;·obtain rfl:=j3 a;refine(Any.slices_BinarySearch_int_empty Tryz.adA A c x w).mono ?_;rintro e w' ⟨rfl,rfl⟩;exact⟨_,aa,0,aa⟩
 .obtain⟨b,off,rfl,hc⟩:=hx a;refine(Any.slices_BinarySearch_int Tryz.adA b off xs.length c xs x w (b9 _) ad (λj d=>bg) aH).mono ?_;grind
open Go.ChangeMaps (setBlock heap_setBlock_same heap_setBlock_other)
open Go.Maps (Keyed)
section
variable {fv:Type} [DecidableEq fv] {P:Program} {k:TypeId} {enc:fv->aP} {ok:fv->Prop} {w w':aQ} {b r:Nat} {bp:List (fv×aP)} {left:List fv}
def Over(w:aQ)(b r:Nat)(enc:fv->aP)(ok:fv->Prop)(bp:List (fv×aP))(left:List fv):Prop:=
 d' w b enc ok bp/\left.Nodup/\(∀x∈left,∃v,ej bp x=ab v)/\∃es a since seen b0,w.heap[b]?=ab (iU es a)/\w.heap[r]?=ab (Kw (ab b) since seen b0)/\
  (∀x∈es.toList,x.born<since)/\since<=b0/\since<=a/\(BS es seen).toList.map (·.key)=left.map enc
def Over.adV(h:Over w b r enc ok bp left):d' w b enc ok bp:=h.1
def Over.left_eq(h:Over w b r enc ok bp left):w.rangeLeft b r=left.length:=by obtain⟨_,_,_,es,c,since,seen,b0,hb,hr,_,_,_,a⟩:=h;simp only[World.rangeLeft,hb,hr];simpa using congrArg q4 a
def Na{left:List fv}(hn:left.Nodup){x}(hx:x∈left):left.Perm (x::left.filter (λy=>!decide (y=x))):=aH
def Over.only{F}(h:Over w b r enc ok bp left)(k:av F w w')(hb:¬F b)(hr:¬F r):Over w' b r enc ok bp left:=by obtain⟨h1,a,c,es,f,since,seen,b0,d,e,rest⟩:=h;exact⟨h1.only k hb,a,c,es,_,_,_,b0,k.heap d hb,k.heap e hr,rest⟩
omit [DecidableEq fv]in
def asT{es:Array O1}(a:es.toList.map (λe=>(e.key,e.val))=bp.map (λp=>(enc p.1,p.2))):es.toList.map (·.key)=(bp.map (·.1)).map enc:=by have:=congrArg (List.map Prod.fst) a;simpa [En,Kn]using this
def _root_.Go.Proofs.YtcmhplknoglbkaaGreat.d'.range{t e}(j:P.underlying t=ab (wL k e))(h:d' w b enc ok bp):
 ∃w',(Instr.range t (dL (ab b))).run P w=bf (ay (ab ⟨w.heap.size,0,af⟩)) w'/\Over w' b w.heap.size enc ok bp (bp.map (·.1))/\au w w'/\w'.heap.size=w.heap.size+1:=by
 have c:=h;have f:=h.nodup;have hlt:=h.lt;obtain⟨es,a,hb,i,hz,d,l⟩:=h;refine⟨_,run_range_map w t k e b es a j hb,⟨c.only (av.alloc (F:=λ_=>False) _ _) (λh=>h),?_,λx hx=>?_,es,a,a,#[],a,((Vz w _).2 b hlt).trans hb,(Vz w _).1,((O2 es a).1 i).1,b9 _,b9 _,?_⟩,av.alloc _ _,bg⟩;·grind
 .obtain⟨p,g,rfl⟩:=gP.1 hx;exact⟨_,xw f g⟩
 .have:BS es #[]=es:=by simp[BS]
  rw[this];exact asT d
def apT{l:List O1}{f}:(l.filter (λe=>f e.key)).map (·.key)=(l.map (·.key)).filter f:=by rw[QK];rfl
def Over.next(C:sH P k enc ok)(h:Over w b r enc ok bp left)ty:
 (left=[]/\(Instr.next (ay (ab ⟨r,0,af⟩)) ao ty).run P w=bf (bn #[ai ao]) w)\/
 ∃x v w',x∈left/\ej bp x=ab v/\(Instr.next (ay (ab ⟨r,0,af⟩)) ao ty).run P w=bf (bn #[ai az,enc x,v]) w'/\
  Over w' b r enc ok bp (left.filter (λy=>!decide (y=x)))/\av (λi=>i=r) w w'/\w'.heap.size=w.heap.size/\(ah1 (ay (ab ⟨r,0,af⟩))).run P w'=bf (bn #[enc x,v]) w':=by
 classical
 obtain⟨l,G,E,es,a,since,seen,b0,hb,hr,hold,hsc,hsk,d⟩:=h;have hne:r≠b:=aH;have A:=l;obtain⟨u,t,hb',I,hz,B,L⟩:=A;rw[hb]at hb';obtain⟨rfl,rfl⟩:es=u/\a=t:=aH;rcases run_next_at (P:=P) w ty r b since b0 seen es a hr hb hold hsc with⟨K,hrun⟩|⟨e,m,w1,c,hrun⟩;·refine b1 ⟨?_,hrun⟩;have h1:(BS es seen).toList=[]:=aH;rw[h1]at d;simpa using d.symm
 .obtain⟨n,hes⟩:=mem_left m;have F:e.key∈left.map enc:=d▸gP.2 ⟨e,m,aa⟩;obtain⟨x,hx,j⟩:=gP.1 F;have H:(e.key,e.val)∈bp.map (λp=>(enc p.1,p.2)):=B▸gP.2 ⟨e,n,aa⟩;obtain⟨p,M,o⟩:=gP.1 H;simp only[Prod.mk.injEq]at o;have N:p.1=x:=C.inj (o.1.trans j.symm);have D:ej bp x=ab e.val:=xw l.nodup aH;have hr1:w1.heap[r]?=ab (Kw (ab b) since seen b0):=by rcases c with rfl|rfl<;>exact hr
  have hb1:w1.heap[b]?=ab (iU es a):=by rcases c with rfl|rfl<;>exact hb
  have g:=heap_set (o':=Kw (ab b) since (seen.push e.born) a) hr1;have hb2:(la w1 r (Kw (ab b) since (seen.push e.born) a)).heap[b]?=ab (iU es a):=(g.2 b (λbE=>hne bE.symm)).trans hb1
  have s:av (λi=>i=r) w (la w1 r (Kw (ab b) since (seen.push e.born) a)):=by rcases c with rfl|rfl<;>exact⟨aa,aa,aa,by simp[la],λi _ hi=>g.2 i hi⟩
  have hst:=(O2 es a).1 I;rw[<-j]at hrun;refine cm ⟨x,_,_,hx,D,hrun,⟨l.only s (λbE=>hne bE.symm),G.filter _,λy J=>E y (nB.1 J).1,es,_,_,_,_,hb2,g.1,hold,hsk,hsk,?_⟩,s,?_,?_⟩
  .have bE:(BS es (seen.push e.born)).toList=(BS es seen).toList.filter (λz=>!decide (z.key=e.key)):=by unfold BS;rw[ahB,ahB,List.filter_filter];refine Ek (λz hz=>?_);grind[entry_eq_of_key,born_inj]
   rw[bE,apT (f:=λkey=>!decide (key=e.key)),d,QK];refine congrArg (List.map enc) (Ek (λy _=>?_));simp only[Kn,<-j];by_cases q:y=x;·grind
   .have:¬enc y=enc x:=λh=>q (C.inj h);simp[q,this]
  .rcases c with rfl|rfl<;>simp[la]
  .rw[j];exact run_entry_at _ r b _ _ es _ e g.1 hb2 n hst.2.1
theorem Z5{e f:Type}{p}{g:e->f}{x y}:∀{l:List e} {j},l[j]?=ab x->p y=p x->g y=g x->((l.set j y).filter p).map g=(l.filter p).map g
 |[],_,h,_,_=>by rfl
 |a::l,0,h,c,b=>by grind
 |a::l,j+1,h,c,b=>by
  have d:=Z5 (l:=l) (j:=j) (by simpa using h) c b;rw[List.set_cons_succ,Hd,Hd];split;·rw[j5,j5,d]
  .exact d
def Over.put{t e}(C:sH P k enc ok)(J:P.underlying t=ab (wL k e))(h:Over w b r enc ok bp left){x}(hx:ok x)(F:∃v,ej bp x=ab v)v:
 ∃w',(DU t (dL (ab b)) (enc x) v).run P w=bf () w'/\Over w' b r enc ok (kb bp x v) left/\av (λi=>i=b) w w'/\w'.heap.size=w.heap.size:=by
 obtain⟨c,H,hall,es,f,since,seen,b0,hb,hr,hold,hsc,hsk,O⟩:=h;have hne:r≠b:=aH;obtain⟨Q,hlx⟩:=C.reads hx;have u:∀p∈bp,ok p.1:=by obtain⟨_,_,_,_,_,_,u⟩:=c;exact u
 have hzz:es.size<=maxLen:=by obtain⟨m,g,hb',_,hz,_⟩:=c;grind
 obtain⟨m,g,hb',I,hsz,B,D⟩:=c.find C hx;rw[hb]at hb';obtain⟨rfl,rfl⟩:es=m/\f=g:=aH;obtain⟨R,hv0⟩:=F;rcases D with⟨h1,n,o⟩|⟨j,dE,h1,n,o,M,A⟩;·grind
 .have hh:so bp x=true:=by grind[IY]
  have G:∀a,es[j]?=ab a->({a with key:=enc x,val:=v}:O1).key=a.key:=λa q=>by grind
  have N:es.toList[j]?=ab dE:=aH;have K:(es.modify j (λa=>{a with key:=enc x,val:=v})).toList=es.toList.set j {dE with key:=enc x,val:=v}:=by grind[ahX]
  refine⟨la w b (iU (es.modify j (λa=>{a with key:=enc x,val:=v})) f),?_,⟨⟨_,_,DS hb _,stamped_modify I _ _ (λ_ _=>aa) (λa _ q=>G a q),aH,?_,?_⟩,H,λy L=>?_,
   _,_,since,seen,b0,DS hb _,(DR hb _ hne).trans hr,λy L=>?_,hsc,hsk,?_⟩,⟨aa,aa,aa,by simp[la],λi _ hi=>DR hb _ hi⟩,by simp[la]⟩;·simp[DU,gN J,zD hb,C.keyed.check w ao hlx,h1,n,o,C.keyed.stays w hlx,GA _ hb,la]
  .rw[K,List.map_set,B];unfold kb;rw[if_pos hh];apply List.ext_getElem?;intro i;rw[List.getElem?_set,j4,j4,j4];by_cases s:j=i;·grind
   .rw[if_neg s];cases hi:bp[i]? with
    |none=>rfl
    |some p=>
     have hne:p.1≠x:=λl=>by
      have li:=(eJ.1 hi);have d:=(eJ.1 A);rcases Nat.lt_or_gt_of_ne s with hlt|E;·have:=mr.1 c.nodup j i d.1 li.1 hlt;rw[d.2,li.2]at this;exact this l.symm
      .have:=mr.1 c.nodup i j li.1 d.1 E;rw[d.2,li.2]at this;exact this l
     simp[hne]
  .intro p z;rcases AY z with rfl|⟨z,_⟩;·omega
   .grind
  .grind[TB]
  .grind
  .grind[BS,Z5]
def Tw{b c:Type}(f:b->c):∀(l:List b) j,(l.eraseIdx j).map f=(l.map f).eraseIdx j
 |[],_=>aa
 |_::_,0=>aa
 |a::l,j+1=>by simp[Tw f l j]
def adW{x:fv}{v}:∀{bp j},bp.Pairwise (λp q=>p.1≠q.1)->bp[j]?=ab (x,v)->AW bp x=bp.eraseIdx j
 |[],_,_,h=>by rfl
 |p::r,0,a,h=>by obtain rfl:p=(x,v):=aH;obtain⟨h1,_⟩:=wY.1 a;unfold AW;grind[z']
 |p::r,j+1,a,h=>by
  obtain⟨h1,c⟩:=wY.1 a;have hr:r[j]?=ab (x,v):=by simpa using h
  have d:p.1≠x:=h1 _ (cX hr);have b:=adW c hr;unfold AW at b⊢;rw[Hd];simp[d,b]
theorem adX{x:fv}{bp}(h:ej bp x=af):AW bp x=bp:=
 z'.2 (λq a=>by grind[Np])
def _root_.Go.Proofs.YtcmhplknoglbkaaGreat.d'.drop{t e ty}(C:sH P k enc ok)(g:P.underlying t=ab (wL k e))(h:d' w b enc ok bp){x}(hx:ok x):
 ∃w',(Vs #[t,k] ty #[dL (ab b),enc x]).run P w=bf (bn #[]) w'/\d' w' b enc ok (AW bp x)/\w.grownBy w' (ab b)/\w'.heap.size=w.heap.size:=by
 obtain⟨D,hlx⟩:=C.reads hx;have u:=h.nodup;have c:∀p∈bp,ok p.1:=by obtain⟨_,_,_,_,_,_,c⟩:=h;exact c
 have hzz:∃es a,w.heap[b]?=ab (iU es a)/\es.size<=maxLen:=by obtain⟨A,z,hb',_,hz,_⟩:=h;exact⟨_,_,hb',hz⟩
 obtain⟨m,l,hb0,hz0⟩:=hzz;obtain⟨es,a,hb,f,hsz,q,r⟩:=h.find C hx;rw[hb]at hb0;obtain⟨rfl,rfl⟩:es=m/\a=l:=aH;rcases r with⟨h1,d,n⟩|⟨j,dE,h1,d,n,B,o⟩
 .refine⟨_,?_,⟨es,_,DS hb _,f,hz0,?_,?_⟩,⟨aa,aa,aa,by simp[la],λi _ hi=>DR hb _ (λe=>hi (by rw[e]))⟩,by simp[la]⟩;·simp[Vs,gN g,zD hb,C.keyed.check w _ hlx,h1,GA _ hb,la]
  .grind[adX]
  .grind[adX]
 .have s:j<es.size:=(tA.1 d).1
  have y:(es.eraseIdxIfInBounds j).toList=es.toList.eraseIdx j:=by unfold Array.eraseIdxIfInBounds;rw[dif_pos s];simp
  refine⟨_,?_,⟨_,_,DS hb _,stamped_erase f j,Nat.le_trans (MapFrom.size_erase es j) hz0,?_,?_⟩,⟨aa,aa,aa,by simp[la],λi _ hi=>DR hb _ (λe=>hi (by rw[e]))⟩,by simp[la]⟩;·simp[Vs,gN g,zD hb,C.keyed.check w _ hlx,h1,GA _ hb,la]
  .rw[y,Tw,q,adW u o,Tw]
  .intro p v;exact c p (nB.1 v).1
section
variable {ops:Array Oper} {rest:List Oper} {o:Oper} {a:Act} {Q:Exit->Act->aQ->Prop}
def agZ (c:o.guard=af) m (t e) (hop:o.op=Op.range t m) (f:P.underlying t=ab (wL k e)) (h:d' w b enc ok bp) (d:a.eval m=dL (ab b))
 (hK:∀w',Over w' b w.heap.size enc ok bp (bp.map (·.1))->au w w'->w'.heap.size=w.heap.size+1->cN P ops Q rest (a.put o.dst (ay (ab ⟨w.heap.size,0,af⟩))) w'):cN P ops Q (o::rest) a w:=by
 refine D2 c λl hK'=>?_;obtain⟨w',hrun,g,i,j⟩:=h.range f;unfold iy;simp[bA,hop,d,hrun];exact hK' _ _ (hK w' g i j)
def ag0 (e:o.guard=af) c (hop:o.op=Op.next c ao) (C:sH P k enc ok) (hit:a.eval c=ay (ab ⟨r,0,af⟩)) (h:Over w b r enc ok bp left)
 (aqo:left=[]->cN P ops Q rest (a.put o.dst (bn #[ai ao])) w)
 (aqA:∀x v w',x∈left->ej bp x=ab v->Over w' b r enc ok bp (left.filter (λy=>!decide (y=x)))->av (λi=>i=r) w w'->w'.heap.size=w.heap.size->
   (ah1 (ay (ab ⟨r,0,af⟩))).run P w'=bf (bn #[enc x,v]) w'->cN P ops Q rest (a.put o.dst (bn #[ai az,enc x,v])) w'):cN P ops Q (o::rest) a w:=by
 refine D2 e λl hK'=>?_;unfold iy;rcases h.next C o.type with⟨d,hrun⟩|⟨x,v,w',hx,hv,hrun,f,g,j,hen⟩;·simp[bA,hop,hit,hrun];exact hK' _ _ (aqo d)
 .simp[bA,hop,hit,hrun];exact hK' _ _ (aqA x v w' hx hv f g j hen)
def ayv {t e} (c:o.guard=af) (m x v) (hop:o.op=Op.mapUpdate t m x v)
 (C:sH P k enc ok) (ht:P.underlying t=ab (wL k e)) (h:Over w b r enc ok bp left) (hm:a.eval m=dL (ab b)) {y} (hy:ok y) (c0:∃v,ej bp y=ab v) (hx:a.eval x=enc y) val (hv:a.eval v=val)
 (hK:∀w',Over w' b r enc ok (kb bp y val) left->av (λi=>i=b) w w'->w'.heap.size=w.heap.size->cN P ops Q rest (a.put o.dst a7) w'):cN P ops Q (o::rest) a w:=by
 refine D2 c λj hK'=>?_;obtain⟨w',hrun,d,f,g⟩:=h.put C ht hy c0 val;unfold iy;simp[bA,hop,hm,hx,hv,hrun];exact hK' _ _ (hK w' d f g)
def ayu (c:o.guard=af) (m x) (t e) (hop:o.op=Op.call {callee:=Callee.builtin Builtin.delete,args:=#[m,x],argTypes:=#[t,k]})
 (C:sH P k enc ok) (ht:P.underlying t=ab (wL k e)) (h:d' w b enc ok bp) (hm:a.eval m=dL (ab b)) {y} (hy:ok y) (hx:a.eval x=enc y)
 (hK:∀w',d' w' b enc ok (AW bp y)->w.grownBy w' (ab b)->w'.heap.size=w.heap.size->cN P ops Q rest (a.put o.dst (bn #[])) w'):cN P ops Q (o::rest) a w:=by
 refine D2 c λi hK'=>?_;obtain⟨w',hrun,d,f,g⟩:=h.drop (ty:=o.type) C ht hy;unfold iy;simp[bA,hop,resolve,invoke,builtin,hm,hx,hrun,Result.andThen];exact hK' _ _ (hK w' d f g)
end
end
end G
end Go.Proofs.YtcmhplknoglbkaaGreat
