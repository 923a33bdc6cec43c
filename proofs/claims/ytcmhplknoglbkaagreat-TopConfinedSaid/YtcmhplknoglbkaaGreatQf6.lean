/- Part 6 of the proof of TopConfinedSaid. -/
import Derived.Test.YtcmhplknoglbkaaGreatProg
import Derived.DeepKeys4
import Derived.Maps.OwnOps
import Derived.BigQuiet
import Derived.Deep.QuietTactic
import Derived.StillTailTactics
import Derived.Deep.RegionHeld3
import Derived.Deep.AppendLies
import Derived.Deep.DeepCutAuto
import Derived.Shelf.Slices.Turned
import Derived.Shelf.Slices.SearchI
import Derived.Shelf.Slices.Clone
import Derived.Shelf.Slices.Cells
import Derived.Shelf.Slices.Empties
import Derived.Shelf.Slices.Empties2
import Derived.Ground.Names2Prog
import Derived.Ground.SlgfProg
import Derived.Shelf.SlicesE.DeleteFunc
import Derived.Shelf.Spec.SlicesInsert
import Derived.Shelf.Spec.SlicesInsertGrow
import Derived.Shelf.SlGeneric
import Derived.Shelf.SlIterI.Nil
import Derived.Shelf.SortM.Plain
import Derived.Shelf.SortM.SortNone
import Derived.Ground.GgzProg
import Derived.Ground.SlgmProg
import Derived.Ground.SlsfProg
import Derived.Shelf.SlSortCmp.WholeK
import Derived.Shelf.Small.Wraps
import Derived.RangeFuncNested
import Derived.RangeFuncBound
import Derived.RangeFuncCalls
import Derived.RangeFuncLeaves
import Derived.RangeFuncBox
import Derived.RangeFuncWrites
import Derived.Shelf.Abstract
import Derived.Shelf.RegionOpen
import Derived.OwnWalkIn
import Derived.TacticsInMore
import Derived.LoopNIn
import Derived.LoopIn
import Derived.Maps.AppendAt
import Derived.Sort.OwnSorted
import Derived.Lib.SlKeysI
import Derived.Maps.RangeWalk
import Derived.Test.YtcmhplknoglbkaaGreatQf0
import Derived.Test.YtcmhplknoglbkaaGreatQf1
import Derived.Test.YtcmhplknoglbkaaGreatQf3
import Derived.Test.YtcmhplknoglbkaaGreatQf4
set_option linter.all false
set_option maxRecDepth 100000
set_option maxHeartbeats 4000000
open Go.Proofs.Tryz
open Array renaming getElem?_append_left->Kp,getElem?_eq_some_iff->tI,replicate_succ->qI,replicate_zero->qJ,toList_filter->ahH
open Bool renaming false->ao,true->az
open Function renaming comp_def->Kz
open Go.Builtin renaming delete_->VK,zeroCells->ns
open Go renaming Calls->aC,CallsIn->rW,MapEntry->Pd,Value->aO,World->aP,callsIn_of_wp->D6,callsIn_wide->sY,cell_of_one->pY,cell_of_row->fH,execOp->bz,grownCap->ym,grownCap_ge->zZ,grownCap_le_maxLen->z1,heap_alloc_new->fO,info_parts->vh,intKeys->Xk,leftOf->BV,maxLen->eG,run_underlying->gO,step_append_lies->akk,undef->a1,wpList->cQ,wpList_plain->D9
open Go.ChangeMaps renaming heap_setBlock_other->DW,heap_setBlock_same->DX,modify_eq_set->ah1,setBlock->la
open Go.Ending renaming returned->aB
open Go.Fence renaming wide->mP
open Go.Fn renaming func->eu
open Go.Instr renaming entry->ah6,lookup->qN,mapUpdate->DZ
open Go.IntKind renaming i64->R
open Go.Lib renaming compareInt->zR
open Go.Lit renaming int->GF
open Go.MapKept renaming heap_alloc->VQ,run_getObj_map->zS,run_setObj_map->GH,stamped_iff->Pe
open Go.Maps renaming keyOf_int_mk->VR,size->KH
open Go.Obj renaming cells->bp,map->iT,mapIter->KI
open Go.Oper renaming wp->iy
open Go.Proofs.Any2 renaming slices_Insert_int_end_grow->aid
open Go.Proofs.AnyQ renaming slices_SortFunc->aif
open Go.Proofs.Lays renaming n107->azK,n122->azL
open Go.Proofs.Lays2 renaming n15->azO,n21->azP,n25->azQ
open Go.Proofs.SlLaysF0 renaming n6->aih
open Go.Proofs.SlLaysH renaming n10->azS
open Go.Proofs.SlLaysM renaming n5->azT
open Go.Proofs.SlLaysZI renaming n6->azU,n7->azV
open Go.Proofs.Tryz renaming func193->VZ,func194->Pk,func256->V6,func271->V7,func272->V8,func317->Wb,func318->Wc,isAgg0->wD,isAgg188->Wh,isAgg3->qO,isAgg311->KN,isAgg315->Pp,isAgg371->Wj,isAgg372->Wk,isAgg4->tN,isAgg42->Wl,isAgg420->Wm,isAgg423->Wn,isAgg448->Wo,isAgg80->Wp,isAgg82->BP,prog->ax,sizeOf0->wF,sizeOf188->WE,sizeOf3->qP,sizeOf311->KQ,sizeOf315->Pv,sizeOf371->WH,sizeOf372->WI,sizeOf4->tO,sizeOf42->WJ,sizeOf420->WK,sizeOf423->WL,sizeOf448->WM,sizeOf5->KR,sizeOf80->WN,sizeOf82->BR,sizeOf9->GL,underlying0->wG,underlying188->WO,underlying3->jH,underlying302->Px,underlying303->BS,underlying311->KS,underlying315->Py,underlying371->WS,underlying372->WT,underlying4->tP,underlying42->Pz,underlying420->WV,underlying423->WW,underlying448->WY,underlying5->mr,underlying80->W0,underlying82->jo,underlying9->D3,zeroValue0->wH,zeroValue188->W1,zeroValue3->qQ,zeroValue311->KT,zeroValue315->PB,zeroValue371->W3,zeroValue372->W4,zeroValue4->tQ,zeroValue42->W5,zeroValue420->W6,zeroValue423->W7,zeroValue448->W8,zeroValue5->KU,zeroValue80->W9,zeroValue82->BT,zeroValue9->GN
open Go.Proofs renaming enters_of->lG,ltOf->GO
open Go.Result renaming ok->bf
open Go.RowKit renaming Below->vc,Hid->aE,intOf->bR
open Go.RowKit.Below renaming refl->PF
open Go.Sort renaming HoldsK->PH,ahead->KW,alloc_eq_grow->PI,grow->GP
open Go.TypeDesc renaming map->wJ
open Go.Value renaming agg->ar,bool->ai,cells->PJ,func->dS,int->J,map->dP,oneCell'->zV,ownBlock->yk,pointer->ay,slice->ae,tuple->bo
open Go.WideElems renaming rd->akd
open Go.World renaming block_lt_of_cell?->vf,frozen?->wK,news_of_block->akh,ownsRow_nil->BU,shape?->Xh,size_alloc->zX
open List renaming append_toArray->q1,cons_append->p4,eq_nil_of_length_eq_zero->j8,ext_getElem->Yq,filter_congr->Ev,filter_cons->Hm,filter_eq_self->Aj,filter_map->QZ,getElem?_drop->vv,getElem?_eq_getElem->cF,getElem?_eq_some_iff->eM,getElem?_map->jU,getElem?_take->q2,length->q3,length_cons->jV,length_drop->s9,length_map->hM,length_nil->mT,map_cons->kj,map_map->Ez,mem_append->iX,mem_append_left->Cg,mem_filter->nz,mem_map->gQ,mem_of_getElem?->cW,nil_append->l0,nodup_append->yI,pairwise_cons->wX,pairwise_iff_getElem->mv,push_toArray->q4,range->dU,size_toArray->iY,take_length->ll
open Nat renaming eq_zero_or_pos->l1,le_refl->b7,zero_add->js,zero_le->cB
open Option renaming none->af,some->ab
open Or renaming inl->bZ,inr->cc
namespace Go.Proofs.YtcmhplknoglbkaaGreat
namespace G
open Go.RowKit Go.MapKept Go.WideMaps
open Go.Maps (Keyed)
def encI(x:Int):Value:=J R x
def cN(x:Int):Prop:=-9223372036854775808<=x/\x<=9223372036854775807
def vJ(e:Int×Int):Value:=ar #[J R e.1,J R e.2]
def rB(e:Int×Int):Prop:=cN e.1/\cN e.2
def Ow{x}(h:cN x):(GF R x).wf=true:=WalkArith.wf_i64 h
def pC:sT ax 3 encI cN:=
 ⟨Maps.int_keyed jH,λh=>⟨_,VR jH (Ow h)⟩,λh=>by grind[encI]⟩
def laidOut:laidOutB ax=true:=aw
def aph:(192:TypeId)<ax.types.size:=of_decide_eq_true aw
def apb:ax.keyTypeAt 2 192=true:=aw
def ape:KeyLaw ax 192:=by refine deep_law_laid laidOut (m:=2) ad aph apb ?_;kernel_rfl
def api:ax.keyType 192=true:=aw
def apc:ax.cellsOf 192=2:=aw
def asu:ax.cellsOf 3=1:=aw
def axX:∃m,ax.types.size=m+1:=by have h:(decide (0<ax.types.size))=true:=aw;have a:0<ax.types.size:=of_decide_eq_true h;exact⟨ax.types.size -1,ad⟩
def apf{e}(h:rB e)n:ax.keyLits (n+1+1) 192 (vJ e).cells.toList=ab [GF R e.1,GF R e.2]:=by have h1:=Ow h.1;have a:=Ow h.2;simp[Program.keyLits,apc,asu,vJ,PJ,h1,a]
def apd e:(vJ e).formed ax 192=true:=ba
def apg{e}(h:rB e):∃l,keyOf ax 192 (vJ e)=ab l:=by obtain⟨m,b⟩:=axX;have a:=apf h m;unfold keyOf;rw[b,a,underlying192];simp only[api,apd,Bool.and_self,if_true,Option.map_some];exact⟨_,aa⟩
def Nj:sT ax 192 vJ rB:=
 ⟨Keyed.of_law ape,apg,λ{x y} h=>by grind[vJ]⟩
open Go.RowKit Go.MapKept
def succ(E:List (Int×Int))(u:Int):List Int:=(E.filter (λe=>decide (e.1=u))).map (·.2)
def pred(E:List (Int×Int))(v:Int):List Int:=(E.filter (λe=>decide (e.2=v))).map (·.1)
def axE E e u:succ (E++[e]) u=if u=e.1 then succ E u++[e.2]else succ E u:=by grind[succ]
def avf E e v:pred (E++[e]) v=if v=e.2 then pred E v++[e.1]else pred E v:=by grind[pred]
theorem JE E u:(succ E u).length<=E.length:=by grind[succ]
theorem Uk E u:(pred E u).length<=E.length:=by grind[pred]
def yL(w:aP)(a:List (Int×aO))(f:Int->List Int):Prop:=
 ∀u,(∀v,en a u=ab v->w.ownsRow 0 3 1 v (f u).length ((f u).map (J R)))/\(en a u=af->f u=[])
def tb(p q:Int×aO):Prop:=∀g,p.2.ownBlock=ab g->q.2.ownBlock≠ab g
def tb.symm{p q}(h:tb p q):tb q p:=λg b a=>h g a b
structure kL (w:aP) (F:Nat->Prop) (b:Nat) (n:Int) (oB mO mN:List (Int×Int)) (fT mo fN:Nat) (e2 eW:List (Int×aO)):Prop where
 blk:w.heap[b]?=ab (bp #[J R n,dP (ab fT),dP (ab mo),dP (ab fN)] 305 (0,0))
 mZ:ee w fT vJ rB (oB.map (λe=>(e,ai az)))
 out:ee w mo encI cN e2
 ng:ee w fN encI cN eW
 qB:yL w e2 (succ mO)
 qz:yL w eW (pred mN)
 NK:∀p∈e2,∀q∈e2,p.1≠q.1->tb p q
 NJ:∀p∈eW,∀q∈eW,p.1≠q.1->tb p q
 Dt:∀p∈e2,∀q∈eW,tb p q
 Gz:F b
 DS:F fT
 DU:F mo
 DT:F fN
 yb:∀p∈e2,∀g,p.2.ownBlock=ab g->F g
 ya:∀p∈eW,∀g,p.2.ownBlock=ab g->F g
 TV:fT≠mo
 TU:fT≠fN
 TZ:mo≠fN
 lo:e2.length<=mO.length
 li:eW.length<=mN.length
 n0:0<=n
 mH:n<=1048576
def hL(w:aP)(F:Nat->Prop)(b:Nat)(n:Int)(E:List (Int×Int)):Prop:=
 (∃fT mo fN e2 eW,kL w F b n E E E fT mo fN e2 eW)/\E.Nodup/\∀e∈E,(0<=e.1/\e.1<n)/\(0<=e.2/\e.2<n)/\e.1≠e.2
section
variable {w w':aP} {F G:Nat->Prop} {b:Nat} {n:Int} {E oB mO mN:List (Int×Int)} {fT mo fN:Nat} {e2 eW:List (Int×aO)}
theorem pG{base e:Nat}{v m xs}(h:w.ownsRow base e 1 v m xs)(k:av G w w')(hn:∀g,v.ownBlock=ab g->¬G g):w'.ownsRow base e 1 v m xs:=by
 refine⟨h.1,?_⟩;rcases h.2 with h2|⟨g,cap,cur,rfl,hb,hh,r⟩;·grind
 .exact cc ⟨g,_,_,aa,hb,k.heap hh (hn g aa),r⟩
def yL.only{a f}(h:yL w a f)(k:av G w w')(hn:∀p∈a,∀g,p.2.ownBlock=ab g->¬G g):yL w' a f:=λu=>
 ⟨λv hv=>pG ((h u).1 v hv) k (hn _ (sw hv)),(h u).2⟩
def kL.only(h:kL w F b n oB mO mN fT mo fN e2 eW)(k:av G w w')(hn:∀i,F i->¬G i):kL w' F b n oB mO mN fT mo fN e2 eW:=
 {h with
  blk:=k.heap h.blk (hn _ h.Gz)
  mZ:=h.mZ.only k (hn _ h.DS)
  out:=h.out.only k (hn _ h.DU)
  ng:=h.ng.only k (hn _ h.DT)
  qB:=h.qB.only k (λp c g a=>hn _ (h.yb p c g a))
  qz:=h.qz.only k (λp c g a=>hn _ (h.ya p c g a))}
def kL.Gb(h:kL w F b n oB mO mN fT mo fN e2 eW):(∀p∈e2,∀g,p.2.ownBlock=ab g->g<w.heap.size)/\(∀p∈eW,∀g,p.2.ownBlock=ab g->g<w.heap.size):=
 ⟨λp c g a=>(((h.qB p.1).1 p.2 (xC h.out.nodup c)).lt g a).2,λp c g a=>(((h.qz p.1).1 p.2 (xC h.ng.nodup c)).lt g a).2⟩
theorem kL.mono(h:kL w F b n oB mO mN fT mo fN e2 eW)(a:∀i,i<w.heap.size->F i->G i):kL w G b n oB mO mN fT mo fN e2 eW:=
 {h with
  Gz:=a _ (tI.1 h.blk).1 h.Gz
  DS:=a _ h.mZ.lt h.DS
  DU:=a _ h.out.lt h.DU
  DT:=a _ h.ng.lt h.DT
  yb:=λp d g c=>a _ (h.Gb.1 p d g c) (h.yb p d g c)
  ya:=λp d g c=>a _ (h.Gb.2 p d g c) (h.ya p d g c)}
def hL.only(h:hL w F b n E)(k:av G w w')(hn:∀i,F i->¬G i):hL w' F b n E:=by obtain⟨⟨fT,mo,fN,e2,eW,g⟩,r⟩:=h;exact⟨⟨fT,mo,fN,e2,eW,g.only k hn⟩,r⟩
def hL.aH(h:hL w F b n E)(k:au w w'):hL w' F b n E:=h.only k (λ_ _ a=>a)
theorem hL.mono(h:hL w F b n E)(a:∀i,i<w.heap.size->F i->G i):hL w G b n E:=by obtain⟨⟨fT,mo,fN,e2,eW,g⟩,r⟩:=h;exact⟨⟨fT,mo,fN,e2,eW,g.mono a⟩,r⟩
def N4{b f}(h:yL w b f){p:Int×aO}(d:en b p.1=ab p.2){g i es c}(a:p.2.ownBlock=ab g)(hi:w.heap[i]?=ab (iT es c)):g≠i:=by
 rintro rfl;rcases((h p.1).1 p.2 d).2 with⟨hv,_⟩|⟨e,cap,cur,hv,_,hh,_⟩;·rw[hv]at a;cases a
 grind[yk]
def _root_.Go.Proofs.YtcmhplknoglbkaaGreat.ee.uB{fx enc}{ok:fx->Prop}{a i}(h:ee w i enc ok a):∃es c,w.heap[i]?=ab (iT es c):=by obtain⟨es,c,hb,_⟩:=h;exact⟨es,c,hb⟩
def kL.Mf(h:kL w F b n oB mO mN fT mo fN e2 eW){e}(a:w.grownBy w' (ab fT))(j:ee w' fT vJ rB (kc (oB.map (λe=>(e,ai az))) e (ai az)))(l:e∉oB):
 kL w' F b n (oB++[e]) mO mN fT mo fN e2 eW:=by
 have k:av (λi=>i=fT) w w':=av.of_grownBy a (λi e=>aG);obtain⟨es,c,d⟩:=h.mZ.uB;have hh:sx (oB.map (λe=>(e,ai az))) e=false:=by grind[I8]
 rw[NA _ hh]at j
 exact{h with
  blk:=k.heap h.blk (by rintro rfl;rw[h.blk]at d;cases d)
  mZ:=aG
  out:=h.out.only k (λe=>h.TV e.symm)
  ng:=h.ng.only k (λe=>h.TU e.symm)
  qB:=h.qB.only k (λp f g a=>N4 h.qB (xC h.out.nodup f) a d)
  qz:=h.qz.only k (λp f g a=>N4 h.qz (xC h.ng.nodup f) a d)}
def kL.Jg(h:kL w F b n oB mO mN fT mo fN e2 eW)u:w.ownsRow 0 3 1 ((en e2 u).getD (ae af 0 0)) (succ mO u).length ((succ mO u).map (J R)):=by
 cases hm:en e2 u with
 |none=>rw[(h.qB u).2 hm];exact BU _ _ _ _
 |some v=>exact(h.qB u).1 v hm
def kL.Tv(h:kL w F b n oB mO mN fT mo fN e2 eW)u:w.ownsRow 0 3 1 ((en eW u).getD (ae af 0 0)) (pred mN u).length ((pred mN u).map (J R)):=by
 cases hm:en eW u with
 |none=>rw[(h.qz u).2 hm];exact BU _ _ _ _
 |some v=>exact(h.qz u).1 v hm
def F2{base e:Nat}{v m xs}(h:w.ownsRow base e 1 v m xs){g t cs fr}(b:w.heap[g]?=ab (bp cs t fr))(hne:e≠t):v.ownBlock≠ab g:=by
 rcases h.2 with⟨rfl,_⟩|⟨a,cap,cur,rfl,_,hh,_⟩;·simp[yk]
 grind[yk]
theorem tw{base e:Nat}{v m xs}(h:w.ownsRow base e 1 v m xs){g es c}(b:w.heap[g]?=ab (iT es c)):v.ownBlock≠ab g:=by
 rcases h.2 with⟨rfl,_⟩|⟨a,cap,cur,rfl,_,hh,_⟩;·simp[yk]
 grind[yk]
def yL.put {a f e w1 u x v' mo es c} (h:yL w a f) (k:∀p∈a,∀q∈a,p.1≠q.1->tb p q)
 (eC:av (λi=>((en a u).getD (ae af 0 0)).ownBlock=ab i) w w1) (hrow:w1.ownsRow 0 3 1 v' ((f u).length+1) ((f u).map (J R)++[J R x]))
 (tp:w.heap[mo]?=ab (iT es c)) (fk:av (λi=>i=mo) w1 w') (hf:∀y,e y=if y=u then f y++[x]else f y):yL w' (kc a u v') e:=by
 have l:((en a u).getD (ae af 0 0)).ownBlock≠ab mo:=by
  cases hm:en a u with
  |none=>simp[yk]
  |some v=>exact tw ((h u).1 v hm) tp
 have m:w1.heap[mo]?=ab (iT es c):=eC.heap tp l;intro y;rw[TQ,hf];by_cases d:y=u;·grind[pG,tw]
 .rw[if_neg d,if_neg d];refine⟨λv hv=>?_,(h y).2⟩;have hold:=(h y).1 v hv
  have n:w1.ownsRow 0 3 1 v (f y).length ((f y).map (J R)):=by
   refine pG hold eC (λg j b=>?_);cases hm:en a u with
   |none=>rw[hm]at b;cases b
   |some o=>
    rw[hm]at b;exact k _ (sw hv) _ (sw hm) d g j b
  grind[pG,tw]
def aeD {a u v' B} (j:∀p∈a,∀q∈a,p.1≠q.1->tb p q) (hlt:∀p∈a,∀g,p.2.ownBlock=ab g->g<B)
 (hloc:v'.ownBlock=((en a u).getD (ae af 0 0)).ownBlock\/∃g,v'.ownBlock=ab g/\B<=g):(∀p∈kc a u v',∀q∈kc a u v',p.1≠q.1->tb p q)/\
  ∀q:Int×aO,(∀g,q.2.ownBlock=ab g->g<B)->(∀p∈a,tb p q)->∀p∈kc a u v',tb p q:=by
 have key:∀q:Int×aO,(∀g,q.2.ownBlock=ab g->g<B)->(∀b,en a u=ab b->tb (u,b) q)->tb (u,v') q:=by
  intro q d h g i k;rcases hloc with h1|⟨ir,h1,f⟩
  .cases hm:en a u with
   |none=>
    rw[hm]at h1;have f:v'.ownBlock=none:=h1;grind
   |some b=>
    rw[hm]at h1;have f:v'.ownBlock=b.ownBlock:=h1;exact h b hm g (f▸i) k
  grind
 constructor
 .intro p c q d hne;rcases A5 c with rfl|⟨c,arN⟩<;>rcases A5 d with rfl|⟨d,aBK⟩;·omega
  .grind[sw]
  .exact(key p (hlt p c) (λb h=>j _ (sw h) p c (λe=>arN e.symm))).symm
  .grind
 .intro q d l p c;grind[A5,sw]
def Ct{g i t:Nat}{cs fr es c}(h:w.heap[g]?=ab (bp cs t fr))(hi:w.heap[i]?=ab (iT es c)):g≠i:=aG
def kL.outs (h:kL w F b n oB mO mN fT mo fN e2 eW) {w1 u x v'}
 (eC:av (λi=>((en e2 u).getD (ae af 0 0)).ownBlock=ab i) w w1) (hrow:w1.ownsRow 0 3 1 v' ((succ mO u).length+1) ((succ mO u).map (J R)++[J R x]))
 (hloc:v'.ownBlock=((en e2 u).getD (ae af 0 0)).ownBlock\/∃g,v'.ownBlock=ab g/\w.heap.size<=g) (fk:av (λi=>i=mo) w1 w')
 (hm:ee w' mo encI cN (kc e2 u v')) (hF:∀i,w.heap.size<=i->F i):kL w' F b n oB (mO++[(u,x)]) mN fT mo fN (kc e2 u v') eW:=by
 obtain⟨C,z,k⟩:=h.mZ.uB;obtain⟨E,B,d⟩:=h.out.uB;obtain⟨D,A,l⟩:=h.ng.uB;have hr:=h.Jg u;have r:=F2 hr h.blk aS;have ne:=tw hr k;have t:=tw hr d;have s:=tw hr l
 have hoi:∀p∈eW,∀g,p.2.ownBlock=ab g->((en e2 u).getD (ae af 0 0)).ownBlock≠ab g:=by
  intro p c g a hv;cases fK:en e2 u with
  |none=>rw[fK]at hv;cases hv
  |some v=>
   rw[fK]at hv;exact h.Dt _ (sw fK) p c g hv a
 have hop:=aeD h.NK h.Gb.1 hloc;have f:=h.qz.only eC (λp c g a=>hoi p c g a);have m:=eC.heap d t
 exact{h with
  blk:=fk.heap (eC.heap h.blk r) (Ct h.blk d)
  mZ:=(h.mZ.only eC ne).only fk h.TV
  out:=hm
  ng:=(h.ng.only eC s).only fk (λe=>h.TZ e.symm)
  qB:=h.qB.put h.NK eC hrow d fk (λy=>axE mO _ y)
  qz:=f.only fk (λp c g a=>N4 f (xC h.ng.nodup c) a m)
  lo:=by have:=aej e2 u v';have:=h.lo;simp;omega
  NK:=hop.1
  Dt:=λp c q j=>hop.2 q (h.Gb.2 q j) (λp' o=>h.Dt p' o q j) p c
  yb:=λp c g a=>by
   rcases A5 c with rfl|⟨c,_⟩
   .rcases hloc with h1|⟨ir,h1,h2⟩
    .replace a:v'.ownBlock=ab g:=a;rw[h1]at a;cases fK:en e2 u with
     |none=>rw[fK]at a;cases a
     |some v=>rw[fK]at a;exact h.yb _ (sw fK) g a
    grind
   .exact h.yb p c g a}
def kL.ins (h:kL w F b n oB mO mN fT mo fN e2 eW) {w1 u x v'}
 (eC:av (λi=>((en eW x).getD (ae af 0 0)).ownBlock=ab i) w w1) (hrow:w1.ownsRow 0 3 1 v' ((pred mN x).length+1) ((pred mN x).map (J R)++[J R u]))
 (hloc:v'.ownBlock=((en eW x).getD (ae af 0 0)).ownBlock\/∃g,v'.ownBlock=ab g/\w.heap.size<=g) (fk:av (λi=>i=fN) w1 w')
 (hm:ee w' fN encI cN (kc eW x v')) (hF:∀i,w.heap.size<=i->F i):kL w' F b n oB mO (mN++[(u,x)]) fT mo fN e2 (kc eW x v'):=by
 obtain⟨B,v,f⟩:=h.mZ.uB;obtain⟨D,A,k⟩:=h.out.uB;obtain⟨C,z,d⟩:=h.ng.uB;have hr:=h.Tv x;have m:=F2 hr h.blk aS;have ne:=tw hr f;have r:=tw hr k;have o:=tw hr d
 have hoi:∀p∈e2,∀g,p.2.ownBlock=ab g->((en eW x).getD (ae af 0 0)).ownBlock≠ab g:=by
  intro p c g a hv;cases fK:en eW x with
  |none=>rw[fK]at hv;cases hv
  |some t=>
   rw[fK]at hv;exact h.Dt p c _ (sw fK) g a hv
 have hop:=aeD h.NJ h.Gb.2 hloc;have e:=h.qB.only eC (λp c g a=>hoi p c g a);have j:=eC.heap d o
 exact{h with
  blk:=fk.heap (eC.heap h.blk m) (Ct h.blk d)
  mZ:=(h.mZ.only eC ne).only fk h.TU
  ng:=hm
  out:=(h.out.only eC r).only fk h.TZ
  qz:=h.qz.put h.NJ eC hrow d fk (λy=>avf mN _ y)
  qB:=e.only fk (λp c g a=>N4 e (xC h.out.nodup c) a j)
  li:=by have:=aej eW x v';have:=h.li;simp;omega
  NJ:=hop.1
  Dt:=λp c q l=>(hop.2 p (h.Gb.1 p c) (λs hq'=>(h.Dt p c s hq').symm) q l).symm
  ya:=λp c g a=>by
   rcases A5 c with rfl|⟨c,_⟩
   .rcases hloc with h1|⟨ir,h1,h2⟩
    .replace a:v'.ownBlock=ab g:=a;rw[h1]at a;cases fK:en eW x with
     |none=>rw[fK]at a;cases a
     |some t=>rw[fK]at a;exact h.ya _ (sw fK) g a
    grind
   .exact h.ya p c g a}
def hL.new{n}(c:0<=n)(h1:n<=1048576)(w:aP):
 hL ((((w.alloc (iT #[] 0)).alloc (iT #[] 0)).alloc (iT #[] 0)).alloc (bp #[J R n,dP (ab w.heap.size),dP (ab (w.heap.size+1)),dP (ab (w.heap.size+2))] 305))
  (λk=>w.heap.size<=k/\k<w.heap.size+4) (w.heap.size+3) n []:=by
 have a0:=ee.made w vJ rB;have a:=ee.made (w.alloc (iT #[] 0)) encI cN;have b:=ee.made ((w.alloc (iT #[] 0)).alloc (iT #[] 0)) encI cN;simp only[zX]at a b;refine⟨⟨w.heap.size,w.heap.size+1,w.heap.size+2,[],[],?_⟩,bc,bc⟩
 exact{
  blk:=by have:=fO (((w.alloc (iT #[] 0)).alloc (iT #[] 0)).alloc (iT #[] 0)) (bp #[J R n,dP (ab w.heap.size),dP (ab (w.heap.size+1)),dP (ab (w.heap.size+2))] 305);simpa using this
  mZ:=((a0.only (av.alloc (F:=λ_=>False) _ _) (λh=>h)).only (av.alloc (F:=λ_=>False) _ _) (λh=>h)).only (av.alloc (F:=λ_=>False) _ _) (λh=>h)
  out:=(a.only (av.alloc (F:=λ_=>False) _ _) (λh=>h)).only (av.alloc (F:=λ_=>False) _ _) (λh=>h)
  ng:=b.only (av.alloc (F:=λ_=>False) _ _) (λh=>h)
  qB:=λu=>⟨λv hv=>by grind[en],λ_=>aa⟩
  qz:=λu=>⟨λv hv=>by grind[en],λ_=>aa⟩
  NK:=bc
  NJ:=bc
  Dt:=bc
  Gz:=ad
  DS:=ad
  DU:=ad
  DT:=ad
  yb:=bc
  ya:=bc
  TV:=ad
  TU:=ad
  TZ:=ad
  lo:=bc
  li:=bc
  n0:=c
  mH:=h1}
end
open Go.RowKit Go.MapKept
def Vi w:(zeroValue 4).run ax w=bf (ai ao) w:=aw
def Gq w:(zeroValue 82).run ax w=bf (ae af 0 0) w:=aw
set_option maxHeartbeats 400000 in
def aeo n w(d:0<=n)(h1:n<=1048576):
 aC ax 179 #[J R n] w λe w'=>∃b,e=aB (ay (ab ⟨b,0,af⟩))/\hL w' (λk=>w.heap.size<=k/\k<w'.heap.size) b n []/\au w w':=by
 have f:decide (n<0)=false:=aG;have g:decide (1048576<n)=false:=aG;have h:=@run_makeMap ax;have c:=hid (hL.new d h1 w);go_enter func179,ntmps179;go_wp2;go_ret;refine⟨_,aa,c.out.mono (λi _ hi=>⟨hi.1,ad⟩),?_⟩;exact(((av.alloc w _).trans (av.alloc _ _) (λ_ _ a=>a)).trans (av.alloc _ _) (λ_ _ a=>a)).trans (av.alloc _ _) (λ_ _ a=>a)
set_option maxHeartbeats 400000 in
def xA b n w(hc:w.cell? ⟨b,0,af⟩=ab (J R n)):aC ax 303 #[ay (ab ⟨b,0,af⟩)] w λe w'=>e=aB (J R n)/\w=w':=by go_enter func303,ntmps303;go_wp2;go_ret;exact⟨aa,aa⟩
def qt(n v:Int):Bool:=decide (0<=v/\v<n)
set_option maxHeartbeats 400000 in
def zN b(n v)w(hc:w.cell? ⟨b,0,af⟩=ab (J R n)):aC ax 253 #[ay (ab ⟨b,0,af⟩),J R v] w λe w'=>e=aB (ai (qt n v))/\w=w':=by
 by_cases c:0<=v
 .have h1:decide (0<=v)=true:=aG;have hr:qt n v=decide (v<n):=by grind[qt]
  have a:=hid hr;clear hr;go_enter Tryz.func253,Tryz.ntmps253;go_wp2_with (go_at_call 303;refine(xA _ _ _ hc).mono ?_;rintro e w' ⟨rfl,rfl⟩);go_ret;exact⟨by rw[a.out];rfl,aa⟩
 .have h1:decide (0<=v)=false:=aG;have hr:qt n v=false:=by grind[qt]
  have a:=hid hr;clear hr;go_enter Tryz.func253,Tryz.ntmps253;go_wp2;go_ret;exact⟨by rw[a.out];rfl,aa⟩
open Go.RowKit Go.MapKept
def canAdd(n:Int)(E:List (Int×Int))(e:Int×Int):Bool:=qt n e.1&&qt n e.2&&decide (e.1≠e.2)&&!decide (e∈E)
def qa(n:Int)(E:List (Int×Int))(e:Int×Int):List (Int×Int):=if canAdd n E e then E++[e]else E
def jB(n:Int)(E l:List (Int×Int)):List (Int×Int):=l.foldl (qa n) E
def FD:(ax.info? 3).map (λi=>(i.zero,i.size,i.bytes))=ab (ab (J R 0),1,8):=aw
def amr n(E l:List (Int×Int)){k e}(h:l[k]?=ab e):jB n E (l.take (k+1))=qa n (jB n E (l.take k)) e:=by grind[jB,List.take_add_one]
def amq n(E l):E.length<=(jB n E l).length/\(jB n E l).length<=E.length+l.length:=by
 unfold jB;induction l generalizing E with
 |nil=>simp
 |cons e r a=>grind[qa]
set_option maxHeartbeats 400000 in
def YO b n E F A c l w(fE:hL w F b n E)(hl:kS w A l)(kp:∀e∈l,rB e)(fp:E.length+l.length<=1099511627776)(bB:∀blk off,A=ab ⟨blk,off,af⟩->¬F blk):
 aC ax 182 #[ay (ab ⟨b,0,af⟩),ae A l.length c] w λe w'=>e=aB (J R ((jB n E l).length -E.length:Nat))/\
  hL w' (λk=>F k\/(w.heap.size<=k/\k<w'.heap.size)) b n (jB n E l)/\av F w w':=by
 go_enter func182,ntmps182;go_wp2
 go_loopw [5,10] (λs i wr=>∃k:Nat,k<=l.length/\i=J R k/\s=J R ((jB n E (l.take k)).length -E.length:Nat)/\
  hL wr (λk=>F k\/w.heap.size<=k) b n (jB n E (l.take k))/\av F w wr) (λ_ i _=>l.length -(bR i).toNat);case atStart=>exact⟨0,cB _,aa,by simp[jB],by simpa [jB]using fE.mono (λi _ h=>bZ h),av.refl _ _⟩
 case round=>
  obtain⟨k,hk,rfl,rfl,E2,hO⟩:=hrel;by_cases hlt:k<l.length
  .have acp:=hl.only hO bB;obtain⟨hC,off,rfl,hcell⟩:=acp ad;obtain⟨h1,h2⟩:=hcell k hlt;obtain⟨⟨u,x⟩,pB⟩:∃p,l[k]?=ab p:=⟨l[k],bc⟩;have c0:rB (u,x):=kp _ (cW pB);have hst:=amr n E l pB;have hle:=amq n E (l.take k);have uK:(l.take k).length=k:=aG;simp only[pB,Option.getD_some]at h1 h2;clear hcell hl kp acp;have ei:=hid hst;have als:=hid pB;clear hst pB;rw[uK]at hle;clear uK;generalize jB n E (l.take k)=jR at*;have hb0:(k:Int)<(l.length:Int):=ad;obtain⟨⟨fT,mo,fN,e2,eW,g⟩,eB,hval⟩:=E2;have acb:av (λ_=>False) wr (wr.alloc (bp #[J R u,J R x] 192)):=av.alloc _ _;have g1:=g.only acb (λ_ _ h=>h);have hblk:=fO wr (bp #[J R u,J R x] 192);have b0:(wr.alloc (bp #[J R u,J R x] 192)).cell? ⟨wr.heap.size,0,af⟩=ab (J R u):=fH _ _ 0 _ _ _ (fO wr _);have c1:(wr.alloc (bp #[J R u,J R x] 192)).cell? ⟨wr.heap.size,1,af⟩=ab (J R x):=fH _ _ 1 _ _ _ (fO wr _);have k1:wr.heap.size<(wr.alloc (bp #[J R u,J R x] 192)).heap.size:=bc;go_wp2_with fail;generalize kn:wr.heap.size=B at*;generalize df:wr.alloc (bp #[J R u,J R x] 192)=W at*;clear df kn h1 h2;have nh:=fH _ _ 0 _ _ _ g1.blk;have eC:=fH _ _ 1 _ _ _ g1.blk;have fk:=fH _ _ 2 _ _ _ g1.blk;have kr:=fH _ _ 3 _ _ _ g1.blk;simp at nh eC fk kr
   have g':aE (∀nq,hL (W.drewN nq) (λk=>F k\/w.heap.size<=k) b n jR/\av F w (W.drewN nq)):=
    hid λnq=>⟨⟨⟨fT,mo,fN,e2,eW,g1.only (av.drewN (F:=λ_=>False) W nq) (λ_ _ h=>h)⟩,eB,hval⟩,(hO.trans acb (λ_ _ h=>h.elim)).trans (av.drewN (F:=F) W nq) (λ_ _ h=>h)⟩;by_cases oj:canAdd n jR (u,x)=az
   .have abm:=oj;simp only[canAdd,Bool.and_eq_true,Bool.not_eq_true',decide_eq_true_eq,decide_eq_false_iff_not]at abm;obtain⟨⟨⟨qs,hv2⟩,pB⟩,xp⟩:=abm;have hq:(u==x)=false:=by simpa using pB
    have hlk:∀nq,(qN 302 (dP (ab fT)) (ar #[J R u,J R x]) ao).run ax (W.drewN nq)=bf (ai ao) (W.drewN nq):=λnq=>by have h:=((g1.mZ.only (av.drewN (F:=λ_=>False) W nq) (λh=>h)).lookup Nj Px Vi c0).1;rw[Nz.2 (λp hp e=>by obtain⟨kl,CS,rfl⟩:=gQ.1 hp;exact xp (e▸CS))]at h;exact h
    have Xr:aE (qa n jR (u,x)=jR++[(u,x)]):=hid (by unfold qa;rw[if_pos oj])
    have X2:aE ((jR++[(u,x)]).Nodup/\∀e∈jR++[(u,x)],(0<=e.1/\e.1<n)/\(0<=e.2/\e.2<n)/\e.1≠e.2):=hid (by
     refine⟨yI.2 ⟨eB,bc,λa ha c hc e=>?_⟩,λe he=>?_⟩;·simp at hc;exact xp (hc▸e▸ha)
     .rcases iX.1 he with he|he;·exact hval e he
      .simp only[List.mem_singleton]at he;subst he;exact⟨by simpa [qt]using qs,by simpa [qt]using hv2,pB⟩);have Ac:=hid xp;have als:=hid pB;clear pB xp oj;go_quiet ((go_at_call 253;(first|exact DC (zN _ _ _ _ nh)|exact F6 (zN _ _ _ _ nh))));clear hlk hq qs hv2;go_wp2_with fail;have E1:(W.drewN nq).heap[B]?=ab (bp #[J R u,J R x] 192 (0,0)):=hblk;have g2:kL (W.drewN nq) (λk=>F k\/w.heap.size<=k) b n jR jR jR fT mo fN e2 eW:=g1.only (av.drewN (F:=λ_=>False) W nq) (λ_ _ h=>h);have nI:av F w (W.drewN nq):=(g'.out nq).2;clear g' nh eC fk kr b0 c1 g1 hblk;generalize W.drewN nq=ih at*;have b0:=fH _ _ 0 _ _ _ E1;have c1:=fH _ _ 1 _ _ _ E1;have eC:=fH _ _ 1 _ _ _ g2.blk;simp at b0 c1 eC;go_still_tail 5,aw;change cQ _ _ _ _ _ ih.drew;refine JP aa _ _ _ aa Nj Px (g2.mZ.only (av.drew (F:=λ_=>False) ih) (λh=>h)) (by unfold eG;simp;omega) aa c0 aa (ai _) aa ?_;intro fh jX hg2 hs2;have g3:=(g2.only (av.drew (F:=λ_=>False) ih) (λ_ _ h=>h)).Mf hg2 jX Ac.out;obtain⟨aag,aAw,acv⟩:=g2.mZ.uB;obtain⟨aAF,aAx,arB⟩:=g2.out.uB;obtain⟨aAG,aAy,ary⟩:=g2.ng.uB;have px:av (λk=>F k\/w.heap.size<=k) ih.drew fh:=av.of_grownBy hg2 (λi e=>by cases e;exact bZ g2.DS);have rm:fh.heap[B]?=ab (bp #[J R u,J R x] 192 (0,0)):=(av.of_grownBy (F:=λi=>i=fT) hg2 (λi e=>by cases e;exact bZ aa)).heap (show ih.drew.heap[B]?=_ from E1) (Ct E1 acv);have Tl:w.heap.size<=ih.heap.size:=nI.size;have py:av F w fh:=nI.trans px.ax0 (λi hi h=>by rcases h with h|h;exact h;omega);have aAQ:aE (ih.heap[B]?=ab (bp #[J R u,J R x] 192 (0,0))):=hid E1;obtain⟨aAH,aAz,vW⟩:=g3.out.uB;clear jX hg2 px b0 c1 eC acv arB ary E1 nI hs2 Tl g2;have b0:=fH _ _ 0 _ _ _ rm;have c1:=fH _ _ 1 _ _ _ rm;have fk:=fH _ _ 2 _ _ _ g3.blk;simp at b0 c1 fk;go_wp2_with fail;go_frame;go_cut []from 46 to 62 (λDL=>∃QR,kL DL (λk=>F k\/w.heap.size<=k) b n (jR++[(u,x)]) (jR++[(u,x)]) jR fT mo fN QR eW/\av F w DL/\DL.heap[B]?=ab (bp #[J R u,J R x] 192 (0,0)))
    case first=>
     have hrow:=g3.Jg u;have arn:=JE jR u
     have C3:∀w',av (λi=>((en e2 u).getD (ae af 0 0)).ownBlock=ab i) fh w'->(qN 303 (dP (ab mo)) (J R u) ao).run ax w'=bf ((en e2 u).getD (ae af 0 0)) w':=λw' hw'=>
      ((g3.out.only hw' (λe=>tw hrow vW e)).lookup pC BS Gq c0.1).1;have gb:=F2 hrow g3.blk aS;have zr:=F2 hrow rm aS
     have yu:aE (∀i,((en e2 u).getD (ae af 0 0)).ownBlock=ab i->F i\/w.heap.size<=i):=hid λi hi=>by
      cases hm:en e2 u with
      |none=>rw[hm]at hi;cases hi
      |some v=>rw[hm]at hi;exact g3.yb _ (sw hm) i hi
     have Qf:=hid (λ(w' w1:aP) (v':aO)=>g3.outs (w':=w') (w1:=w1) (u:=u) (x:=x) (v':=v'));generalize eS:(en e2 u).getD (ae af 0 0)=eE at*;have pf:=hid eS;clear eS;have b0:=fH _ _ 0 _ _ _ rm;have c1:=fH _ _ 1 _ _ _ rm;have fk:=fH _ _ 2 _ _ _ g3.blk;simp at b0 c1 fk
     have I:aE (∀w',av (λi=>eE.ownBlock=ab i) fh w'->w'.cell? ⟨b,2,af⟩=ab (dP (ab mo))/\w'.cell? ⟨B,0,af⟩=ab (J R u)/\w'.cell? ⟨B,1,af⟩=ab (J R x)):=
      hid λw' hw'=>⟨hw'.cell fk gb,hw'.cell b0 zr,hw'.cell c1 zr⟩;have arq:=C3 fh.drew (av.drew _);have ars:=λo=>C3 (fh.alloc o).drew ((av.alloc _ _).trans (av.drew _) (λ_ _ h=>h));have cn:aE (∀w',av (λi=>eE.ownBlock=ab i) fh w'->ee w' mo encI cN e2):=hid λw' hw'=>g3.out.only hw' (λe=>tw hrow vW e);have art:=g3.lo;have vm:=hid (And.intro (Ct g3.blk vW) (Ct rm vW));have s0:=hid zr;clear C3 gb zr vW;obtain⟨i0,jc,hz0,hz1,hz2⟩:=vh FD
     go_region_held3 (λw'=>w'.cell? ⟨b,2,af⟩=ab (dP (ab mo))/\w'.cell? ⟨B,0,af⟩=ab (J R u)/\w'.cell? ⟨B,1,af⟩=ab (J R x))
      (first
        |exact I.out _ (av.drew _)
        |exact I.out _ ((av.alloc _ _).trans (av.drew _) (λ_ _ h=>h))
        |exact I.out _ (((av.alloc _ _).trans (av.drew _) (λ_ _ h=>h)).trans (av.of_grownBy hgrow (λi e=>bZ e)) (λ_ _ h=>h))
        |exact qX.out)
      (first
        |(refine akk _ ba _ _ _ ba 0 3 i0 _ 1 8 jo jc hz0 hz1 hz2 aa ad eE _ _ ba ((hrow.alloc _).drew)
           ⟨fh.heap.size,0,af⟩ 1 1 [J R x] ba ba (akh (cs:=#[J R x]) (t:=3) (fr:=(0,0)) (fO fh _)) (by simp[zV])
           ad (by unfold eG;omega) ad bc (fh.heap.size+1) bc ?_;intro vL cap w1 hown1 hgrow hat It;obtain⟨ij,IM,SV,hg3,hs3⟩:=(cn.out _ (((av.alloc _ _).trans (av.drew _) (λ_ _ h=>h)).trans (av.of_grownBy hgrow (λi e=>bZ e)) (λ_ _ h=>h))).update pC BS (by unfold eG;omega) c0.1 (ae (ab ⟨vL,0,af⟩) ((succ jR u).length+1) cap);replace IM:(DZ 303 (dP (ab mo)) (J R u) (ae (ab ⟨vL,0,af⟩) ((succ jR u).length+1) cap)).run ax w1=bf () ij:=IM
          have qX:aE (ij.cell? ⟨b,2,af⟩=ab (dP (ab mo))/\ij.cell? ⟨B,0,af⟩=ab (J R u)/\ij.cell? ⟨B,1,af⟩=ab (J R x)):=hid (by have hs1:=I.out _ (((av.alloc _ _).trans (av.drew _) (λ_ _ h=>h)).trans (av.of_grownBy hgrow (λi e=>bZ e)) (λ_ _ h=>h));have kr:av (λi=>i=mo) w1 ij:=av.of_grownBy hg3 (λi e=>by cases e;exact bZ aa);exact⟨kr.cell hs1.1 vm.out.1,kr.cell hs1.2.1 vm.out.2,kr.cell hs1.2.2 vm.out.2⟩)))
     all_goals
      go_wp2_with fail;go_meet;have cK:av (λi=>eE.ownBlock=ab i) fh w1:=((av.alloc _ _).trans (av.drew _) (λ_ _ h=>h)).trans (av.of_grownBy hgrow (λi e=>bZ e)) (λ_ _ h=>h);have iQ:av (λi=>i=mo) w1 ij:=av.of_grownBy hg3 (λi e=>by cases e;exact bZ aa);have Tl:w.heap.size<=fh.heap.size:=py.size
      have hloc:(ae (ab ⟨vL,0,af⟩) ((succ jR u).length+1) cap).ownBlock=eE.ownBlock\/∃g,(ae (ab ⟨vL,0,af⟩) ((succ jR u).length+1) cap).ownBlock=ab g/\fh.heap.size<=g:=by
       rcases hat with h|h;·exact bZ h.symm
       .exact cc ⟨vL,aa,ad⟩
      have eh:=Qf.out ij w1 _ cK hown1 hloc iQ SV (λi hi=>cc ad);refine⟨_,eh,(py.trans cK ?_).trans iQ ?_,iQ.heap (cK.heap rm s0.out) vm.out.2⟩
      .intro i hi h;have h2:=yu.out i h;rcases h2 with h2|h2;·exact h2
       .omega
      .intro i hi h;rcases(g3.DU:_)with h2|h2;·exact h▸h2
       .omega
    case rest=>
     obtain⟨QR,g4,py,rm⟩:=hcut;obtain⟨aAI,aAA,vW⟩:=g4.ng.uB;go_wp2_with fail;go_cut []from 63 to 79 (λDL=>∃Ym,kL DL (λk=>F k\/w.heap.size<=k) b n (jR++[(u,x)]) (jR++[(u,x)]) (jR++[(u,x)]) fT mo fN QR Ym/\av F w DL/\DL.heap[B]?=ab (bp #[J R u,J R x] 192 (0,0)))
     case first=>
      have hrow:=g4.Tv x;have arn:=Uk jR x
      have C3:∀w',av (λi=>((en eW x).getD (ae af 0 0)).ownBlock=ab i) wc w'->(qN 303 (dP (ab fN)) (J R x) ao).run ax w'=bf ((en eW x).getD (ae af 0 0)) w':=λw' hw'=>
       ((g4.ng.only hw' (λe=>tw hrow vW e)).lookup pC BS Gq c0.2).1;have gb:=F2 hrow g4.blk aS;have zr:=F2 hrow rm aS
      have yu:aE (∀i,((en eW x).getD (ae af 0 0)).ownBlock=ab i->F i\/w.heap.size<=i):=hid λi hi=>by
       cases hm:en eW x with
       |none=>rw[hm]at hi;cases hi
       |some v=>rw[hm]at hi;exact g4.ya _ (sw hm) i hi
      have Qf:=hid (λ(w' w1:aP) (v':aO)=>g4.ins (w':=w') (w1:=w1) (u:=u) (x:=x) (v':=v'));generalize eS:(en eW x).getD (ae af 0 0)=eE at*;have pf:=hid eS;clear eS;have b0:=fH _ _ 0 _ _ _ rm;have c1:=fH _ _ 1 _ _ _ rm;have fk:=fH _ _ 3 _ _ _ g4.blk;simp at b0 c1 fk
      have I:aE (∀w',av (λi=>eE.ownBlock=ab i) wc w'->w'.cell? ⟨b,3,af⟩=ab (dP (ab fN))/\w'.cell? ⟨B,0,af⟩=ab (J R u)/\w'.cell? ⟨B,1,af⟩=ab (J R x)):=
       hid λw' hw'=>⟨hw'.cell fk gb,hw'.cell b0 zr,hw'.cell c1 zr⟩;have arq:=C3 wc.drew (av.drew _);have ars:=λo=>C3 (wc.alloc o).drew ((av.alloc _ _).trans (av.drew _) (λ_ _ h=>h));have cn:aE (∀w',av (λi=>eE.ownBlock=ab i) wc w'->ee w' fN encI cN eW):=hid λw' hw'=>g4.ng.only hw' (λe=>tw hrow vW e);have art:=g4.li;have vm:=hid (And.intro (Ct g4.blk vW) (Ct rm vW));have s0:=hid zr;clear C3 gb zr vW;obtain⟨i0,jc,hz0,hz1,hz2⟩:=vh FD
      go_region_held3 (λw'=>w'.cell? ⟨b,3,af⟩=ab (dP (ab fN))/\w'.cell? ⟨B,0,af⟩=ab (J R u)/\w'.cell? ⟨B,1,af⟩=ab (J R x))
       (first
         |exact I.out _ (av.drew _)
         |exact I.out _ ((av.alloc _ _).trans (av.drew _) (λ_ _ h=>h))
         |exact I.out _ (((av.alloc _ _).trans (av.drew _) (λ_ _ h=>h)).trans (av.of_grownBy hgrow (λi e=>bZ e)) (λ_ _ h=>h))
         |exact qX.out)
       (first
         |(refine akk _ ba _ _ _ ba 0 3 i0 _ 1 8 jo jc hz0 hz1 hz2 aa ad eE _ _ ba ((hrow.alloc _).drew)
            ⟨wc.heap.size,0,af⟩ 1 1 [J R u] ba ba (akh (cs:=#[J R u]) (t:=3) (fr:=(0,0)) (fO wc _)) (by simp[zV])
            ad (by unfold eG;omega) ad bc (wc.heap.size+1) bc ?_;intro vL cap w1 hown1 hgrow hat It;obtain⟨ij,IM,SV,hg4,hs3⟩:=(cn.out _ (((av.alloc _ _).trans (av.drew _) (λ_ _ h=>h)).trans (av.of_grownBy hgrow (λi e=>bZ e)) (λ_ _ h=>h))).update pC BS (by unfold eG;omega) c0.2 (ae (ab ⟨vL,0,af⟩) ((pred jR x).length+1) cap);replace IM:(DZ 303 (dP (ab fN)) (J R x) (ae (ab ⟨vL,0,af⟩) ((pred jR x).length+1) cap)).run ax w1=bf () ij:=IM
           have qX:aE (ij.cell? ⟨b,3,af⟩=ab (dP (ab fN))/\ij.cell? ⟨B,0,af⟩=ab (J R u)/\ij.cell? ⟨B,1,af⟩=ab (J R x)):=hid (by have hs1:=I.out _ (((av.alloc _ _).trans (av.drew _) (λ_ _ h=>h)).trans (av.of_grownBy hgrow (λi e=>bZ e)) (λ_ _ h=>h));have kr:av (λi=>i=fN) w1 ij:=av.of_grownBy hg4 (λi e=>by cases e;exact bZ aa);exact⟨kr.cell hs1.1 vm.out.1,kr.cell hs1.2.1 vm.out.2,kr.cell hs1.2.2 vm.out.2⟩)))
      all_goals
       go_wp2_with fail;go_meet;have cK:av (λi=>eE.ownBlock=ab i) wc w1:=((av.alloc _ _).trans (av.drew _) (λ_ _ h=>h)).trans (av.of_grownBy hgrow (λi e=>bZ e)) (λ_ _ h=>h);have iQ:av (λi=>i=fN) w1 ij:=av.of_grownBy hg4 (λi e=>by cases e;exact bZ aa);have Tl:w.heap.size<=wc.heap.size:=py.size
       have hloc:(ae (ab ⟨vL,0,af⟩) ((pred jR x).length+1) cap).ownBlock=eE.ownBlock\/∃g,(ae (ab ⟨vL,0,af⟩) ((pred jR x).length+1) cap).ownBlock=ab g/\wc.heap.size<=g:=by
        rcases hat with h|h;·exact bZ h.symm
        .exact cc ⟨vL,aa,ad⟩
       have eh:=Qf.out ij w1 _ cK hown1 hloc iQ SV (λi hi=>cc ad);refine⟨_,eh,(py.trans cK ?_).trans iQ ?_,iQ.heap (cK.heap rm s0.out) vm.out.2⟩
       .intro i hi h;have h2:=yu.out i h;rcases h2 with h2|h2;·exact h2
        .omega
       .intro i hi h;rcases(g4.DT:_)with h2|h2;·exact h▸h2
        .omega
     case rest=>
      obtain⟨Ym,g5,py,rm⟩:=hcut;clear rm;go_wp2;go_roundw
      case rel=>
       refine⟨k+1,ad,by go_num,?_,?_,py⟩;·rw[ei.out,Xr.out];have bF:((jR++[(u,x)]).length -E.length:Nat)=(jR.length -E.length)+1:=aG;rw[bF];go_num
       .rw[ei.out,Xr.out];exact⟨⟨_,_,_,_,_,g5⟩,X2.out.1,X2.out.2⟩
      case measure=>grind[bR]
   .have FA:qa n jR (u,x)=jR:=by unfold qa;rw[if_neg oj]
    have Ag:=hid FA;have GS:=hid oj;clear FA oj;cases qs:qt n u with
    |false=>
     go_quiet ((go_at_call 253;exact DC (zN _ _ _ _ nh)));go_wp2;go_roundw;case rel=>exact⟨k+1,ad,by go_num,by rw[ei.out,Ag.out],by rw[ei.out,Ag.out];exact(g'.out _).1,(g'.out _).2⟩
     case measure=>simp[bR];omega
    |true=>
     cases hv2:qt n x with
     |false=>
      go_quiet ((go_at_call 253;(first|exact DC (zN _ _ _ _ nh)|exact F6 (zN _ _ _ _ nh))));go_wp2;go_roundw;case rel=>exact⟨k+1,ad,by go_num,by rw[ei.out,Ag.out],by rw[ei.out,Ag.out];exact(g'.out _).1,(g'.out _).2⟩
      case measure=>simp[bR];omega
     |true=>
      by_cases pB:u=x
      .have hq:(u==x)=true:=by simpa using pB
       have j6:=hid pB;clear pB;go_quiet ((go_at_call 253;(first|exact DC (zN _ _ _ _ nh)|exact F6 (zN _ _ _ _ nh))));go_wp2;go_roundw;case rel=>exact⟨k+1,ad,by go_num,by rw[ei.out,Ag.out],by rw[ei.out,Ag.out];exact(g'.out _).1,(g'.out _).2⟩
       case measure=>simp[bR];omega
      .have hq:(u==x)=false:=by simpa using pB
       have xp:(u,x)∈jR:=by have:=GS.out;simpa [canAdd,qs,hv2,pB]using this
       have hlk:∀nq,(qN 302 (dP (ab fT)) (ar #[J R u,J R x]) ao).run ax (W.drewN nq)=bf (ai az) (W.drewN nq):=λnq=>by have h:=((g1.mZ.only (av.drewN (F:=λ_=>False) W nq) (λh=>h)).lookup Nj Px Vi c0).1;rw[xC g1.mZ.nodup (gQ.2 ⟨(u,x),xp,aa⟩)]at h;exact h
       clear pB xp;go_quiet ((go_at_call 253;(first|exact DC (zN _ _ _ _ nh)|exact F6 (zN _ _ _ _ nh))));go_wp2;go_roundw;case rel=>exact⟨k+1,ad,by go_num,by rw[ei.out,Ag.out],by rw[ei.out,Ag.out];exact(g'.out _).1,(g'.out _).2⟩
       case measure=>simp[bR];omega
  .obtain rfl:k=l.length:=ad;rw[ll]at*;have akI:=hid E2;have ff:=hid hO;clear E2 hO fE kp fp bB hl;go_wp2;go_ret;exact⟨aa,akI.out.mono (λi hi h=>by rcases h with h|h;exact bZ h;exact cc ⟨h,hi⟩),ff.out⟩
end G
open Go.RowKit Go.MapKept
def oG.at{w p S}(h:oG w p S){i x}(hx:S[i]?=ab x):∃b o c,w.cell? ⟨p,0,af⟩=ab (ae (ab ⟨b,o,af⟩) S.length c)/\w.cell? ⟨b,o+i*3,af⟩=ab (J R x.1.1)/\w.cell? ⟨b,o+i*3+1,af⟩=ab (J R x.1.2)/\w.cell? ⟨b,o+i*3+2,af⟩=ab (J R x.2):=by obtain⟨A,c,h1,a,d⟩:=h;have hi:=(eM.1 hx).1;obtain⟨b,o,rfl,hc⟩:=a ad;grind[pY]
def amu(i:Nat)(B0 de p)S off W x(hx:S[i]?=ab x)(l:eX x.1)(f:W.cell? ⟨B0,0,af⟩=ab (ay (ab ⟨p,0,af⟩)))(h1:W.cell? ⟨de,0,af⟩=ab (J R off))(g:oG W p S)r(hr:decide (off<x.1.1+x.1.2)=r):
 aC ax 344 #[J R i,ay (ab ⟨B0,0,af⟩),ay (ab ⟨de,0,af⟩)] W λe w'=>e=aB (ai r)/\au W w':=by
 obtain⟨b,o,c,cK,cI,a,_⟩:=g.at hx;obtain⟨⟨cX,bk⟩,iw⟩:=x;obtain⟨k,v2,v3⟩:=l;simp only at cI a k v2 v3 hr;have hi:=(eM.1 hx).1;have hb0:(i:Int)<(S.length:Int):=ad
 have d:aE (∀w',au W w'->w'.cell? ⟨B0,0,af⟩=ab (ay (ab ⟨p,0,af⟩))/\w'.cell? ⟨de,0,af⟩=ab (J R off)/\w'.cell? ⟨p,0,af⟩=ab (ae (ab ⟨b,o,af⟩) S.length c)/\w'.cell? ⟨b,o+i*3,af⟩=ab (J R cX)/\w'.cell? ⟨b,o+i*3+1,af⟩=ab (J R bk)):=
  hid (λw' h=>⟨h.cell f (λh=>h),h.cell h1 (λh=>h),h.cell cK (λh=>h),h.cell cI (λh=>h),h.cell a (λh=>h)⟩);clear f h1 cK cI a g hx;generalize S.length=n at*;go_enter func344,ntmps344;go_wp2_with fail
 go_region_held3 (λw'=>w'.cell? ⟨B0,0,af⟩=ab (ay (ab ⟨p,0,af⟩))/\w'.cell? ⟨de,0,af⟩=ab (J R off)/\w'.cell? ⟨p,0,af⟩=ab (ae (ab ⟨b,o,af⟩) n c)/\w'.cell? ⟨b,o+i*3,af⟩=ab (J R cX)/\w'.cell? ⟨b,o+i*3+1,af⟩=ab (J R bk))
  (first
    |exact d.out _ (av.drew _)
    |exact d.out _ j)
  (first
    |(go_at_call 117;refine(l5 cX bk _ k v2 v3).mono ?_;rintro e m ⟨rfl,ha0⟩;have j:au W m:=au.trans (av.drew _) ha0))
 all_goals
  go_wp2;go_ret;exact⟨ba,j⟩
def apk args w:(callFunc 344 args).run ax w=bf (.enter 344 args) w:=ba
def uV(S:List jS)(off:Int)(i:Nat):Bool:=decide (off<(S[i]?.getD y0).1.1+(S[i]?.getD y0).1.2)
def j4.at{S}(h:j4 S){i:Nat}{x}(hx:S[i]?=ab x):eX x.1/\0<x.1.2:=h.2 x (cW hx)
def j4.lt{S}(h:j4 S){i j:Nat}{x y}(hx:S[i]?=ab x)(c:S[j]?=ab y)(a:i<j):x.1.1+x.1.2<=y.1.1:=by obtain⟨hi,rfl⟩:=eM.1 hx;obtain⟨b,rfl⟩:=eM.1 c;exact mv.1 h.1 i j hi b a
def au0{S}(h:j4 S)off(a b)(hab:a<=b)(hb:b<S.length)(e:uV S off a=az):uV S off b=true:=by
 unfold uV at*;rcases Nat.lt_or_eq_of_le hab with hlt|rfl;·have c:=cF (l:=S) (i:=a) ad;have hb':=cF (l:=S) (i:=b) hb;have h1:=h.lt c hb' hlt;have d:=(h.at hb').2;grind
 .omega
def amt p S off w(c:oG w p S)(j:j4 S):
 aC ax 310 #[ay (ab ⟨p,0,af⟩),J R off] w λe w'=>∃k:Nat,e=aB (J R k)/\IsCut S.length (uV S off) k/\au w w':=by
 have hlen:=c;obtain⟨_,_,_,_,n⟩:=hlen;have b:=hid (And.intro c j);have o:∀(g:Fn) (first cap:Array aO) (w:aP),(Instr.makeFunc g first cap).run ax w=bf (dS g first cap) w:=λ_ _ _ _=>aa;clear c j
 have a:aE (au w ((w.alloc (bp #[ay (ab ⟨p,0,af⟩)] 295)).alloc (bp #[J R off] 3))/\((w.alloc (bp #[ay (ab ⟨p,0,af⟩)] 295)).alloc (bp #[J R off] 3)).cell? ⟨w.heap.size,0,af⟩=ab (ay (ab ⟨p,0,af⟩))/\((w.alloc (bp #[ay (ab ⟨p,0,af⟩)] 295)).alloc (bp #[J R off] 3)).cell? ⟨w.heap.size+1,0,af⟩=ab (J R off)):=hid (by have g1:=fO w (bp #[ay (ab ⟨p,0,af⟩)] 295);have g2:=fO (w.alloc (bp #[ay (ab ⟨p,0,af⟩)] 295)) (bp #[J R off] 3);rw[zX]at g2;exact⟨au.trans (av.alloc _ _) (av.alloc _ _),(av.alloc (F:=λ_=>False) _ _).cell (pY g1) (λh=>h),pY g2⟩);go_enter func310,ntmps310;go_wp2_with fail;go_at_call 311;clear o;generalize (w.alloc (bp #[ay (ab ⟨p,0,af⟩)] 295)).alloc (bp #[J R off] 3)=aq at*;refine(xA p S aq (b.out.1.aH a.out.1)).mono ?_;rintro e w1 ⟨rfl,rfl⟩
 have m:aE (aC ax 287 #[J R S.length,dS (eu 344) #[] #[ay (ab ⟨w.heap.size,0,af⟩),ay (ab ⟨w.heap.size+1,0,af⟩)]] aq λe w'=>∃k:Nat,e=aB (J R k)/\IsCut S.length (uV S off) k/\au aq w'):=hid (by refine N' _ _ S.length (uV S off) aq n apk (λW i hi d=>?_) (au0 b.out.2 off);have hx:=cF (l:=S) (i:=i) hi;exact amu i _ _ p S off W _ hx (b.out.2.at hx).1 (d.cell a.out.2.1 (λh=>h)) (d.cell a.out.2.2 (λh=>h)) (b.out.1.aH (au.trans a.out.1 d)) _ (by grind[uV]));go_wp2_with (go_at_call 287;have f:=m.out;with_reducible refine f.mono ?_;clear f;rintro e q ⟨k,rfl,hk,hg2⟩);go_ret;exact⟨k,aa,hk,au.trans a.out.1 hg2⟩
def IsCut.before{S off k}(h:IsCut S.length (uV S off) k){i x}(hx:S[i]?=ab x)(hi:i<k):x.1.1+x.1.2<=off:=by have:=h.2.1 i hi;grind[uV]
def IsCut.behind{S off k}(h:IsCut S.length (uV S off) k){i x}(hx:S[i]?=ab x)(hi:k<=i):off<x.1.1+x.1.2:=by have:=h.2.2 i hi (eM.1 hx).1;grind[uV]
open Go.Shelf
def Tryz.asZ:Go.Shelf.Ren:=⟨λ|107=>190|108=>262|n=>n,λ|28=>82|3=>3|4=>4|0=>0|n=>n,λ|n=>n⟩
def Tryz.adQ:azK ax Tryz.asZ:={
 mixed:=ba
 f107:=func190.trans (congrArg ab ba)
 f108:=func262.trans (congrArg ab ba)
 t0:=wG
 a0:=wD
 z0:=wF
 v0:=wH
 t3:=jH
 a3:=qO
 z3:=qP
 v3:=qQ
 t4:=tP
 a4:=tN
 z4:=tO
 v4:=tQ
 t28:=jo
 a28:=BP
 z28:=BR
 v28:=BT}
def Tryz.as7:Go.Shelf.Ren:=⟨λ|15=>380|n=>n,λ|22=>82|3=>3|4=>4|n=>n,λ|n=>n⟩
def Tryz.TG:azO ax Tryz.as7:={
 mixed:=ba
 f15:=func380.trans (congrArg ab ba)
 t3:=jH
 a3:=qO
 z3:=qP
 v3:=qQ
 t4:=tP
 a4:=tN
 z4:=tO
 v4:=tQ
 t22:=jo
 a22:=BP
 z22:=BR
 v22:=BT
 i3:=by rfl}
def Tryz.as8:Go.Shelf.Ren:=⟨λ|25=>305|31=>339|32=>340|37=>194|n=>n,λ|22=>82|3=>3|4=>4|40=>311|0=>0|n=>n,λ|n=>n⟩
def Tryz.adT:azQ ax Tryz.as8:={
 mixed:=ba
 f25:=func305.trans (congrArg ab ba)
 f31:=Tryz.func339.trans (congrArg ab ba)
 f32:=func340.trans (congrArg ab ba)
 f37:=Pk.trans (congrArg ab ba)
 t0:=wG
 a0:=wD
 z0:=wF
 v0:=wH
 t3:=jH
 a3:=qO
 z3:=qP
 v3:=qQ
 t4:=tP
 a4:=tN
 z4:=tO
 v4:=tQ
 t22:=jo
 a22:=BP
 z22:=BR
 v22:=BT
 t40:=KS
 a40:=KN
 z40:=KQ
 v40:=KT}
def Tryz.adS:Go.Shelf.Ren:=⟨λ|21=>306|27=>341|28=>342|35=>364|39=>382|n=>n,λ|22=>82|3=>3|4=>4|0=>0|n=>n,λ|n=>n⟩
def Tryz.I3:azP ax Tryz.adS:={
 mixed:=ba
 f21:=func306.trans (congrArg ab ba)
 f27:=func341.trans (congrArg ab ba)
 f28:=func342.trans (congrArg ab ba)
 f35:=func364.trans (congrArg ab ba)
 f39:=func382.trans (congrArg ab ba)
 t0:=wG
 a0:=wD
 z0:=wF
 v0:=wH
 t3:=jH
 a3:=qO
 z3:=qP
 v3:=qQ
 t4:=tP
 a4:=tN
 z4:=tO
 v4:=tQ
 t22:=jo
 a22:=BP
 z22:=BR
 v22:=BT
 i3:=by rfl}
def Tryz.as3:Go.Shelf.Ren:=⟨λ|10=>334|6=>363|n=>n,λ|22=>82|23=>3|25=>144|3=>3|4=>4|0=>0|n=>n,λ|n=>n⟩
def Tryz.as2:azS ax Tryz.as3:={
 mixed:=ba
 f6:=⟨f363.name,aS,func363.trans (congrArg ab ba)⟩
 f10:=⟨f334.name,aS,func334.trans (congrArg ab ba)⟩
 t0:=wG
 a0:=wD
 z0:=wF
 v0:=wH
 t3:=jH
 a3:=qO
 z3:=qP
 v3:=qQ
 t4:=tP
 a4:=tN
 z4:=tO
 v4:=tQ
 t22:=jo
 a22:=BP
 z22:=BR
 v22:=BT
 a23:=qO
 z23:=qP
 t25:=Tryz.underlying144
 a25:=Tryz.isAgg144
 z25:=Tryz.sizeOf144
 v25:=Tryz.zeroValue144}
def Tryz.adL:Go.Shelf.Ren:=⟨λ|7=>381|10=>388|n=>n,λ|23=>467|26=>3|3=>4|28=>300|0=>0|27=>143|33=>144|4=>4|n=>n,λ|n=>n⟩
def Tryz.adK:azV ax Tryz.adL:={
 mixed:=ba
 f7:=⟨f381.name,aS,func381.trans (congrArg ab ba)⟩
 f10:=⟨f388.name,aS,Tryz.func388.trans (congrArg ab ba)⟩
 t0:=wG
 a0:=wD
 z0:=wF
 v0:=wH
 t4:=tP
 a4:=tN
 z4:=tO
 v4:=tQ
 t23:=Tryz.underlying467
 a23:=isAgg467
 z23:=sizeOf467
 v23:=zeroValue467
 t26:=jH
 a26:=qO
 z26:=qP
 v26:=qQ
 t27:=underlying143
 a27:=isAgg143
 z27:=sizeOf143
 v27:=zeroValue143
 t28:=Tryz.underlying300
 a28:=Tryz.isAgg300
 z28:=Tryz.sizeOf300
 v28:=Tryz.zeroValue300
 t33:=Tryz.underlying144
 a33:=Tryz.isAgg144
 z33:=Tryz.sizeOf144
 v33:=Tryz.zeroValue144}
def Tryz.agt:Go.Shelf.Ren:=⟨λ|6=>183|8=>254|9=>255|11=>312|13=>193|12=>313|23=>271|24=>272|14=>345|15=>346|16=>347|17=>348|18=>349|19=>350|20=>339|21=>351|22=>352|25=>373|26=>317|27=>318|28=>374|29=>375|30=>194|31=>386|n=>n,λ|26=>3|28=>300|24=>82|0=>0|3=>3|37=>311|48=>315|50=>42|4=>4|40=>372|39=>371|45=>188|5=>5|9=>9|51=>420|55=>423|57=>448|58=>80|33=>144|n=>n,λ|n=>n⟩
def Tryz.axo:azU ax Tryz.agt:={
 mixed:=ba
 f6:=⟨f183.name,aS,Tryz.func183.trans (congrArg ab ba)⟩
 f8:=⟨f254.name,aS,Tryz.func254.trans (congrArg ab ba)⟩
 f11:=⟨f312.name,aS,Tryz.func312.trans (congrArg ab ba)⟩
 t0:=wG
 a0:=wD
 z0:=wF
 v0:=wH
 t24:=jo
 a24:=BP
 z24:=BR
 v24:=BT
 t26:=jH
 a26:=qO
 z26:=qP
 v26:=qQ
 t28:=Tryz.underlying300
 a28:=Tryz.isAgg300
 z28:=Tryz.sizeOf300
 v28:=Tryz.zeroValue300
 i26:=by rfl}
def Tryz.axg:Go.Shelf.Ren:=⟨λ|5=>255|8=>193|7=>313|19=>271|20=>272|10=>345|11=>346|12=>347|13=>348|14=>349|15=>350|16=>339|17=>351|18=>352|30=>373|31=>317|32=>318|33=>374|34=>375|35=>194|40=>386|n=>n,λ|23=>82|25=>3|3=>3|32=>311|22=>82|0=>0|44=>315|46=>42|4=>4|36=>372|35=>371|41=>188|5=>5|9=>9|53=>420|57=>423|63=>448|64=>80|n=>n,λ|n=>n⟩
def Tryz.agq:azT ax Tryz.axg:={
 mixed:=ba
 f5:=⟨f255.name,aS,Tryz.func255.trans (congrArg ab ba)⟩
 f7:=⟨f313.name,aS,func313.trans (congrArg ab ba)⟩
 f8:=VZ.trans (congrArg ab ba)
 f10:=⟨f345.name,aS,func345.trans (congrArg ab ba)⟩
 f11:=⟨f346.name,aS,func346.trans (congrArg ab ba)⟩
 f12:=⟨f347.name,aS,func347.trans (congrArg ab ba)⟩
 f13:=⟨f348.name,aS,func348.trans (congrArg ab ba)⟩
 f14:=⟨f349.name,aS,func349.trans (congrArg ab ba)⟩
 f15:=⟨f350.name,aS,func350.trans (congrArg ab ba)⟩
 f16:=⟨f339.name,aS,Tryz.func339.trans (congrArg ab ba)⟩
 f17:=⟨f351.name,aS,func351.trans (congrArg ab ba)⟩
 f18:=⟨f352.name,aS,func352.trans (congrArg ab ba)⟩
 f19:=V7.trans (congrArg ab ba)
 f20:=V8.trans (congrArg ab ba)
 f30:=⟨f373.name,aS,func373.trans (congrArg ab ba)⟩
 f31:=Wb.trans (congrArg ab ba)
 f32:=Wc.trans (congrArg ab ba)
 f33:=⟨f374.name,aS,func374.trans (congrArg ab ba)⟩
 f34:=⟨f375.name,aS,func375.trans (congrArg ab ba)⟩
 f35:=⟨f194.name,aS,Pk.trans (congrArg ab ba)⟩
 f40:=⟨f386.name,aS,func386.trans (congrArg ab ba)⟩
 t0:=wG
 a0:=wD
 z0:=wF
 v0:=wH
 t3:=jH
 a3:=qO
 z3:=qP
 v3:=qQ
 t4:=tP
 a4:=tN
 z4:=tO
 v4:=tQ
 t5:=mr
 a5:=Tryz.isAgg5
 z5:=KR
 v5:=KU
 t9:=D3
 a9:=Tryz.isAgg9
 z9:=GL
 v9:=GN
 t22:=jo
 a22:=BP
 z22:=BR
 v22:=BT
 t23:=jo
 a23:=BP
 z23:=BR
 v23:=BT
 t25:=jH
 a25:=qO
 z25:=qP
 v25:=qQ
 t32:=KS
 a32:=KN
 z32:=KQ
 v32:=KT
 t35:=WS
 a35:=Wj
 z35:=WH
 v35:=W3
 t36:=WT
 a36:=Wk
 z36:=WI
 v36:=W4
 t41:=WO
 a41:=Wh
 z41:=WE
 v41:=W1
 t44:=Py
 a44:=Pp
 z44:=Pv
 v44:=PB
 t46:=Pz
 a46:=Wl
 z46:=WJ
 v46:=W5
 t53:=WV
 a53:=Wm
 z53:=WK
 v53:=W6
 t57:=WW
 a57:=Wn
 z57:=WL
 v57:=W7
 t63:=WY
 a63:=Wo
 z63:=WM
 v63:=W8
 t64:=W0
 a64:=Wp
 z64:=WN
 v64:=W9}
def Tryz.as1:Go.Shelf.Ren:=⟨λ|122=>108|215=>194|n=>n,λ|3=>3|4=>4|n=>n,λ|n=>n⟩
def Tryz.as0:azL ax Tryz.as1:={
 mixed:=ba
 f122:=Tryz.func108.trans (congrArg ab ba)
 f215:=Pk.trans (congrArg ab ba)
 t3:=jH
 a3:=qO
 z3:=qP
 v3:=qQ
 t4:=tP
 a4:=tN
 z4:=tO
 v4:=tQ}
def Tryz.atb:Go.Shelf.Ren:=⟨λ|6=>307|15=>193|14=>343|28=>271|29=>272|20=>365|21=>366|22=>367|23=>368|24=>369|25=>370|26=>371|27=>372|46=>383|47=>317|48=>318|49=>384|50=>385|57=>389|n=>n,λ|22=>409|24=>413|25=>415|3=>3|39=>311|0=>0|53=>315|55=>42|4=>4|46=>372|45=>371|50=>188|5=>5|9=>9|66=>420|70=>423|76=>448|77=>80|n=>n,λ|n=>n⟩
def Tryz.adV:aih ax Tryz.atb:={
 mixed:=ba
 f6:=⟨f307.name,aS,func307.trans (congrArg ab ba)⟩
 f14:=⟨f343.name,aS,func343.trans (congrArg ab ba)⟩
 f15:=VZ.trans (congrArg ab ba)
 f20:=⟨f365.name,aS,func365.trans (congrArg ab ba)⟩
 f21:=⟨f366.name,aS,func366.trans (congrArg ab ba)⟩
 f22:=⟨f367.name,aS,func367.trans (congrArg ab ba)⟩
 f23:=⟨f368.name,aS,func368.trans (congrArg ab ba)⟩
 f24:=⟨f369.name,aS,func369.trans (congrArg ab ba)⟩
 f25:=⟨f370.name,aS,func370.trans (congrArg ab ba)⟩
 f26:=⟨f371.name,aS,func371.trans (congrArg ab ba)⟩
 f27:=⟨f372.name,aS,func372.trans (congrArg ab ba)⟩
 f28:=V7.trans (congrArg ab ba)
 f29:=V8.trans (congrArg ab ba)
 f46:=⟨f383.name,aS,func383.trans (congrArg ab ba)⟩
 f47:=Wb.trans (congrArg ab ba)
 f48:=Wc.trans (congrArg ab ba)
 f49:=⟨f384.name,aS,func384.trans (congrArg ab ba)⟩
 f50:=⟨f385.name,aS,func385.trans (congrArg ab ba)⟩
 f57:=⟨f389.name,aS,func389.trans (congrArg ab ba)⟩
 t0:=wG
 a0:=wD
 z0:=wF
 v0:=wH
 t3:=jH
 a3:=qO
 z3:=qP
 v3:=qQ
 t4:=tP
 a4:=tN
 z4:=tO
 v4:=tQ
 t5:=mr
 a5:=Tryz.isAgg5
 z5:=KR
 v5:=KU
 t9:=D3
 a9:=Tryz.isAgg9
 z9:=GL
 v9:=GN
 t22:=underlying409
 a22:=isAgg409
 z22:=sizeOf409
 v22:=zeroValue409
 t25:=underlying415
 a25:=isAgg415
 z25:=sizeOf415
 v25:=zeroValue415
 t39:=KS
 a39:=KN
 z39:=KQ
 v39:=KT
 t45:=WS
 a45:=Wj
 z45:=WH
 v45:=W3
 t46:=WT
 a46:=Wk
 z46:=WI
 v46:=W4
 t50:=WO
 a50:=Wh
 z50:=WE
 v50:=W1
 t53:=Py
 a53:=Pp
 z53:=Pv
 v53:=PB
 t55:=Pz
 a55:=Wl
 z55:=WJ
 v55:=W5
 t66:=WV
 a66:=Wm
 z66:=WK
 v66:=W6
 t70:=WW
 a70:=Wn
 z70:=WL
 v70:=W7
 t76:=WY
 a76:=Wo
 z76:=WM
 v76:=W8
 t77:=W0
 a77:=Wp
 z77:=WN
 v77:=W9}
def Tryz.ata:Go.Shelf.Ren:=⟨λ|6=>106|15=>193|14=>192|28=>271|29=>272|20=>263|21=>264|22=>265|23=>266|24=>267|25=>268|26=>269|27=>270|46=>316|47=>317|48=>318|49=>319|50=>320|57=>353|n=>n,λ|22=>24|24=>73|25=>172|3=>3|39=>311|0=>0|53=>315|55=>42|4=>4|46=>372|45=>371|50=>188|5=>5|9=>9|66=>420|70=>423|76=>448|77=>80|n=>n,λ|n=>n⟩
def Tryz.adU:aih ax Tryz.ata:={
 mixed:=ba
 f6:=⟨f106.name,aS,func106.trans (congrArg ab ba)⟩
 f14:=⟨f192.name,aS,func192.trans (congrArg ab ba)⟩
 f15:=VZ.trans (congrArg ab ba)
 f20:=⟨f263.name,aS,func263.trans (congrArg ab ba)⟩
 f21:=⟨f264.name,aS,func264.trans (congrArg ab ba)⟩
 f22:=⟨f265.name,aS,func265.trans (congrArg ab ba)⟩
 f23:=⟨f266.name,aS,func266.trans (congrArg ab ba)⟩
 f24:=⟨f267.name,aS,func267.trans (congrArg ab ba)⟩
 f25:=⟨f268.name,aS,func268.trans (congrArg ab ba)⟩
 f26:=⟨f269.name,aS,func269.trans (congrArg ab ba)⟩
 f27:=⟨f270.name,aS,func270.trans (congrArg ab ba)⟩
 f28:=V7.trans (congrArg ab ba)
 f29:=V8.trans (congrArg ab ba)
 f46:=⟨f316.name,aS,func316.trans (congrArg ab ba)⟩
 f47:=Wb.trans (congrArg ab ba)
 f48:=Wc.trans (congrArg ab ba)
 f49:=⟨f319.name,aS,func319.trans (congrArg ab ba)⟩
 f50:=⟨f320.name,aS,func320.trans (congrArg ab ba)⟩
 f57:=⟨f353.name,aS,func353.trans (congrArg ab ba)⟩
 t0:=wG
 a0:=wD
 z0:=wF
 v0:=wH
 t3:=jH
 a3:=qO
 z3:=qP
 v3:=qQ
 t4:=tP
 a4:=tN
 z4:=tO
 v4:=tQ
 t5:=mr
 a5:=Tryz.isAgg5
 z5:=KR
 v5:=KU
 t9:=D3
 a9:=Tryz.isAgg9
 z9:=GL
 v9:=GN
 t22:=Tryz.underlying24
 a22:=isAgg24
 z22:=sizeOf24
 v22:=zeroValue24
 t25:=underlying172
 a25:=isAgg172
 z25:=sizeOf172
 v25:=zeroValue172
 t39:=KS
 a39:=KN
 z39:=KQ
 v39:=KT
 t45:=WS
 a45:=Wj
 z45:=WH
 v45:=W3
 t46:=WT
 a46:=Wk
 z46:=WI
 v46:=W4
 t50:=WO
 a50:=Wh
 z50:=WE
 v50:=W1
 t53:=Py
 a53:=Pp
 z53:=Pv
 v53:=PB
 t55:=Pz
 a55:=Wl
 z55:=WJ
 v55:=W5
 t66:=WV
 a66:=Wm
 z66:=WK
 v66:=W6
 t70:=WW
 a70:=Wn
 z70:=WL
 v70:=W7
 t76:=WY
 a76:=Wo
 z76:=WM
 v76:=W8
 t77:=W0
 a77:=Wp
 z77:=WN
 v77:=W9}
def xa:Nat->List (Int×Int)->List jS
 |_,[]=>[]
 |k,e::t=>(e,(k:Int))::xa (k+1) t
def iJ(l:List (Int×Int)):List jS:=xa 0 l
theorem aad e:∀(t) k,xa k (t++[e])=xa k t++[(e,((k+t.length:Nat):Int))]
 |[],k=>aa
 |x::t,k=>by simp only[p4,xa,aad e t (k+1),jV];rw[show k+1+t.length=k+(t.length+1) by omega]
def apy t e:iJ (t++[e])=iJ t++[(e,(t.length:Int))]:=by grind[iJ,aad]
def aab:∀(t) k,(xa k t).length=t.length
 |[],_=>aa
 |_::t,k=>by simp[xa,aab t (k+1)]
theorem AH l:(iJ l).length=l.length:=aab l 0
theorem R4:∀(t) (k i),(xa k t)[i]?=(t[i]?).map λe=>(e,((k+i:Nat):Int))
 |[],_,i=>by rfl
 |e::t,k,0=>by rfl
 |e::t,k,i+1=>by simp only[xa,List.getElem?_cons_succ];rw[R4 t (k+1) i,show k+1+i=k+(i+1) by omega]
theorem EY l(i:Nat):(iJ l)[i]?=(l[i]?).map λe=>(e,(i:Int)):=by grind[iJ,R4]
theorem A4{l x}:x∈iJ l↔∃i:Nat,l[i]?=ab x.1/\x.2=(i:Int):=by
 rw[List.mem_iff_getElem?];constructor;·grind[EY]
 .rintro⟨i,hi,h2⟩;refine⟨i,?_⟩;grind[EY]
def oV(x:jS):List Value:=[J R x.1.1,J R x.1.2,J R x.2]
def re(S:List jS):List Value:=S.flatMap oV
def anz S:(re S).length=S.length*3:=by
 unfold re;induction S with
 |nil=>rfl
 |cons e r a=>grind[oV]
def anA S x:re (S++[x])=re S++oV x:=by simp[re]
def Zs:∀(S) (j c),j<S.length->c<3->(re S)[j*3+c]?=(oV (S[j]?.getD y0))[c]?
 |[],j,c,a,_=>by grind
 |x::S,0,c,_,hc=>by grind[oV,re]
 |x::S,j+1,c,a,hc=>by
  show(oV x++re S)[(j+1)*3+c]?=_;rw[List.getElem?_append_right (by simp[oV];omega)];have bF:(j+1)*3+c -(oV x).length=j*3+c:=by simp[oV];omega
  rw[bF,Zs S j c (by simpa using a) hc];simp
theorem nA.ow{w base n c A S}(h:w.ownsRow base 413 3 (ae A n c) n (re S)):n=S.length/\nA w A S:=by
 have hn:n=S.length:=by have:=h.1;rw[anz]at this;omega
 refine⟨hn,λk=>?_⟩;rcases h.2 with⟨hv,e⟩|⟨g,cap,cur,hv,hb,f,i,hcm,hcs,b⟩;·omega
 .injection hv with h1 h2 h3;subst h1;refine⟨g,0,rfl,λj a=>?_⟩
  have key:∀c,c<3->∀u,(oV (S[j]?.getD y0))[c]?=ab u->w.cell? ⟨g,0+j*3+c,af⟩=ab u:=λc hc u d=>by rw[<-Zs S j c a hc,<-b,q2,if_pos ad]at d;grind[World.cell?]
  exact⟨key 0 ad _ aa,key 1 ad _ aa,key 2 ad _ aa⟩
def Zz(x y)w:aC ax 108 #[J R x,J R y] w λe w'=>e=aB (J R (zR x y))/\w'=w:=Any.cmp_Compare_int Tryz.as0 x y w
def axr(x y:jS)W:aC ax 308 #[ar #[J R x.1.1,J R x.1.2,J R x.2],ar #[J R y.1.1,J R y.1.2,J R y.2]] W λe w'=>e=aB (J R (zR x.1.1 y.1.1))/\∃q b,w'=GP (W.drewN q) b:=by have hcon:=λa=>Zz x.1.1 y.1.1 a;generalize zR x.1.1 y.1.1=r at hcon⊢;go_enter func308,ntmps308;go_wp2_with (go_at_call 108;refine(hcon _).mono ?_;rintro e w' ⟨rfl,rfl⟩);go_ret;exact⟨aa,0,_,by rw[PI,PI,Sort.grow_grow];rfl⟩
def L3(x y:jS):Int:=zR x.1.1 y.1.1
theorem Nu(x y):GO L3 x y=decide (x.1.1<y.1.1):=by grind[GO,L3,zR]
def axH:Sort.SWO (GO L3) where
 irrefl x:=by grind[Nu]
 trans x y z h1 h2:=by grind[Nu]
 ntrans x y z h1 h2:=by grind[Nu]
def apj args w:(callFunc 308 args).run ax w=bf (.enter 308 args) w:=ba
def av.putRowK F w(blk off)d(hb:F blk):av F w (Sort.putRowK oV 3 w blk off d):=
 ⟨aa,aa,aa,by show w.heap.size<=(w.heap.modify blk _).size;simp,λk _ hn=>by show(w.heap.modify blk _)[k]?=_;grind⟩
def av.aaK F w os:av F w (GP w os):=
 ⟨aa,aa,aa,by show w.heap.size<=(w.heap++os).size;rw[Array.size_append];omega,λk hk _=>by show(w.heap++os)[k]?=_;rw[Kp hk]⟩
def av.YQ F w q:av F w (KW w q):=⟨aa,aa,aa,b7 _,λ_ _ _=>aa⟩
def getElem!_toArray(S:List jS)j(a:j<S.length):S.toArray[j]! =S[j]?.getD default:=bc
def nA.holds{w g S cur}(i:w.heap[g]?=ab (bp cur 413 (0,0)))(h:nA w (ab ⟨g,0,af⟩) S):PH oV 3 w g 0 S.toArray:=λt d=>by
 rw[Sort.size_flatK]at d;have j:t<S.length*3:=ad;have c:t/3<S.length:=ad;rw[Sort.get_flatK _ 3 _ t d,getElem!_toArray S _ c];obtain⟨b,off,e,hc⟩:=h ad;cases e;have a:=hc (t/3) c;have hr:t%3=0\/t%3=1\/t%3=2:=ad;refine⟨?_,by grind[wK]⟩;have f:S[t/3]?.getD default=S[t/3]?.getD y0:=ba;rw[f];rcases hr with hr|hr|hr;·have bF:0+t=0+t/3*3:=ad;rw[hr,bF];exact a.1
 .have bF:0+t=0+t/3*3+1:=ad;rw[hr,bF];exact a.2.1
 .have bF:0+t=0+t/3*3+2:=ad;rw[hr,bF];exact a.2.2
def nA.at6{w g d}(h:PH oV 3 w g 0 d):nA w (ab ⟨g,0,af⟩) d.toList:=λ_=>by refine⟨g,0,rfl,λj b=>?_⟩;have hj':j<d.size:=ad;have a:d.toList[j]?.getD y0=d[j]!:=aG;rw[a];exact⟨(h.cell hj' (c:=0) ad).1,(h.cell hj' (c:=1) ad).1,(h.cell hj' (c:=2) ad).1⟩
def axm(base n c)A S w(hv:w.ownsRow base 413 3 (ae A n c) n (re S))(t:0<S.length)(hlen:S.length<=1048576):
 aC ax 307 #[ae A n c,dS (eu 308) #[] #[]] w λe w'=>e=aB (bo #[])/\∃a,a.Perm S/\a.Pairwise (λx y=>x.1.1<=y.1.1)/\nA w' A a/\av (λi=>(ae A n c).ownBlock=ab i) w w':=by
 obtain⟨hn,o⟩:=nA.ow hv;subst hn;rcases hv.2 with⟨k,q⟩|⟨g,cap,cur,k,hb,d,s,hcm,hcs,u⟩;·omega
 .injection k with h1 h2 h3;subst h1 h3;have b:=nA.holds d o
  have h:=aif Tryz.adV 3 isAgg413 sizeOf413 oV (λ_=>aa) (λx v hv=>by simp[oV]at hv;rcases hv with rfl|rfl|rfl<;>rfl) L3 axH 308 #[] g 0 c S.toArray w apj
   (λm os fJ _ x y=>axr x y _) b (tI.1 d).1 aG;simp only[iY]at h;change aC ax 307 _ _ _ at h;refine h.mono ?_;clear h;rintro e w' ⟨rfl,cr,m,os,f,p,rfl⟩;have hsz:cr.size=S.length:=by have:=f.1;simpa using this
  refine⟨aa,cr.toList,?_,?_,?_,((av.YQ (λi=>(ae _ _ c).ownBlock=ab i) w m).trans (av.putRowK (λi=>(ae _ _ c).ownBlock=ab i) _ g 0 cr aa) (λ_ _ h=>h)).trans (av.aaK _ _ os) (λ_ _ h=>h)⟩
  .have:=f.2.2;have bF:(cr.extract 0 S.length).toList=cr.toList:=by rw[<-hsz];simp
   grind
  .rw[mv];intro i j hi r l;have:=p i j (cB _) l aG;grind[Nu]
  .refine nA.at6 ?_;refine Sort.holdsK_grow oV 3 _ os g 0 cr ?_ (Sort.holdsK_putRowK oV 3 _ g 0 S.toArray cr (Sort.holdsK_ahead oV 3 w m g 0 S.toArray b) ad);show g<(w.heap.modify g _).size;grind
namespace G
open Go.RowKit Go.Shelf Go.Sort Go.Maps
attribute [local go_sem] Oper.semAt_some
def Tt:(ax.info? 3).map (λi=>(i.zero,i.size,i.bytes))=ab (ab (J R 0),1,8):=aw
def upto{a:Type}(f:Nat->a)(k:Nat):List a:=(dU k).map f
theorem agS{a}(f:Nat->a)k:upto f (k+1)=upto f k++[f k]:=by simp[upto,List.range_succ]
theorem ax3{a}(f:Nat->a)k:(upto f k).length=k:=by simp[upto]
theorem ax2(a:List Int):upto (λj=>a[j]?.getD 0) a.length=a:=by
 apply Yq;·simp[upto]
 .grind[upto]
def ax4(a:List Int){k}(hk:k<=a.length):upto (λj=>a[j]?.getD 0) k=a.take k:=by
 apply Yq;·grind[upto]
 grind[upto]
set_option maxHeartbeats 2000000 in
def ax5 F n (q:F.fn 256) (hro:F.round=af) (hn:1<=n) (l b' f b off len cap) (c:List Int) (z:len*8<=140737488351232) (hb:b<f) (d g:List Int->aP->Prop)
 (AN:∀pre x W,d pre W->pre.length<len->YieldAt F (n -1) ax l #[J R x] W λe a=>
   (e=aB (ai az)/\d (pre++[x]) a/\vc f W a)\/(e=aB (ai ao)/\g (pre++[x]) a))
 W (y5:W.cell? ⟨b',0,af⟩=ab (ae (ab ⟨b,off,af⟩) len cap)) (hc:∀j,j<len->W.cell? ⟨b,off+j,af⟩=ab (J R (c[j]?.getD 0))) (h0:d [] W):
 rW F n ax 256 #[dS (.yield l) #[] #[],ay (ab ⟨b',0,af⟩)] W λe a=>(∃v,e=aB v)/\
  ((∃bV,bV=upto (λj=>c[j]?.getD 0) len/\d bV a)\/(∃pre,(∃k,k<=len/\pre=upto (λj=>c[j]?.getD 0) k)/\g pre a)):=by
 refine D6 V6 aa q ?_ hro;simp only[Tryz.ntmps256,iY,jV,mT,qI,qJ,q4,q1,l0,p4];gi_wp2
 gi_loopw [7] (λi wr=>∃k:Nat,k<=len/\i=J R k/\d (upto (λj=>c[j]?.getD 0) k) wr/\vc f W wr)
  (λi _=>len -(intOf i).toNat);case atStart=>exact⟨0,cB _,aa,h0,PF _ _⟩
 case round=>
  obtain⟨k,hk,rfl,m,o⟩:=hrel;have t:k<len->wr.cell? ⟨b,off+k,af⟩=ab (J R (c[k]?.getD 0)):=λh=>(o.cell (p:=⟨b,off+k,af⟩) hb).trans (hc k h);by_cases hlt:k<len
  .obtain⟨fn,tmps,assign,body,A,s⟩:=AN _ (c[k]?.getD 0) wr m (by grind[ax3]);have y:=t hlt;gi_wp2;refine s.mono ?_;rintro e u (⟨rfl,w,hk3⟩|⟨rfl,r⟩)
   .gi_wp2;go_roundw;case rel=>exact⟨k+1,ad,bc,by grind[agS],o.trans hk3⟩
    case measure=>grind[intOf]
   .gi_wp2;refine bodyPost_ret (results_none aa _ _ _) aa ?_;exact⟨⟨_,aa⟩,cc ⟨_,⟨_,ad,(agS _ _).symm⟩,r⟩⟩
  .obtain rfl:k=len:=ad;gi_wp2;go_end0;exact⟨⟨_,aa⟩,bZ ⟨_,aa,m⟩⟩
def ax6 F n(c:F.fn 256)(hro:F.round=af)(l b' cap)A(a:List Int->aP->Prop)W(g:W.cell? ⟨b',0,af⟩=ab (ae A 0 cap))(f:a [] W):
 rW F n ax 256 #[dS (.yield l) #[] #[],ay (ab ⟨b',0,af⟩)] W λe b=>(∃v,e=aB v)/\a [] b:=by
 refine D6 V6 aa c ?_ hro;simp only[Tryz.ntmps256,iY,jV,mT,qI,qJ,q4,q1,l0,p4];gi_wp2;gi_loopw [7] (λi wr=>i=J R 0/\a [] wr) (λ_ _=>0);case atStart=>grind
 case round=>
  obtain⟨rfl,d⟩:=hrel;gi_wp2;go_end0;exact⟨⟨_,aa⟩,d⟩
def ax7 F n(b:F.fn 184)(hro:F.round=af)a(len cap)w:
 rW F n ax 184 #[ae a len cap] w λe w'=>e=aB (dS (eu 256) #[] #[ay (ab ⟨w.heap.size,0,af⟩)])/\w'=w.alloc (bp #[ae a len cap] 82):=by
 refine D6 func184 aa b ?_ hro;simp only[ntmps184,iY,jV,mT,qI,qJ,q4,q1,l0,p4];gi_wp2;go_ret;exact⟨aa,aa⟩
def ax8 F n (i:F.fn 256) (hro:F.round=af) (hn:1<=n) (b' d cap) A a (u:a.length*8<=140737488351232) w (r:b'<w.heap.size) (t:w.heap.size=d)
 (hc:w.cell? ⟨b',0,af⟩=ab (ae A a.length cap)) (fF:dy w A a):
 SeqStopsK F n ax 256 #[ay (ab ⟨b',0,af⟩)] (λx:Int=>#[J R x]) (vc d) (λbV=>bV=a) (λpre=>pre<+:a) a.length w:=λl g o W m _ _ s h=>by
 have hc':=(m.cell (p:=⟨b',0,af⟩) r).trans hc;rcases l1 a.length with hz|hz;·obtain rfl:=j8 hz;exact(ax6 F n i hro l b' _ A g W hc' h).mono λe q ⟨f,c⟩=>⟨f,bZ ⟨_,aa,c⟩⟩
 .obtain⟨b,off,rfl,hcs⟩:=fF hz;have hb:b<d:=t▸vf w _ (hcs 0 hz);refine(ax5 F n i hro hn l b' d b off a.length cap a u hb g o s W hc' (λj c=>(m.cell (p:=⟨b,off+j,af⟩) aG).trans (hcs j c)) h).mono ?_;rintro e q ⟨f,⟨bV,rfl,c⟩|⟨pre,⟨k,hk,rfl⟩,c⟩⟩;·grind[ax2]
  .exact⟨f,cc ⟨_,by rw[ax4 a hk];exact List.take_prefix _ _,c⟩⟩
set_option maxHeartbeats 2000000 in
def appendSeq_in F n (m:F.fn 312) (g:F.fn 256) (hro:F.round=af) (hn:3<=n) (b' cap) A a (hbytes:a.length*8<=140737488351232) w
 (y5:b'<w.heap.size) (hc0:w.cell? ⟨b',0,af⟩=ab (ae A a.length cap)) (fF:dy w A a):
 rW F n ax 312 #[ae af 0 0,dS (eu 256) #[] #[ay (ab ⟨b',0,af⟩)]] w λe f=>∃v,e=aB v/\f.ownsRow w.heap.size 3 1 v a.length (a.map (J R))/\(v=ae af 0 0↔a=[])/\vc w.heap.size w f:=by
 have h1:1<=n:=ad;obtain⟨r,hi,hz0,hz1,hz2⟩:=vh Tt;refine callsIn_of_wp_marks Tryz.func312 aa m ?_ hro;simp only[ntmps312,iY,jV,mT,qI,qJ,q4,q1,l0,p4];gi_wp2;have k:=Boxed.new w 82 (ae af 0 0);have d:vc w.heap.size w (w.alloc (bp #[ae af 0 0] 82)):=(PF _ w).alloc (b7 _) _
 have hseq:SeqStopsK F (n -1) ax 256 #[ay (ab ⟨b',0,af⟩)] (λx:Int=>#[J R x]) (vc w.heap.size) (λbV=>bV=a) (λpre=>pre<+:a) a.length (w.alloc (bp #[ae af 0 0] 82)):=
  λl i j W p=>ax8 F (n -1) g hro ad b' w.heap.size cap A a hbytes w y5 aa hc0 fF l i j W (d.trans (p.mono d.size))
 refine wpIn_rangeFunc_ownG hro h1 (gf:=256) (lb:=_) aa g (lG V6 aw aa)
  hseq belowK_t (belowK_b bc) (PF _ _) (λ_=>aa)
  (λpre W=>(∃v,Boxed W w.heap.size 82 v/\W.ownsRow w.heap.size 3 1 v pre.length (pre.map (J R))/\(v=ae af 0 0↔pre=[]))/\vc w.heap.size w W)
  (λ_ _ _=>False)
  (OwnFrom.and (Own.from (holdsRow_own w.heap.size w.heap.size 82 3 1 (λpre=>pre.length) (λpre=>pre.map (J R)) (λpre v=>v=ae af 0 0↔pre=[])) _) (ownFrom_below (b7 _) bc))
  (λ_ _ _ _ _ q _ _=>q)
  ⟨⟨_,k,BU _ _ _ _,bc⟩,d⟩
  (λx=>{tmps:=#[ae af 0 0,dS (eu 256) #[] #[ay (ab ⟨b',0,af⟩)],ay (ab ⟨w.heap.size,0,af⟩),a1,ae af 0 0,J R x,dS (eu 256) #[] #[ay (ab ⟨b',0,af⟩)],J R x,a1,a1,a1,a1,a1],defers:=[]}) ?assign ?body ?done ?stop
 case assign=>
  intro l x W K c;gi_wp2;exact c
 case body=>
  rintro l pre x W ⟨⟨v,hv,hrow,hnil⟩,b⟩ hlt;have hc:=hv.cell;gi_wp2_with (gi_at_builtin;refine wpListIn_append_own _ aa _ _ 82 aa w.heap.size 3 r (J R 0) 1 8 jo hi hz0 hz1 hz2 aa aS _ _ _ aa (hrow.alloc _) ⟨W.heap.size,0,af⟩ 1 1 [J R x] aa aa (cell_one_new _ _ _) (by simp[zV]) (by grind[eG]) ad (by have:=b.size;simp;omega) ?_;intro v' w1 hown' hgrow _;obtain⟨t,s,rfl⟩:=ownsRow_succ hown';obtain⟨h,hv2,hr2,hk2,hb2⟩:=hv.appended aS hrow b.size (b7 _) hown' hgrow;have hc1:=h.cell;have u:=h.frozen);exact⟨hk2.from _,hb2,⟨_,hv2,aG,bc⟩,b.trans hb2⟩
 case done=>
  rintro D bV W o rfl ⟨⟨v,hv,hrow,hnil⟩,b⟩ c;have hc:=hv.cell;gi_wp2;refine⟨bc,bZ ⟨_,_,aa,run_takeDeferred c,?_⟩⟩;exact⟨_,results_tmp aa _ _ _,v,aa,ownsRow_putObj hrow _ c aa,hnil,b.trans (belowK_b (w:=w) (b7 _) W D _ _ (by simp at o;omega) c aa aa)⟩
 case stop=>simp
open Go.RowKit Go.Shelf Go.Sort Go.Maps
def rG(xs:List Int):List Int:=xs.mergeSort (λx y=>decide (x<=y))
def zG xs:(rG xs).Perm xs:=List.mergeSort_perm _ _
theorem Oc xs:(rG xs).length=xs.length:=(zG xs).length_eq
def Od xs:(rG xs).Pairwise (·<=·):=by have:=List.pairwise_mergeSort (le:=λx y:Int=>decide (x<=y)) (λa b c h1 d=>aG) (λa b=>aG) xs;exact this.imp (λh=>aG)
def apB{l l':List Int}(d:l.Perm l')(h:l.Pairwise (·<=·))(c:l'.Pairwise (·<=·)):l=l':=
 d.eq_of_pairwise (λa b _ _ h1 e=>ad) h c
def axj{xs bV}(a:bV.Perm xs)(b:bV.Pairwise (·<=·)):rG xs=bV:=
 apB ((zG xs).trans a.symm) (Od xs) b
def axi{xs bV}(a:xs.Perm bV):rG xs=rG bV:=axj ((zG bV).trans a.symm) (Od bV)
def collect_in F n (d:F.fn 254) (f:F.fn 312) (g:F.fn 256) (hro:F.round=af) (hn:4<=n) (b' cap) A a (hbytes:a.length*8<=140737488351232) w
 (y5:b'<w.heap.size) (hc0:w.cell? ⟨b',0,af⟩=ab (ae A a.length cap)) (fF:dy w A a):
 rW F n ax 254 #[dS (eu 256) #[] #[ay (ab ⟨b',0,af⟩)]] w λe b=>∃v,e=aB v/\b.ownsRow w.heap.size 3 1 v a.length (a.map (J R))/\(v=ae af 0 0↔a=[])/\vc w.heap.size w b:=by
 have h1:1<=n:=ad;have c:=hid (appendSeq_in F (n -1) f g hro ad b' cap A a hbytes w y5 hc0 fF);clear hc0 fF;refine D6 Tryz.func254 aa d ?_ hro;simp only[ntmps254,iY,jV,mT,qI,qJ,q4,q1,l0,p4];gi_wp2_with (gi_at_call 312;refine(c.out).mono ?_;rintro e w' ⟨v,rfl,hrow,hnil,hb⟩);go_ret;exact⟨v,aa,hrow,hnil,hb⟩
def UM m:AnyZI.SortsIn ax Tryz.agt mP m:=
 ⟨λblk off cap b W a hblk hsz=>sY.2 (AnyM.slices_Sort_int Tryz.agq blk off cap b W a hblk hsz),
  λp cap W=>sY.2 (AnyM.slices_Sort_int_none Tryz.agq p cap W)⟩
def sorted_in (b' cap) A a (hbytes:a.length*8<=140737488351232) w
 (y5:b'<w.heap.size) (hc0:w.cell? ⟨b',0,af⟩=ab (ae A a.length cap)) (fF:dy w A a):
 rW mP 6 ax 183 #[dS (eu 256) #[] #[ay (ab ⟨b',0,af⟩)]] w λe h=>∃v,e=aB v/\h.ownsRow w.heap.size 3 1 v a.length ((rG a).map encZ)/\vc w.heap.size w h:=by
 have r:=hid (collect_in mP 5 trivial trivial trivial aa ad b' cap A a hbytes w y5 hc0 fF);have l:=λblk off cap C W f hblk hsz=>(UM 5).1 blk off cap C W f hblk hsz;have m:=λp cap W=>(UM 5).2 p cap W;have D:mP.fn 254:=trivial;have hf2:mP.fn 255:=trivial;have s:=hid l;have t:=hid m;clear hc0 fF l m;refine D6 Tryz.func183 aa trivial ?_ aa;simp only[ntmps183,iY,jV,mT,qI,qJ,q4,q1,l0,p4];gi_wp2_with (gi_at_call 254;refine(r.out).mono ?_;rintro e W ⟨v,rfl,hrow,hnil,hb⟩);rcases hrow.2 with⟨rfl,hz⟩|⟨c,i,cur,rfl,hbase,hgb,n,o,q,B⟩;·have z:a=[]:=j8 hz;subst z;have b:rW mP 5 ax 255 #[ae af 0 0] W λe w'=>e=aB (bo #[])/\w'=W:=t.out af 0 W;have g:=hid b;clear b;gi_wp2_with (gi_at_call 255;refine(g.out).mono ?_;rintro e w' ⟨rfl,rfl⟩);go_ret;exact⟨_,aa,by simpa [rG]using hrow,hb⟩
 .have f:Holds encZ W c 0 a.toArray:=holds_of_block_i hgb aG;have u:c<W.heap.size:=(tI.1 hgb).1;have hsz:a.length<4611686018427387904:=ad;have b:rW mP 5 ax 255 #[ae (ab ⟨c,0,af⟩) a.length i] W λe w'=>e=aB (bo #[])/\∃k os,w'=GP (putRow encZ (KW W k) c 0 (a.mergeSort λx y=>decide (x<=y)).toArray) os:=s.out c 0 i a W f u hsz;have g:=hid b;have d:=hid (And.intro hgb (And.intro n (And.intro o q)));clear b f hgb n o q B hrow;gi_wp2_with (gi_at_call 255;refine(g.out).mono ?_;rintro e w' ⟨rfl,F,os,rfl⟩);go_ret;exact⟨_,aa,ownsRow_sorted_i bc hbase d.out.1 d.out.2.1 d.out.2.2.1 d.out.2.2.2,hb.grown (grownBy_sorted_i _) hb.size (λj E=>aG)⟩
def agV A(len cap)w:
 aC ax 184 #[ae A len cap] w λe w'=>e=aB (dS (eu 256) #[] #[ay (ab ⟨w.heap.size,0,af⟩)])/\w.alloc (bp #[ae A len cap] 82)=w':=
 ((sY (n:=2)).1 (ax7 mP 2 trivial aa A len cap w)).mono λ_ _ ⟨h1,a⟩=>⟨h1,a.symm⟩
def q5(w w':aP)(v:aO)(xs:List Int):Prop:=w'.ownsRow w.heap.size 3 1 v xs.length (xs.map (J R))
def q5.form{w w' v xs}(h:q5 w w' v xs):∃A c,v=ae A xs.length c/\dy w' A xs/\xs.length<=c/\c<=eG/\∀b off,A=ab ⟨b,off,af⟩->w.heap.size<=b/\b<w'.heap.size:=by
 have a:=h;rcases h.2 with⟨rfl,hz⟩|⟨g,cap,cur,rfl,hb,j,h1,d,f,i⟩;·grind[dy.nil]
 .exact⟨_,_,aa,dy.ow a,h1,d,λb off e=>aG⟩
def agu(b' cap)A a(hbytes:a.length*8<=140737488351232)w(hc0:w.cell? ⟨b',0,af⟩=ab (ae A a.length cap))(c:dy w A a):
 aC ax 183 #[dS (eu 256) #[] #[ay (ab ⟨b',0,af⟩)]] w λe w'=>∃v,e=aB v/\q5 w w' v (rG a)/\au w w':=
 ((sY (n:=6)).1 (sorted_in b' cap A a hbytes w (vf w _ hc0) hc0 c)).mono λ_ _ ⟨v,h1,d,b⟩=>
  ⟨v,h1,by grind[q5,Oc],av.NI b (b7 _)⟩
theorem HG A c xs x w(hx:dy w A xs)(h1:xs.length<=9223372036854775807):
 aC ax 190 #[ae A xs.length c,J R x] w λe w'=>e=aB (ai (decide (x∈xs)))/\w=w':=by
 rcases l1 xs.length with d|d;·obtain rfl:xs=[]:=j8 d;exact(Any.slices_Contains_int_empty Tryz.adQ A c x w).mono λ_ _ ⟨a,b⟩=>⟨aG,b.symm⟩
 .obtain⟨dX,gr,rfl,c1⟩:=hx d;refine(Any.slices_Contains_int Tryz.adQ dX gr xs.length c xs x w (b7 _) h1 (λj f=>bc)).mono λ_ _ ⟨a,b⟩=>⟨?_,b.symm⟩;grind
def anQ A c xs w(hx:dy w A xs)(h1:xs.length*8<=140737488355328):
 aC ax 380 #[ae A xs.length c] w λe w'=>∃v,e=aB v/\q5 w w' v xs/\au w w':=by
 rcases A with _|a
 .obtain rfl:xs=[]:=by
   rcases l1 xs.length with f|f;·grind
   .obtain⟨_,_,h,_⟩:=hx f;cases h
  exact(Any.slices_Clone_int_nil Tryz.TG 0 c w).mono λ_ _ ⟨a,b⟩=>⟨_,a,b▸BU _ _ _ _,b▸av.refl _ _⟩
 .rcases l1 xs.length with f|f;·obtain rfl:xs=[]:=j8 f;exact(Any.slices_Clone_int_zero Tryz.TG a c w).mono λ_ _ ⟨v,a,b,_,d⟩=>⟨v,a,b,av.NI d (b7 _)⟩
  .obtain⟨dX,gr,e,c1⟩:=hx f;cases e;refine(Any.slices_Clone_int Tryz.TG dX gr xs.length c xs w (b7 _) h1 (λj g=>bc)).mono λ_ _ ⟨v,a,b,_,d⟩=>⟨v,a,?_,av.NI d (b7 _)⟩;rw[ll]at b;exact b
open Go.RowKit Go.Shelf Go.Sort Go.Maps Go.MapKept
open Go.WideElems (rg rg_of)
open Go.WideShapes (sorted_perm)
def agT:aO->Int|.int _ x=>x|_=>0
abbrev EF:aO->Option (DataW Unit×List MemPlace):=λ_=>ab (.nil,[])
def auQ{P k}(hk:P.underlying k=ab (.int R)){w ms a}(h:ee w ms encI cN a):
 ∃D,w.ownsMap P k EF ms a.length D/\(Xk D).Perm (a.map (·.1))/\KH D=a.length:=by
 obtain⟨es,m,hb,j,hz,c,n⟩:=h;have hlen:es.size=a.length:=by have:=congrArg q3 c;simpa using this
 have g:∀e∈es.toList,∃x,e.key=encI x/\cN x:=λe b=>by have:(e.key,e.val)∈es.toList.map (λe=>(e.key,e.val)):=gQ.2 ⟨e,b,aa⟩;grind
 have i:∀e∈es.toList,akd P k EF e=ab (GF R (agT e.key),.nil):=λe b=>by obtain⟨x,hx,l⟩:=g e b;rw[hx];unfold akd;rw[hx,encI,VR hk (Ow l)];rfl
 refine⟨_,⟨es,_,hb,⟨hz,j,λe b=>⟨_,i e b⟩⟩,ad,aa⟩,?_,?_⟩
 .have h1:(es.toList.map (rg P k EF)).map (λp=>_root_.Go.intOf p.1)=a.map (·.1):=by
   have d:(es.toList.map (rg P k EF)).map (λp=>_root_.Go.intOf p.1)=(es.toList.map (λe=>(e.key,e.val))).map (λq=>agT q.1):=by grind[List.map_congr_left,_root_.Go.intOf,rg_of]
   rw[d,c,Ez];rfl
  rw[<-h1];have f:=(sorted_perm (es.toList.map (rg P k EF))).map (λp=>_root_.Go.intOf p.1);exact f
 .grind[KH,length_sorted]
def auP{w ms a}(h:ee w ms encI cN a):
 ∃D,w.ownsMap ax 3 EF ms a.length D/\(Xk D).Perm (a.map (·.1))/\KH D=a.length:=auQ jH h
def TB a w:aC ax 381 #[dP a] w λe w'=>e=aB (dS (eu 388) #[] #[ay (ab ⟨w.heap.size,0,af⟩)])/\w.alloc (bp #[dP a] 467)=w':=by have h:rW mP 5 ax 381 #[dP a] w λe w'=>e=aB (dS (eu 388) #[] #[ay (ab ⟨w.heap.size,0,af⟩)])/\w'=w.alloc (bp #[dP a] 467):=AnyZI.keys_in Tryz.adK mP 5 trivial aa a w;exact((sY (n:=5)).1 h).mono λ_ _ ⟨h1,b⟩=>⟨h1,b.symm⟩
def axp(fc ms)a(hbytes:a.length*8<=140737488351232)w(hc:w.cell? ⟨fc,0,af⟩=ab (dP (ab ms)))(h:ee w ms encI cN a):
 aC ax 183 #[dS (eu 388) #[] #[ay (ab ⟨fc,0,af⟩)]] w λe w'=>∃v,e=aB v/\q5 w w' v (rG (a.map (·.1)))/\au w w':=by
 obtain⟨D,hown,d,hsz⟩:=auP h
 have hseq:SeqGives mP 3 ax 388 #[ay (ab ⟨fc,0,af⟩)] encZ (λb=>b.Perm (Xk D)) (KH D) w:=
  AnyZI.keys_gives (ρ:=Tryz.adL) {Tryz.adK with} mP _ trivial aa ad fc ms a.length D _ (vf w _ hc) hc hown;have c:=AnyZI.sorted_in Tryz.axo mP 6 trivial trivial trivial trivial aa ad (UM _) (lG Tryz.func255 aw aa) 388 #[ay (ab ⟨fc,0,af⟩)] trivial (lG Tryz.func388 aw aa) _ (KH D) (by grind[eG]) ad w hseq;refine((sY (n:=6)).1 (show rW mP 6 ax 183 _ _ _ from c)).mono λe w'=>?_;rintro⟨v,b,rfl,hS,hrow,_,hb⟩;refine⟨v,aa,?_,av.NI hb (b7 _)⟩;have h1:rG (a.map (·.1))=rG b:=axi ((hS.trans d).symm);unfold q5;rw[h1,Oc];exact hrow
def I7{E u x}:x∈succ E u↔(u,x)∈E:=by unfold succ;simp only[gQ,nz,decide_eq_true_eq];simp
def atE{E u x}:u∈pred E x↔(u,x)∈E:=by unfold pred;simp only[gQ,nz,decide_eq_true_eq];simp
inductive Path (E:List (Int×Int)) (v:Int):Int->Prop where
 |one {x:Int} (h:(v,x)∈E):Path E v x
 |more {x y:Int} (h:Path E v x) (e:(x,y)∈E):Path E v y
def Yl(E:List (Int×Int))(v:Int)(xs:List Int):Prop:=xs.Pairwise (·<·)/\∀x,x∈xs↔Path E v x
def Dl{xs:List Int}(h:xs.Pairwise (·<·)):xs.Nodup:=h.imp (λh=>ad)
def aaf{xs bV:List Int}(hx:xs.Pairwise (·<·))(c:bV.Pairwise (·<·))(h:∀x,x∈xs↔x∈bV):xs=bV:=
 ((List.perm_ext_iff_of_nodup (Dl hx) (Dl c)).2 h).eq_of_pairwise (λa b _ _ h1 d=>ad) hx c
structure tK (E:List (Int×Int)) (v:Int) (seen stack:List Int):Prop where
 A7:seen.Nodup
 path:∀x,x∈seen\/x∈stack->Path E v x
 first:∀y∈succ E v,y∈seen\/y∈stack
 closed:∀s∈seen,∀y∈succ E s,y∈seen\/y∈stack
def tK.start E v:tK E v [] (succ E v):=
 ⟨bc,λx h=>by rcases h with h|h;cases h;exact .one (I7.1 h),λy h=>cc h,λ_ h=>aG⟩
def tK.skip{E v x seen st}(h:tK E v seen (st++[x]))(hx:x∈seen):tK E v seen st:=by
 have key:∀y,y∈seen\/y∈st++[x]->y∈seen\/y∈st:=λy a=>by grind
 exact⟨h.A7,λy a=>h.path y (a.imp id (λa=>Cg _ a)),λy a=>key y (h.first y a),λs b y a=>key y (h.closed s b y a)⟩
def tK.visit{E v x seen st}(h:tK E v seen (st++[x]))(hx:x∉seen):tK E v (seen++[x]) (st++succ E x):=by
 have f:Path E v x:=h.path x (cc bc);have key:∀y,y∈seen\/y∈st++[x]->y∈seen++[x]\/y∈st++succ E x:=λy c=>by grind
 refine⟨yI.2 ⟨h.A7,bc,λa g b hb e=>?_⟩,λy c=>?_,λy c=>key y (h.first y c),λs d y c=>?_⟩;·grind
 .rcases c with c|c
  .rcases iX.1 c with c|c;·exact h.path y (bZ c)
   .grind
  .rcases iX.1 c with c|c;·exact h.path y (cc (Cg _ c))
   .exact .more f (I7.1 c)
 .rcases iX.1 d with d|d;·exact key y (h.closed s d y c)
  grind
def tK.done{E v seen}(h:tK E v seen [])x:x∈seen↔Path E v x:=by
 refine⟨λhx=>h.path x (bZ hx),λp=>?_⟩;induction p with
 |one e=>
  rcases h.first _ (I7.2 e)with h|h;·omega
  .grind
 |more _ e a=>
  rcases h.closed _ a _ (I7.2 e)with h|h;·omega
  .grind
def gv(n:Nat):List Int:=(dU n).map (λi:Nat=>(i:Int))
theorem A6{n x}:x∈gv n↔0<=x/\x<n:=by
 unfold gv;simp;constructor;·omega
 .rintro⟨h0,h1⟩;exact⟨x.toNat,ad,ad⟩
def JL n:(gv n).Pairwise (·<·):=by unfold gv;rw[List.pairwise_map];exact List.pairwise_lt_range.imp (λh=>ad)
def FN{n:Nat}{xs:List Int}(hn:xs.Nodup)(h:∀x∈xs,0<=x/\x<n):xs.length<=n:=by have:=hn.length_le_of_subset (l₂:=gv n) (λx hx=>A6.2 (h x hx));simpa [gv]using this
def Bb{E n}(a:∀e∈E,(0<=e.1/\e.1<n)/\(0<=e.2/\e.2<n)/\e.1≠e.2){v x}(p:Path E v x):0<=x/\x<n:=by
 cases p with
 |one e=>grind
 |more _ e=>grind
def aoT{n s t m L}(b:s<n)(a:m<=L):(n -(s+1))*(L+1)+(t+m)<(n -s)*(L+1)+(t+1):=by
 have:(n -s)*(L+1)=(n -(s+1))*(L+1)+(L+1):=by rw[<-Nat.succ_mul];congr 1;omega
 omega
def Ge{t fr}g:∀(b) o (w:aP) cur,w.heap[g]?=ab (bp cur t fr)->
 ∃a,(w.setCells g o b).heap[g]?=ab (bp a t fr)/\a.size=cur.size/\∀j,a[j]?=if o<=j/\j<o+b.length/\j<cur.size then b[j -o]? else cur[j]?
 |[],o,w,cur,h=>⟨cur,h,rfl,λj=>aG⟩
 |v::r,o,w,cur,h=>by
  have h1:(w.setCell ⟨g,o,af⟩ v).heap[g]?=ab (bp (cur.setIfInBounds o v) t fr):=by grind[World.setCell]
  obtain⟨a,c,e,d⟩:=Ge g r (o+1) _ _ h1;refine⟨a,c,aG,λj=>?_⟩;rw[d j,Array.getElem?_setIfInBounds];grind[Nat.le_of_not_lt]
def _root_.Go.Proofs.YtcmhplknoglbkaaGreat.av.setCells w(g o)a:av (λk=>k=g) w (w.setCells g o a):=by
 induction a generalizing o w with
 |nil=>exact av.refl _ _
 |cons v r b=>exact(av.setCell (F:=λk=>k=g) w (p:=_) aa v).trans (b _ _) (λ_ _ h=>h)
def e9(w:aP)(base:Nat)(v:aO)(xs:List Int):Prop:=∃A c,v=ae A xs.length c/\((A=af/\xs=[]/\c=0)\/
 ∃g off cur,A=ab ⟨g,off,af⟩/\base<=g/\w.heap[g]?=ab (bp cur 3 (0,0))/\xs.length<=c/\c<=eG/\off+c<=cur.size/\∀j,j<xs.length->cur[off+j]?=ab (J R (xs[j]?.getD 0)))
theorem e9.ow{w base v n xs}(h:w.ownsRow base 3 1 v n (xs.map (J R))):e9 w base v xs:=by
 have hn:xs.length=n:=by simpa using h.1
 subst hn;rcases h.2 with⟨rfl,a⟩|⟨g,cap,cur,rfl,hb,c,h1,b,f,i⟩;·obtain rfl:=j8 a;exact⟨_,0,aa,bZ ⟨aa,aa,aa⟩⟩
 .refine⟨_,cap,aa,cc ⟨g,0,cur,rfl,hb,c,h1,b,ad,λj d=>?_⟩⟩;have e:(cur.toList.take (xs.length*1))[j]?=ab (J R xs[j]):=aG;rw[q2,if_pos ad]at e;simpa [d]using e
def e9.only{F w w' base v xs}(h:e9 w base v xs)(k:av F w w')(hn:∀g,v.ownBlock=ab g->¬F g):e9 w' base v xs:=by obtain⟨A,c,rfl,h⟩:=h;refine⟨A,c,aa,h.imp id ?_⟩;rintro⟨g,off,cur,rfl,h1,h2,r⟩;exact⟨g,_,_,aa,h1,k.heap h2 (hn g aa),r⟩
def e9.lt{w base v xs}(h:e9 w base v xs){g}(a:v.ownBlock=ab g):base<=g/\g<w.heap.size:=by
 obtain⟨A,c,rfl,⟨rfl,_⟩|⟨d,off,cur,rfl,h1,b,r⟩⟩:=h;·cases a
 .cases a;exact⟨h1,(tI.1 b).1⟩
def e9.lA{w base c A xs}(h:e9 w base (ae A xs.length c) xs):dy w A xs:=λl=>by
 obtain⟨a,b,e,⟨rfl,rfl,_⟩|⟨g,off,cur,rfl,h1,d,f,i,j,k⟩⟩:=h;·grind
 grind[fH]
def e9.form{w base v xs}(h:e9 w base v xs):∃A c,v=ae A xs.length c/\xs.length<=c/\c<=maxLen:=by
 obtain⟨A,c,rfl,⟨_,rfl,rfl⟩|⟨g,off,cur,rfl,h1,a,b,d,r⟩⟩:=h;·grind
 .grind
def e9.tail{w base n c A x xs}(h:e9 w base (ae A n c) (x::xs)):∃g off,A=ab ⟨g,off,af⟩/\n=xs.length+1/\xs.length+1<=c/\c<=eG/\w.cell? ⟨g,off,af⟩=ab (J R x)/\
 e9 w base (ae (ab ⟨g,off+1,af⟩) xs.length (c -1)) xs/\(xs=[]->e9 w base (ae (ab ⟨g,off,af⟩) xs.length (c -1)) xs):=by
 obtain⟨k,l,e,⟨rfl,m,_⟩|⟨g,off,cur,rfl,h1,a,b,f,o,d⟩⟩:=h;·grind
 .injection e with bF cq fC;subst bF cq fC;simp at b d;refine⟨g,off,aa,aa,b,f,?_,⟨_,_,aa,cc ⟨g,off+1,cur,rfl,h1,a,ad,ad,ad,λj i=>?_⟩⟩,?_⟩;·rw[fH w g _ _ _ _ a];simpa using d 0 ad
  .grind
  .rintro rfl;exact⟨_,_,aa,cc ⟨g,off,cur,aa,h1,a,cB _,ad,ad,λj i=>aG⟩⟩
def uN(xs:List Int)(i:Nat)(x:Int):List Int:=xs.take i++x::xs.drop i
def asq{xs i}x(hi:i<=xs.length):(uN xs i x).length=xs.length+1:=by grind[uN]
theorem Nh{xs i}x(hi:i<=xs.length)j:(uN xs i x)[j]?=if j<i then xs[j]? else if j=i then ab x else xs[j -1]?:=by grind[uN]
theorem Vj n:(ns (J R 0).cells n).size=n:=by simp[ns,PJ]
def ast base v xs i x d w(z:e9 w base v xs)(hi:i<=xs.length)(O:w.heap[d]?=ab (bp #[J R x] 3 (0,0)))(hne:∀g,v.ownBlock=ab g->g≠d)(W:xs.length<=1048576)(hbase:base<=w.heap.size):
 aC ax 306 #[v,J R i,ae (ab ⟨d,0,af⟩) 1 1] w λe w'=>∃v',e=aB v'/\e9 w' base v' (uN xs i x)/\av (λk=>v.ownBlock=ab k) w w'/\(v'.ownBlock=v.ownBlock\/∃k,v'.ownBlock=ab k/\w.heap.size<=k):=by
 obtain⟨A,c,rfl,z⟩:=z;have hlen:=asq x hi
 have p:∀(j:Nat) (u:aO),[J R x][j]?=ab u->w.cell? ⟨d,0+j,af⟩=ab u:=λj u N=>by
  rw[fH w d _ _ _ _ O];cases j with
  |zero=>grind
  |succ j=>grind
 have l:∀u∈[J R x],u.oneCell'=true:=by simp[zV]
 have B:(xs.map (J R)).length=xs.length:=bc;have G:=T4 xs;have L:∀j,j<xs.length->(xs.map (J R))[j]?=ab (J R (xs[j]?.getD 0)):=λj b=>by grind
 have X:∀j,j<xs.length+1->∃y,(uN xs i x)[j]?=ab y:=λj b=>⟨_,cF ad⟩;rcases z with⟨rfl,rfl,rfl⟩|⟨g,off,cur,rfl,hb,C,h1,H,T,U⟩
 .obtain rfl:i=0:=aG;refine(aid Tryz.I3 af 0 0 d 0 1 1 [] [J R x] w ad (b7 _) ad ad aa aa (λ_=>aa) (λa h=>bc) p l).mono ?_;rintro e w' ⟨rfl,rfl⟩;have D:=zZ w (0+1) 0 3;have m:=z1 w (0+1) 0 3 (by grind[eG]);refine⟨_,aa,⟨_,_,aa,cc ⟨w.heap.size,0,_,aa,hbase,fO w.drew _,D,m,?_,λj b=>?_⟩⟩,?_,cc ⟨_,aa,b7 _⟩⟩;·grind[Vj]
  .grind[uN]
  .exact(av.drew w).trans (av.alloc _ _) (λ_ _ h=>h)
 .have hcs:∀(j:Nat) (u:aO),(xs.map (J R))[j]?=ab u->w.cell? ⟨g,off+j,af⟩=ab u:=λj u N=>by grind[fH]
  have K:∀j,w.frozen? ⟨g,j,af⟩=false:=λj=>by grind[wK]
  have I:∀j,w.frozen? ⟨d,j,af⟩=false:=λj=>by grind[wK]
  have hsp:∀j,j<c->(w.cell? ⟨g,off+j,af⟩).isSome=true:=λj b=>by rw[fH w g _ _ _ _ C];simp;omega
  have M:d≠g:=λe=>hne g aa e.symm;by_cases hroom:xs.length+1<=c
  .by_cases E:i<xs.length
   .refine(Any2.slices_Insert_int_shift Tryz.I3 g off xs.length c i d 0 1 1 (xs.map (J R)) [J R x] w E ad hroom (by grind[eG]) M B aa hcs (λj b=>hsp j ad) (λj _=>K _) p G l 3 3 1 cur.size
     (by grind[Xh]) (by grind[Xh]) ad (I _) (I _)).mono ?_;rintro e w' ⟨rfl,rfl⟩;obtain⟨q,r,F,s⟩:=Ge g ((xs.map (J R)).drop i) (off+(i+1)) w.drew cur C;obtain⟨f,dX,dY,pr⟩:=Ge g [J R x] (off+i) _ q r;refine⟨_,aa,⟨_,c,aG,cc ⟨g,off,f,rfl,hb,dX,ad,H,ad,λj b=>?_⟩⟩,?_,bZ aa⟩
    .rw[hlen]at b;rw[pr,s,Nh x hi];simp only[jV,mT,s9,hM];by_cases o:j<i;·grind
     .by_cases n:j=i;·subst n;rw[if_pos ad,if_neg ad,if_pos aa];simp
      .rw[if_neg ad,if_pos ad,if_neg o,if_neg n,vv,show i+(off+j -(off+(i+1)))=j -1 by omega];exact L _ ad
    .exact((av.drew w).trans (av.setCells _ g _ _) (λ_ _ h=>by rw[h];rfl)).trans (av.setCells _ g _ _) (λ_ _ h=>by rw[h];rfl)
   .obtain rfl:i=xs.length:=ad;refine(Any2.slices_Insert_int_end_room Tryz.I3 g off xs.length c d 0 1 1 [J R x] w ad hroom (by grind[eG]) aa (λj b=>aG) (λj _=>K _) p l).mono ?_;rintro e w' ⟨rfl,rfl⟩;obtain⟨f,dX,dY,pr⟩:=Ge g [J R x] (off+xs.length) w cur C;refine⟨_,aa,⟨_,c,aG,cc ⟨g,off,f,rfl,hb,dX,ad,H,ad,λj b=>?_⟩⟩,?_,bZ aa⟩;·grind[Nh]
    .exact(av.setCells w g _ _).mono (λ_ _ h=>by rw[h];rfl)
  .have V:c=xs.length:=ad;by_cases E:i<xs.length
   .refine(Any2.slices_Insert_int_grow Tryz.I3 g off _ c i d 0 1 1 _ _ w E ad h1 ad ad B aa hcs p G l).mono ?_;rintro e w' ⟨rfl,rfl⟩;have D:=zZ w (xs.length+1) c 3;have m:=z1 w (xs.length+1) c 3 (by grind[eG]);obtain⟨q,r,F,s⟩:=Ge w.heap.size [J R x] i (w.alloc (bp (((xs.map (J R)).take i).toArray++ns (J R 0).cells (xs.length+1 -i)++ns (J R 0).cells (ym w (xs.length+1) c 3 -(xs.length+1))) 3)).drew _ (fO w _);obtain⟨f,dX,dY,pr⟩:=Ge w.heap.size ((xs.map (J R)).drop i) (i+1) (((w.alloc (bp (((xs.map (J R)).take i).toArray++ns (J R 0).cells (xs.length+1 -i)++ns (J R 0).cells (ym w (xs.length+1) c 3 -(xs.length+1))) 3)).drew.setCells w.heap.size i [J R x]).drew) q r;have hsz:q.size=ym w (xs.length+1) c 3:=by grind[Vj]
    refine⟨_,aa,⟨_,_,by rw[hlen];rfl,cc ⟨w.heap.size,0,f,rfl,hbase,dX,ad,m,ad,λj b=>?_⟩⟩,?_,cc ⟨_,aa,b7 _⟩⟩
    .rw[hlen]at b;rw[pr,s,Nh x hi,js,<-F,hsz];simp only[jV,mT,s9,hM];by_cases o:j<i;·rw[if_neg ad,if_neg ad,if_pos o,Kp (by simp;omega),Kp (by simp;omega)];grind
     .by_cases n:j=i;·subst n;rw[if_neg ad,if_pos ad,if_neg o,if_pos aa];simp
      .rw[if_pos ad,if_neg o,if_neg n,vv,show i+(j -(i+1))=j -1 by omega];exact L _ ad
    .have P:=(au.trans (av.alloc w (bp (((xs.map (J R)).take i).toArray++ns (J R 0).cells (xs.length+1 -i)++ns (J R 0).cells (ym w (xs.length+1) c 3 -(xs.length+1))) 3)) (av.drew _));have Q:av (λk=>k=w.heap.size) w _:=(au.to P).trans (av.setCells _ w.heap.size i [J R x]) (λ_ _ h=>h);have S:=(Q.trans (av.drew _) (λ_ _ h=>h)).trans (av.setCells _ w.heap.size (i+1) ((xs.map (J R)).drop i)) (λ_ _ h=>h);exact S.mono (λk hk e=>ad)
   .obtain rfl:i=xs.length:=ad;refine(aid Tryz.I3 (ab ⟨g,off,af⟩) xs.length c d 0 1 1 (xs.map (J R)) [J R x] w ad h1 ad ad B aa (λh=>aG) (λa h=>by grind[mW]) p l).mono ?_;rintro e w' ⟨rfl,rfl⟩;have D:=zZ w (xs.length+1) c 3;have m:=z1 w (xs.length+1) c 3 (by grind[eG]);refine⟨_,aa,⟨_,_,by rw[hlen];rfl,cc ⟨w.heap.size,0,_,aa,hbase,fO w.drew _,ad,m,?_,λj b=>?_⟩⟩,?_,cc ⟨_,aa,b7 _⟩⟩;·simp[Vj,show Tryz.adS.t 3=3 from aa];omega
    .rw[hlen]at b;rw[Nh x hi,js,Kp aG];grind
    .exact(av.drew w).trans (av.alloc _ _) (λ_ _ h=>h)
def N' A c xs x w(hx:dy w A xs)(f:xs.Pairwise (·<=·))(h1:xs.length<=1048576):
 aC ax 305 #[ae A xs.length c,J R x] w λe w'=>∃r,e=aB (bo #[J R (xs.countP (·<x):Nat),ai r])/\∃q,w'=w.drewN q:=by
 rcases l1 xs.length with a|a;·obtain rfl:=j8 a;refine(Any.slices_BinarySearch_int_empty Tryz.adT A c x w).mono ?_;rintro e w' ⟨rfl,rfl⟩;exact⟨_,aa,0,aa⟩
 .obtain⟨b,off,rfl,hc⟩:=hx a;refine(Any.slices_BinarySearch_int Tryz.adT b off xs.length c xs x w (b7 _) ad (λj d=>bc) aG).mono ?_;grind
open Go.ChangeMaps (setBlock heap_setBlock_same heap_setBlock_other)
open Go.Maps (Keyed)
section
variable {fx:Type} [DecidableEq fx] {P:Program} {k:TypeId} {enc:fx->aO} {ok:fx->Prop} {w w':aP} {b r:Nat} {bq:List (fx×aO)} {left:List fx}
def Over(w:aP)(b r:Nat)(enc:fx->aO)(ok:fx->Prop)(bq:List (fx×aO))(left:List fx):Prop:=
 ee w b enc ok bq/\left.Nodup/\(∀x∈left,∃v,en bq x=ab v)/\∃es a since seen b0,w.heap[b]?=ab (iT es a)/\w.heap[r]?=ab (KI (ab b) since seen b0)/\
  (∀x∈es.toList,x.born<since)/\since<=b0/\since<=a/\(BV es seen).toList.map (·.key)=left.map enc
def Over.aed(h:Over w b r enc ok bq left):ee w b enc ok bq:=h.1
def Over.left_eq(h:Over w b r enc ok bq left):w.rangeLeft b r=left.length:=by obtain⟨_,_,_,es,c,since,seen,b0,hb,hr,_,_,_,a⟩:=h;simp only[World.rangeLeft,hb,hr];simpa using congrArg q3 a
def Nl{left:List fx}(hn:left.Nodup){x}(hx:x∈left):left.Perm (x::left.filter (λy=>!decide (y=x))):=aG
def Over.only{F}(h:Over w b r enc ok bq left)(k:av F w w')(hb:¬F b)(hr:¬F r):Over w' b r enc ok bq left:=by obtain⟨h1,a,c,es,f,since,seen,b0,d,e,rest⟩:=h;exact⟨h1.only k hb,a,c,es,_,_,_,b0,k.heap d hb,k.heap e hr,rest⟩
omit [DecidableEq fx]in
def asS{es:Array Pd}(a:es.toList.map (λe=>(e.key,e.val))=bq.map (λp=>(enc p.1,p.2))):es.toList.map (·.key)=(bq.map (·.1)).map enc:=by have:=congrArg (List.map Prod.fst) a;simpa [Ez,Kz]using this
def _root_.Go.Proofs.YtcmhplknoglbkaaGreat.ee.range{t e}(j:P.underlying t=ab (wJ k e))(h:ee w b enc ok bq):
 ∃w',(Instr.range t (dP (ab b))).run P w=bf (ay (ab ⟨w.heap.size,0,af⟩)) w'/\Over w' b w.heap.size enc ok bq (bq.map (·.1))/\au w w'/\w'.heap.size=w.heap.size+1:=by
 have c:=h;have f:=h.nodup;have hlt:=h.lt;obtain⟨es,a,hb,i,hz,d,l⟩:=h;refine⟨_,run_range_map w t k e b es a j hb,⟨c.only (av.alloc (F:=λ_=>False) _ _) (λh=>h),?_,λx hx=>?_,es,a,a,#[],a,((VQ w _).2 b hlt).trans hb,(VQ w _).1,((Pe es a).1 i).1,b7 _,b7 _,?_⟩,av.alloc _ _,bc⟩;·grind
 .obtain⟨p,g,rfl⟩:=gQ.1 hx;exact⟨_,xC f g⟩
 .have:BV es #[]=es:=by simp[BV]
  rw[this];exact asS d
def apX{l:List Pd}{f}:(l.filter (λe=>f e.key)).map (·.key)=(l.map (·.key)).filter f:=by rw[QZ];rfl
def Over.next(C:sT P k enc ok)(h:Over w b r enc ok bq left)ty:
 (left=[]/\(Instr.next (ay (ab ⟨r,0,af⟩)) ao ty).run P w=bf (bo #[ai ao]) w)\/
 ∃x v w',x∈left/\en bq x=ab v/\(Instr.next (ay (ab ⟨r,0,af⟩)) ao ty).run P w=bf (bo #[ai az,enc x,v]) w'/\
  Over w' b r enc ok bq (left.filter (λy=>!decide (y=x)))/\av (λi=>i=r) w w'/\w'.heap.size=w.heap.size/\(ah6 (ay (ab ⟨r,0,af⟩))).run P w'=bf (bo #[enc x,v]) w':=by
 classical
 obtain⟨l,G,E,es,a,since,seen,b0,hb,hr,hold,hsc,hsk,d⟩:=h;have hne:r≠b:=aG;have A:=l;obtain⟨u,t,hb',I,hz,B,L⟩:=A;rw[hb]at hb';obtain⟨rfl,rfl⟩:es=u/\a=t:=aG;rcases run_next_at (P:=P) w ty r b since b0 seen es a hr hb hold hsc with⟨K,hrun⟩|⟨e,m,w1,c,hrun⟩;·refine bZ ⟨?_,hrun⟩;have h1:(BV es seen).toList=[]:=aG;rw[h1]at d;simpa using d.symm
 .obtain⟨n,hes⟩:=mem_left m;have F:e.key∈left.map enc:=d▸gQ.2 ⟨e,m,aa⟩;obtain⟨x,hx,j⟩:=gQ.1 F;have H:(e.key,e.val)∈bq.map (λp=>(enc p.1,p.2)):=B▸gQ.2 ⟨e,n,aa⟩;obtain⟨p,M,o⟩:=gQ.1 H;simp only[Prod.mk.injEq]at o;have N:p.1=x:=C.inj (o.1.trans j.symm);have D:en bq x=ab e.val:=xC l.nodup aG;have hr1:w1.heap[r]?=ab (KI (ab b) since seen b0):=by rcases c with rfl|rfl<;>exact hr
  have hb1:w1.heap[b]?=ab (iT es a):=by rcases c with rfl|rfl<;>exact hb
  have g:=heap_set (o':=KI (ab b) since (seen.push e.born) a) hr1;have hb2:(la w1 r (KI (ab b) since (seen.push e.born) a)).heap[b]?=ab (iT es a):=(g.2 b (λbF=>hne bF.symm)).trans hb1
  have s:av (λi=>i=r) w (la w1 r (KI (ab b) since (seen.push e.born) a)):=by rcases c with rfl|rfl<;>exact⟨aa,aa,aa,by simp[la],λi _ hi=>g.2 i hi⟩
  have hst:=(Pe es a).1 I;rw[<-j]at hrun;refine cc ⟨x,_,_,hx,D,hrun,⟨l.only s (λbF=>hne bF.symm),G.filter _,λy J=>E y (nz.1 J).1,es,_,_,_,_,hb2,g.1,hold,hsk,hsk,?_⟩,s,?_,?_⟩
  .have bF:(BV es (seen.push e.born)).toList=(BV es seen).toList.filter (λz=>!decide (z.key=e.key)):=by unfold BV;rw[ahH,ahH,List.filter_filter];refine Ev (λz hz=>?_);grind[entry_eq_of_key,born_inj]
   rw[bF,apX (f:=λkey=>!decide (key=e.key)),d,QZ];refine congrArg (List.map enc) (Ev (λy _=>?_));simp only[Kz,<-j];by_cases q:y=x;·grind
   .have:¬enc y=enc x:=λh=>q (C.inj h);simp[q,this]
  .rcases c with rfl|rfl<;>simp[la]
  .rw[j];exact run_entry_at _ r b _ _ es _ e g.1 hb2 n hst.2.1
theorem aaq{e f:Type}{p}{g:e->f}{x y}:∀{l:List e} {j},l[j]?=ab x->p y=p x->g y=g x->((l.set j y).filter p).map g=(l.filter p).map g
 |[],_,h,_,_=>by rfl
 |a::l,0,h,c,b=>by grind
 |a::l,j+1,h,c,b=>by
  have d:=aaq (l:=l) (j:=j) (by simpa using h) c b;rw[List.set_cons_succ,Hm,Hm];split;·rw[kj,kj,d]
  .exact d
def Over.put{t e}(C:sT P k enc ok)(J:P.underlying t=ab (wJ k e))(h:Over w b r enc ok bq left){x}(hx:ok x)(F:∃v,en bq x=ab v)v:
 ∃w',(DZ t (dP (ab b)) (enc x) v).run P w=bf () w'/\Over w' b r enc ok (kc bq x v) left/\av (λi=>i=b) w w'/\w'.heap.size=w.heap.size:=by
 obtain⟨c,H,hall,es,f,since,seen,b0,hb,hr,hold,hsc,hsk,O⟩:=h;have hne:r≠b:=aG;obtain⟨Q,hlx⟩:=C.reads hx;have u:∀p∈bq,ok p.1:=by obtain⟨_,_,_,_,_,_,u⟩:=c;exact u
 have hzz:es.size<=maxLen:=by obtain⟨m,g,hb',_,hz,_⟩:=c;grind
 obtain⟨m,g,hb',I,hsz,B,D⟩:=c.find C hx;rw[hb]at hb';obtain⟨rfl,rfl⟩:es=m/\f=g:=aG;obtain⟨R,hv0⟩:=F;rcases D with⟨h1,n,o⟩|⟨j,dM,h1,n,o,M,A⟩;·grind
 .have hh:sx bq x=true:=by grind[I9]
  have G:∀a,es[j]?=ab a->({a with key:=enc x,val:=v}:Pd).key=a.key:=λa q=>by grind
  have N:es.toList[j]?=ab dM:=aG;have K:(es.modify j (λa=>{a with key:=enc x,val:=v})).toList=es.toList.set j {dM with key:=enc x,val:=v}:=by grind[ah1]
  refine⟨la w b (iT (es.modify j (λa=>{a with key:=enc x,val:=v})) f),?_,⟨⟨_,_,DX hb _,stamped_modify I _ _ (λ_ _=>aa) (λa _ q=>G a q),aG,?_,?_⟩,H,λy L=>?_,
   _,_,since,seen,b0,DX hb _,(DW hb _ hne).trans hr,λy L=>?_,hsc,hsk,?_⟩,⟨aa,aa,aa,by simp[la],λi _ hi=>DW hb _ hi⟩,by simp[la]⟩;·simp[DZ,gO J,zS hb,C.keyed.check w ao hlx,h1,n,o,C.keyed.stays w hlx,GH _ hb,la]
  .rw[K,List.map_set,B];unfold kc;rw[if_pos hh];apply List.ext_getElem?;intro i;rw[List.getElem?_set,jU,jU,jU];by_cases s:j=i;·grind
   .rw[if_neg s];cases hi:bq[i]? with
    |none=>rfl
    |some p=>
     have hne:p.1≠x:=λl=>by
      have li:=(eM.1 hi);have d:=(eM.1 A);rcases Nat.lt_or_gt_of_ne s with hlt|E;·have:=mv.1 c.nodup j i d.1 li.1 hlt;rw[d.2,li.2]at this;exact this l.symm
      .have:=mv.1 c.nodup i j li.1 d.1 E;rw[d.2,li.2]at this;exact this l
     simp[hne]
  .intro p z;rcases A5 z with rfl|⟨z,_⟩;·omega
   .grind
  .grind[TQ]
  .grind
  .grind[BV,aaq]
def TM{b c:Type}(f:b->c):∀(l:List b) j,(l.eraseIdx j).map f=(l.map f).eraseIdx j
 |[],_=>aa
 |_::_,0=>aa
 |a::l,j+1=>by simp[TM f l j]
def aee{x:fx}{v}:∀{bq j},bq.Pairwise (λp q=>p.1≠q.1)->bq[j]?=ab (x,v)->A3 bq x=bq.eraseIdx j
 |[],_,_,h=>by rfl
 |p::r,0,a,h=>by obtain rfl:p=(x,v):=aG;obtain⟨h1,_⟩:=wX.1 a;unfold A3;grind[Aj]
 |p::r,j+1,a,h=>by
  obtain⟨h1,c⟩:=wX.1 a;have hr:r[j]?=ab (x,v):=by simpa using h
  have d:p.1≠x:=h1 _ (cW hr);have b:=aee c hr;unfold A3 at b⊢;rw[Hm];simp[d,b]
theorem aef{x:fx}{bq}(h:en bq x=af):A3 bq x=bq:=
 Aj.2 (λq a=>by grind[Nz])
def _root_.Go.Proofs.YtcmhplknoglbkaaGreat.ee.drop{t e ty}(C:sT P k enc ok)(g:P.underlying t=ab (wJ k e))(h:ee w b enc ok bq){x}(hx:ok x):
 ∃w',(VK #[t,k] ty #[dP (ab b),enc x]).run P w=bf (bo #[]) w'/\ee w' b enc ok (A3 bq x)/\w.grownBy w' (ab b)/\w'.heap.size=w.heap.size:=by
 obtain⟨D,hlx⟩:=C.reads hx;have u:=h.nodup;have c:∀p∈bq,ok p.1:=by obtain⟨_,_,_,_,_,_,c⟩:=h;exact c
 have hzz:∃es a,w.heap[b]?=ab (iT es a)/\es.size<=maxLen:=by obtain⟨A,z,hb',_,hz,_⟩:=h;exact⟨_,_,hb',hz⟩
 obtain⟨m,l,hb0,hz0⟩:=hzz;obtain⟨es,a,hb,f,hsz,q,r⟩:=h.find C hx;rw[hb]at hb0;obtain⟨rfl,rfl⟩:es=m/\a=l:=aG;rcases r with⟨h1,d,n⟩|⟨j,dM,h1,d,n,B,o⟩
 .refine⟨_,?_,⟨es,_,DX hb _,f,hz0,?_,?_⟩,⟨aa,aa,aa,by simp[la],λi _ hi=>DW hb _ (λe=>hi (by rw[e]))⟩,by simp[la]⟩;·simp[VK,gO g,zS hb,C.keyed.check w _ hlx,h1,GH _ hb,la]
  .grind[aef]
  .grind[aef]
 .have s:j<es.size:=(tI.1 d).1
  have y:(es.eraseIdxIfInBounds j).toList=es.toList.eraseIdx j:=by unfold Array.eraseIdxIfInBounds;rw[dif_pos s];simp
  refine⟨_,?_,⟨_,_,DX hb _,stamped_erase f j,Nat.le_trans (MapFrom.size_erase es j) hz0,?_,?_⟩,⟨aa,aa,aa,by simp[la],λi _ hi=>DW hb _ (λe=>hi (by rw[e]))⟩,by simp[la]⟩;·simp[VK,gO g,zS hb,C.keyed.check w _ hlx,h1,GH _ hb,la]
  .rw[y,TM,q,aee u o,TM]
  .intro p v;exact c p (nz.1 v).1
section
variable {ops:Array Oper} {rest:List Oper} {o:Oper} {a:Act} {Q:Exit->Act->aP->Prop}
def ag5 (c:o.guard=af) m (t e) (hop:o.op=Op.range t m) (f:P.underlying t=ab (wJ k e)) (h:ee w b enc ok bq) (d:a.eval m=dP (ab b))
 (hK:∀w',Over w' b w.heap.size enc ok bq (bq.map (·.1))->au w w'->w'.heap.size=w.heap.size+1->cQ P ops Q rest (a.put o.dst (ay (ab ⟨w.heap.size,0,af⟩))) w'):cQ P ops Q (o::rest) a w:=by
 refine D9 c λl hK'=>?_;obtain⟨w',hrun,g,i,j⟩:=h.range f;unfold iy;simp[bz,hop,d,hrun];exact hK' _ _ (hK w' g i j)
def ag6 (e:o.guard=af) c (hop:o.op=Op.next c ao) (C:sT P k enc ok) (hit:a.eval c=ay (ab ⟨r,0,af⟩)) (h:Over w b r enc ok bq left)
 (aqr:left=[]->cQ P ops Q rest (a.put o.dst (bo #[ai ao])) w)
 (aqD:∀x v w',x∈left->en bq x=ab v->Over w' b r enc ok bq (left.filter (λy=>!decide (y=x)))->av (λi=>i=r) w w'->w'.heap.size=w.heap.size->
   (ah6 (ay (ab ⟨r,0,af⟩))).run P w'=bf (bo #[enc x,v]) w'->cQ P ops Q rest (a.put o.dst (bo #[ai az,enc x,v])) w'):cQ P ops Q (o::rest) a w:=by
 refine D9 e λl hK'=>?_;unfold iy;rcases h.next C o.type with⟨d,hrun⟩|⟨x,v,w',hx,hv,hrun,f,g,j,hen⟩;·simp[bz,hop,hit,hrun];exact hK' _ _ (aqr d)
 .simp[bz,hop,hit,hrun];exact hK' _ _ (aqD x v w' hx hv f g j hen)
def ayB {t e} (c:o.guard=af) (m x v) (hop:o.op=Op.mapUpdate t m x v)
 (C:sT P k enc ok) (ht:P.underlying t=ab (wJ k e)) (h:Over w b r enc ok bq left) (hm:a.eval m=dP (ab b)) {y} (hy:ok y) (c4:∃v,en bq y=ab v) (hx:a.eval x=enc y) val (hv:a.eval v=val)
 (hK:∀w',Over w' b r enc ok (kc bq y val) left->av (λi=>i=b) w w'->w'.heap.size=w.heap.size->cQ P ops Q rest (a.put o.dst a1) w'):cQ P ops Q (o::rest) a w:=by
 refine D9 c λj hK'=>?_;obtain⟨w',hrun,d,f,g⟩:=h.put C ht hy c4 val;unfold iy;simp[bz,hop,hm,hx,hv,hrun];exact hK' _ _ (hK w' d f g)
def ayA (c:o.guard=af) (m x) (t e) (hop:o.op=Op.call {callee:=Callee.builtin Builtin.delete,args:=#[m,x],argTypes:=#[t,k]})
 (C:sT P k enc ok) (ht:P.underlying t=ab (wJ k e)) (h:ee w b enc ok bq) (hm:a.eval m=dP (ab b)) {y} (hy:ok y) (hx:a.eval x=enc y)
 (hK:∀w',ee w' b enc ok (A3 bq y)->w.grownBy w' (ab b)->w'.heap.size=w.heap.size->cQ P ops Q rest (a.put o.dst (bo #[])) w'):cQ P ops Q (o::rest) a w:=by
 refine D9 c λi hK'=>?_;obtain⟨w',hrun,d,f,g⟩:=h.drop (ty:=o.type) C ht hy;unfold iy;simp[bz,hop,resolve,invoke,builtin,hm,hx,hrun,Result.andThen];exact hK' _ _ (hK w' d f g)
end
end
end G
end Go.Proofs.YtcmhplknoglbkaaGreat
