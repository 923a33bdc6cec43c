/- Part 7 of the proof of TopConflictsSaid. -/
import Derived.Test.YtcmhplknoglbkaaGreatProg
import Derived.DeepKeys4
import Derived.Maps.OwnOps
import Derived.BigQuiet
import Derived.Deep.QuietTactic
import Derived.StillTailTactics
import Derived.Deep.RegionHeld3
import Derived.Deep.AppendLies
import Derived.Deep.DeepCutAuto
import Derived.Shelf.Slices.Turned
import Derived.Shelf.Slices.SearchI
import Derived.Shelf.Slices.Clone
import Derived.Shelf.Slices.Cells
import Derived.Shelf.Slices.Empties
import Derived.Shelf.Slices.Empties2
import Derived.Ground.Names2Prog
import Derived.Ground.SlgfProg
import Derived.Shelf.SlicesE.DeleteFunc
import Derived.Shelf.Spec.SlicesInsert
import Derived.Shelf.Spec.SlicesInsertGrow
import Derived.Shelf.SlGeneric
import Derived.Shelf.SlIterI.Nil
import Derived.Shelf.SortM.Plain
import Derived.Shelf.SortM.SortNone
import Derived.Ground.GgzProg
import Derived.Ground.SlgmProg
import Derived.Ground.SlsfProg
import Derived.Shelf.SlSortCmp.WholeK
import Derived.Shelf.Small.Wraps
import Derived.RangeFuncNested
import Derived.RangeFuncBound
import Derived.RangeFuncCalls
import Derived.RangeFuncLeaves
import Derived.RangeFuncBox
import Derived.RangeFuncWrites
import Derived.Shelf.Abstract
import Derived.Shelf.RegionOpen
import Derived.OwnWalkIn
import Derived.TacticsInMore
import Derived.LoopNIn
import Derived.LoopIn
import Derived.Maps.AppendAt
import Derived.Sort.OwnSorted
import Derived.Lib.SlKeysI
import Derived.Maps.RangeWalk
import Derived.Test.YtcmhplknoglbkaaGreatQx0
import Derived.Test.YtcmhplknoglbkaaGreatQx1
import Derived.Test.YtcmhplknoglbkaaGreatQx3
set_option linter.all false
set_option maxRecDepth 100000
set_option maxHeartbeats 4000000
open Go.Proofs.Tryz
open Array renaming getElem?_append_left->JE,getElem?_eq_some_iff->tr,replicate_succ->pC,replicate_zero->pD,toList_filter->agh
open Bool renaming false->ao,true->az
open Function renaming comp_def->JM
open Go.Builtin renaming delete_->Vg,zeroCells->mQ
open Go renaming Calls->aD,CallsIn->ru,MapEntry->OY,Value->aO,World->aM,callsIn_of_wp->DR,callsIn_wide->sy,cell_of_one->pH,cell_of_row->fu,execOp->bt,grownCap->x9,grownCap_ge->zE,grownCap_le_maxLen->zF,heap_alloc_new->fz,info_parts->u5,intKeys->WK,leftOf->Bx,maxLen->eh,run_underlying->gE,step_append_lies->aiJ,undef->a1,wpList->cL,wpList_plain->DT
open Go.ChangeMaps renaming heap_setBlock_other->DH,heap_setBlock_same->DI,modify_eq_set->agz,setBlock->kV
open Go.Ending renaming returned->aB
open Go.Fence renaming wide->mx
open Go.Fn renaming func->ed
open Go.Instr renaming entry->agF,lookup->qA,mapUpdate->DJ
open Go.IntKind renaming i64->R
open Go.Lib renaming compareInt->zu
open Go.Lit renaming int->Gv
open Go.MapKept renaming heap_alloc->Vm,run_getObj_map->zv,run_setObj_map->Gx,stamped_iff->OZ
open Go.Maps renaming keyOf_int_mk->Vn,size->JU
open Go.Obj renaming cells->bl,map->iP,mapIter->JV
open Go.Oper renaming wp->ih
open Go.Proofs.Any2 renaming slices_Insert_int_end_grow->agM
open Go.Proofs.AnyQ renaming slices_SortFunc->agO
open Go.Proofs.Lays renaming n107->aya,n122->ayb
open Go.Proofs.Lays2 renaming n15->aye,n21->ayf,n25->ayg
open Go.Proofs.SlLaysF0 renaming n6->agP
open Go.Proofs.SlLaysH renaming n10->ayi
open Go.Proofs.SlLaysM renaming n5->ayj
open Go.Proofs.SlLaysZI renaming n6->ayk,n7->ayl
open Go.Proofs.Tryz renaming func193->Vv,func194->O5,func256->VC,func271->VD,func272->VE,func317->VI,func318->VJ,isAgg0->wm,isAgg188->VO,isAgg3->qC,isAgg311->JY,isAgg315->Pb,isAgg371->VP,isAgg372->VQ,isAgg4->tz,isAgg42->VR,isAgg420->VS,isAgg423->VT,isAgg448->VU,isAgg80->VV,isAgg82->Bq,prog->aw,sizeOf0->wq,sizeOf188->V9,sizeOf3->qD,sizeOf311->J1,sizeOf315->Ph,sizeOf371->V',sizeOf372->Wa,sizeOf4->tA,sizeOf42->Wb,sizeOf420->Wc,sizeOf423->Wd,sizeOf448->We,sizeOf5->J2,sizeOf80->Wf,sizeOf82->Bs,sizeOf9->GB,underlying0->wu,underlying188->Wg,underlying3->jJ,underlying302->Pk,underlying303->Bt,underlying311->J4,underlying315->Pl,underlying371->Wj,underlying372->Wk,underlying4->tC,underlying42->Wl,underlying420->Wm,underlying423->Wn,underlying448->Wp,underlying5->l2,underlying80->Wr,underlying82->hR,underlying9->DN,zeroValue0->wv,zeroValue188->Ws,zeroValue3->qE,zeroValue311->J6,zeroValue315->Pm,zeroValue371->Wt,zeroValue372->Wu,zeroValue4->tD,zeroValue42->Wv,zeroValue420->Ww,zeroValue423->Wx,zeroValue448->Wy,zeroValue5->J7,zeroValue80->Wz,zeroValue82->Bv,zeroValue9->GC
open Go.Proofs renaming enters_of->kW,ltOf->GD
open Go.Result renaming ok->a6
open Go.RowKit renaming Below->u1,Hid->aE,intOf->cy
open Go.RowKit.Below renaming refl->Pq
open Go.Sort renaming HoldsK->Pr,ahead->J',alloc_eq_grow->Ps,grow->GF
open Go.TypeDesc renaming map->wz
open Go.Value renaming agg->av,bool->ai,cells->WG,func->dC,int->J,map->dj,oneCell'->zz,ownBlock->x7,pointer->ax,slice->ae,tuple->bm
open Go.WideElems renaming rd->aiC
open Go.World renaming block_lt_of_cell?->u3,frozen?->wA,news_of_block->aiG,ownsRow_nil->Bw,shape?->Pt,size_alloc->zB
open List renaming append_toArray->pM,cons_append->oZ,eq_nil_of_length_eq_zero->j2,ext_getElem->XS,filter_congr->He,filter_cons->Hf,filter_eq_self->zT,filter_map->QL,getElem?_drop->vj,getElem?_eq_getElem->cC,getElem?_eq_some_iff->e5,getElem?_map->lr,getElem?_take->om,length->vk,length_cons->js,length_drop->tP,length_map->gV,length_nil->l4,map_cons->jM,map_map->Hh,mem_append->j3,mem_append_left->BQ,mem_filter->pO,mem_map->fL,mem_of_getElem?->cY,nil_append->lK,nodup_append->yr,pairwise_cons->vl,pairwise_iff_getElem->l5,push_toArray->pP,range->dG,size_toArray->iG,take_length->kH
open Nat renaming eq_zero_or_pos->lL,le_refl->b4,zero_add->jt,zero_le->cF
open Option renaming none->af,some->ab
open Or renaming inl->bM,inr->b8
namespace Go.Proofs.YtcmhplknoglbkaaGreat
namespace G
open Go.RowKit Go.MapKept Go.WideMaps
open Go.Maps (Keyed)
def encI(x:Int):Value:=J R x
def c4(x:Int):Prop:=-9223372036854775808<=x/\x<=9223372036854775807
def vw(e:Int×Int):Value:=av #[J R e.1,J R e.2]
def q4(e:Int×Int):Prop:=c4 e.1/\c4 e.2
def NO{x}(h:c4 x):(Gv R x).wf=true:=WalkArith.wf_i64 h
def pj:ss aw 3 encI c4:=
 ⟨Maps.int_keyed jJ,λh=>⟨_,Vn jJ (NO h)⟩,λh=>by grind[encI]⟩
def laidOut:laidOutB aw=true:=ay
def anl:(192:TypeId)<aw.types.size:=of_decide_eq_true ay
def anf:aw.keyTypeAt 2 192=true:=ay
def ani:KeyLaw aw 192:=by refine deep_law_laid laidOut (m:=2) ad anl anf ?_;kernel_rfl
def anm:aw.keyType 192=true:=ay
def ang:aw.cellsOf 192=2:=ay
def aqJ:aw.cellsOf 3=1:=ay
def av6:∃m,aw.types.size=m+1:=by have h:(decide (0<aw.types.size))=true:=ay;have a:0<aw.types.size:=of_decide_eq_true h;exact⟨aw.types.size -1,ad⟩
def anj{e}(h:q4 e)n:aw.keyLits (n+1+1) 192 (vw e).cells.toList=ab [Gv R e.1,Gv R e.2]:=by have h1:=NO h.1;have a:=NO h.2;simp[Program.keyLits,ang,aqJ,vw,WG,h1,a]
def anh e:(vw e).formed aw 192=true:=aY
def ank{e}(h:q4 e):∃l,keyOf aw 192 (vw e)=ab l:=by obtain⟨m,b⟩:=av6;have a:=anj h m;unfold keyOf;rw[b,a,underlying192];simp only[anm,anh,Bool.and_self,if_true,Option.map_some];exact⟨_,aa⟩
def Mw:ss aw 192 vw q4:=
 ⟨Keyed.of_law ani,ank,λ{x y} h=>by grind[vw]⟩
open Go.RowKit Go.MapKept
def succ(E:List (Int×Int))(u:Int):List Int:=(E.filter (λe=>decide (e.1=u))).map (·.2)
def pred(E:List (Int×Int))(v:Int):List Int:=(E.filter (λe=>decide (e.2=v))).map (·.1)
def avM E e u:succ (E++[e]) u=if u=e.1 then succ E u++[e.2]else succ E u:=by grind[succ]
def aty E e v:pred (E++[e]) v=if v=e.2 then pred E v++[e.1]else pred E v:=by grind[pred]
theorem Jl E u:(succ E u).length<=E.length:=by grind[succ]
theorem T4 E u:(pred E u).length<=E.length:=by grind[pred]
def yu(w:aM)(a:List (Int×aO))(f:Int->List Int):Prop:=
 ∀u,(∀v,dX a u=ab v->w.ownsRow 0 3 1 v (f u).length ((f u).map (J R)))/\(dX a u=af->f u=[])
def sH(p q:Int×aO):Prop:=∀g,p.2.ownBlock=ab g->q.2.ownBlock≠ab g
def sH.symm{p q}(h:sH p q):sH q p:=λg b a=>h g a b
structure kE (w:aM) (F:Nat->Prop) (b:Nat) (n:Int) (ob mw mv:List (Int×Int)) (fI mo fx:Nat) (eT eM:List (Int×aO)):Prop where
 blk:w.heap[b]?=ab (bl #[J R n,dj (ab fI),dj (ab mo),dj (ab fx)] 305 (0,0))
 mC:dM w fI vw q4 (ob.map (λe=>(e,ai az)))
 out:dM w mo encI c4 eT
 mG:dM w fx encI c4 eM
 qo:yu w eT (succ mw)
 qm:yu w eM (pred mv)
 MZ:∀p∈eT,∀q∈eT,p.1≠q.1->sH p q
 MY:∀p∈eM,∀q∈eM,p.1≠q.1->sH p q
 CZ:∀p∈eT,∀q∈eM,sH p q
 Gr:F b
 DD:F fI
 DF:F mo
 DE:F fx
 xZ:∀p∈eT,∀g,p.2.ownBlock=ab g->F g
 xY:∀p∈eM,∀g,p.2.ownBlock=ab g->F g
 TH:fI≠mo
 TG:fI≠fx
 TL:mo≠fx
 lo:eT.length<=mw.length
 li:eM.length<=mv.length
 n0:0<=n
 vU:n<=1048576
def gU(w:aM)(F:Nat->Prop)(b:Nat)(n:Int)(E:List (Int×Int)):Prop:=
 (∃fI mo fx eT eM,kE w F b n E E E fI mo fx eT eM)/\E.Nodup/\∀e∈E,(0<=e.1/\e.1<n)/\(0<=e.2/\e.2<n)/\e.1≠e.2
section
variable {w w':aM} {F G:Nat->Prop} {b:Nat} {n:Int} {E ob mw mv:List (Int×Int)} {fI mo fx:Nat} {eT eM:List (Int×aO)}
theorem pr{base e:Nat}{v m xs}(h:w.ownsRow base e 1 v m xs)(k:au G w w')(hn:∀g,v.ownBlock=ab g->¬G g):w'.ownsRow base e 1 v m xs:=by
 refine⟨h.1,?_⟩;rcases h.2 with h2|⟨g,cap,cur,rfl,hb,hh,r⟩;·grind
 .exact b8 ⟨g,_,_,aa,hb,k.heap hh (hn g aa),r⟩
def yu.only{a f}(h:yu w a f)(k:au G w w')(hn:∀p∈a,∀g,p.2.ownBlock=ab g->¬G g):yu w' a f:=λu=>
 ⟨λv hv=>pr ((h u).1 v hv) k (hn _ (r7 hv)),(h u).2⟩
def kE.only(h:kE w F b n ob mw mv fI mo fx eT eM)(k:au G w w')(hn:∀i,F i->¬G i):kE w' F b n ob mw mv fI mo fx eT eM:=
 {h with
  blk:=k.heap h.blk (hn _ h.Gr)
  mC:=h.mC.only k (hn _ h.DD)
  out:=h.out.only k (hn _ h.DF)
  mG:=h.mG.only k (hn _ h.DE)
  qo:=h.qo.only k (λp c g a=>hn _ (h.xZ p c g a))
  qm:=h.qm.only k (λp c g a=>hn _ (h.xY p c g a))}
def kE.FX(h:kE w F b n ob mw mv fI mo fx eT eM):(∀p∈eT,∀g,p.2.ownBlock=ab g->g<w.heap.size)/\(∀p∈eM,∀g,p.2.ownBlock=ab g->g<w.heap.size):=
 ⟨λp c g a=>(((h.qo p.1).1 p.2 (xy h.out.nodup c)).lt g a).2,λp c g a=>(((h.qm p.1).1 p.2 (xy h.mG.nodup c)).lt g a).2⟩
theorem kE.mono(h:kE w F b n ob mw mv fI mo fx eT eM)(a:∀i,i<w.heap.size->F i->G i):kE w G b n ob mw mv fI mo fx eT eM:=
 {h with
  Gr:=a _ (tr.1 h.blk).1 h.Gr
  DD:=a _ h.mC.lt h.DD
  DF:=a _ h.out.lt h.DF
  DE:=a _ h.mG.lt h.DE
  xZ:=λp d g c=>a _ (h.FX.1 p d g c) (h.xZ p d g c)
  xY:=λp d g c=>a _ (h.FX.2 p d g c) (h.xY p d g c)}
def gU.only(h:gU w F b n E)(k:au G w w')(hn:∀i,F i->¬G i):gU w' F b n E:=by obtain⟨⟨fI,mo,fx,eT,eM,g⟩,r⟩:=h;exact⟨⟨fI,mo,fx,eT,eM,g.only k hn⟩,r⟩
def gU.aG(h:gU w F b n E)(k:ar w w'):gU w' F b n E:=h.only k (λ_ _ a=>a)
theorem gU.mono(h:gU w F b n E)(a:∀i,i<w.heap.size->F i->G i):gU w G b n E:=by obtain⟨⟨fI,mo,fx,eT,eM,g⟩,r⟩:=h;exact⟨⟨fI,mo,fx,eT,eM,g.mono a⟩,r⟩
def Nl{b f}(h:yu w b f){p:Int×aO}(d:dX b p.1=ab p.2){g i es c}(a:p.2.ownBlock=ab g)(hi:w.heap[i]?=ab (iP es c)):g≠i:=by
 rintro rfl;rcases((h p.1).1 p.2 d).2 with⟨hv,_⟩|⟨e,cap,cur,hv,_,hh,_⟩;·rw[hv]at a;cases a
 grind[x7]
def _root_.Go.Proofs.YtcmhplknoglbkaaGreat.dM.uq{fh enc}{ok:fh->Prop}{a i}(h:dM w i enc ok a):∃es c,w.heap[i]?=ab (iP es c):=by obtain⟨es,c,hb,_⟩:=h;exact⟨es,c,hb⟩
def kE.Lu(h:kE w F b n ob mw mv fI mo fx eT eM){e}(a:w.grownBy w' (ab fI))(j:dM w' fI vw q4 (ka (ob.map (λe=>(e,ai az))) e (ai az)))(l:e∉ob):
 kE w' F b n (ob++[e]) mw mv fI mo fx eT eM:=by
 have k:au (λi=>i=fI) w w':=au.of_grownBy a (λi e=>aF);obtain⟨es,c,d⟩:=h.mC.uq;have hh:r8 (ob.map (λe=>(e,ai az))) e=false:=by grind[IP]
 rw[MQ _ hh]at j
 exact{h with
  blk:=k.heap h.blk (by rintro rfl;rw[h.blk]at d;cases d)
  mC:=aF
  out:=h.out.only k (λe=>h.TH e.symm)
  mG:=h.mG.only k (λe=>h.TG e.symm)
  qo:=h.qo.only k (λp f g a=>Nl h.qo (xy h.out.nodup f) a d)
  qm:=h.qm.only k (λp f g a=>Nl h.qm (xy h.mG.nodup f) a d)}
def kE.I0(h:kE w F b n ob mw mv fI mo fx eT eM)u:w.ownsRow 0 3 1 ((dX eT u).getD (ae af 0 0)) (succ mw u).length ((succ mw u).map (J R)):=by
 cases hm:dX eT u with
 |none=>rw[(h.qo u).2 hm];exact Bw _ _ _ _
 |some v=>exact(h.qo u).1 v hm
def kE.Th(h:kE w F b n ob mw mv fI mo fx eT eM)u:w.ownsRow 0 3 1 ((dX eM u).getD (ae af 0 0)) (pred mv u).length ((pred mv u).map (J R)):=by
 cases hm:dX eM u with
 |none=>rw[(h.qm u).2 hm];exact Bw _ _ _ _
 |some v=>exact(h.qm u).1 v hm
def FI{base e:Nat}{v m xs}(h:w.ownsRow base e 1 v m xs){g t cs fr}(b:w.heap[g]?=ab (bl cs t fr))(hne:e≠t):v.ownBlock≠ab g:=by
 rcases h.2 with⟨rfl,_⟩|⟨a,cap,cur,rfl,_,hh,_⟩;·simp[x7]
 grind[x7]
theorem tb{base e:Nat}{v m xs}(h:w.ownsRow base e 1 v m xs){g es c}(b:w.heap[g]?=ab (iP es c)):v.ownBlock≠ab g:=by
 rcases h.2 with⟨rfl,_⟩|⟨a,cap,cur,rfl,_,hh,_⟩;·simp[x7]
 grind[x7]
def yu.put {a f e w1 u x v' mo es c} (h:yu w a f) (k:∀p∈a,∀q∈a,p.1≠q.1->sH p q)
 (e1:au (λi=>((dX a u).getD (ae af 0 0)).ownBlock=ab i) w w1) (hrow:w1.ownsRow 0 3 1 v' ((f u).length+1) ((f u).map (J R)++[J R x]))
 (vH:w.heap[mo]?=ab (iP es c)) (fH:au (λi=>i=mo) w1 w') (hf:∀y,e y=if y=u then f y++[x]else f y):yu w' (ka a u v') e:=by
 have l:((dX a u).getD (ae af 0 0)).ownBlock≠ab mo:=by
  cases hm:dX a u with
  |none=>simp[x7]
  |some v=>exact tb ((h u).1 v hm) vH
 have m:w1.heap[mo]?=ab (iP es c):=e1.heap vH l;intro y;rw[MO,hf];by_cases d:y=u;·grind[pr,tb]
 .rw[if_neg d,if_neg d];refine⟨λv hv=>?_,(h y).2⟩;have hold:=(h y).1 v hv
  have n:w1.ownsRow 0 3 1 v (f y).length ((f y).map (J R)):=by
   refine pr hold e1 (λg j b=>?_);cases hm:dX a u with
   |none=>rw[hm]at b;cases b
   |some o=>
    rw[hm]at b;exact k _ (r7 hv) _ (r7 hm) d g j b
  grind[pr,tb]
def adB {a u v' B} (j:∀p∈a,∀q∈a,p.1≠q.1->sH p q) (hlt:∀p∈a,∀g,p.2.ownBlock=ab g->g<B)
 (hloc:v'.ownBlock=((dX a u).getD (ae af 0 0)).ownBlock\/∃g,v'.ownBlock=ab g/\B<=g):(∀p∈ka a u v',∀q∈ka a u v',p.1≠q.1->sH p q)/\
  ∀q:Int×aO,(∀g,q.2.ownBlock=ab g->g<B)->(∀p∈a,sH p q)->∀p∈ka a u v',sH p q:=by
 have key:∀q:Int×aO,(∀g,q.2.ownBlock=ab g->g<B)->(∀b,dX a u=ab b->sH (u,b) q)->sH (u,v') q:=by
  intro q d h g i k;rcases hloc with h1|⟨il,h1,f⟩
  .cases hm:dX a u with
   |none=>
    rw[hm]at h1;have f:v'.ownBlock=none:=h1;grind
   |some b=>
    rw[hm]at h1;have f:v'.ownBlock=b.ownBlock:=h1;exact h b hm g (f▸i) k
  grind
 constructor
 .intro p c q d hne;rcases AQ c with rfl|⟨c,ap1⟩<;>rcases AQ d with rfl|⟨d,az6⟩;·omega
  .grind[r7]
  .exact(key p (hlt p c) (λb h=>j _ (r7 h) p c (λe=>ap1 e.symm))).symm
  .grind
 .intro q d l p c;grind[AQ,r7]
def B0{g i t:Nat}{cs fr es c}(h:w.heap[g]?=ab (bl cs t fr))(hi:w.heap[i]?=ab (iP es c)):g≠i:=aF
def kE.outs (h:kE w F b n ob mw mv fI mo fx eT eM) {w1 u x v'}
 (e1:au (λi=>((dX eT u).getD (ae af 0 0)).ownBlock=ab i) w w1) (hrow:w1.ownsRow 0 3 1 v' ((succ mw u).length+1) ((succ mw u).map (J R)++[J R x]))
 (hloc:v'.ownBlock=((dX eT u).getD (ae af 0 0)).ownBlock\/∃g,v'.ownBlock=ab g/\w.heap.size<=g) (fH:au (λi=>i=mo) w1 w')
 (hm:dM w' mo encI c4 (ka eT u v')) (hF:∀i,w.heap.size<=i->F i):kE w' F b n ob (mw++[(u,x)]) mv fI mo fx (ka eT u v') eM:=by
 obtain⟨C,z,k⟩:=h.mC.uq;obtain⟨E,B,d⟩:=h.out.uq;obtain⟨D,A,l⟩:=h.mG.uq;have hr:=h.I0 u;have r:=FI hr h.blk bf;have ne:=tb hr k;have t:=tb hr d;have s:=tb hr l
 have hoi:∀p∈eM,∀g,p.2.ownBlock=ab g->((dX eT u).getD (ae af 0 0)).ownBlock≠ab g:=by
  intro p c g a hv;cases e0:dX eT u with
  |none=>rw[e0]at hv;cases hv
  |some v=>
   rw[e0]at hv;exact h.CZ _ (r7 e0) p c g hv a
 have hop:=adB h.MZ h.FX.1 hloc;have f:=h.qm.only e1 (λp c g a=>hoi p c g a);have m:=e1.heap d t
 exact{h with
  blk:=fH.heap (e1.heap h.blk r) (B0 h.blk d)
  mC:=(h.mC.only e1 ne).only fH h.TH
  out:=hm
  mG:=(h.mG.only e1 s).only fH (λe=>h.TL e.symm)
  qo:=h.qo.put h.MZ e1 hrow d fH (λy=>avM mw _ y)
  qm:=f.only fH (λp c g a=>Nl f (xy h.mG.nodup c) a m)
  lo:=by have:=TC eT u v';have:=h.lo;simp;omega
  MZ:=hop.1
  CZ:=λp c q j=>hop.2 q (h.FX.2 q j) (λas4 o=>h.CZ as4 o q j) p c
  xZ:=λp c g a=>by
   rcases AQ c with rfl|⟨c,_⟩
   .rcases hloc with h1|⟨il,h1,h2⟩
    .replace a:v'.ownBlock=ab g:=a;rw[h1]at a;cases e0:dX eT u with
     |none=>rw[e0]at a;cases a
     |some v=>rw[e0]at a;exact h.xZ _ (r7 e0) g a
    grind
   .exact h.xZ p c g a}
def kE.ins (h:kE w F b n ob mw mv fI mo fx eT eM) {w1 u x v'}
 (e1:au (λi=>((dX eM x).getD (ae af 0 0)).ownBlock=ab i) w w1) (hrow:w1.ownsRow 0 3 1 v' ((pred mv x).length+1) ((pred mv x).map (J R)++[J R u]))
 (hloc:v'.ownBlock=((dX eM x).getD (ae af 0 0)).ownBlock\/∃g,v'.ownBlock=ab g/\w.heap.size<=g) (fH:au (λi=>i=fx) w1 w')
 (hm:dM w' fx encI c4 (ka eM x v')) (hF:∀i,w.heap.size<=i->F i):kE w' F b n ob mw (mv++[(u,x)]) fI mo fx eT (ka eM x v'):=by
 obtain⟨B,v,f⟩:=h.mC.uq;obtain⟨D,A,k⟩:=h.out.uq;obtain⟨C,z,d⟩:=h.mG.uq;have hr:=h.Th x;have m:=FI hr h.blk bf;have ne:=tb hr f;have r:=tb hr k;have o:=tb hr d
 have hoi:∀p∈eT,∀g,p.2.ownBlock=ab g->((dX eM x).getD (ae af 0 0)).ownBlock≠ab g:=by
  intro p c g a hv;cases e0:dX eM x with
  |none=>rw[e0]at hv;cases hv
  |some t=>
   rw[e0]at hv;exact h.CZ p c _ (r7 e0) g a hv
 have hop:=adB h.MY h.FX.2 hloc;have e:=h.qo.only e1 (λp c g a=>hoi p c g a);have j:=e1.heap d o
 exact{h with
  blk:=fH.heap (e1.heap h.blk m) (B0 h.blk d)
  mC:=(h.mC.only e1 ne).only fH h.TG
  mG:=hm
  out:=(h.out.only e1 r).only fH h.TL
  qm:=h.qm.put h.MY e1 hrow d fH (λy=>aty mv _ y)
  qo:=e.only fH (λp c g a=>Nl e (xy h.out.nodup c) a j)
  li:=by have:=TC eM x v';have:=h.li;simp;omega
  MY:=hop.1
  CZ:=λp c q l=>(hop.2 p (h.FX.1 p c) (λs hq'=>(h.CZ p c s hq').symm) q l).symm
  xY:=λp c g a=>by
   rcases AQ c with rfl|⟨c,_⟩
   .rcases hloc with h1|⟨il,h1,h2⟩
    .replace a:v'.ownBlock=ab g:=a;rw[h1]at a;cases e0:dX eM x with
     |none=>rw[e0]at a;cases a
     |some t=>rw[e0]at a;exact h.xY _ (r7 e0) g a
    grind
   .exact h.xY p c g a}
def gU.new{n}(c:0<=n)(h1:n<=1048576)(w:aM):
 gU ((((w.alloc (iP #[] 0)).alloc (iP #[] 0)).alloc (iP #[] 0)).alloc (bl #[J R n,dj (ab w.heap.size),dj (ab (w.heap.size+1)),dj (ab (w.heap.size+2))] 305))
  (λk=>w.heap.size<=k/\k<w.heap.size+4) (w.heap.size+3) n []:=by
 have a0:=dM.made w vw q4;have a:=dM.made (w.alloc (iP #[] 0)) encI c4;have b:=dM.made ((w.alloc (iP #[] 0)).alloc (iP #[] 0)) encI c4;simp only[zB]at a b;refine⟨⟨w.heap.size,w.heap.size+1,w.heap.size+2,[],[],?_⟩,a8,a8⟩
 exact{
  blk:=by have:=fz (((w.alloc (iP #[] 0)).alloc (iP #[] 0)).alloc (iP #[] 0)) (bl #[J R n,dj (ab w.heap.size),dj (ab (w.heap.size+1)),dj (ab (w.heap.size+2))] 305);simpa using this
  mC:=((a0.only (au.alloc (F:=λ_=>False) _ _) (λh=>h)).only (au.alloc (F:=λ_=>False) _ _) (λh=>h)).only (au.alloc (F:=λ_=>False) _ _) (λh=>h)
  out:=(a.only (au.alloc (F:=λ_=>False) _ _) (λh=>h)).only (au.alloc (F:=λ_=>False) _ _) (λh=>h)
  mG:=b.only (au.alloc (F:=λ_=>False) _ _) (λh=>h)
  qo:=λu=>⟨λv hv=>by grind[dX],λ_=>aa⟩
  qm:=λu=>⟨λv hv=>by grind[dX],λ_=>aa⟩
  MZ:=a8
  MY:=a8
  CZ:=a8
  Gr:=ad
  DD:=ad
  DF:=ad
  DE:=ad
  xZ:=a8
  xY:=a8
  TH:=ad
  TG:=ad
  TL:=ad
  lo:=a8
  li:=a8
  n0:=c
  vU:=h1}
end
open Go.RowKit Go.MapKept
def UR w:(zeroValue 4).run aw w=a6 (ai ao) w:=ay
def Gh w:(zeroValue 82).run aw w=a6 (ae af 0 0) w:=ay
set_option maxHeartbeats 400000 in
def ado n w(d:0<=n)(h1:n<=1048576):
 aD aw 179 #[J R n] w λe w'=>∃b,e=aB (ax (ab ⟨b,0,af⟩))/\gU w' (λk=>w.heap.size<=k/\k<w'.heap.size) b n []/\ar w w':=by
 have f:decide (n<0)=false:=aF;have g:decide (1048576<n)=false:=aF;have h:=@run_makeMap aw;have c:=hid (gU.new d h1 w);go_enter func179,ntmps179;go_wp2;go_ret;refine⟨_,aa,c.out.mono (λi _ hi=>⟨hi.1,ad⟩),?_⟩;exact(((au.alloc w _).trans (au.alloc _ _) (λ_ _ a=>a)).trans (au.alloc _ _) (λ_ _ a=>a)).trans (au.alloc _ _) (λ_ _ a=>a)
set_option maxHeartbeats 400000 in
def xv b n w(hc:w.cell? ⟨b,0,af⟩=ab (J R n)):aD aw 303 #[ax (ab ⟨b,0,af⟩)] w λe w'=>e=aB (J R n)/\w=w':=by go_enter func303,ntmps303;go_wp2;go_ret;exact⟨aa,aa⟩
def qe(n v:Int):Bool:=decide (0<=v/\v<n)
set_option maxHeartbeats 400000 in
def zo b(n v)w(hc:w.cell? ⟨b,0,af⟩=ab (J R n)):aD aw 253 #[ax (ab ⟨b,0,af⟩),J R v] w λe w'=>e=aB (ai (qe n v))/\w=w':=by
 by_cases c:0<=v
 .have h1:decide (0<=v)=true:=aF;have hr:qe n v=decide (v<n):=by grind[qe]
  have a:=hid hr;clear hr;go_enter Tryz.func253,Tryz.ntmps253;go_wp2_with (go_at_call 303;refine(xv _ _ _ hc).mono ?_;rintro e w' ⟨rfl,rfl⟩);go_ret;exact⟨by rw[a.out];rfl,aa⟩
 .have h1:decide (0<=v)=false:=aF;have hr:qe n v=false:=by grind[qe]
  have a:=hid hr;clear hr;go_enter Tryz.func253,Tryz.ntmps253;go_wp2;go_ret;exact⟨by rw[a.out];rfl,aa⟩
open Go.RowKit Go.MapKept
def canAdd(n:Int)(E:List (Int×Int))(e:Int×Int):Bool:=qe n e.1&&qe n e.2&&decide (e.1≠e.2)&&!decide (e∈E)
def pU(n:Int)(E:List (Int×Int))(e:Int×Int):List (Int×Int):=if canAdd n E e then E++[e]else E
def ju(n:Int)(E l:List (Int×Int)):List (Int×Int):=l.foldl (pU n) E
def Fe:(aw.info? 3).map (λi=>(i.zero,i.size,i.bytes))=ab (ab (J R 0),1,8):=ay
def akC n(E l:List (Int×Int)){k e}(h:l[k]?=ab e):ju n E (l.take (k+1))=pU n (ju n E (l.take k)) e:=by grind[ju,List.take_add_one]
def akB n(E l):E.length<=(ju n E l).length/\(ju n E l).length<=E.length+l.length:=by
 unfold ju;induction l generalizing E with
 |nil=>simp
 |cons e r a=>grind[pU]
set_option maxHeartbeats 400000 in
def Ye b n E F A c l w(fe:gU w F b n E)(hl:kI w A l)(kO:∀e∈l,q4 e)(ff:E.length+l.length<=1099511627776)(bC:∀blk off,A=ab ⟨blk,off,af⟩->¬F blk):
 aD aw 182 #[ax (ab ⟨b,0,af⟩),ae A l.length c] w λe w'=>e=aB (J R ((ju n E l).length -E.length:Nat))/\
  gU w' (λk=>F k\/(w.heap.size<=k/\k<w'.heap.size)) b n (ju n E l)/\au F w w':=by
 go_enter func182,ntmps182;go_wp2
 go_loopw [5,10] (λs i wr=>∃k:Nat,k<=l.length/\i=J R k/\s=J R ((ju n E (l.take k)).length -E.length:Nat)/\
  gU wr (λk=>F k\/w.heap.size<=k) b n (ju n E (l.take k))/\au F w wr) (λ_ i _=>l.length -(cy i).toNat);case atStart=>exact⟨0,cF _,aa,by simp[ju],by simpa [ju]using fe.mono (λi _ h=>bM h),au.refl _ _⟩
 case round=>
  obtain⟨k,hk,rfl,rfl,EF,hO⟩:=hrel;by_cases hlt:k<l.length
  .have abv:=hl.only hO bC;obtain⟨gN,off,rfl,hcell⟩:=abv ad;obtain⟨h1,h2⟩:=hcell k hlt;obtain⟨⟨u,x⟩,pg⟩:∃p,l[k]?=ab p:=⟨l[k],a8⟩;have c3:q4 (u,x):=kO _ (cY pg);have hst:=akC n E l pg;have hle:=akB n E (l.take k);have ux:(l.take k).length=k:=aF;simp only[pg,Option.getD_some]at h1 h2;clear hcell hl kO abv;have ey:=hid hst;have ajI:=hid pg;clear hst pg;rw[ux]at hle;clear ux;generalize ju n E (l.take k)=jI at*;have hb0:(k:Int)<(l.length:Int):=ad;obtain⟨⟨fI,mo,fx,eT,eM,g⟩,eN,hval⟩:=EF;have abi:au (λ_=>False) wr (wr.alloc (bl #[J R u,J R x] 192)):=au.alloc _ _;have g1:=g.only abi (λ_ _ h=>h);have hblk:=fz wr (bl #[J R u,J R x] 192);have bZ:(wr.alloc (bl #[J R u,J R x] 192)).cell? ⟨wr.heap.size,0,af⟩=ab (J R u):=fu _ _ 0 _ _ _ (fz wr _);have c1:(wr.alloc (bl #[J R u,J R x] 192)).cell? ⟨wr.heap.size,1,af⟩=ab (J R x):=fu _ _ 1 _ _ _ (fz wr _);have kP:wr.heap.size<(wr.alloc (bl #[J R u,J R x] 192)).heap.size:=a8;go_wp2_with fail;generalize kd:wr.heap.size=B at*;generalize dc:wr.alloc (bl #[J R u,J R x] 192)=W at*;clear dc kd h1 h2;have mH:=fu _ _ 0 _ _ _ g1.blk;have e1:=fu _ _ 1 _ _ _ g1.blk;have fH:=fu _ _ 2 _ _ _ g1.blk;have lC:=fu _ _ 3 _ _ _ g1.blk;simp at mH e1 fH lC
   have gL:aE (∀nq,gU (W.drewN nq) (λk=>F k\/w.heap.size<=k) b n jI/\au F w (W.drewN nq)):=
    hid λnq=>⟨⟨⟨fI,mo,fx,eT,eM,g1.only (au.drewN (F:=λ_=>False) W nq) (λ_ _ h=>h)⟩,eN,hval⟩,(hO.trans abi (λ_ _ h=>h.elim)).trans (au.drewN (F:=F) W nq) (λ_ _ h=>h)⟩;by_cases nP:canAdd n jI (u,x)=az
   .have aax:=nP;simp only[canAdd,Bool.and_eq_true,Bool.not_eq_true',decide_eq_true_eq,decide_eq_false_iff_not]at aax;obtain⟨⟨⟨r6,hv2⟩,pg⟩,xj⟩:=aax;have hq:(u==x)=false:=by simpa using pg
    have hlk:∀nq,(qA 302 (dj (ab fI)) (av #[J R u,J R x]) ao).run aw (W.drewN nq)=a6 (ai ao) (W.drewN nq):=λnq=>by have h:=((g1.mC.only (au.drewN (F:=λ_=>False) W nq) (λh=>h)).lookup Mw Pk UR c3).1;rw[MP.2 (λp hp e=>by obtain⟨j6,Cp,rfl⟩:=fL.1 hp;exact xj (e▸Cp))]at h;exact h
    have WQ:aE (pU n jI (u,x)=jI++[(u,x)]):=hid (by unfold pU;rw[if_pos nP])
    have Xl:aE ((jI++[(u,x)]).Nodup/\∀e∈jI++[(u,x)],(0<=e.1/\e.1<n)/\(0<=e.2/\e.2<n)/\e.1≠e.2):=hid (by
     refine⟨yr.2 ⟨eN,a8,λa ha c hc e=>?_⟩,λe he=>?_⟩;·simp at hc;exact xj (hc▸e▸ha)
     .rcases j3.1 he with he|he;·exact hval e he
      .simp only[List.mem_singleton]at he;subst he;exact⟨by simpa [qe]using r6,by simpa [qe]using hv2,pg⟩);have zM:=hid xj;have ajI:=hid pg;clear pg xj nP;go_quiet ((go_at_call 253;(first|exact C8 (zo _ _ _ _ mH)|exact FT (zo _ _ _ _ mH))));clear hlk hq r6 hv2;go_wp2_with fail;have EE:(W.drewN nq).heap[B]?=ab (bl #[J R u,J R x] 192 (0,0)):=hblk;have g2:kE (W.drewN nq) (λk=>F k\/w.heap.size<=k) b n jI jI jI fI mo fx eT eM:=g1.only (au.drewN (F:=λ_=>False) W nq) (λ_ _ h=>h);have nc:au F w (W.drewN nq):=(gL.out nq).2;clear gL mH e1 fH lC bZ c1 g1 hblk;generalize W.drewN nq=hW at*;have bZ:=fu _ _ 0 _ _ _ EE;have c1:=fu _ _ 1 _ _ _ EE;have e1:=fu _ _ 1 _ _ _ g2.blk;simp at bZ c1 e1;go_still_tail 5,ay;change cL _ _ _ _ _ hW.drew;refine Js aa _ _ _ aa Mw Pk (g2.mC.only (au.drew (F:=λ_=>False) hW) (λh=>h)) (by unfold eh;simp;omega) aa c3 aa (ai _) aa ?_;intro eE kv hg2 hs2;have g3:=(g2.only (au.drew (F:=λ_=>False) hW) (λ_ _ h=>h)).Lu hg2 kv zM.out;obtain⟨ZE,ayS,abA⟩:=g2.mC.uq;obtain⟨ay1,ayT,apK⟩:=g2.out.uq;obtain⟨ay2,ayU,apG⟩:=g2.mG.uq;have pb:au (λk=>F k\/w.heap.size<=k) hW.drew eE:=au.of_grownBy hg2 (λi e=>by cases e;exact bM g2.DD);have qV:eE.heap[B]?=ab (bl #[J R u,J R x] 192 (0,0)):=(au.of_grownBy (F:=λi=>i=fI) hg2 (λi e=>by cases e;exact bM aa)).heap (show hW.drew.heap[B]?=_ from EE) (B0 EE abA);have S':w.heap.size<=hW.heap.size:=nc.size;have pc:au F w eE:=nc.trans pb.av8 (λi hi h=>by rcases h with h|h;exact h;omega);have azc:aE (hW.heap[B]?=ab (bl #[J R u,J R x] 192 (0,0))):=hid EE;obtain⟨ay3,ayV,vI⟩:=g3.out.uq;clear kv hg2 pb bZ c1 e1 abA apK apG EE nc hs2 S' g2;have bZ:=fu _ _ 0 _ _ _ qV;have c1:=fu _ _ 1 _ _ _ qV;have fH:=fu _ _ 2 _ _ _ g3.blk;simp at bZ c1 fH;go_wp2_with fail;go_frame;go_cut []from 46 to 62 (λDm=>∃QE,kE Dm (λk=>F k\/w.heap.size<=k) b n (jI++[(u,x)]) (jI++[(u,x)]) jI fI mo fx QE eM/\au F w Dm/\Dm.heap[B]?=ab (bl #[J R u,J R x] 192 (0,0)))
    case first=>
     have hrow:=g3.I0 u;have apz:=Jl jI u
     have Cx:∀w',au (λi=>((dX eT u).getD (ae af 0 0)).ownBlock=ab i) eE w'->(qA 303 (dj (ab mo)) (J R u) ao).run aw w'=a6 ((dX eT u).getD (ae af 0 0)) w':=λw' hw'=>
      ((g3.out.only hw' (λe=>tb hrow vI e)).lookup pj Bt Gh c3.1).1;have gO:=FI hrow g3.blk bf;have y9:=FI hrow qV bf
     have yf:aE (∀i,((dX eT u).getD (ae af 0 0)).ownBlock=ab i->F i\/w.heap.size<=i):=hid λi hi=>by
      cases hm:dX eT u with
      |none=>rw[hm]at hi;cases hi
      |some v=>rw[hm]at hi;exact g3.xZ _ (r7 hm) i hi
     have PY:=hid (λ(w' w1:aM) (v':aO)=>g3.outs (w':=w') (w1:=w1) (u:=u) (x:=x) (v':=v'));generalize ei:(dX eT u).getD (ae af 0 0)=ec at*;have mU:=hid ei;clear ei;have bZ:=fu _ _ 0 _ _ _ qV;have c1:=fu _ _ 1 _ _ _ qV;have fH:=fu _ _ 2 _ _ _ g3.blk;simp at bZ c1 fH
     have I:aE (∀w',au (λi=>ec.ownBlock=ab i) eE w'->w'.cell? ⟨b,2,af⟩=ab (dj (ab mo))/\w'.cell? ⟨B,0,af⟩=ab (J R u)/\w'.cell? ⟨B,1,af⟩=ab (J R x)):=
      hid λw' hw'=>⟨hw'.cell fH gO,hw'.cell bZ y9,hw'.cell c1 y9⟩;have apA:=Cx eE.drew (au.drew _);have apB:=λo=>Cx (eE.alloc o).drew ((au.alloc _ _).trans (au.drew _) (λ_ _ h=>h));have b9:aE (∀w',au (λi=>ec.ownBlock=ab i) eE w'->dM w' mo encI c4 eT):=hid λw' hw'=>g3.out.only hw' (λe=>tb hrow vI e);have apC:=g3.lo;have sE:=hid (And.intro (B0 g3.blk vI) (B0 qV vI));have zN:=hid y9;clear Cx gO y9 vI;obtain⟨i0,iX,hz0,hz1,hz2⟩:=u5 Fe
     go_region_held3 (λw'=>w'.cell? ⟨b,2,af⟩=ab (dj (ab mo))/\w'.cell? ⟨B,0,af⟩=ab (J R u)/\w'.cell? ⟨B,1,af⟩=ab (J R x))
      (first
        |exact I.out _ (au.drew _)
        |exact I.out _ ((au.alloc _ _).trans (au.drew _) (λ_ _ h=>h))
        |exact I.out _ (((au.alloc _ _).trans (au.drew _) (λ_ _ h=>h)).trans (au.of_grownBy hgrow (λi e=>bM e)) (λ_ _ h=>h))
        |exact oW.out)
      (first
        |(refine aiJ _ aY _ _ _ aY 0 3 i0 _ 1 8 hR iX hz0 hz1 hz2 aa ad ec _ _ aY ((hrow.alloc _).drew)
           ⟨eE.heap.size,0,af⟩ 1 1 [J R x] aY aY (aiG (cs:=#[J R x]) (t:=3) (fr:=(0,0)) (fz eE _)) (by simp[zz])
           ad (by unfold eh;omega) ad a8 (eE.heap.size+1) a8 ?_;intro vz cap w1 hown1 hgrow hat SG;obtain⟨gX,It,SJ,hg3,hs3⟩:=(b9.out _ (((au.alloc _ _).trans (au.drew _) (λ_ _ h=>h)).trans (au.of_grownBy hgrow (λi e=>bM e)) (λ_ _ h=>h))).update pj Bt (by unfold eh;omega) c3.1 (ae (ab ⟨vz,0,af⟩) ((succ jI u).length+1) cap);replace It:(DJ 303 (dj (ab mo)) (J R u) (ae (ab ⟨vz,0,af⟩) ((succ jI u).length+1) cap)).run aw w1=a6 () gX:=It
          have oW:aE (gX.cell? ⟨b,2,af⟩=ab (dj (ab mo))/\gX.cell? ⟨B,0,af⟩=ab (J R u)/\gX.cell? ⟨B,1,af⟩=ab (J R x)):=hid (by have hs1:=I.out _ (((au.alloc _ _).trans (au.drew _) (λ_ _ h=>h)).trans (au.of_grownBy hgrow (λi e=>bM e)) (λ_ _ h=>h));have lC:au (λi=>i=mo) w1 gX:=au.of_grownBy hg3 (λi e=>by cases e;exact bM aa);exact⟨lC.cell hs1.1 sE.out.1,lC.cell hs1.2.1 sE.out.2,lC.cell hs1.2.2 sE.out.2⟩)))
     all_goals
      go_wp2_with fail;go_meet;have fS:au (λi=>ec.ownBlock=ab i) eE w1:=((au.alloc _ _).trans (au.drew _) (λ_ _ h=>h)).trans (au.of_grownBy hgrow (λi e=>bM e)) (λ_ _ h=>h);have iM:au (λi=>i=mo) w1 gX:=au.of_grownBy hg3 (λi e=>by cases e;exact bM aa);have S':w.heap.size<=eE.heap.size:=pc.size
      have hloc:(ae (ab ⟨vz,0,af⟩) ((succ jI u).length+1) cap).ownBlock=ec.ownBlock\/∃g,(ae (ab ⟨vz,0,af⟩) ((succ jI u).length+1) cap).ownBlock=ab g/\eE.heap.size<=g:=by
       rcases hat with h|h;·exact bM h.symm
       .exact b8 ⟨vz,aa,ad⟩
      have fa:=PY.out gX w1 _ fS hown1 hloc iM SJ (λi hi=>b8 ad);refine⟨_,fa,(pc.trans fS ?_).trans iM ?_,iM.heap (fS.heap qV zN.out) sE.out.2⟩
      .intro i hi h;have h2:=yf.out i h;rcases h2 with h2|h2;·exact h2
       .omega
      .intro i hi h;rcases(g3.DF:_)with h2|h2;·exact h▸h2
       .omega
    case rest=>
     obtain⟨QE,g4,pc,qV⟩:=hcut;obtain⟨ay4,ayW,vI⟩:=g4.mG.uq;go_wp2_with fail;go_cut []from 63 to 79 (λDm=>∃XO,kE Dm (λk=>F k\/w.heap.size<=k) b n (jI++[(u,x)]) (jI++[(u,x)]) (jI++[(u,x)]) fI mo fx QE XO/\au F w Dm/\Dm.heap[B]?=ab (bl #[J R u,J R x] 192 (0,0)))
     case first=>
      have hrow:=g4.Th x;have apz:=T4 jI x
      have Cx:∀w',au (λi=>((dX eM x).getD (ae af 0 0)).ownBlock=ab i) wc w'->(qA 303 (dj (ab fx)) (J R x) ao).run aw w'=a6 ((dX eM x).getD (ae af 0 0)) w':=λw' hw'=>
       ((g4.mG.only hw' (λe=>tb hrow vI e)).lookup pj Bt Gh c3.2).1;have gO:=FI hrow g4.blk bf;have y9:=FI hrow qV bf
      have yf:aE (∀i,((dX eM x).getD (ae af 0 0)).ownBlock=ab i->F i\/w.heap.size<=i):=hid λi hi=>by
       cases hm:dX eM x with
       |none=>rw[hm]at hi;cases hi
       |some v=>rw[hm]at hi;exact g4.xY _ (r7 hm) i hi
      have PY:=hid (λ(w' w1:aM) (v':aO)=>g4.ins (w':=w') (w1:=w1) (u:=u) (x:=x) (v':=v'));generalize ei:(dX eM x).getD (ae af 0 0)=ec at*;have mU:=hid ei;clear ei;have bZ:=fu _ _ 0 _ _ _ qV;have c1:=fu _ _ 1 _ _ _ qV;have fH:=fu _ _ 3 _ _ _ g4.blk;simp at bZ c1 fH
      have I:aE (∀w',au (λi=>ec.ownBlock=ab i) wc w'->w'.cell? ⟨b,3,af⟩=ab (dj (ab fx))/\w'.cell? ⟨B,0,af⟩=ab (J R u)/\w'.cell? ⟨B,1,af⟩=ab (J R x)):=
       hid λw' hw'=>⟨hw'.cell fH gO,hw'.cell bZ y9,hw'.cell c1 y9⟩;have apA:=Cx wc.drew (au.drew _);have apB:=λo=>Cx (wc.alloc o).drew ((au.alloc _ _).trans (au.drew _) (λ_ _ h=>h));have b9:aE (∀w',au (λi=>ec.ownBlock=ab i) wc w'->dM w' fx encI c4 eM):=hid λw' hw'=>g4.mG.only hw' (λe=>tb hrow vI e);have apC:=g4.li;have sE:=hid (And.intro (B0 g4.blk vI) (B0 qV vI));have zN:=hid y9;clear Cx gO y9 vI;obtain⟨i0,iX,hz0,hz1,hz2⟩:=u5 Fe
      go_region_held3 (λw'=>w'.cell? ⟨b,3,af⟩=ab (dj (ab fx))/\w'.cell? ⟨B,0,af⟩=ab (J R u)/\w'.cell? ⟨B,1,af⟩=ab (J R x))
       (first
         |exact I.out _ (au.drew _)
         |exact I.out _ ((au.alloc _ _).trans (au.drew _) (λ_ _ h=>h))
         |exact I.out _ (((au.alloc _ _).trans (au.drew _) (λ_ _ h=>h)).trans (au.of_grownBy hgrow (λi e=>bM e)) (λ_ _ h=>h))
         |exact oW.out)
       (first
         |(refine aiJ _ aY _ _ _ aY 0 3 i0 _ 1 8 hR iX hz0 hz1 hz2 aa ad ec _ _ aY ((hrow.alloc _).drew)
            ⟨wc.heap.size,0,af⟩ 1 1 [J R u] aY aY (aiG (cs:=#[J R u]) (t:=3) (fr:=(0,0)) (fz wc _)) (by simp[zz])
            ad (by unfold eh;omega) ad a8 (wc.heap.size+1) a8 ?_;intro vz cap w1 hown1 hgrow hat SG;obtain⟨gX,It,SJ,hg4,hs3⟩:=(b9.out _ (((au.alloc _ _).trans (au.drew _) (λ_ _ h=>h)).trans (au.of_grownBy hgrow (λi e=>bM e)) (λ_ _ h=>h))).update pj Bt (by unfold eh;omega) c3.2 (ae (ab ⟨vz,0,af⟩) ((pred jI x).length+1) cap);replace It:(DJ 303 (dj (ab fx)) (J R x) (ae (ab ⟨vz,0,af⟩) ((pred jI x).length+1) cap)).run aw w1=a6 () gX:=It
           have oW:aE (gX.cell? ⟨b,3,af⟩=ab (dj (ab fx))/\gX.cell? ⟨B,0,af⟩=ab (J R u)/\gX.cell? ⟨B,1,af⟩=ab (J R x)):=hid (by have hs1:=I.out _ (((au.alloc _ _).trans (au.drew _) (λ_ _ h=>h)).trans (au.of_grownBy hgrow (λi e=>bM e)) (λ_ _ h=>h));have lC:au (λi=>i=fx) w1 gX:=au.of_grownBy hg4 (λi e=>by cases e;exact bM aa);exact⟨lC.cell hs1.1 sE.out.1,lC.cell hs1.2.1 sE.out.2,lC.cell hs1.2.2 sE.out.2⟩)))
      all_goals
       go_wp2_with fail;go_meet;have fS:au (λi=>ec.ownBlock=ab i) wc w1:=((au.alloc _ _).trans (au.drew _) (λ_ _ h=>h)).trans (au.of_grownBy hgrow (λi e=>bM e)) (λ_ _ h=>h);have iM:au (λi=>i=fx) w1 gX:=au.of_grownBy hg4 (λi e=>by cases e;exact bM aa);have S':w.heap.size<=wc.heap.size:=pc.size
       have hloc:(ae (ab ⟨vz,0,af⟩) ((pred jI x).length+1) cap).ownBlock=ec.ownBlock\/∃g,(ae (ab ⟨vz,0,af⟩) ((pred jI x).length+1) cap).ownBlock=ab g/\wc.heap.size<=g:=by
        rcases hat with h|h;·exact bM h.symm
        .exact b8 ⟨vz,aa,ad⟩
       have fa:=PY.out gX w1 _ fS hown1 hloc iM SJ (λi hi=>b8 ad);refine⟨_,fa,(pc.trans fS ?_).trans iM ?_,iM.heap (fS.heap qV zN.out) sE.out.2⟩
       .intro i hi h;have h2:=yf.out i h;rcases h2 with h2|h2;·exact h2
        .omega
       .intro i hi h;rcases(g4.DE:_)with h2|h2;·exact h▸h2
        .omega
     case rest=>
      obtain⟨XO,g5,pc,qV⟩:=hcut;clear qV;go_wp2;go_roundw
      case rel=>
       refine⟨k+1,ad,by go_num,?_,?_,pc⟩;·rw[ey.out,WQ.out];have bB:((jI++[(u,x)]).length -E.length:Nat)=(jI.length -E.length)+1:=aF;rw[bB];go_num
       .rw[ey.out,WQ.out];exact⟨⟨_,_,_,_,_,g5⟩,Xl.out.1,Xl.out.2⟩
      case measure=>grind[cy]
   .have AK:pU n jI (u,x)=jI:=by unfold pU;rw[if_neg nP]
    have zP:=hid AK;have aiM:=hid nP;clear AK nP;cases r6:qe n u with
    |false=>
     go_quiet ((go_at_call 253;exact C8 (zo _ _ _ _ mH)));go_wp2;go_roundw;case rel=>exact⟨k+1,ad,by go_num,by rw[ey.out,zP.out],by rw[ey.out,zP.out];exact(gL.out _).1,(gL.out _).2⟩
     case measure=>simp[cy];omega
    |true=>
     cases hv2:qe n x with
     |false=>
      go_quiet ((go_at_call 253;(first|exact C8 (zo _ _ _ _ mH)|exact FT (zo _ _ _ _ mH))));go_wp2;go_roundw;case rel=>exact⟨k+1,ad,by go_num,by rw[ey.out,zP.out],by rw[ey.out,zP.out];exact(gL.out _).1,(gL.out _).2⟩
      case measure=>simp[cy];omega
     |true=>
      by_cases pg:u=x
      .have hq:(u==x)=true:=by simpa using pg
       have kc:=hid pg;clear pg;go_quiet ((go_at_call 253;(first|exact C8 (zo _ _ _ _ mH)|exact FT (zo _ _ _ _ mH))));go_wp2;go_roundw;case rel=>exact⟨k+1,ad,by go_num,by rw[ey.out,zP.out],by rw[ey.out,zP.out];exact(gL.out _).1,(gL.out _).2⟩
       case measure=>simp[cy];omega
      .have hq:(u==x)=false:=by simpa using pg
       have xj:(u,x)∈jI:=by have:=aiM.out;simpa [canAdd,r6,hv2,pg]using this
       have hlk:∀nq,(qA 302 (dj (ab fI)) (av #[J R u,J R x]) ao).run aw (W.drewN nq)=a6 (ai az) (W.drewN nq):=λnq=>by have h:=((g1.mC.only (au.drewN (F:=λ_=>False) W nq) (λh=>h)).lookup Mw Pk UR c3).1;rw[xy g1.mC.nodup (fL.2 ⟨(u,x),xj,aa⟩)]at h;exact h
       clear pg xj;go_quiet ((go_at_call 253;(first|exact C8 (zo _ _ _ _ mH)|exact FT (zo _ _ _ _ mH))));go_wp2;go_roundw;case rel=>exact⟨k+1,ad,by go_num,by rw[ey.out,zP.out],by rw[ey.out,zP.out];exact(gL.out _).1,(gL.out _).2⟩
       case measure=>simp[cy];omega
  .obtain rfl:k=l.length:=ad;rw[kH]at*;have Kq:=hid EF;have er:=hid hO;clear EF hO fe kO ff bC hl;go_wp2;go_ret;exact⟨aa,Kq.out.mono (λi hi h=>by rcases h with h|h;exact bM h;exact b8 ⟨h,hi⟩),er.out⟩
end G
open Go.RowKit Go.MapKept
def oj.at{w p S}(h:oj w p S){i x}(hx:S[i]?=ab x):∃b o c,w.cell? ⟨p,0,af⟩=ab (ae (ab ⟨b,o,af⟩) S.length c)/\w.cell? ⟨b,o+i*3,af⟩=ab (J R x.1.1)/\w.cell? ⟨b,o+i*3+1,af⟩=ab (J R x.1.2)/\w.cell? ⟨b,o+i*3+2,af⟩=ab (J R x.2):=by obtain⟨A,c,h1,a,d⟩:=h;have hi:=(e5.1 hx).1;obtain⟨b,o,rfl,hc⟩:=a ad;grind[pH]
def akF(i:Nat)(oa cT p)S off W x(hx:S[i]?=ab x)(l:et x.1)(f:W.cell? ⟨oa,0,af⟩=ab (ax (ab ⟨p,0,af⟩)))(h1:W.cell? ⟨cT,0,af⟩=ab (J R off))(g:oj W p S)r(hr:decide (off<x.1.1+x.1.2)=r):
 aD aw 344 #[J R i,ax (ab ⟨oa,0,af⟩),ax (ab ⟨cT,0,af⟩)] W λe w'=>e=aB (ai r)/\ar W w':=by
 obtain⟨b,o,c,fS,fD,a,_⟩:=g.at hx;obtain⟨⟨df,br⟩,lh⟩:=x;obtain⟨k,v2,v3⟩:=l;simp only at fD a k v2 v3 hr;have hi:=(e5.1 hx).1;have hb0:(i:Int)<(S.length:Int):=ad
 have d:aE (∀w',ar W w'->w'.cell? ⟨oa,0,af⟩=ab (ax (ab ⟨p,0,af⟩))/\w'.cell? ⟨cT,0,af⟩=ab (J R off)/\w'.cell? ⟨p,0,af⟩=ab (ae (ab ⟨b,o,af⟩) S.length c)/\w'.cell? ⟨b,o+i*3,af⟩=ab (J R df)/\w'.cell? ⟨b,o+i*3+1,af⟩=ab (J R br)):=
  hid (λw' h=>⟨h.cell f (λh=>h),h.cell h1 (λh=>h),h.cell fS (λh=>h),h.cell fD (λh=>h),h.cell a (λh=>h)⟩);clear f h1 fS fD a g hx;generalize S.length=n at*;go_enter func344,ntmps344;go_wp2_with fail
 go_region_held3 (λw'=>w'.cell? ⟨oa,0,af⟩=ab (ax (ab ⟨p,0,af⟩))/\w'.cell? ⟨cT,0,af⟩=ab (J R off)/\w'.cell? ⟨p,0,af⟩=ab (ae (ab ⟨b,o,af⟩) n c)/\w'.cell? ⟨b,o+i*3,af⟩=ab (J R df)/\w'.cell? ⟨b,o+i*3+1,af⟩=ab (J R br))
  (first
    |exact d.out _ (au.drew _)
    |exact d.out _ j)
  (first
    |(go_at_call 117;refine(lO df br _ k v2 v3).mono ?_;rintro e m ⟨rfl,ha0⟩;have j:ar W m:=ar.trans (au.drew _) ha0))
 all_goals
  go_wp2;go_ret;exact⟨aY,j⟩
def ano args w:(callFunc 344 args).run aw w=a6 (.enter 344 args) w:=aY
def uJ(S:List kj)(off:Int)(i:Nat):Bool:=decide (off<(S[i]?.getD yK).1.1+(S[i]?.getD yK).1.2)
def jW.at{S}(h:jW S){i:Nat}{x}(hx:S[i]?=ab x):et x.1/\0<x.1.2:=h.2 x (cY hx)
def jW.lt{S}(h:jW S){i j:Nat}{x y}(hx:S[i]?=ab x)(c:S[j]?=ab y)(a:i<j):x.1.1+x.1.2<=y.1.1:=by obtain⟨hi,rfl⟩:=e5.1 hx;obtain⟨b,rfl⟩:=e5.1 c;exact l5.1 h.1 i j hi b a
def atf{S}(h:jW S)off(a b)(hab:a<=b)(hb:b<S.length)(e:uJ S off a=az):uJ S off b=true:=by
 unfold uJ at*;rcases Nat.lt_or_eq_of_le hab with hlt|rfl;·have c:=cC (l:=S) (i:=a) ad;have hb':=cC (l:=S) (i:=b) hb;have h1:=h.lt c hb' hlt;have d:=(h.at hb').2;grind
 .omega
def akE p S off w(c:oj w p S)(j:jW S):
 aD aw 310 #[ax (ab ⟨p,0,af⟩),J R off] w λe w'=>∃k:Nat,e=aB (J R k)/\IsCut S.length (uJ S off) k/\ar w w':=by
 have hlen:=c;obtain⟨_,_,_,_,n⟩:=hlen;have b:=hid (And.intro c j);have o:∀(g:Fn) (first cap:Array aO) (w:aM),(Instr.makeFunc g first cap).run aw w=a6 (dC g first cap) w:=λ_ _ _ _=>aa;clear c j
 have a:aE (ar w ((w.alloc (bl #[ax (ab ⟨p,0,af⟩)] 295)).alloc (bl #[J R off] 3))/\((w.alloc (bl #[ax (ab ⟨p,0,af⟩)] 295)).alloc (bl #[J R off] 3)).cell? ⟨w.heap.size,0,af⟩=ab (ax (ab ⟨p,0,af⟩))/\((w.alloc (bl #[ax (ab ⟨p,0,af⟩)] 295)).alloc (bl #[J R off] 3)).cell? ⟨w.heap.size+1,0,af⟩=ab (J R off)):=hid (by have g1:=fz w (bl #[ax (ab ⟨p,0,af⟩)] 295);have g2:=fz (w.alloc (bl #[ax (ab ⟨p,0,af⟩)] 295)) (bl #[J R off] 3);rw[zB]at g2;exact⟨ar.trans (au.alloc _ _) (au.alloc _ _),(au.alloc (F:=λ_=>False) _ _).cell (pH g1) (λh=>h),pH g2⟩);go_enter func310,ntmps310;go_wp2_with fail;go_at_call 311;clear o;generalize (w.alloc (bl #[ax (ab ⟨p,0,af⟩)] 295)).alloc (bl #[J R off] 3)=aq at*;refine(xv p S aq (b.out.1.aG a.out.1)).mono ?_;rintro e w1 ⟨rfl,rfl⟩
 have m:aE (aD aw 287 #[J R S.length,dC (ed 344) #[] #[ax (ab ⟨w.heap.size,0,af⟩),ax (ab ⟨w.heap.size+1,0,af⟩)]] aq λe w'=>∃k:Nat,e=aB (J R k)/\IsCut S.length (uJ S off) k/\ar aq w'):=hid (by refine Nq _ _ S.length (uJ S off) aq n ano (λW i hi d=>?_) (atf b.out.2 off);have hx:=cC (l:=S) (i:=i) hi;exact akF i _ _ p S off W _ hx (b.out.2.at hx).1 (d.cell a.out.2.1 (λh=>h)) (d.cell a.out.2.2 (λh=>h)) (b.out.1.aG (ar.trans a.out.1 d)) _ (by grind[uJ]));go_wp2_with (go_at_call 287;have f:=m.out;with_reducible refine f.mono ?_;clear f;rintro e q ⟨k,rfl,hk,hg2⟩);go_ret;exact⟨k,aa,hk,ar.trans a.out.1 hg2⟩
def IsCut.before{S off k}(h:IsCut S.length (uJ S off) k){i x}(hx:S[i]?=ab x)(hi:i<k):x.1.1+x.1.2<=off:=by have:=h.2.1 i hi;grind[uJ]
def IsCut.behind{S off k}(h:IsCut S.length (uJ S off) k){i x}(hx:S[i]?=ab x)(hi:k<=i):off<x.1.1+x.1.2:=by have:=h.2.2 i hi (e5.1 hx).1;grind[uJ]
open Go.Shelf
def Tryz.arc:Go.Shelf.Ren:=⟨λ|107=>190|108=>262|n=>n,λ|28=>82|3=>3|4=>4|0=>0|n=>n,λ|n=>n⟩
def Tryz.acW:aya aw Tryz.arc:={
 mixed:=aY
 f107:=func190.trans (congrArg ab aY)
 f108:=func262.trans (congrArg ab aY)
 t0:=wu
 a0:=wm
 z0:=wq
 v0:=wv
 t3:=jJ
 a3:=qC
 z3:=qD
 v3:=qE
 t4:=tC
 a4:=tz
 z4:=tA
 v4:=tD
 t28:=hR
 a28:=Bq
 z28:=Bs
 v28:=Bv}
def Tryz.arl:Go.Shelf.Ren:=⟨λ|15=>380|n=>n,λ|22=>82|3=>3|4=>4|n=>n,λ|n=>n⟩
def Tryz.Ts:aye aw Tryz.arl:={
 mixed:=aY
 f15:=func380.trans (congrArg ab aY)
 t3:=jJ
 a3:=qC
 z3:=qD
 v3:=qE
 t4:=tC
 a4:=tz
 z4:=tA
 v4:=tD
 t22:=hR
 a22:=Bq
 z22:=Bs
 v22:=Bv
 i3:=by rfl}
def Tryz.arn:Go.Shelf.Ren:=⟨λ|25=>305|31=>339|32=>340|37=>194|n=>n,λ|22=>82|3=>3|4=>4|40=>311|0=>0|n=>n,λ|n=>n⟩
def Tryz.acZ:ayg aw Tryz.arn:={
 mixed:=aY
 f25:=func305.trans (congrArg ab aY)
 f31:=Tryz.func339.trans (congrArg ab aY)
 f32:=func340.trans (congrArg ab aY)
 f37:=O5.trans (congrArg ab aY)
 t0:=wu
 a0:=wm
 z0:=wq
 v0:=wv
 t3:=jJ
 a3:=qC
 z3:=qD
 v3:=qE
 t4:=tC
 a4:=tz
 z4:=tA
 v4:=tD
 t22:=hR
 a22:=Bq
 z22:=Bs
 v22:=Bv
 t40:=J4
 a40:=JY
 z40:=J1
 v40:=J6}
def Tryz.acY:Go.Shelf.Ren:=⟨λ|21=>306|27=>341|28=>342|35=>364|39=>382|n=>n,λ|22=>82|3=>3|4=>4|0=>0|n=>n,λ|n=>n⟩
def Tryz.II:ayf aw Tryz.acY:={
 mixed:=aY
 f21:=func306.trans (congrArg ab aY)
 f27:=func341.trans (congrArg ab aY)
 f28:=func342.trans (congrArg ab aY)
 f35:=func364.trans (congrArg ab aY)
 f39:=func382.trans (congrArg ab aY)
 t0:=wu
 a0:=wm
 z0:=wq
 v0:=wv
 t3:=jJ
 a3:=qC
 z3:=qD
 v3:=qE
 t4:=tC
 a4:=tz
 z4:=tA
 v4:=tD
 t22:=hR
 a22:=Bq
 z22:=Bs
 v22:=Bv
 i3:=by rfl}
def Tryz.arh:Go.Shelf.Ren:=⟨λ|10=>334|6=>363|n=>n,λ|22=>82|23=>3|25=>144|3=>3|4=>4|0=>0|n=>n,λ|n=>n⟩
def Tryz.arf:ayi aw Tryz.arh:={
 mixed:=aY
 f6:=⟨f363.name,bf,func363.trans (congrArg ab aY)⟩
 f10:=⟨f334.name,bf,func334.trans (congrArg ab aY)⟩
 t0:=wu
 a0:=wm
 z0:=wq
 v0:=wv
 t3:=jJ
 a3:=qC
 z3:=qD
 v3:=qE
 t4:=tC
 a4:=tz
 z4:=tA
 v4:=tD
 t22:=hR
 a22:=Bq
 z22:=Bs
 v22:=Bv
 a23:=qC
 z23:=qD
 t25:=Tryz.underlying144
 a25:=Tryz.isAgg144
 z25:=Tryz.sizeOf144
 v25:=Tryz.zeroValue144}
def Tryz.acS:Go.Shelf.Ren:=⟨λ|7=>381|10=>388|n=>n,λ|23=>467|26=>3|3=>4|28=>300|0=>0|27=>143|33=>144|4=>4|n=>n,λ|n=>n⟩
def Tryz.acR:ayl aw Tryz.acS:={
 mixed:=aY
 f7:=⟨f381.name,bf,func381.trans (congrArg ab aY)⟩
 f10:=⟨f388.name,bf,Tryz.func388.trans (congrArg ab aY)⟩
 t0:=wu
 a0:=wm
 z0:=wq
 v0:=wv
 t4:=tC
 a4:=tz
 z4:=tA
 v4:=tD
 t23:=Tryz.underlying467
 a23:=isAgg467
 z23:=sizeOf467
 v23:=zeroValue467
 t26:=jJ
 a26:=qC
 z26:=qD
 v26:=qE
 t27:=underlying143
 a27:=isAgg143
 z27:=sizeOf143
 v27:=zeroValue143
 t28:=Tryz.underlying300
 a28:=Tryz.isAgg300
 z28:=Tryz.sizeOf300
 v28:=Tryz.zeroValue300
 t33:=Tryz.underlying144
 a33:=Tryz.isAgg144
 z33:=Tryz.sizeOf144
 v33:=Tryz.zeroValue144}
def Tryz.afo:Go.Shelf.Ren:=⟨λ|6=>183|8=>254|9=>255|11=>312|13=>193|12=>313|23=>271|24=>272|14=>345|15=>346|16=>347|17=>348|18=>349|19=>350|20=>339|21=>351|22=>352|25=>373|26=>317|27=>318|28=>374|29=>375|30=>194|31=>386|n=>n,λ|26=>3|28=>300|24=>82|0=>0|3=>3|37=>311|48=>315|50=>42|4=>4|40=>372|39=>371|45=>188|5=>5|9=>9|51=>420|55=>423|57=>448|58=>80|33=>144|n=>n,λ|n=>n⟩
def Tryz.avv:ayk aw Tryz.afo:={
 mixed:=aY
 f6:=⟨f183.name,bf,Tryz.func183.trans (congrArg ab aY)⟩
 f8:=⟨f254.name,bf,Tryz.func254.trans (congrArg ab aY)⟩
 f11:=⟨f312.name,bf,Tryz.func312.trans (congrArg ab aY)⟩
 t0:=wu
 a0:=wm
 z0:=wq
 v0:=wv
 t24:=hR
 a24:=Bq
 z24:=Bs
 v24:=Bv
 t26:=jJ
 a26:=qC
 z26:=qD
 v26:=qE
 t28:=Tryz.underlying300
 a28:=Tryz.isAgg300
 z28:=Tryz.sizeOf300
 v28:=Tryz.zeroValue300
 i26:=by rfl}
def Tryz.avn:Go.Shelf.Ren:=⟨λ|5=>255|8=>193|7=>313|19=>271|20=>272|10=>345|11=>346|12=>347|13=>348|14=>349|15=>350|16=>339|17=>351|18=>352|30=>373|31=>317|32=>318|33=>374|34=>375|35=>194|40=>386|n=>n,λ|23=>82|25=>3|3=>3|32=>311|22=>82|0=>0|44=>315|46=>42|4=>4|36=>372|35=>371|41=>188|5=>5|9=>9|53=>420|57=>423|63=>448|64=>80|n=>n,λ|n=>n⟩
def Tryz.afl:ayj aw Tryz.avn:={
 mixed:=aY
 f5:=⟨f255.name,bf,Tryz.func255.trans (congrArg ab aY)⟩
 f7:=⟨f313.name,bf,func313.trans (congrArg ab aY)⟩
 f8:=Vv.trans (congrArg ab aY)
 f10:=⟨f345.name,bf,func345.trans (congrArg ab aY)⟩
 f11:=⟨f346.name,bf,func346.trans (congrArg ab aY)⟩
 f12:=⟨f347.name,bf,func347.trans (congrArg ab aY)⟩
 f13:=⟨f348.name,bf,func348.trans (congrArg ab aY)⟩
 f14:=⟨f349.name,bf,func349.trans (congrArg ab aY)⟩
 f15:=⟨f350.name,bf,func350.trans (congrArg ab aY)⟩
 f16:=⟨f339.name,bf,Tryz.func339.trans (congrArg ab aY)⟩
 f17:=⟨f351.name,bf,func351.trans (congrArg ab aY)⟩
 f18:=⟨f352.name,bf,func352.trans (congrArg ab aY)⟩
 f19:=VD.trans (congrArg ab aY)
 f20:=VE.trans (congrArg ab aY)
 f30:=⟨f373.name,bf,func373.trans (congrArg ab aY)⟩
 f31:=VI.trans (congrArg ab aY)
 f32:=VJ.trans (congrArg ab aY)
 f33:=⟨f374.name,bf,func374.trans (congrArg ab aY)⟩
 f34:=⟨f375.name,bf,func375.trans (congrArg ab aY)⟩
 f35:=⟨f194.name,bf,O5.trans (congrArg ab aY)⟩
 f40:=⟨f386.name,bf,func386.trans (congrArg ab aY)⟩
 t0:=wu
 a0:=wm
 z0:=wq
 v0:=wv
 t3:=jJ
 a3:=qC
 z3:=qD
 v3:=qE
 t4:=tC
 a4:=tz
 z4:=tA
 v4:=tD
 t5:=l2
 a5:=Tryz.isAgg5
 z5:=J2
 v5:=J7
 t9:=DN
 a9:=Tryz.isAgg9
 z9:=GB
 v9:=GC
 t22:=hR
 a22:=Bq
 z22:=Bs
 v22:=Bv
 t23:=hR
 a23:=Bq
 z23:=Bs
 v23:=Bv
 t25:=jJ
 a25:=qC
 z25:=qD
 v25:=qE
 t32:=J4
 a32:=JY
 z32:=J1
 v32:=J6
 t35:=Wj
 a35:=VP
 z35:=V'
 v35:=Wt
 t36:=Wk
 a36:=VQ
 z36:=Wa
 v36:=Wu
 t41:=Wg
 a41:=VO
 z41:=V9
 v41:=Ws
 t44:=Pl
 a44:=Pb
 z44:=Ph
 v44:=Pm
 t46:=Wl
 a46:=VR
 z46:=Wb
 v46:=Wv
 t53:=Wm
 a53:=VS
 z53:=Wc
 v53:=Ww
 t57:=Wn
 a57:=VT
 z57:=Wd
 v57:=Wx
 t63:=Wp
 a63:=VU
 z63:=We
 v63:=Wy
 t64:=Wr
 a64:=VV
 z64:=Wf
 v64:=Wz}
def Tryz.are:Go.Shelf.Ren:=⟨λ|122=>108|215=>194|n=>n,λ|3=>3|4=>4|n=>n,λ|n=>n⟩
def Tryz.ard:ayb aw Tryz.are:={
 mixed:=aY
 f122:=Tryz.func108.trans (congrArg ab aY)
 f215:=O5.trans (congrArg ab aY)
 t3:=jJ
 a3:=qC
 z3:=qD
 v3:=qE
 t4:=tC
 a4:=tz
 z4:=tA
 v4:=tD}
def Tryz.arq:Go.Shelf.Ren:=⟨λ|6=>307|15=>193|14=>343|28=>271|29=>272|20=>365|21=>366|22=>367|23=>368|24=>369|25=>370|26=>371|27=>372|46=>383|47=>317|48=>318|49=>384|50=>385|57=>389|n=>n,λ|22=>409|24=>413|25=>415|3=>3|39=>311|0=>0|53=>315|55=>42|4=>4|46=>372|45=>371|50=>188|5=>5|9=>9|66=>420|70=>423|76=>448|77=>80|n=>n,λ|n=>n⟩
def Tryz.ac1:agP aw Tryz.arq:={
 mixed:=aY
 f6:=⟨f307.name,bf,func307.trans (congrArg ab aY)⟩
 f14:=⟨f343.name,bf,func343.trans (congrArg ab aY)⟩
 f15:=Vv.trans (congrArg ab aY)
 f20:=⟨f365.name,bf,func365.trans (congrArg ab aY)⟩
 f21:=⟨f366.name,bf,func366.trans (congrArg ab aY)⟩
 f22:=⟨f367.name,bf,func367.trans (congrArg ab aY)⟩
 f23:=⟨f368.name,bf,func368.trans (congrArg ab aY)⟩
 f24:=⟨f369.name,bf,func369.trans (congrArg ab aY)⟩
 f25:=⟨f370.name,bf,func370.trans (congrArg ab aY)⟩
 f26:=⟨f371.name,bf,func371.trans (congrArg ab aY)⟩
 f27:=⟨f372.name,bf,func372.trans (congrArg ab aY)⟩
 f28:=VD.trans (congrArg ab aY)
 f29:=VE.trans (congrArg ab aY)
 f46:=⟨f383.name,bf,func383.trans (congrArg ab aY)⟩
 f47:=VI.trans (congrArg ab aY)
 f48:=VJ.trans (congrArg ab aY)
 f49:=⟨f384.name,bf,func384.trans (congrArg ab aY)⟩
 f50:=⟨f385.name,bf,func385.trans (congrArg ab aY)⟩
 f57:=⟨f389.name,bf,func389.trans (congrArg ab aY)⟩
 t0:=wu
 a0:=wm
 z0:=wq
 v0:=wv
 t3:=jJ
 a3:=qC
 z3:=qD
 v3:=qE
 t4:=tC
 a4:=tz
 z4:=tA
 v4:=tD
 t5:=l2
 a5:=Tryz.isAgg5
 z5:=J2
 v5:=J7
 t9:=DN
 a9:=Tryz.isAgg9
 z9:=GB
 v9:=GC
 t22:=underlying409
 a22:=isAgg409
 z22:=sizeOf409
 v22:=zeroValue409
 t25:=underlying415
 a25:=isAgg415
 z25:=sizeOf415
 v25:=zeroValue415
 t39:=J4
 a39:=JY
 z39:=J1
 v39:=J6
 t45:=Wj
 a45:=VP
 z45:=V'
 v45:=Wt
 t46:=Wk
 a46:=VQ
 z46:=Wa
 v46:=Wu
 t50:=Wg
 a50:=VO
 z50:=V9
 v50:=Ws
 t53:=Pl
 a53:=Pb
 z53:=Ph
 v53:=Pm
 t55:=Wl
 a55:=VR
 z55:=Wb
 v55:=Wv
 t66:=Wm
 a66:=VS
 z66:=Wc
 v66:=Ww
 t70:=Wn
 a70:=VT
 z70:=Wd
 v70:=Wx
 t76:=Wp
 a76:=VU
 z76:=We
 v76:=Wy
 t77:=Wr
 a77:=VV
 z77:=Wf
 v77:=Wz}
def Tryz.arp:Go.Shelf.Ren:=⟨λ|6=>106|15=>193|14=>192|28=>271|29=>272|20=>263|21=>264|22=>265|23=>266|24=>267|25=>268|26=>269|27=>270|46=>316|47=>317|48=>318|49=>319|50=>320|57=>353|n=>n,λ|22=>24|24=>73|25=>172|3=>3|39=>311|0=>0|53=>315|55=>42|4=>4|46=>372|45=>371|50=>188|5=>5|9=>9|66=>420|70=>423|76=>448|77=>80|n=>n,λ|n=>n⟩
def Tryz.ac0:agP aw Tryz.arp:={
 mixed:=aY
 f6:=⟨f106.name,bf,func106.trans (congrArg ab aY)⟩
 f14:=⟨f192.name,bf,func192.trans (congrArg ab aY)⟩
 f15:=Vv.trans (congrArg ab aY)
 f20:=⟨f263.name,bf,func263.trans (congrArg ab aY)⟩
 f21:=⟨f264.name,bf,func264.trans (congrArg ab aY)⟩
 f22:=⟨f265.name,bf,func265.trans (congrArg ab aY)⟩
 f23:=⟨f266.name,bf,func266.trans (congrArg ab aY)⟩
 f24:=⟨f267.name,bf,func267.trans (congrArg ab aY)⟩
 f25:=⟨f268.name,bf,func268.trans (congrArg ab aY)⟩
 f26:=⟨f269.name,bf,func269.trans (congrArg ab aY)⟩
 f27:=⟨f270.name,bf,func270.trans (congrArg ab aY)⟩
 f28:=VD.trans (congrArg ab aY)
 f29:=VE.trans (congrArg ab aY)
 f46:=⟨f316.name,bf,func316.trans (congrArg ab aY)⟩
 f47:=VI.trans (congrArg ab aY)
 f48:=VJ.trans (congrArg ab aY)
 f49:=⟨f319.name,bf,func319.trans (congrArg ab aY)⟩
 f50:=⟨f320.name,bf,func320.trans (congrArg ab aY)⟩
 f57:=⟨f353.name,bf,func353.trans (congrArg ab aY)⟩
 t0:=wu
 a0:=wm
 z0:=wq
 v0:=wv
 t3:=jJ
 a3:=qC
 z3:=qD
 v3:=qE
 t4:=tC
 a4:=tz
 z4:=tA
 v4:=tD
 t5:=l2
 a5:=Tryz.isAgg5
 z5:=J2
 v5:=J7
 t9:=DN
 a9:=Tryz.isAgg9
 z9:=GB
 v9:=GC
 t22:=Tryz.underlying24
 a22:=isAgg24
 z22:=sizeOf24
 v22:=zeroValue24
 t25:=underlying172
 a25:=isAgg172
 z25:=sizeOf172
 v25:=zeroValue172
 t39:=J4
 a39:=JY
 z39:=J1
 v39:=J6
 t45:=Wj
 a45:=VP
 z45:=V'
 v45:=Wt
 t46:=Wk
 a46:=VQ
 z46:=Wa
 v46:=Wu
 t50:=Wg
 a50:=VO
 z50:=V9
 v50:=Ws
 t53:=Pl
 a53:=Pb
 z53:=Ph
 v53:=Pm
 t55:=Wl
 a55:=VR
 z55:=Wb
 v55:=Wv
 t66:=Wm
 a66:=VS
 z66:=Wc
 v66:=Ww
 t70:=Wn
 a70:=VT
 z70:=Wd
 v70:=Wx
 t76:=Wp
 a76:=VU
 z76:=We
 v76:=Wy
 t77:=Wr
 a77:=VV
 z77:=Wf
 v77:=Wz}
def w6:Nat->List (Int×Int)->List kj
 |_,[]=>[]
 |k,e::t=>(e,(k:Int))::w6 (k+1) t
def iH(l:List (Int×Int)):List kj:=w6 0 l
theorem ZB e:∀(t) k,w6 k (t++[e])=w6 k t++[(e,((k+t.length:Nat):Int))]
 |[],k=>aa
 |x::t,k=>by simp only[oZ,w6,ZB e t (k+1),js];rw[show k+1+t.length=k+(t.length+1) by omega]
def anC t e:iH (t++[e])=iH t++[(e,(t.length:Int))]:=by grind[iH,ZB]
def Zz:∀(t) k,(w6 k t).length=t.length
 |[],_=>aa
 |_::t,k=>by simp[w6,Zz t (k+1)]
theorem Am l:(iH l).length=l.length:=Zz l 0
theorem RQ:∀(t) (k i),(w6 k t)[i]?=(t[i]?).map λe=>(e,((k+i:Nat):Int))
 |[],_,i=>by rfl
 |e::t,k,0=>by rfl
 |e::t,k,i+1=>by simp only[w6,List.getElem?_cons_succ];rw[RQ t (k+1) i,show k+1+i=k+(i+1) by omega]
theorem EB l(i:Nat):(iH l)[i]?=(l[i]?).map λe=>(e,(i:Int)):=by grind[iH,RQ]
theorem AP{l x}:x∈iH l↔∃i:Nat,l[i]?=ab x.1/\x.2=(i:Int):=by
 rw[List.mem_iff_getElem?];constructor;·grind[EB]
 .rintro⟨i,hi,h2⟩;refine⟨i,?_⟩;grind[EB]
def oz(x:kj):List Value:=[J R x.1.1,J R x.1.2,J R x.2]
def qT(S:List kj):List Value:=S.flatMap oz
def alO S:(qT S).length=S.length*3:=by
 unfold qT;induction S with
 |nil=>rfl
 |cons e r a=>grind[oz]
def alP S x:qT (S++[x])=qT S++oz x:=by simp[qT]
def YR:∀(S) (j c),j<S.length->c<3->(qT S)[j*3+c]?=(oz (S[j]?.getD yK))[c]?
 |[],j,c,a,_=>by grind
 |x::S,0,c,_,hc=>by grind[oz,qT]
 |x::S,j+1,c,a,hc=>by
  show(oz x++qT S)[(j+1)*3+c]?=_;rw[List.getElem?_append_right (by simp[oz];omega)];have bB:(j+1)*3+c -(oz x).length=j*3+c:=by simp[oz];omega
  rw[bB,YR S j c (by simpa using a) hc];simp
theorem mX.nU{w base n c A S}(h:w.ownsRow base 413 3 (ae A n c) n (qT S)):n=S.length/\mX w A S:=by
 have hn:n=S.length:=by have:=h.1;rw[alO]at this;omega
 refine⟨hn,λk=>?_⟩;rcases h.2 with⟨hv,e⟩|⟨g,cap,cur,hv,hb,f,i,hcm,hcs,b⟩;·omega
 .injection hv with h1 h2 h3;subst h1;refine⟨g,0,rfl,λj a=>?_⟩
  have key:∀c,c<3->∀u,(oz (S[j]?.getD yK))[c]?=ab u->w.cell? ⟨g,0+j*3+c,af⟩=ab u:=λc hc u d=>by rw[<-YR S j c a hc,<-b,om,if_pos ad]at d;grind[World.cell?]
  exact⟨key 0 ad _ aa,key 1 ad _ aa,key 2 ad _ aa⟩
def YX(x y)w:aD aw 108 #[J R x,J R y] w λe w'=>e=aB (J R (zu x y))/\w'=w:=Any.cmp_Compare_int Tryz.ard x y w
def avy(x y:kj)W:aD aw 308 #[av #[J R x.1.1,J R x.1.2,J R x.2],av #[J R y.1.1,J R y.1.2,J R y.2]] W λe w'=>e=aB (J R (zu x.1.1 y.1.1))/\∃q b,w'=GF (W.drewN q) b:=by have hcon:=λa=>YX x.1.1 y.1.1 a;generalize zu x.1.1 y.1.1=r at hcon⊢;go_enter func308,ntmps308;go_wp2_with (go_at_call 108;refine(hcon _).mono ?_;rintro e w' ⟨rfl,rfl⟩);go_ret;exact⟨aa,0,_,by rw[Ps,Ps,Sort.grow_grow];rfl⟩
def Lh(x y:kj):Int:=zu x.1.1 y.1.1
theorem MK(x y):GD Lh x y=decide (x.1.1<y.1.1):=by grind[GD,Lh,zu]
def avP:Sort.SWO (GD Lh) where
 irrefl x:=by grind[MK]
 trans x y z h1 h2:=by grind[MK]
 ntrans x y z h1 h2:=by grind[MK]
def ann args w:(callFunc 308 args).run aw w=a6 (.enter 308 args) w:=aY
def au.putRowK F w(blk off)d(hb:F blk):au F w (Sort.putRowK oz 3 w blk off d):=
 ⟨aa,aa,aa,by show w.heap.size<=(w.heap.modify blk _).size;simp,λk _ hn=>by show(w.heap.modify blk _)[k]?=_;grind⟩
def au.Z6 F w os:au F w (GF w os):=
 ⟨aa,aa,aa,by show w.heap.size<=(w.heap++os).size;rw[Array.size_append];omega,λk hk _=>by show(w.heap++os)[k]?=_;rw[JE hk]⟩
def au.Yg F w q:au F w (J' w q):=⟨aa,aa,aa,b4 _,λ_ _ _=>aa⟩
def getElem!_toArray(S:List kj)j(a:j<S.length):S.toArray[j]! =S[j]?.getD default:=a8
def mX.holds{w g S cur}(i:w.heap[g]?=ab (bl cur 413 (0,0)))(h:mX w (ab ⟨g,0,af⟩) S):Pr oz 3 w g 0 S.toArray:=λt d=>by
 rw[Sort.size_flatK]at d;have j:t<S.length*3:=ad;have c:t/3<S.length:=ad;rw[Sort.get_flatK _ 3 _ t d,getElem!_toArray S _ c];obtain⟨b,off,e,hc⟩:=h ad;cases e;have a:=hc (t/3) c;have hr:t%3=0\/t%3=1\/t%3=2:=ad;refine⟨?_,by grind[wA]⟩;have f:S[t/3]?.getD default=S[t/3]?.getD yK:=aY;rw[f];rcases hr with hr|hr|hr;·have bB:0+t=0+t/3*3:=ad;rw[hr,bB];exact a.1
 .have bB:0+t=0+t/3*3+1:=ad;rw[hr,bB];exact a.2.1
 .have bB:0+t=0+t/3*3+2:=ad;rw[hr,bB];exact a.2.2
def mX.asp{w g d}(h:Pr oz 3 w g 0 d):mX w (ab ⟨g,0,af⟩) d.toList:=λ_=>by refine⟨g,0,rfl,λj b=>?_⟩;have hj':j<d.size:=ad;have a:d.toList[j]?.getD yK=d[j]!:=aF;rw[a];exact⟨(h.cell hj' (c:=0) ad).1,(h.cell hj' (c:=1) ad).1,(h.cell hj' (c:=2) ad).1⟩
def avt(base n c)A S w(hv:w.ownsRow base 413 3 (ae A n c) n (qT S))(t:0<S.length)(hlen:S.length<=1048576):
 aD aw 307 #[ae A n c,dC (ed 308) #[] #[]] w λe w'=>e=aB (bm #[])/\∃a,a.Perm S/\a.Pairwise (λx y=>x.1.1<=y.1.1)/\mX w' A a/\au (λi=>(ae A n c).ownBlock=ab i) w w':=by
 obtain⟨hn,o⟩:=mX.nU hv;subst hn;rcases hv.2 with⟨k,q⟩|⟨g,cap,cur,k,hb,d,s,hcm,hcs,u⟩;·omega
 .injection k with h1 h2 h3;subst h1 h3;have b:=mX.holds d o
  have h:=agO Tryz.ac1 3 isAgg413 sizeOf413 oz (λ_=>aa) (λx v hv=>by simp[oz]at hv;rcases hv with rfl|rfl|rfl<;>rfl) Lh avP 308 #[] g 0 c S.toArray w ann
   (λm os gZ _ x y=>avy x y _) b (tr.1 d).1 aF;simp only[iG]at h;change aD aw 307 _ _ _ at h;refine h.mono ?_;clear h;rintro e w' ⟨rfl,bD,m,os,f,p,rfl⟩;have hsz:bD.size=S.length:=by have:=f.1;simpa using this
  refine⟨aa,bD.toList,?_,?_,?_,((au.Yg (λi=>(ae _ _ c).ownBlock=ab i) w m).trans (au.putRowK (λi=>(ae _ _ c).ownBlock=ab i) _ g 0 bD aa) (λ_ _ h=>h)).trans (au.Z6 _ _ os) (λ_ _ h=>h)⟩
  .have:=f.2.2;have bB:(bD.extract 0 S.length).toList=bD.toList:=by rw[<-hsz];simp
   grind
  .rw[l5];intro i j hi r l;have:=p i j (cF _) l aF;grind[MK]
  .refine mX.asp ?_;refine Sort.holdsK_grow oz 3 _ os g 0 bD ?_ (Sort.holdsK_putRowK oz 3 _ g 0 S.toArray bD (Sort.holdsK_ahead oz 3 w m g 0 S.toArray b) ad);show g<(w.heap.modify g _).size;grind
namespace G
open Go.RowKit Go.Shelf Go.Sort Go.Maps
attribute [local go_sem] Oper.semAt_some
def Tf:(aw.info? 3).map (λi=>(i.zero,i.size,i.bytes))=ab (ab (J R 0),1,8):=ay
def upto{a:Type}(f:Nat->a)(k:Nat):List a:=(dG k).map f
theorem afL{a}(f:Nat->a)k:upto f (k+1)=upto f k++[f k]:=by simp[upto,List.range_succ]
theorem awb{a}(f:Nat->a)k:(upto f k).length=k:=by simp[upto]
theorem awa(a:List Int):upto (λj=>a[j]?.getD 0) a.length=a:=by
 apply XS;·simp[upto]
 .grind[upto]
def awc(a:List Int){k}(hk:k<=a.length):upto (λj=>a[j]?.getD 0) k=a.take k:=by
 apply XS;·grind[upto]
 grind[upto]
set_option maxHeartbeats 2000000 in
def awi F n (q:F.fn 256) (hro:F.round=af) (hn:1<=n) (l b1 f b off len cap) (c:List Int) (z:len*8<=140737488351232) (hb:b<f) (d g:List Int->aM->Prop)
 (As:∀pre x W,d pre W->pre.length<len->YieldAt F (n -1) aw l #[J R x] W λe a=>
   (e=aB (ai az)/\d (pre++[x]) a/\u1 f W a)\/(e=aB (ai ao)/\g (pre++[x]) a))
 W (yQ:W.cell? ⟨b1,0,af⟩=ab (ae (ab ⟨b,off,af⟩) len cap)) (hc:∀j,j<len->W.cell? ⟨b,off+j,af⟩=ab (J R (c[j]?.getD 0))) (h0:d [] W):
 ru F n aw 256 #[dC (.yield l) #[] #[],ax (ab ⟨b1,0,af⟩)] W λe a=>(∃v,e=aB v)/\
  ((∃ct,ct=upto (λj=>c[j]?.getD 0) len/\d ct a)\/(∃pre,(∃k,k<=len/\pre=upto (λj=>c[j]?.getD 0) k)/\g pre a)):=by
 refine DR VC aa q ?_ hro;simp only[Tryz.ntmps256,iG,js,l4,pC,pD,pP,pM,lK,oZ];gi_wp2
 gi_loopw [7] (λi wr=>∃k:Nat,k<=len/\i=J R k/\d (upto (λj=>c[j]?.getD 0) k) wr/\u1 f W wr)
  (λi _=>len -(intOf i).toNat);case atStart=>exact⟨0,cF _,aa,h0,Pq _ _⟩
 case round=>
  obtain⟨k,hk,rfl,m,o⟩:=hrel;have t:k<len->wr.cell? ⟨b,off+k,af⟩=ab (J R (c[k]?.getD 0)):=λh=>(o.cell (p:=⟨b,off+k,af⟩) hb).trans (hc k h);by_cases hlt:k<len
  .obtain⟨fn,tmps,assign,body,A,s⟩:=As _ (c[k]?.getD 0) wr m (by grind[awb]);have y:=t hlt;gi_wp2;refine s.mono ?_;rintro e u (⟨rfl,w,hk3⟩|⟨rfl,r⟩)
   .gi_wp2;go_roundw;case rel=>exact⟨k+1,ad,a8,by grind[afL],o.trans hk3⟩
    case measure=>grind[intOf]
   .gi_wp2;refine bodyPost_ret (results_none aa _ _ _) aa ?_;exact⟨⟨_,aa⟩,b8 ⟨_,⟨_,ad,(afL _ _).symm⟩,r⟩⟩
  .obtain rfl:k=len:=ad;gi_wp2;go_end0;exact⟨⟨_,aa⟩,bM ⟨_,aa,m⟩⟩
def awj F n(c:F.fn 256)(hro:F.round=af)(l b1 cap)A(a:List Int->aM->Prop)W(g:W.cell? ⟨b1,0,af⟩=ab (ae A 0 cap))(f:a [] W):
 ru F n aw 256 #[dC (.yield l) #[] #[],ax (ab ⟨b1,0,af⟩)] W λe b=>(∃v,e=aB v)/\a [] b:=by
 refine DR VC aa c ?_ hro;simp only[Tryz.ntmps256,iG,js,l4,pC,pD,pP,pM,lK,oZ];gi_wp2;gi_loopw [7] (λi wr=>i=J R 0/\a [] wr) (λ_ _=>0);case atStart=>grind
 case round=>
  obtain⟨rfl,d⟩:=hrel;gi_wp2;go_end0;exact⟨⟨_,aa⟩,d⟩
def awk F n(b:F.fn 184)(hro:F.round=af)a(len cap)w:
 ru F n aw 184 #[ae a len cap] w λe w'=>e=aB (dC (ed 256) #[] #[ax (ab ⟨w.heap.size,0,af⟩)])/\w'=w.alloc (bl #[ae a len cap] 82):=by
 refine DR func184 aa b ?_ hro;simp only[ntmps184,iG,js,l4,pC,pD,pP,pM,lK,oZ];gi_wp2;go_ret;exact⟨aa,aa⟩
def awl F n (i:F.fn 256) (hro:F.round=af) (hn:1<=n) (b1 d cap) A a (u:a.length*8<=140737488351232) w (r:b1<w.heap.size) (t:w.heap.size=d)
 (hc:w.cell? ⟨b1,0,af⟩=ab (ae A a.length cap)) (fY:c8 w A a):
 SeqStopsK F n aw 256 #[ax (ab ⟨b1,0,af⟩)] (λx:Int=>#[J R x]) (u1 d) (λct=>ct=a) (λpre=>pre<+:a) a.length w:=λl g o W m _ _ s h=>by
 have hc':=(m.cell (p:=⟨b1,0,af⟩) r).trans hc;rcases lL a.length with hz|hz;·obtain rfl:=j2 hz;exact(awj F n i hro l b1 _ A g W hc' h).mono λe q ⟨f,c⟩=>⟨f,bM ⟨_,aa,c⟩⟩
 .obtain⟨b,off,rfl,hcs⟩:=fY hz;have hb:b<d:=t▸u3 w _ (hcs 0 hz);refine(awi F n i hro hn l b1 d b off a.length cap a u hb g o s W hc' (λj c=>(m.cell (p:=⟨b,off+j,af⟩) aF).trans (hcs j c)) h).mono ?_;rintro e q ⟨f,⟨ct,rfl,c⟩|⟨pre,⟨k,hk,rfl⟩,c⟩⟩;·grind[awa]
  .exact⟨f,b8 ⟨_,by rw[awc a hk];exact List.take_prefix _ _,c⟩⟩
set_option maxHeartbeats 2000000 in
def appendSeq_in F n (m:F.fn 312) (g:F.fn 256) (hro:F.round=af) (hn:3<=n) (b1 cap) A a (hbytes:a.length*8<=140737488351232) w
 (yQ:b1<w.heap.size) (hc0:w.cell? ⟨b1,0,af⟩=ab (ae A a.length cap)) (fY:c8 w A a):
 ru F n aw 312 #[ae af 0 0,dC (ed 256) #[] #[ax (ab ⟨b1,0,af⟩)]] w λe f=>∃v,e=aB v/\f.ownsRow w.heap.size 3 1 v a.length (a.map (J R))/\(v=ae af 0 0↔a=[])/\u1 w.heap.size w f:=by
 have h1:1<=n:=ad;obtain⟨r,hi,hz0,hz1,hz2⟩:=u5 Tf;refine callsIn_of_wp_marks Tryz.func312 aa m ?_ hro;simp only[ntmps312,iG,js,l4,pC,pD,pP,pM,lK,oZ];gi_wp2;have k:=Boxed.new w 82 (ae af 0 0);have d:u1 w.heap.size w (w.alloc (bl #[ae af 0 0] 82)):=(Pq _ w).alloc (b4 _) _
 have hseq:SeqStopsK F (n -1) aw 256 #[ax (ab ⟨b1,0,af⟩)] (λx:Int=>#[J R x]) (u1 w.heap.size) (λct=>ct=a) (λpre=>pre<+:a) a.length (w.alloc (bl #[ae af 0 0] 82)):=
  λl i j W p=>awl F (n -1) g hro ad b1 w.heap.size cap A a hbytes w yQ aa hc0 fY l i j W (d.trans (p.mono d.size))
 refine wpIn_rangeFunc_ownG hro h1 (gf:=256) (lb:=_) aa g (kW VC ay aa)
  hseq belowK_t (belowK_b a8) (Pq _ _) (λ_=>aa)
  (λpre W=>(∃v,Boxed W w.heap.size 82 v/\W.ownsRow w.heap.size 3 1 v pre.length (pre.map (J R))/\(v=ae af 0 0↔pre=[]))/\u1 w.heap.size w W)
  (λ_ _ _=>False)
  (OwnFrom.and (Own.from (holdsRow_own w.heap.size w.heap.size 82 3 1 (λpre=>pre.length) (λpre=>pre.map (J R)) (λpre v=>v=ae af 0 0↔pre=[])) _) (ownFrom_below (b4 _) a8))
  (λ_ _ _ _ _ q _ _=>q)
  ⟨⟨_,k,Bw _ _ _ _,a8⟩,d⟩
  (λx=>{tmps:=#[ae af 0 0,dC (ed 256) #[] #[ax (ab ⟨b1,0,af⟩)],ax (ab ⟨w.heap.size,0,af⟩),a1,ae af 0 0,J R x,dC (ed 256) #[] #[ax (ab ⟨b1,0,af⟩)],J R x,a1,a1,a1,a1,a1],defers:=[]}) ?assign ?body ?done ?stop
 case assign=>
  intro l x W K c;gi_wp2;exact c
 case body=>
  rintro l pre x W ⟨⟨v,hv,hrow,hnil⟩,b⟩ hlt;have hc:=hv.cell;gi_wp2_with (gi_at_builtin;refine wpListIn_append_own _ aa _ _ 82 aa w.heap.size 3 r (J R 0) 1 8 hR hi hz0 hz1 hz2 aa bf _ _ _ aa (hrow.alloc _) ⟨W.heap.size,0,af⟩ 1 1 [J R x] aa aa (cell_one_new _ _ _) (by simp[zz]) (by grind[eh]) ad (by have:=b.size;simp;omega) ?_;intro v' w1 hown' hgrow _;obtain⟨t,s,rfl⟩:=ownsRow_succ hown';obtain⟨h,hv2,hr2,hk2,hb2⟩:=hv.appended bf hrow b.size (b4 _) hown' hgrow;have hc1:=h.cell;have u:=h.frozen);exact⟨hk2.from _,hb2,⟨_,hv2,aF,a8⟩,b.trans hb2⟩
 case done=>
  rintro D ct W o rfl ⟨⟨v,hv,hrow,hnil⟩,b⟩ c;have hc:=hv.cell;gi_wp2;refine⟨a8,bM ⟨_,_,aa,run_takeDeferred c,?_⟩⟩;exact⟨_,results_tmp aa _ _ _,v,aa,ownsRow_putObj hrow _ c aa,hnil,b.trans (belowK_b (w:=w) (b4 _) W D _ _ (by simp at o;omega) c aa aa)⟩
 case stop=>simp
open Go.RowKit Go.Shelf Go.Sort Go.Maps
def ra(xs:List Int):List Int:=xs.mergeSort (λx y=>decide (x<=y))
def zi xs:(ra xs).Perm xs:=List.mergeSort_perm _ _
theorem Nt xs:(ra xs).length=xs.length:=(zi xs).length_eq
def Nu xs:(ra xs).Pairwise (·<=·):=by have:=List.pairwise_mergeSort (le:=λx y:Int=>decide (x<=y)) (λa b c h1 d=>aF) (λa b=>aF) xs;exact this.imp (λh=>aF)
def anE{l l':List Int}(d:l.Perm l')(h:l.Pairwise (·<=·))(c:l'.Pairwise (·<=·)):l=l':=
 d.eq_of_pairwise (λa b _ _ h1 e=>ad) h c
def avq{xs ct}(a:ct.Perm xs)(b:ct.Pairwise (·<=·)):ra xs=ct:=
 anE ((zi xs).trans a.symm) (Nu xs) b
def avp{xs ct}(a:xs.Perm ct):ra xs=ra ct:=avq ((zi ct).trans a.symm) (Nu ct)
def collect_in F n (d:F.fn 254) (f:F.fn 312) (g:F.fn 256) (hro:F.round=af) (hn:4<=n) (b1 cap) A a (hbytes:a.length*8<=140737488351232) w
 (yQ:b1<w.heap.size) (hc0:w.cell? ⟨b1,0,af⟩=ab (ae A a.length cap)) (fY:c8 w A a):
 ru F n aw 254 #[dC (ed 256) #[] #[ax (ab ⟨b1,0,af⟩)]] w λe b=>∃v,e=aB v/\b.ownsRow w.heap.size 3 1 v a.length (a.map (J R))/\(v=ae af 0 0↔a=[])/\u1 w.heap.size w b:=by
 have h1:1<=n:=ad;have c:=hid (appendSeq_in F (n -1) f g hro ad b1 cap A a hbytes w yQ hc0 fY);clear hc0 fY;refine DR Tryz.func254 aa d ?_ hro;simp only[ntmps254,iG,js,l4,pC,pD,pP,pM,lK,oZ];gi_wp2_with (gi_at_call 312;refine(c.out).mono ?_;rintro e w' ⟨v,rfl,hrow,hnil,hb⟩);go_ret;exact⟨v,aa,hrow,hnil,hb⟩
def Uu m:AnyZI.SortsIn aw Tryz.afo mx m:=
 ⟨λblk off cap b W a hblk hsz=>sy.2 (AnyM.slices_Sort_int Tryz.afl blk off cap b W a hblk hsz),
  λp cap W=>sy.2 (AnyM.slices_Sort_int_none Tryz.afl p cap W)⟩
def sorted_in (b1 cap) A a (hbytes:a.length*8<=140737488351232) w
 (yQ:b1<w.heap.size) (hc0:w.cell? ⟨b1,0,af⟩=ab (ae A a.length cap)) (fY:c8 w A a):
 ru mx 6 aw 183 #[dC (ed 256) #[] #[ax (ab ⟨b1,0,af⟩)]] w λe h=>∃v,e=aB v/\h.ownsRow w.heap.size 3 1 v a.length ((ra a).map encZ)/\u1 w.heap.size w h:=by
 have r:=hid (collect_in mx 5 trivial trivial trivial aa ad b1 cap A a hbytes w yQ hc0 fY);have l:=λblk off cap C W f hblk hsz=>(Uu 5).1 blk off cap C W f hblk hsz;have m:=λp cap W=>(Uu 5).2 p cap W;have D:mx.fn 254:=trivial;have hf2:mx.fn 255:=trivial;have s:=hid l;have t:=hid m;clear hc0 fY l m;refine DR Tryz.func183 aa trivial ?_ aa;simp only[ntmps183,iG,js,l4,pC,pD,pP,pM,lK,oZ];gi_wp2_with (gi_at_call 254;refine(r.out).mono ?_;rintro e W ⟨v,rfl,hrow,hnil,hb⟩);rcases hrow.2 with⟨rfl,hz⟩|⟨c,i,cur,rfl,hbase,hgb,n,o,q,B⟩;·have z:a=[]:=j2 hz;subst z;have b:ru mx 5 aw 255 #[ae af 0 0] W λe w'=>e=aB (bm #[])/\w'=W:=t.out af 0 W;have g:=hid b;clear b;gi_wp2_with (gi_at_call 255;refine(g.out).mono ?_;rintro e w' ⟨rfl,rfl⟩);go_ret;exact⟨_,aa,by simpa [ra]using hrow,hb⟩
 .have f:Holds encZ W c 0 a.toArray:=holds_of_block_i hgb aF;have u:c<W.heap.size:=(tr.1 hgb).1;have hsz:a.length<4611686018427387904:=ad;have b:ru mx 5 aw 255 #[ae (ab ⟨c,0,af⟩) a.length i] W λe w'=>e=aB (bm #[])/\∃k os,w'=GF (putRow encZ (J' W k) c 0 (a.mergeSort λx y=>decide (x<=y)).toArray) os:=s.out c 0 i a W f u hsz;have g:=hid b;have d:=hid (And.intro hgb (And.intro n (And.intro o q)));clear b f hgb n o q B hrow;gi_wp2_with (gi_at_call 255;refine(g.out).mono ?_;rintro e w' ⟨rfl,F,os,rfl⟩);go_ret;exact⟨_,aa,ownsRow_sorted_i a8 hbase d.out.1 d.out.2.1 d.out.2.2.1 d.out.2.2.2,hb.grown (grownBy_sorted_i _) hb.size (λj E=>aF)⟩
def afR A(len cap)w:
 aD aw 184 #[ae A len cap] w λe w'=>e=aB (dC (ed 256) #[] #[ax (ab ⟨w.heap.size,0,af⟩)])/\w.alloc (bl #[ae A len cap] 82)=w':=
 ((sy (n:=2)).1 (awk mx 2 trivial aa A len cap w)).mono λ_ _ ⟨h1,a⟩=>⟨h1,a.symm⟩
def qN(w w':aM)(v:aO)(xs:List Int):Prop:=w'.ownsRow w.heap.size 3 1 v xs.length (xs.map (J R))
def qN.form{w w' v xs}(h:qN w w' v xs):∃A c,v=ae A xs.length c/\c8 w' A xs/\xs.length<=c/\c<=eh/\∀b off,A=ab ⟨b,off,af⟩->w.heap.size<=b/\b<w'.heap.size:=by
 have a:=h;rcases h.2 with⟨rfl,hz⟩|⟨g,cap,cur,rfl,hb,j,h1,d,f,i⟩;·grind[c8.nil]
 .exact⟨_,_,aa,c8.nU a,h1,d,λb off e=>aF⟩
def afp(b1 cap)A a(hbytes:a.length*8<=140737488351232)w(hc0:w.cell? ⟨b1,0,af⟩=ab (ae A a.length cap))(c:c8 w A a):
 aD aw 183 #[dC (ed 256) #[] #[ax (ab ⟨b1,0,af⟩)]] w λe w'=>∃v,e=aB v/\qN w w' v (ra a)/\ar w w':=
 ((sy (n:=6)).1 (sorted_in b1 cap A a hbytes w (u3 w _ hc0) hc0 c)).mono λ_ _ ⟨v,h1,d,b⟩=>
  ⟨v,h1,by grind[qN,Nt],au.MX b (b4 _)⟩
theorem Hy A c xs x w(hx:c8 w A xs)(h1:xs.length<=9223372036854775807):
 aD aw 190 #[ae A xs.length c,J R x] w λe w'=>e=aB (ai (decide (x∈xs)))/\w=w':=by
 rcases lL xs.length with d|d;·obtain rfl:xs=[]:=j2 d;exact(Any.slices_Contains_int_empty Tryz.acW A c x w).mono λ_ _ ⟨a,b⟩=>⟨aF,b.symm⟩
 .obtain⟨eF,fB,rfl,c1⟩:=hx d;refine(Any.slices_Contains_int Tryz.acW eF fB xs.length c xs x w (b4 _) h1 (λj f=>a8)).mono λ_ _ ⟨a,b⟩=>⟨?_,b.symm⟩;grind
def al0 A c xs w(hx:c8 w A xs)(h1:xs.length*8<=140737488355328):
 aD aw 380 #[ae A xs.length c] w λe w'=>∃v,e=aB v/\qN w w' v xs/\ar w w':=by
 rcases A with _|a
 .obtain rfl:xs=[]:=by
   rcases lL xs.length with f|f;·grind
   .obtain⟨_,_,h,_⟩:=hx f;cases h
  exact(Any.slices_Clone_int_nil Tryz.Ts 0 c w).mono λ_ _ ⟨a,b⟩=>⟨_,a,b▸Bw _ _ _ _,b▸au.refl _ _⟩
 .rcases lL xs.length with f|f;·obtain rfl:xs=[]:=j2 f;exact(Any.slices_Clone_int_zero Tryz.Ts a c w).mono λ_ _ ⟨v,a,b,_,d⟩=>⟨v,a,b,au.MX d (b4 _)⟩
  .obtain⟨eF,fB,e,c1⟩:=hx f;cases e;refine(Any.slices_Clone_int Tryz.Ts eF fB xs.length c xs w (b4 _) h1 (λj g=>a8)).mono λ_ _ ⟨v,a,b,_,d⟩=>⟨v,a,?_,au.MX d (b4 _)⟩;rw[kH]at b;exact b
open Go.RowKit Go.Shelf Go.Sort Go.Maps Go.MapKept
open Go.WideElems (rg rg_of)
open Go.WideShapes (sorted_perm)
def afP:aO->Int|.int _ x=>x|_=>0
abbrev El:aO->Option (DataW Unit×List MemPlace):=λ_=>ab (.nil,[])
def as3{P k}(hk:P.underlying k=ab (.int R)){w ms a}(h:dM w ms encI c4 a):
 ∃D,w.ownsMap P k El ms a.length D/\(WK D).Perm (a.map (·.1))/\JU D=a.length:=by
 obtain⟨es,m,hb,j,hz,c,n⟩:=h;have hlen:es.size=a.length:=by have:=congrArg vk c;simpa using this
 have g:∀e∈es.toList,∃x,e.key=encI x/\c4 x:=λe b=>by have:(e.key,e.val)∈es.toList.map (λe=>(e.key,e.val)):=fL.2 ⟨e,b,aa⟩;grind
 have i:∀e∈es.toList,aiC P k El e=ab (Gv R (afP e.key),.nil):=λe b=>by obtain⟨x,hx,l⟩:=g e b;rw[hx];unfold aiC;rw[hx,encI,Vn hk (NO l)];rfl
 refine⟨_,⟨es,_,hb,⟨hz,j,λe b=>⟨_,i e b⟩⟩,ad,aa⟩,?_,?_⟩
 .have h1:(es.toList.map (rg P k El)).map (λp=>_root_.Go.intOf p.1)=a.map (·.1):=by
   have d:(es.toList.map (rg P k El)).map (λp=>_root_.Go.intOf p.1)=(es.toList.map (λe=>(e.key,e.val))).map (λq=>afP q.1):=by grind[List.map_congr_left,_root_.Go.intOf,rg_of]
   rw[d,c,Hh];rfl
  rw[<-h1];have f:=(sorted_perm (es.toList.map (rg P k El))).map (λp=>_root_.Go.intOf p.1);exact f
 .grind[JU,length_sorted]
def as2{w ms a}(h:dM w ms encI c4 a):
 ∃D,w.ownsMap aw 3 El ms a.length D/\(WK D).Perm (a.map (·.1))/\JU D=a.length:=as3 jJ h
def To a w:aD aw 381 #[dj a] w λe w'=>e=aB (dC (ed 388) #[] #[ax (ab ⟨w.heap.size,0,af⟩)])/\w.alloc (bl #[dj a] 467)=w':=by have h:ru mx 5 aw 381 #[dj a] w λe w'=>e=aB (dC (ed 388) #[] #[ax (ab ⟨w.heap.size,0,af⟩)])/\w'=w.alloc (bl #[dj a] 467):=AnyZI.keys_in Tryz.acR mx 5 trivial aa a w;exact((sy (n:=5)).1 h).mono λ_ _ ⟨h1,b⟩=>⟨h1,b.symm⟩
def avw(e3 ms)a(hbytes:a.length*8<=140737488351232)w(hc:w.cell? ⟨e3,0,af⟩=ab (dj (ab ms)))(h:dM w ms encI c4 a):
 aD aw 183 #[dC (ed 388) #[] #[ax (ab ⟨e3,0,af⟩)]] w λe w'=>∃v,e=aB v/\qN w w' v (ra (a.map (·.1)))/\ar w w':=by
 obtain⟨D,hown,d,hsz⟩:=as2 h
 have hseq:SeqGives mx 3 aw 388 #[ax (ab ⟨e3,0,af⟩)] encZ (λb=>b.Perm (WK D)) (JU D) w:=
  AnyZI.keys_gives (ρ:=Tryz.acS) {Tryz.acR with} mx _ trivial aa ad e3 ms a.length D _ (u3 w _ hc) hc hown;have c:=AnyZI.sorted_in Tryz.avv mx 6 trivial trivial trivial trivial aa ad (Uu _) (kW Tryz.func255 ay aa) 388 #[ax (ab ⟨e3,0,af⟩)] trivial (kW Tryz.func388 ay aa) _ (JU D) (by grind[eh]) ad w hseq;refine((sy (n:=6)).1 (show ru mx 6 aw 183 _ _ _ from c)).mono λe w'=>?_;rintro⟨v,b,rfl,hS,hrow,_,hb⟩;refine⟨v,aa,?_,au.MX hb (b4 _)⟩;have h1:ra (a.map (·.1))=ra b:=avp ((hS.trans d).symm);unfold qN;rw[h1,Nt];exact hrow
def IN{E u x}:x∈succ E u↔(u,x)∈E:=by unfold succ;simp only[fL,pO,decide_eq_true_eq];simp
def arW{E u x}:u∈pred E x↔(u,x)∈E:=by unfold pred;simp only[fL,pO,decide_eq_true_eq];simp
inductive Path (E:List (Int×Int)) (v:Int):Int->Prop where
 |one {x:Int} (h:(v,x)∈E):Path E v x
 |more {x y:Int} (h:Path E v x) (e:(x,y)∈E):Path E v y
def XN(E:List (Int×Int))(v:Int)(xs:List Int):Prop:=xs.Pairwise (·<·)/\∀x,x∈xs↔Path E v x
def Fq{xs:List Int}(h:xs.Pairwise (·<·)):xs.Nodup:=h.imp (λh=>ad)
def ZD{xs ct:List Int}(hx:xs.Pairwise (·<·))(c:ct.Pairwise (·<·))(h:∀x,x∈xs↔x∈ct):xs=ct:=
 ((List.perm_ext_iff_of_nodup (Fq hx) (Fq c)).2 h).eq_of_pairwise (λa b _ _ h1 d=>ad) hx c
structure tv (E:List (Int×Int)) (v:Int) (seen stack:List Int):Prop where
 IS:seen.Nodup
 path:∀x,x∈seen\/x∈stack->Path E v x
 first:∀y∈succ E v,y∈seen\/y∈stack
 closed:∀s∈seen,∀y∈succ E s,y∈seen\/y∈stack
def tv.start E v:tv E v [] (succ E v):=
 ⟨a8,λx h=>by rcases h with h|h;cases h;exact .one (IN.1 h),λy h=>b8 h,λ_ h=>aF⟩
def tv.skip{E v x seen st}(h:tv E v seen (st++[x]))(hx:x∈seen):tv E v seen st:=by
 have key:∀y,y∈seen\/y∈st++[x]->y∈seen\/y∈st:=λy a=>by grind
 exact⟨h.IS,λy a=>h.path y (a.imp id (λa=>BQ _ a)),λy a=>key y (h.first y a),λs b y a=>key y (h.closed s b y a)⟩
def tv.visit{E v x seen st}(h:tv E v seen (st++[x]))(hx:x∉seen):tv E v (seen++[x]) (st++succ E x):=by
 have f:Path E v x:=h.path x (b8 a8);have key:∀y,y∈seen\/y∈st++[x]->y∈seen++[x]\/y∈st++succ E x:=λy c=>by grind
 refine⟨yr.2 ⟨h.IS,a8,λa g b hb e=>?_⟩,λy c=>?_,λy c=>key y (h.first y c),λs d y c=>?_⟩;·grind
 .rcases c with c|c
  .rcases j3.1 c with c|c;·exact h.path y (bM c)
   .grind
  .rcases j3.1 c with c|c;·exact h.path y (b8 (BQ _ c))
   .exact .more f (IN.1 c)
 .rcases j3.1 d with d|d;·exact key y (h.closed s d y c)
  grind
def tv.done{E v seen}(h:tv E v seen [])x:x∈seen↔Path E v x:=by
 refine⟨λhx=>h.path x (bM hx),λp=>?_⟩;induction p with
 |one e=>
  rcases h.first _ (IN.2 e)with h|h;·omega
  .grind
 |more _ e a=>
  rcases h.closed _ a _ (IN.2 e)with h|h;·omega
  .grind
def hC(n:Nat):List Int:=(dG n).map (λi:Nat=>(i:Int))
theorem Fy{n x}:x∈hC n↔0<=x/\x<n:=by
 unfold hC;simp;constructor;·omega
 .rintro⟨h0,h1⟩;exact⟨x.toNat,ad,ad⟩
def NG n:(hC n).Pairwise (·<·):=by unfold hC;rw[List.pairwise_map];exact List.pairwise_lt_range.imp (λh=>ad)
def Fp{n:Nat}{xs:List Int}(hn:xs.Nodup)(h:∀x∈xs,0<=x/\x<n):xs.length<=n:=by have:=hn.length_le_of_subset (l₂:=hC n) (λx hx=>Fy.2 (h x hx));simpa [hC]using this
def C5{E n}(a:∀e∈E,(0<=e.1/\e.1<n)/\(0<=e.2/\e.2<n)/\e.1≠e.2){v x}(p:Path E v x):0<=x/\x<n:=by
 cases p with
 |one e=>grind
 |more _ e=>grind
def amX{n s t m L}(b:s<n)(a:m<=L):(n -(s+1))*(L+1)+(t+m)<(n -s)*(L+1)+(t+1):=by
 have:(n -s)*(L+1)=(n -(s+1))*(L+1)+(L+1):=by rw[<-Nat.succ_mul];congr 1;omega
 omega
def F1{t fr}g:∀(b) o (w:aM) cur,w.heap[g]?=ab (bl cur t fr)->
 ∃a,(w.setCells g o b).heap[g]?=ab (bl a t fr)/\a.size=cur.size/\∀j,a[j]?=if o<=j/\j<o+b.length/\j<cur.size then b[j -o]? else cur[j]?
 |[],o,w,cur,h=>⟨cur,h,rfl,λj=>aF⟩
 |v::r,o,w,cur,h=>by
  have h1:(w.setCell ⟨g,o,af⟩ v).heap[g]?=ab (bl (cur.setIfInBounds o v) t fr):=by grind[World.setCell]
  obtain⟨a,c,e,d⟩:=F1 g r (o+1) _ _ h1;refine⟨a,c,aF,λj=>?_⟩;rw[d j,Array.getElem?_setIfInBounds];grind[Nat.le_of_not_lt]
def _root_.Go.Proofs.YtcmhplknoglbkaaGreat.au.setCells w(g o)a:au (λk=>k=g) w (w.setCells g o a):=by
 induction a generalizing o w with
 |nil=>exact au.refl _ _
 |cons v r b=>exact(au.setCell (F:=λk=>k=g) w (p:=_) aa v).trans (b _ _) (λ_ _ h=>h)
def eZ(w:aM)(base:Nat)(v:aO)(xs:List Int):Prop:=∃A c,v=ae A xs.length c/\((A=af/\xs=[]/\c=0)\/
 ∃g off cur,A=ab ⟨g,off,af⟩/\base<=g/\w.heap[g]?=ab (bl cur 3 (0,0))/\xs.length<=c/\c<=eh/\off+c<=cur.size/\∀j,j<xs.length->cur[off+j]?=ab (J R (xs[j]?.getD 0)))
theorem eZ.nU{w base v n xs}(h:w.ownsRow base 3 1 v n (xs.map (J R))):eZ w base v xs:=by
 have hn:xs.length=n:=by simpa using h.1
 subst hn;rcases h.2 with⟨rfl,a⟩|⟨g,cap,cur,rfl,hb,c,h1,b,f,i⟩;·obtain rfl:=j2 a;exact⟨_,0,aa,bM ⟨aa,aa,aa⟩⟩
 .refine⟨_,cap,aa,b8 ⟨g,0,cur,rfl,hb,c,h1,b,ad,λj d=>?_⟩⟩;have e:(cur.toList.take (xs.length*1))[j]?=ab (J R xs[j]):=aF;rw[om,if_pos ad]at e;simpa [d]using e
def eZ.only{F w w' base v xs}(h:eZ w base v xs)(k:au F w w')(hn:∀g,v.ownBlock=ab g->¬F g):eZ w' base v xs:=by obtain⟨A,c,rfl,h⟩:=h;refine⟨A,c,aa,h.imp id ?_⟩;rintro⟨g,off,cur,rfl,h1,h2,r⟩;exact⟨g,_,_,aa,h1,k.heap h2 (hn g aa),r⟩
def eZ.lt{w base v xs}(h:eZ w base v xs){g}(a:v.ownBlock=ab g):base<=g/\g<w.heap.size:=by
 obtain⟨A,c,rfl,⟨rfl,_⟩|⟨d,off,cur,rfl,h1,b,r⟩⟩:=h;·cases a
 .cases a;exact⟨h1,(tr.1 b).1⟩
def eZ.sc{w base c A xs}(h:eZ w base (ae A xs.length c) xs):c8 w A xs:=λl=>by
 obtain⟨a,b,e,⟨rfl,rfl,_⟩|⟨g,off,cur,rfl,h1,d,f,i,j,k⟩⟩:=h;·grind
 grind[fu]
def eZ.form{w base v xs}(h:eZ w base v xs):∃A c,v=ae A xs.length c/\xs.length<=c/\c<=maxLen:=by
 obtain⟨A,c,rfl,⟨_,rfl,rfl⟩|⟨g,off,cur,rfl,h1,a,b,d,r⟩⟩:=h;·grind
 .grind
def eZ.tail{w base n c A x xs}(h:eZ w base (ae A n c) (x::xs)):∃g off,A=ab ⟨g,off,af⟩/\n=xs.length+1/\xs.length+1<=c/\c<=eh/\w.cell? ⟨g,off,af⟩=ab (J R x)/\
 eZ w base (ae (ab ⟨g,off+1,af⟩) xs.length (c -1)) xs/\(xs=[]->eZ w base (ae (ab ⟨g,off,af⟩) xs.length (c -1)) xs):=by
 obtain⟨k,l,e,⟨rfl,m,_⟩|⟨g,off,cur,rfl,h1,a,b,f,o,d⟩⟩:=h;·grind
 .injection e with bB bY e8;subst bB bY e8;simp at b d;refine⟨g,off,aa,aa,b,f,?_,⟨_,_,aa,b8 ⟨g,off+1,cur,rfl,h1,a,ad,ad,ad,λj i=>?_⟩⟩,?_⟩;·rw[fu w g _ _ _ _ a];simpa using d 0 ad
  .grind
  .rintro rfl;exact⟨_,_,aa,b8 ⟨g,off,cur,aa,h1,a,cF _,ad,ad,λj i=>aF⟩⟩
def uA(xs:List Int)(i:Nat)(x:Int):List Int:=xs.take i++x::xs.drop i
def aqF{xs i}x(hi:i<=xs.length):(uA xs i x).length=xs.length+1:=by grind[uA]
theorem Mu{xs i}x(hi:i<=xs.length)j:(uA xs i x)[j]?=if j<i then xs[j]? else if j=i then ab x else xs[j -1]?:=by grind[uA]
theorem US n:(mQ (J R 0).cells n).size=n:=by simp[mQ,WG]
def aqI base v xs i x d w(z:eZ w base v xs)(hi:i<=xs.length)(O:w.heap[d]?=ab (bl #[J R x] 3 (0,0)))(hne:∀g,v.ownBlock=ab g->g≠d)(W:xs.length<=1048576)(hbase:base<=w.heap.size):
 aD aw 306 #[v,J R i,ae (ab ⟨d,0,af⟩) 1 1] w λe w'=>∃v',e=aB v'/\eZ w' base v' (uA xs i x)/\au (λk=>v.ownBlock=ab k) w w'/\(v'.ownBlock=v.ownBlock\/∃k,v'.ownBlock=ab k/\w.heap.size<=k):=by
 obtain⟨A,c,rfl,z⟩:=z;have hlen:=aqF x hi
 have p:∀(j:Nat) (u:aO),[J R x][j]?=ab u->w.cell? ⟨d,0+j,af⟩=ab u:=λj u N=>by
  rw[fu w d _ _ _ _ O];cases j with
  |zero=>grind
  |succ j=>grind
 have l:∀u∈[J R x],u.oneCell'=true:=by simp[zz]
 have B:(xs.map (J R)).length=xs.length:=a8;have G:=TQ xs;have L:∀j,j<xs.length->(xs.map (J R))[j]?=ab (J R (xs[j]?.getD 0)):=λj b=>by grind
 have X:∀j,j<xs.length+1->∃y,(uA xs i x)[j]?=ab y:=λj b=>⟨_,cC ad⟩;rcases z with⟨rfl,rfl,rfl⟩|⟨g,off,cur,rfl,hb,C,h1,H,T,U⟩
 .obtain rfl:i=0:=aF;refine(agM Tryz.II af 0 0 d 0 1 1 [] [J R x] w ad (b4 _) ad ad aa aa (λ_=>aa) (λa h=>a8) p l).mono ?_;rintro e w' ⟨rfl,rfl⟩;have D:=zE w (0+1) 0 3;have m:=zF w (0+1) 0 3 (by grind[eh]);refine⟨_,aa,⟨_,_,aa,b8 ⟨w.heap.size,0,_,aa,hbase,fz w.drew _,D,m,?_,λj b=>?_⟩⟩,?_,b8 ⟨_,aa,b4 _⟩⟩;·grind[US]
  .grind[uA]
  .exact(au.drew w).trans (au.alloc _ _) (λ_ _ h=>h)
 .have hcs:∀(j:Nat) (u:aO),(xs.map (J R))[j]?=ab u->w.cell? ⟨g,off+j,af⟩=ab u:=λj u N=>by grind[fu]
  have K:∀j,w.frozen? ⟨g,j,af⟩=false:=λj=>by grind[wA]
  have I:∀j,w.frozen? ⟨d,j,af⟩=false:=λj=>by grind[wA]
  have hsp:∀j,j<c->(w.cell? ⟨g,off+j,af⟩).isSome=true:=λj b=>by rw[fu w g _ _ _ _ C];simp;omega
  have M:d≠g:=λe=>hne g aa e.symm;by_cases hroom:xs.length+1<=c
  .by_cases E:i<xs.length
   .refine(Any2.slices_Insert_int_shift Tryz.II g off xs.length c i d 0 1 1 (xs.map (J R)) [J R x] w E ad hroom (by grind[eh]) M B aa hcs (λj b=>hsp j ad) (λj _=>K _) p G l 3 3 1 cur.size
     (by grind[Pt]) (by grind[Pt]) ad (I _) (I _)).mono ?_;rintro e w' ⟨rfl,rfl⟩;obtain⟨q,r,F,s⟩:=F1 g ((xs.map (J R)).drop i) (off+(i+1)) w.drew cur C;obtain⟨f,eF,eV,sL⟩:=F1 g [J R x] (off+i) _ q r;refine⟨_,aa,⟨_,c,aF,b8 ⟨g,off,f,rfl,hb,eF,ad,H,ad,λj b=>?_⟩⟩,?_,bM aa⟩
    .rw[hlen]at b;rw[sL,s,Mu x hi];simp only[js,l4,tP,gV];by_cases o:j<i;·grind
     .by_cases n:j=i;·subst n;rw[if_pos ad,if_neg ad,if_pos aa];simp
      .rw[if_neg ad,if_pos ad,if_neg o,if_neg n,vj,show i+(off+j -(off+(i+1)))=j -1 by omega];exact L _ ad
    .exact((au.drew w).trans (au.setCells _ g _ _) (λ_ _ h=>by rw[h];rfl)).trans (au.setCells _ g _ _) (λ_ _ h=>by rw[h];rfl)
   .obtain rfl:i=xs.length:=ad;refine(Any2.slices_Insert_int_end_room Tryz.II g off xs.length c d 0 1 1 [J R x] w ad hroom (by grind[eh]) aa (λj b=>aF) (λj _=>K _) p l).mono ?_;rintro e w' ⟨rfl,rfl⟩;obtain⟨f,eF,eV,sL⟩:=F1 g [J R x] (off+xs.length) w cur C;refine⟨_,aa,⟨_,c,aF,b8 ⟨g,off,f,rfl,hb,eF,ad,H,ad,λj b=>?_⟩⟩,?_,bM aa⟩;·grind[Mu]
    .exact(au.setCells w g _ _).mono (λ_ _ h=>by rw[h];rfl)
  .have V:c=xs.length:=ad;by_cases E:i<xs.length
   .refine(Any2.slices_Insert_int_grow Tryz.II g off _ c i d 0 1 1 _ _ w E ad h1 ad ad B aa hcs p G l).mono ?_;rintro e w' ⟨rfl,rfl⟩;have D:=zE w (xs.length+1) c 3;have m:=zF w (xs.length+1) c 3 (by grind[eh]);obtain⟨q,r,F,s⟩:=F1 w.heap.size [J R x] i (w.alloc (bl (((xs.map (J R)).take i).toArray++mQ (J R 0).cells (xs.length+1 -i)++mQ (J R 0).cells (x9 w (xs.length+1) c 3 -(xs.length+1))) 3)).drew _ (fz w _);obtain⟨f,eF,eV,sL⟩:=F1 w.heap.size ((xs.map (J R)).drop i) (i+1) (((w.alloc (bl (((xs.map (J R)).take i).toArray++mQ (J R 0).cells (xs.length+1 -i)++mQ (J R 0).cells (x9 w (xs.length+1) c 3 -(xs.length+1))) 3)).drew.setCells w.heap.size i [J R x]).drew) q r;have hsz:q.size=x9 w (xs.length+1) c 3:=by grind[US]
    refine⟨_,aa,⟨_,_,by rw[hlen];rfl,b8 ⟨w.heap.size,0,f,rfl,hbase,eF,ad,m,ad,λj b=>?_⟩⟩,?_,b8 ⟨_,aa,b4 _⟩⟩
    .rw[hlen]at b;rw[sL,s,Mu x hi,jt,<-F,hsz];simp only[js,l4,tP,gV];by_cases o:j<i;·rw[if_neg ad,if_neg ad,if_pos o,JE (by simp;omega),JE (by simp;omega)];grind
     .by_cases n:j=i;·subst n;rw[if_neg ad,if_pos ad,if_neg o,if_pos aa];simp
      .rw[if_pos ad,if_neg o,if_neg n,vj,show i+(j -(i+1))=j -1 by omega];exact L _ ad
    .have P:=(ar.trans (au.alloc w (bl (((xs.map (J R)).take i).toArray++mQ (J R 0).cells (xs.length+1 -i)++mQ (J R 0).cells (x9 w (xs.length+1) c 3 -(xs.length+1))) 3)) (au.drew _));have Q:au (λk=>k=w.heap.size) w _:=(ar.to P).trans (au.setCells _ w.heap.size i [J R x]) (λ_ _ h=>h);have S:=(Q.trans (au.drew _) (λ_ _ h=>h)).trans (au.setCells _ w.heap.size (i+1) ((xs.map (J R)).drop i)) (λ_ _ h=>h);exact S.mono (λk hk e=>ad)
   .obtain rfl:i=xs.length:=ad;refine(agM Tryz.II (ab ⟨g,off,af⟩) xs.length c d 0 1 1 (xs.map (J R)) [J R x] w ad h1 ad ad B aa (λh=>aF) (λa h=>by grind[nL]) p l).mono ?_;rintro e w' ⟨rfl,rfl⟩;have D:=zE w (xs.length+1) c 3;have m:=zF w (xs.length+1) c 3 (by grind[eh]);refine⟨_,aa,⟨_,_,by rw[hlen];rfl,b8 ⟨w.heap.size,0,_,aa,hbase,fz w.drew _,ad,m,?_,λj b=>?_⟩⟩,?_,b8 ⟨_,aa,b4 _⟩⟩;·simp[US,show Tryz.acY.t 3=3 from aa];omega
    .rw[hlen]at b;rw[Mu x hi,jt,JE aF];grind
    .exact(au.drew w).trans (au.alloc _ _) (λ_ _ h=>h)
def Nq A c xs x w(hx:c8 w A xs)(f:xs.Pairwise (·<=·))(h1:xs.length<=1048576):
 aD aw 305 #[ae A xs.length c,J R x] w λe w'=>∃r,e=aB (bm #[J R (xs.countP (·<x):Nat),ai r])/\∃q,w'=w.drewN q:=by
 rcases lL xs.length with a|a;·obtain rfl:=j2 a;refine(Any.slices_BinarySearch_int_empty Tryz.acZ A c x w).mono ?_;rintro e w' ⟨rfl,rfl⟩;exact⟨_,aa,0,aa⟩
 .obtain⟨b,off,rfl,hc⟩:=hx a;refine(Any.slices_BinarySearch_int Tryz.acZ b off xs.length c xs x w (b4 _) ad (λj d=>a8) aF).mono ?_;grind
open Go.ChangeMaps (setBlock heap_setBlock_same heap_setBlock_other)
open Go.Maps (Keyed)
section
variable {fh:Type} [DecidableEq fh] {P:Program} {k:TypeId} {enc:fh->aO} {ok:fh->Prop} {w w':aM} {b r:Nat} {bg:List (fh×aO)} {left:List fh}
def Over(w:aM)(b r:Nat)(enc:fh->aO)(ok:fh->Prop)(bg:List (fh×aO))(left:List fh):Prop:=
 dM w b enc ok bg/\left.Nodup/\(∀x∈left,∃v,dX bg x=ab v)/\∃es a since seen bZ,w.heap[b]?=ab (iP es a)/\w.heap[r]?=ab (JV (ab b) since seen bZ)/\
  (∀x∈es.toList,x.born<since)/\since<=bZ/\since<=a/\(Bx es seen).toList.map (·.key)=left.map enc
def Over.ade(h:Over w b r enc ok bg left):dM w b enc ok bg:=h.1
def Over.left_eq(h:Over w b r enc ok bg left):w.rangeLeft b r=left.length:=by obtain⟨_,_,_,es,c,since,seen,bZ,hb,hr,_,_,_,a⟩:=h;simp only[World.rangeLeft,hb,hr];simpa using congrArg vk a
def MA{left:List fh}(hn:left.Nodup){x}(hx:x∈left):left.Perm (x::left.filter (λy=>!decide (y=x))):=aF
def Over.only{F}(h:Over w b r enc ok bg left)(k:au F w w')(hb:¬F b)(hr:¬F r):Over w' b r enc ok bg left:=by obtain⟨h1,a,c,es,f,since,seen,bZ,d,e,rest⟩:=h;exact⟨h1.only k hb,a,c,es,_,_,_,bZ,k.heap d hb,k.heap e hr,rest⟩
omit [DecidableEq fh]in
def aq7{es:Array OY}(a:es.toList.map (λe=>(e.key,e.val))=bg.map (λp=>(enc p.1,p.2))):es.toList.map (·.key)=(bg.map (·.1)).map enc:=by have:=congrArg (List.map Prod.fst) a;simpa [Hh,JM]using this
def _root_.Go.Proofs.YtcmhplknoglbkaaGreat.dM.range{t e}(j:P.underlying t=ab (wz k e))(h:dM w b enc ok bg):
 ∃w',(Instr.range t (dj (ab b))).run P w=a6 (ax (ab ⟨w.heap.size,0,af⟩)) w'/\Over w' b w.heap.size enc ok bg (bg.map (·.1))/\ar w w'/\w'.heap.size=w.heap.size+1:=by
 have c:=h;have f:=h.nodup;have hlt:=h.lt;obtain⟨es,a,hb,i,hz,d,l⟩:=h;refine⟨_,run_range_map w t k e b es a j hb,⟨c.only (au.alloc (F:=λ_=>False) _ _) (λh=>h),?_,λx hx=>?_,es,a,a,#[],a,((Vm w _).2 b hlt).trans hb,(Vm w _).1,((OZ es a).1 i).1,b4 _,b4 _,?_⟩,au.alloc _ _,a8⟩;·grind
 .obtain⟨p,g,rfl⟩:=fL.1 hx;exact⟨_,xy f g⟩
 .have:Bx es #[]=es:=by simp[Bx]
  rw[this];exact aq7 d
def an0{l:List OY}{f}:(l.filter (λe=>f e.key)).map (·.key)=(l.map (·.key)).filter f:=by rw[QL];rfl
def Over.next(C:ss P k enc ok)(h:Over w b r enc ok bg left)ty:
 (left=[]/\(Instr.next (ax (ab ⟨r,0,af⟩)) ao ty).run P w=a6 (bm #[ai ao]) w)\/
 ∃x v w',x∈left/\dX bg x=ab v/\(Instr.next (ax (ab ⟨r,0,af⟩)) ao ty).run P w=a6 (bm #[ai az,enc x,v]) w'/\
  Over w' b r enc ok bg (left.filter (λy=>!decide (y=x)))/\au (λi=>i=r) w w'/\w'.heap.size=w.heap.size/\(agF (ax (ab ⟨r,0,af⟩))).run P w'=a6 (bm #[enc x,v]) w':=by
 classical
 obtain⟨l,G,E,es,a,since,seen,bZ,hb,hr,hold,hsc,hsk,d⟩:=h;have hne:r≠b:=aF;have A:=l;obtain⟨u,t,hb',I,hz,B,L⟩:=A;rw[hb]at hb';obtain⟨rfl,rfl⟩:es=u/\a=t:=aF;rcases run_next_at (P:=P) w ty r b since bZ seen es a hr hb hold hsc with⟨K,hrun⟩|⟨e,m,w1,c,hrun⟩;·refine bM ⟨?_,hrun⟩;have h1:(Bx es seen).toList=[]:=aF;rw[h1]at d;simpa using d.symm
 .obtain⟨n,hes⟩:=mem_left m;have F:e.key∈left.map enc:=d▸fL.2 ⟨e,m,aa⟩;obtain⟨x,hx,j⟩:=fL.1 F;have H:(e.key,e.val)∈bg.map (λp=>(enc p.1,p.2)):=B▸fL.2 ⟨e,n,aa⟩;obtain⟨p,M,o⟩:=fL.1 H;simp only[Prod.mk.injEq]at o;have N:p.1=x:=C.inj (o.1.trans j.symm);have D:dX bg x=ab e.val:=xy l.nodup aF;have hr1:w1.heap[r]?=ab (JV (ab b) since seen bZ):=by rcases c with rfl|rfl<;>exact hr
  have hb1:w1.heap[b]?=ab (iP es a):=by rcases c with rfl|rfl<;>exact hb
  have g:=heap_set (o':=JV (ab b) since (seen.push e.born) a) hr1;have hb2:(kV w1 r (JV (ab b) since (seen.push e.born) a)).heap[b]?=ab (iP es a):=(g.2 b (λbB=>hne bB.symm)).trans hb1
  have s:au (λi=>i=r) w (kV w1 r (JV (ab b) since (seen.push e.born) a)):=by rcases c with rfl|rfl<;>exact⟨aa,aa,aa,by simp[kV],λi _ hi=>g.2 i hi⟩
  have hst:=(OZ es a).1 I;rw[<-j]at hrun;refine b8 ⟨x,_,_,hx,D,hrun,⟨l.only s (λbB=>hne bB.symm),G.filter _,λy J=>E y (pO.1 J).1,es,_,_,_,_,hb2,g.1,hold,hsk,hsk,?_⟩,s,?_,?_⟩
  .have bB:(Bx es (seen.push e.born)).toList=(Bx es seen).toList.filter (λz=>!decide (z.key=e.key)):=by unfold Bx;rw[agh,agh,List.filter_filter];refine He (λz hz=>?_);grind[entry_eq_of_key,born_inj]
   rw[bB,an0 (f:=λkey=>!decide (key=e.key)),d,QL];refine congrArg (List.map enc) (He (λy _=>?_));simp only[JM,<-j];by_cases q:y=x;·grind
   .have:¬enc y=enc x:=λh=>q (C.inj h);simp[q,this]
  .rcases c with rfl|rfl<;>simp[kV]
  .rw[j];exact run_entry_at _ r b _ _ es _ e g.1 hb2 n hst.2.1
theorem ZO{e f:Type}{p}{g:e->f}{x y}:∀{l:List e} {j},l[j]?=ab x->p y=p x->g y=g x->((l.set j y).filter p).map g=(l.filter p).map g
 |[],_,h,_,_=>by rfl
 |a::l,0,h,c,b=>by grind
 |a::l,j+1,h,c,b=>by
  have d:=ZO (l:=l) (j:=j) (by simpa using h) c b;rw[List.set_cons_succ,Hf,Hf];split;·rw[jM,jM,d]
  .exact d
def Over.put{t e}(C:ss P k enc ok)(J:P.underlying t=ab (wz k e))(h:Over w b r enc ok bg left){x}(hx:ok x)(F:∃v,dX bg x=ab v)v:
 ∃w',(DJ t (dj (ab b)) (enc x) v).run P w=a6 () w'/\Over w' b r enc ok (ka bg x v) left/\au (λi=>i=b) w w'/\w'.heap.size=w.heap.size:=by
 obtain⟨c,H,hall,es,f,since,seen,bZ,hb,hr,hold,hsc,hsk,O⟩:=h;have hne:r≠b:=aF;obtain⟨Q,hlx⟩:=C.reads hx;have u:∀p∈bg,ok p.1:=by obtain⟨_,_,_,_,_,_,u⟩:=c;exact u
 have hzz:es.size<=maxLen:=by obtain⟨m,g,hb',_,hz,_⟩:=c;grind
 obtain⟨m,g,hb',I,hsz,B,D⟩:=c.find C hx;rw[hb]at hb';obtain⟨rfl,rfl⟩:es=m/\f=g:=aF;obtain⟨R,hv0⟩:=F;rcases D with⟨h1,n,o⟩|⟨j,dN,h1,n,o,M,A⟩;·grind
 .have hh:r8 bg x=true:=by grind[IQ]
  have G:∀a,es[j]?=ab a->({a with key:=enc x,val:=v}:OY).key=a.key:=λa q=>by grind
  have N:es.toList[j]?=ab dN:=aF;have K:(es.modify j (λa=>{a with key:=enc x,val:=v})).toList=es.toList.set j {dN with key:=enc x,val:=v}:=by grind[agz]
  refine⟨kV w b (iP (es.modify j (λa=>{a with key:=enc x,val:=v})) f),?_,⟨⟨_,_,DI hb _,stamped_modify I _ _ (λ_ _=>aa) (λa _ q=>G a q),aF,?_,?_⟩,H,λy L=>?_,
   _,_,since,seen,bZ,DI hb _,(DH hb _ hne).trans hr,λy L=>?_,hsc,hsk,?_⟩,⟨aa,aa,aa,by simp[kV],λi _ hi=>DH hb _ hi⟩,by simp[kV]⟩;·simp[DJ,gE J,zv hb,C.keyed.check w ao hlx,h1,n,o,C.keyed.stays w hlx,Gx _ hb,kV]
  .rw[K,List.map_set,B];unfold ka;rw[if_pos hh];apply List.ext_getElem?;intro i;rw[List.getElem?_set,lr,lr,lr];by_cases s:j=i;·grind
   .rw[if_neg s];cases hi:bg[i]? with
    |none=>rfl
    |some p=>
     have hne:p.1≠x:=λl=>by
      have li:=(e5.1 hi);have d:=(e5.1 A);rcases Nat.lt_or_gt_of_ne s with hlt|E;·have:=l5.1 c.nodup j i d.1 li.1 hlt;rw[d.2,li.2]at this;exact this l.symm
      .have:=l5.1 c.nodup i j li.1 d.1 E;rw[d.2,li.2]at this;exact this l
     simp[hne]
  .intro p z;rcases AQ z with rfl|⟨z,_⟩;·omega
   .grind
  .grind[MO]
  .grind
  .grind[Bx,ZO]
def Tz{b c:Type}(f:b->c):∀(l:List b) j,(l.eraseIdx j).map f=(l.map f).eraseIdx j
 |[],_=>aa
 |_::_,0=>aa
 |a::l,j+1=>by simp[Tz f l j]
def adf{x:fh}{v}:∀{bg j},bg.Pairwise (λp q=>p.1≠q.1)->bg[j]?=ab (x,v)->AO bg x=bg.eraseIdx j
 |[],_,_,h=>by rfl
 |p::r,0,a,h=>by obtain rfl:p=(x,v):=aF;obtain⟨h1,_⟩:=vl.1 a;unfold AO;grind[zT]
 |p::r,j+1,a,h=>by
  obtain⟨h1,c⟩:=vl.1 a;have hr:r[j]?=ab (x,v):=by simpa using h
  have d:p.1≠x:=h1 _ (cY hr);have b:=adf c hr;unfold AO at b⊢;rw[Hf];simp[d,b]
theorem adg{x:fh}{bg}(h:dX bg x=af):AO bg x=bg:=
 zT.2 (λq a=>by grind[MP])
def _root_.Go.Proofs.YtcmhplknoglbkaaGreat.dM.drop{t e ty}(C:ss P k enc ok)(g:P.underlying t=ab (wz k e))(h:dM w b enc ok bg){x}(hx:ok x):
 ∃w',(Vg #[t,k] ty #[dj (ab b),enc x]).run P w=a6 (bm #[]) w'/\dM w' b enc ok (AO bg x)/\w.grownBy w' (ab b)/\w'.heap.size=w.heap.size:=by
 obtain⟨D,hlx⟩:=C.reads hx;have u:=h.nodup;have c:∀p∈bg,ok p.1:=by obtain⟨_,_,_,_,_,_,c⟩:=h;exact c
 have hzz:∃es a,w.heap[b]?=ab (iP es a)/\es.size<=maxLen:=by obtain⟨A,z,hb',_,hz,_⟩:=h;exact⟨_,_,hb',hz⟩
 obtain⟨m,l,hb0,hz0⟩:=hzz;obtain⟨es,a,hb,f,hsz,q,r⟩:=h.find C hx;rw[hb]at hb0;obtain⟨rfl,rfl⟩:es=m/\a=l:=aF;rcases r with⟨h1,d,n⟩|⟨j,dN,h1,d,n,B,o⟩
 .refine⟨_,?_,⟨es,_,DI hb _,f,hz0,?_,?_⟩,⟨aa,aa,aa,by simp[kV],λi _ hi=>DH hb _ (λe=>hi (by rw[e]))⟩,by simp[kV]⟩;·simp[Vg,gE g,zv hb,C.keyed.check w _ hlx,h1,Gx _ hb,kV]
  .grind[adg]
  .grind[adg]
 .have s:j<es.size:=(tr.1 d).1
  have y:(es.eraseIdxIfInBounds j).toList=es.toList.eraseIdx j:=by unfold Array.eraseIdxIfInBounds;rw[dif_pos s];simp
  refine⟨_,?_,⟨_,_,DI hb _,stamped_erase f j,Nat.le_trans (MapFrom.size_erase es j) hz0,?_,?_⟩,⟨aa,aa,aa,by simp[kV],λi _ hi=>DH hb _ (λe=>hi (by rw[e]))⟩,by simp[kV]⟩;·simp[Vg,gE g,zv hb,C.keyed.check w _ hlx,h1,Gx _ hb,kV]
  .rw[y,Tz,q,adf u o,Tz]
  .intro p v;exact c p (pO.1 v).1
section
variable {ops:Array Oper} {rest:List Oper} {o:Oper} {a:Act} {Q:Exit->Act->aM->Prop}
def af1 (c:o.guard=af) m (t e) (hop:o.op=Op.range t m) (f:P.underlying t=ab (wz k e)) (h:dM w b enc ok bg) (d:a.eval m=dj (ab b))
 (hK:∀w',Over w' b w.heap.size enc ok bg (bg.map (·.1))->ar w w'->w'.heap.size=w.heap.size+1->cL P ops Q rest (a.put o.dst (ax (ab ⟨w.heap.size,0,af⟩))) w'):cL P ops Q (o::rest) a w:=by
 refine DT c λl hK'=>?_;obtain⟨w',hrun,g,i,j⟩:=h.range f;unfold ih;simp[bt,hop,d,hrun];exact hK' _ _ (hK w' g i j)
def af2 (e:o.guard=af) c (hop:o.op=Op.next c ao) (C:ss P k enc ok) (hit:a.eval c=ax (ab ⟨r,0,af⟩)) (h:Over w b r enc ok bg left)
 (aoy:left=[]->cL P ops Q rest (a.put o.dst (bm #[ai ao])) w)
 (aoO:∀x v w',x∈left->dX bg x=ab v->Over w' b r enc ok bg (left.filter (λy=>!decide (y=x)))->au (λi=>i=r) w w'->w'.heap.size=w.heap.size->
   (agF (ax (ab ⟨r,0,af⟩))).run P w'=a6 (bm #[enc x,v]) w'->cL P ops Q rest (a.put o.dst (bm #[ai az,enc x,v])) w'):cL P ops Q (o::rest) a w:=by
 refine DT e λl hK'=>?_;unfold ih;rcases h.next C o.type with⟨d,hrun⟩|⟨x,v,w',hx,hv,hrun,f,g,j,hen⟩;·simp[bt,hop,hit,hrun];exact hK' _ _ (aoy d)
 .simp[bt,hop,hit,hrun];exact hK' _ _ (aoO x v w' hx hv f g j hen)
def awL {t e} (c:o.guard=af) (m x v) (hop:o.op=Op.mapUpdate t m x v)
 (C:ss P k enc ok) (ht:P.underlying t=ab (wz k e)) (h:Over w b r enc ok bg left) (hm:a.eval m=dj (ab b)) {y} (hy:ok y) (de:∃v,dX bg y=ab v) (hx:a.eval x=enc y) val (hv:a.eval v=val)
 (hK:∀w',Over w' b r enc ok (ka bg y val) left->au (λi=>i=b) w w'->w'.heap.size=w.heap.size->cL P ops Q rest (a.put o.dst a1) w'):cL P ops Q (o::rest) a w:=by
 refine DT c λj hK'=>?_;obtain⟨w',hrun,d,f,g⟩:=h.put C ht hy de val;unfold ih;simp[bt,hop,hm,hx,hv,hrun];exact hK' _ _ (hK w' d f g)
def awK (c:o.guard=af) (m x) (t e) (hop:o.op=Op.call {callee:=Callee.builtin Builtin.delete,args:=#[m,x],argTypes:=#[t,k]})
 (C:ss P k enc ok) (ht:P.underlying t=ab (wz k e)) (h:dM w b enc ok bg) (hm:a.eval m=dj (ab b)) {y} (hy:ok y) (hx:a.eval x=enc y)
 (hK:∀w',dM w' b enc ok (AO bg y)->w.grownBy w' (ab b)->w'.heap.size=w.heap.size->cL P ops Q rest (a.put o.dst (bm #[])) w'):cL P ops Q (o::rest) a w:=by
 refine DT c λi hK'=>?_;obtain⟨w',hrun,d,f,g⟩:=h.drop (ty:=o.type) C ht hy;unfold ih;simp[bt,hop,resolve,invoke,builtin,hm,hx,hrun,Result.andThen];exact hK' _ _ (hK w' d f g)
end
end
end G
end Go.Proofs.YtcmhplknoglbkaaGreat
