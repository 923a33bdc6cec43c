/- Part 5 of the proof of TopConvertsSaid. -/
import Derived.Test.YtcmhplknoglbkaaGreatProg
import Derived.DeepKeys4
import Derived.Maps.OwnOps
import Derived.BigQuiet
import Derived.Deep.QuietTactic
import Derived.StillTailTactics
import Derived.Deep.RegionHeld3
import Derived.Deep.AppendLies
import Derived.Deep.DeepCutAuto
import Derived.Shelf.Slices.Turned
import Derived.Shelf.Slices.SearchI
import Derived.Shelf.Slices.Clone
import Derived.Shelf.Slices.Cells
import Derived.Shelf.Slices.Empties
import Derived.Shelf.Slices.Empties2
import Derived.Ground.Names2Prog
import Derived.Ground.SlgfProg
import Derived.Shelf.SlicesE.DeleteFunc
import Derived.Shelf.Spec.SlicesInsert
import Derived.Shelf.Spec.SlicesInsertGrow
import Derived.Shelf.SlGeneric
import Derived.Shelf.SlIterI.Nil
import Derived.Shelf.SortM.Plain
import Derived.Shelf.SortM.SortNone
import Derived.Ground.GgzProg
import Derived.Ground.SlgmProg
import Derived.Ground.SlsfProg
import Derived.Shelf.SlSortCmp.WholeK
import Derived.Shelf.Small.Wraps
import Derived.RangeFuncNested
import Derived.RangeFuncBound
import Derived.RangeFuncCalls
import Derived.RangeFuncLeaves
import Derived.RangeFuncBox
import Derived.RangeFuncWrites
import Derived.Shelf.Abstract
import Derived.Shelf.RegionOpen
import Derived.OwnWalkIn
import Derived.TacticsInMore
import Derived.LoopNIn
import Derived.LoopIn
import Derived.Maps.AppendAt
import Derived.Sort.OwnSorted
import Derived.Lib.SlKeysI
import Derived.Maps.RangeWalk
import Derived.Test.YtcmhplknoglbkaaGreatQc0
import Derived.Test.YtcmhplknoglbkaaGreatQc1
import Derived.Test.YtcmhplknoglbkaaGreatQc3
set_option linter.all false
set_option maxRecDepth 100000
set_option maxHeartbeats 4000000
open Go.Proofs.Tryz
open Array renaming getElem?_append_left->Jr,getElem?_eq_some_iff->pj,replicate_succ->qf,replicate_zero->qg,toList_filter->afZ
open Bool renaming false->au,true->aB
open Function renaming comp_def->Jz
open Go.Builtin renaming delete_->U',zeroCells->mT
open Go renaming Calls->aD,CallsIn->rb,MapEntry->OI,Value->aO,World->aM,callsIn_of_wp->Dn,callsIn_wide->sn,cell_of_one->pw,cell_of_row->eB,execOp->bt,grownCap->xV,grownCap_ge->zq,grownCap_le_maxLen->zr,heap_alloc_new->fe,info_parts->rf,intKeys->WC,leftOf->A',maxLen->dN,run_underlying->gF,step_append_lies->aiu,undef->aY,wpList->cG,wpList_plain->Dq
open Go.ChangeMaps renaming heap_setBlock_other->De,heap_setBlock_same->Df,modify_eq_set->agi,setBlock->kR
open Go.Ending renaming returned->aA
open Go.Fence renaming wide->mr
open Go.Fn renaming func->ej
open Go.Instr renaming entry->ago,lookup->qj,mapUpdate->Dh
open Go.IntKind renaming i64->R
open Go.Lib renaming compareInt->zi
open Go.Lit renaming int->FW
open Go.MapKept renaming heap_alloc->Ve,run_getObj_map->zj,run_setObj_map->FZ,stamped_iff->OJ
open Go.Maps renaming keyOf_int_mk->Vf,size->JG
open Go.Obj renaming cells->bc,map->iO,mapIter->JH
open Go.Oper renaming wp->hB
open Go.Proofs.Any2 renaming slices_Insert_int_end_grow->agv
open Go.Proofs.AnyQ renaming slices_SortFunc->agx
open Go.Proofs.Lays renaming n107->axK,n122->axL
open Go.Proofs.Lays2 renaming n15->axO,n21->axP,n25->axQ
open Go.Proofs.SlLaysF0 renaming n6->agy
open Go.Proofs.SlLaysH renaming n10->axS
open Go.Proofs.SlLaysM renaming n5->axT
open Go.Proofs.SlLaysZI renaming n6->axU,n7->axV
open Go.Proofs.Tryz renaming func193->Vn,func194->OP,func256->Vu,func271->Vv,func272->Vw,func317->VA,func318->VB,isAgg0->wo,isAgg188->VH,isAgg3->pr,isAgg311->JK,isAgg315->OU,isAgg371->VI,isAgg372->VJ,isAgg4->tn,isAgg42->VK,isAgg420->VL,isAgg423->VM,isAgg448->VN,isAgg80->VO,isAgg82->A4,prog->ax,sizeOf0->wu,sizeOf188->V3,sizeOf3->pt,sizeOf311->JN,sizeOf315->O1,sizeOf371->V4,sizeOf372->V5,sizeOf4->tp,sizeOf42->V6,sizeOf420->V7,sizeOf423->V8,sizeOf448->V9,sizeOf5->JO,sizeOf80->V',sizeOf82->A5,sizeOf9->F4,underlying0->wv,underlying188->Wa,underlying3->j2,underlying302->O3,underlying303->A6,underlying311->JP,underlying315->O4,underlying371->Wc,underlying372->Wd,underlying4->tr,underlying42->We,underlying420->Wf,underlying423->Wg,underlying448->Wi,underlying5->lj,underlying80->Wk,underlying82->ij,underlying9->zl,zeroValue0->wx,zeroValue188->Wl,zeroValue3->ql,zeroValue311->JQ,zeroValue315->O5,zeroValue371->Wm,zeroValue372->Wn,zeroValue4->ts,zeroValue42->Wo,zeroValue420->Wp,zeroValue423->Wq,zeroValue448->Wr,zeroValue5->JR,zeroValue80->Ws,zeroValue82->A8,zeroValue9->F6
open Go.Proofs renaming enters_of->ll,ltOf->F7
open Go.Result renaming ok->a7
open Go.RowKit renaming Below->uO,Hid->aE,intOf->cw
open Go.RowKit.Below renaming refl->O9
open Go.Sort renaming HoldsK->Pb,ahead->JT,alloc_eq_grow->Pc,grow->F8
open Go.TypeDesc renaming map->wA
open Go.Value renaming agg->av,bool->ak,cells->Pd,func->dJ,int->J,map->dE,oneCell'->wB,ownBlock->tt,pointer->ay,slice->ad,tuple->bg
open Go.WideElems renaming rd->ain
open Go.World renaming block_lt_of_cell?->uQ,frozen?->uR,news_of_block->Wz,ownsRow_nil->A9,shape?->Pg,size_alloc->zn
open List renaming append_toArray->qu,cons_append->pB,eq_nil_of_length_eq_zero->jH,ext_getElem->Xz,filter_congr->DN,filter_cons->DO,filter_eq_self->zE,filter_map->Qq,getElem?_drop->DP,getElem?_eq_getElem->cj,getElem?_eq_some_iff->eQ,getElem?_map->kB,getElem?_take->tE,length->vg,length_cons->jT,length_drop->vh,length_map->gU,length_nil->l2,map_cons->jx,map_map->GM,mem_append->jf,mem_append_left->Bq,mem_filter->nb,mem_map->gV,mem_of_getElem?->cL,nil_append->nd,nodup_append->x',pairwise_cons->vj,pairwise_iff_getElem->l3,push_toArray->qv,range->dF,size_toArray->iQ,take_length->ik
open Nat renaming eq_zero_or_pos->lJ,le_refl->cm,zero_add->kV,zero_le->cQ
open Option renaming none->af,some->ab
open Or renaming inl->bH,inr->b1
namespace Go.Proofs.YtcmhplknoglbkaaGreat
namespace G
open Go.RowKit Go.MapKept Go.WideMaps
open Go.Maps (Keyed)
def encI(x:Int):Value:=J R x
def db(x:Int):Prop:=-9223372036854775808<=x/\x<=9223372036854775807
def vv(e:Int×Int):Value:=av #[J R e.1,J R e.2]
def qQ(e:Int×Int):Prop:=db e.1/\db e.2
def NA{x}(h:db x):(FW R x).wf=true:=WalkArith.wf_i64 h
def o7:sj ax 3 encI db:=
 ⟨Maps.int_keyed j2,λh=>⟨_,Vf j2 (NA h)⟩,λh=>by grind[encI]⟩
def laidOut:laidOutB ax=true:=aw
def am7:(192:TypeId)<ax.types.size:=of_decide_eq_true aw
def am1:ax.keyTypeAt 2 192=true:=aw
def am4:KeyLaw ax 192:=by refine deep_law_laid laidOut (m:=2) ae am7 am1 ?_;kernel_rfl
def am8:ax.keyType 192=true:=aw
def am2:ax.cellsOf 192=2:=aw
def aqv:ax.cellsOf 3=1:=aw
def avK:∃m,ax.types.size=m+1:=by have h:(decide (0<ax.types.size))=true:=aw;have a:0<ax.types.size:=of_decide_eq_true h;exact⟨ax.types.size -1,ae⟩
def am5{e}(h:qQ e)n:ax.keyLits (n+1+1) 192 (vv e).cells.toList=ab [FW R e.1,FW R e.2]:=by have h1:=NA h.1;have a:=NA h.2;simp[Program.keyLits,am2,aqv,vv,Pd,h1,a]
def am3 e:(vv e).formed ax 192=true:=aS
def am6{e}(h:qQ e):∃l,keyOf ax 192 (vv e)=ab l:=by obtain⟨m,b⟩:=avK;have a:=am5 h m;unfold keyOf;rw[b,a,underlying192];simp only[am8,am3,Bool.and_self,if_true,Option.map_some];exact⟨_,aa⟩
def Mm:sj ax 192 vv qQ:=
 ⟨Keyed.of_law am4,am6,λ{x y} h=>by grind[vv]⟩
open Go.RowKit Go.MapKept
def succ(E:List (Int×Int))(u:Int):List Int:=(E.filter (λe=>decide (e.1=u))).map (·.2)
def pred(E:List (Int×Int))(v:Int):List Int:=(E.filter (λe=>decide (e.2=v))).map (·.1)
def avp E e u:succ (E++[e]) u=if u=e.1 then succ E u++[e.2]else succ E u:=by grind[succ]
def atj E e v:pred (E++[e]) v=if v=e.2 then pred E v++[e.1]else pred E v:=by grind[pred]
theorem I0 E u:(succ E u).length<=E.length:=by grind[succ]
theorem TQ E u:(pred E u).length<=E.length:=by grind[pred]
def yc(w:aM)(a:List (Int×aO))(f:Int->List Int):Prop:=
 ∀u,(∀v,ec a u=ab v->w.ownsRow 0 3 1 v (f u).length ((f u).map (J R)))/\(ec a u=af->f u=[])
def sy(p q:Int×aO):Prop:=∀g,p.2.ownBlock=ab g->q.2.ownBlock≠ab g
def sy.symm{p q}(h:sy p q):sy q p:=λg b a=>h g a b
structure kz (w:aM) (F:Nat->Prop) (b:Nat) (n:Int) (n1 mq mo:List (Int×Int)) (fI cW fz:Nat) (eP eN:List (Int×aO)):Prop where
 blk:w.heap[b]?=ab (bc #[J R n,dE (ab fI),dE (ab cW),dE (ab fz)] 305 (0,0))
 mB:dY w fI vv qQ (n1.map (λe=>(e,ak aB)))
 out:dY w cW encI db eP
 mL:dY w fz encI db eN
 p9:yc w eP (succ mq)
 p7:yc w eN (pred mo)
 MN:∀p∈eP,∀q∈eP,p.1≠q.1->sy p q
 MM:∀p∈eN,∀q∈eN,p.1≠q.1->sy p q
 CA:∀p∈eP,∀q∈eN,sy p q
 xM:F b
 Da:F fI
 Dc:F cW
 Db:F fz
 xO:∀p∈eP,∀g,p.2.ownBlock=ab g->F g
 xN:∀p∈eN,∀g,p.2.ownBlock=ab g->F g
 Tq:fI≠cW
 Tp:fI≠fz
 Tt:cW≠fz
 lo:eP.length<=mq.length
 li:eN.length<=mo.length
 n0:0<=n
 qO:n<=1048576
def gT(w:aM)(F:Nat->Prop)(b:Nat)(n:Int)(E:List (Int×Int)):Prop:=
 (∃fI cW fz eP eN,kz w F b n E E E fI cW fz eP eN)/\E.Nodup/\∀e∈E,(0<=e.1/\e.1<n)/\(0<=e.2/\e.2<n)/\e.1≠e.2
section
variable {w w':aM} {F G:Nat->Prop} {b:Nat} {n:Int} {E n1 mq mo:List (Int×Int)} {fI cW fz:Nat} {eP eN:List (Int×aO)}
theorem ns{base e:Nat}{v m xs}(h:w.ownsRow base e 1 v m xs)(k:ar G w w')(a:∀g,v.ownBlock=ab g->¬G g):w'.ownsRow base e 1 v m xs:=by
 refine⟨h.1,?_⟩;rcases h.2 with h2|⟨g,cap,cur,rfl,hb,hh,r⟩;·grind
 .exact b1 ⟨g,_,_,aa,hb,k.heap hh (a g aa),r⟩
def yc.only{a f}(h:yc w a f)(k:ar G w w')(b:∀p∈a,∀g,p.2.ownBlock=ab g->¬G g):yc w' a f:=λu=>
 ⟨λv hv=>ns ((h u).1 v hv) k (b _ (rY hv)),(h u).2⟩
def kz.only(h:kz w F b n n1 mq mo fI cW fz eP eN)(k:ar G w w')(a:∀i,F i->¬G i):kz w' F b n n1 mq mo fI cW fz eP eN:=
 {h with
  blk:=k.heap h.blk (a _ h.xM)
  mB:=h.mB.only k (a _ h.Da)
  out:=h.out.only k (a _ h.Dc)
  mL:=h.mL.only k (a _ h.Db)
  p9:=h.p9.only k (λp d g c=>a _ (h.xO p d g c))
  p7:=h.p7.only k (λp d g c=>a _ (h.xN p d g c))}
def kz.Fu(h:kz w F b n n1 mq mo fI cW fz eP eN):(∀p∈eP,∀g,p.2.ownBlock=ab g->g<w.heap.size)/\(∀p∈eN,∀g,p.2.ownBlock=ab g->g<w.heap.size):=
 ⟨λp c g a=>(((h.p9 p.1).1 p.2 (xm h.out.nodup c)).lt g a).2,λp c g a=>(((h.p7 p.1).1 p.2 (xm h.mL.nodup c)).lt g a).2⟩
theorem kz.mono(h:kz w F b n n1 mq mo fI cW fz eP eN)(a:∀i,i<w.heap.size->F i->G i):kz w G b n n1 mq mo fI cW fz eP eN:=
 {h with
  xM:=a _ (pj.1 h.blk).1 h.xM
  Da:=a _ h.mB.lt h.Da
  Dc:=a _ h.out.lt h.Dc
  Db:=a _ h.mL.lt h.Db
  xO:=λp d g c=>a _ (h.Fu.1 p d g c) (h.xO p d g c)
  xN:=λp d g c=>a _ (h.Fu.2 p d g c) (h.xN p d g c)}
def gT.only(h:gT w F b n E)(k:ar G w w')(a:∀i,F i->¬G i):gT w' F b n E:=by obtain⟨⟨fI,cW,fz,eP,eN,g⟩,r⟩:=h;exact⟨⟨fI,cW,fz,eP,eN,g.only k a⟩,r⟩
def gT.aH(h:gT w F b n E)(k:aq w w'):gT w' F b n E:=h.only k (λ_ _ a=>a)
theorem gT.mono(h:gT w F b n E)(a:∀i,i<w.heap.size->F i->G i):gT w G b n E:=by obtain⟨⟨fI,cW,fz,eP,eN,g⟩,r⟩:=h;exact⟨⟨fI,cW,fz,eP,eN,g.mono a⟩,r⟩
def Na{b f}(h:yc w b f){p:Int×aO}(d:ec b p.1=ab p.2){g i es c}(a:p.2.ownBlock=ab g)(hi:w.heap[i]?=ab (iO es c)):g≠i:=by
 rintro rfl;rcases((h p.1).1 p.2 d).2 with⟨hv,_⟩|⟨e,cap,cur,hv,_,hh,_⟩;·rw[hv]at a;cases a
 grind[tt]
def _root_.Go.Proofs.YtcmhplknoglbkaaGreat.dY.uc{fc enc}{ok:fc->Prop}{a i}(h:dY w i enc ok a):∃es c,w.heap[i]?=ab (iO es c):=by obtain⟨es,c,hb,_⟩:=h;exact⟨es,c,hb⟩
def kz.Lg(h:kz w F b n n1 mq mo fI cW fz eP eN){e}(a:w.grownBy w' (ab fI))(j:dY w' fI vv qQ (jY (n1.map (λe=>(e,ak aB))) e (ak aB)))(l:e∉n1):
 kz w' F b n (n1++[e]) mq mo fI cW fz eP eN:=by
 have k:ar (λi=>i=fI) w w':=ar.of_grownBy a (λi e=>aF);obtain⟨es,c,d⟩:=h.mB.uc;have hh:rZ (n1.map (λe=>(e,ak aB))) e=false:=by grind[Iy]
 rw[ME _ hh]at j
 exact{h with
  blk:=k.heap h.blk (by rintro rfl;rw[h.blk]at d;cases d)
  mB:=aF
  out:=h.out.only k (λe=>h.Tq e.symm)
  mL:=h.mL.only k (λe=>h.Tp e.symm)
  p9:=h.p9.only k (λp f g a=>Na h.p9 (xm h.out.nodup f) a d)
  p7:=h.p7.only k (λp f g a=>Na h.p7 (xm h.mL.nodup f) a d)}
def kz.IE(h:kz w F b n n1 mq mo fI cW fz eP eN)u:w.ownsRow 0 3 1 ((ec eP u).getD (ad af 0 0)) (succ mq u).length ((succ mq u).map (J R)):=by
 cases hm:ec eP u with
 |none=>rw[(h.p9 u).2 hm];exact A9 _ _ _ _
 |some v=>exact(h.p9 u).1 v hm
def kz.S5(h:kz w F b n n1 mq mo fI cW fz eP eN)u:w.ownsRow 0 3 1 ((ec eN u).getD (ad af 0 0)) (pred mo u).length ((pred mo u).map (J R)):=by
 cases hm:ec eN u with
 |none=>rw[(h.p7 u).2 hm];exact A9 _ _ _ _
 |some v=>exact(h.p7 u).1 v hm
def Fi{base e:Nat}{v m xs}(h:w.ownsRow base e 1 v m xs){g t cs fr}(b:w.heap[g]?=ab (bc cs t fr))(hne:e≠t):v.ownBlock≠ab g:=by
 rcases h.2 with⟨rfl,_⟩|⟨a,cap,cur,rfl,_,hh,_⟩;·simp[tt]
 grind[tt]
theorem s0{base e:Nat}{v m xs}(h:w.ownsRow base e 1 v m xs){g es c}(b:w.heap[g]?=ab (iO es c)):v.ownBlock≠ab g:=by
 rcases h.2 with⟨rfl,_⟩|⟨a,cap,cur,rfl,_,hh,_⟩;·simp[tt]
 grind[tt]
def yc.put {a f e w1 u x v' cW es c} (h:yc w a f) (k:∀p∈a,∀q∈a,p.1≠q.1->sy p q)
 (eh:ar (λi=>((ec a u).getD (ad af 0 0)).ownBlock=ab i) w w1) (hrow:w1.ownsRow 0 3 1 v' ((f u).length+1) ((f u).map (J R)++[J R x]))
 (yK:w.heap[cW]?=ab (iO es c)) (fm:ar (λi=>i=cW) w1 w') (hf:∀y,e y=if y=u then f y++[x]else f y):yc w' (jY a u v') e:=by
 have l:((ec a u).getD (ad af 0 0)).ownBlock≠ab cW:=by
  cases hm:ec a u with
  |none=>simp[tt]
  |some v=>exact s0 ((h u).1 v hm) yK
 have m:w1.heap[cW]?=ab (iO es c):=eh.heap yK l;intro y;rw[Tl,hf];by_cases d:y=u;·grind[ns,s0]
 .rw[if_neg d,if_neg d];refine⟨λv hv=>?_,(h y).2⟩;have hold:=(h y).1 v hv
  have n:w1.ownsRow 0 3 1 v (f y).length ((f y).map (J R)):=by
   refine ns hold eh (λg j b=>?_);cases hm:ec a u with
   |none=>rw[hm]at b;cases b
   |some o=>
    rw[hm]at b;exact k _ (rY hv) _ (rY hm) d g j b
  grind[ns,s0]
def ada {a u v' B} (j:∀p∈a,∀q∈a,p.1≠q.1->sy p q) (hlt:∀p∈a,∀g,p.2.ownBlock=ab g->g<B)
 (hloc:v'.ownBlock=((ec a u).getD (ad af 0 0)).ownBlock\/∃g,v'.ownBlock=ab g/\B<=g):(∀p∈jY a u v',∀q∈jY a u v',p.1≠q.1->sy p q)/\
  ∀q:Int×aO,(∀g,q.2.ownBlock=ab g->g<B)->(∀p∈a,sy p q)->∀p∈jY a u v',sy p q:=by
 have key:∀q:Int×aO,(∀g,q.2.ownBlock=ab g->g<B)->(∀b,ec a u=ab b->sy (u,b) q)->sy (u,v') q:=by
  intro q d h g i k;rcases hloc with h1|⟨fH,h1,f⟩
  .cases hm:ec a u with
   |none=>
    rw[hm]at h1;have f:v'.ownBlock=none:=h1;grind
   |some b=>
    rw[hm]at h1;have f:v'.ownBlock=b.ownBlock:=h1;exact h b hm g (f▸i) k
  grind
 constructor
 .intro p c q d hne;rcases As c with rfl|⟨c,apL⟩<;>rcases As d with rfl|⟨d,azG⟩;·omega
  .grind[rY]
  .exact(key p (hlt p c) (λb h=>j _ (rY h) p c (λe=>apL e.symm))).symm
  .grind
 .intro q d l p c;grind[As,rY]
def BE{g i t:Nat}{cs fr es c}(h:w.heap[g]?=ab (bc cs t fr))(hi:w.heap[i]?=ab (iO es c)):g≠i:=aF
def kz.outs (h:kz w F b n n1 mq mo fI cW fz eP eN) {w1 u x v'}
 (eh:ar (λi=>((ec eP u).getD (ad af 0 0)).ownBlock=ab i) w w1) (hrow:w1.ownsRow 0 3 1 v' ((succ mq u).length+1) ((succ mq u).map (J R)++[J R x]))
 (hloc:v'.ownBlock=((ec eP u).getD (ad af 0 0)).ownBlock\/∃g,v'.ownBlock=ab g/\w.heap.size<=g) (fm:ar (λi=>i=cW) w1 w')
 (hm:dY w' cW encI db (jY eP u v')) (hF:∀i,w.heap.size<=i->F i):kz w' F b n n1 (mq++[(u,x)]) mo fI cW fz (jY eP u v') eN:=by
 obtain⟨C,z,k⟩:=h.mB.uc;obtain⟨E,B,d⟩:=h.out.uc;obtain⟨D,A,l⟩:=h.mL.uc;have hr:=h.IE u;have r:=Fi hr h.blk bh;have ne:=s0 hr k;have t:=s0 hr d;have s:=s0 hr l
 have hoi:∀p∈eN,∀g,p.2.ownBlock=ab g->((ec eP u).getD (ad af 0 0)).ownBlock≠ab g:=by
  intro p c g a hv;cases fO:ec eP u with
  |none=>rw[fO]at hv;cases hv
  |some v=>
   rw[fO]at hv;exact h.CA _ (rY fO) p c g hv a
 have hop:=ada h.MN h.Fu.1 hloc;have f:=h.p7.only eh (λp c g a=>hoi p c g a);have m:=eh.heap d t
 exact{h with
  blk:=fm.heap (eh.heap h.blk r) (BE h.blk d)
  mB:=(h.mB.only eh ne).only fm h.Tq
  out:=hm
  mL:=(h.mL.only eh s).only fm (λe=>h.Tt e.symm)
  p9:=h.p9.put h.MN eh hrow d fm (λy=>avp mq _ y)
  p7:=f.only fm (λp c g a=>Na f (xm h.mL.nodup c) a m)
  lo:=by have:=acQ eP u v';have:=h.lo;simp;omega
  MN:=hop.1
  CA:=λp c q j=>hop.2 q (h.Fu.2 q j) (λp' o=>h.CA p' o q j) p c
  xO:=λp c g a=>by
   rcases As c with rfl|⟨c,_⟩
   .rcases hloc with h1|⟨fH,h1,h2⟩
    .replace a:v'.ownBlock=ab g:=a;rw[h1]at a;cases fO:ec eP u with
     |none=>rw[fO]at a;cases a
     |some v=>rw[fO]at a;exact h.xO _ (rY fO) g a
    grind
   .exact h.xO p c g a}
def kz.ins (h:kz w F b n n1 mq mo fI cW fz eP eN) {w1 u x v'}
 (eh:ar (λi=>((ec eN x).getD (ad af 0 0)).ownBlock=ab i) w w1) (hrow:w1.ownsRow 0 3 1 v' ((pred mo x).length+1) ((pred mo x).map (J R)++[J R u]))
 (hloc:v'.ownBlock=((ec eN x).getD (ad af 0 0)).ownBlock\/∃g,v'.ownBlock=ab g/\w.heap.size<=g) (fm:ar (λi=>i=fz) w1 w')
 (hm:dY w' fz encI db (jY eN x v')) (hF:∀i,w.heap.size<=i->F i):kz w' F b n n1 mq (mo++[(u,x)]) fI cW fz eP (jY eN x v'):=by
 obtain⟨B,v,f⟩:=h.mB.uc;obtain⟨D,A,k⟩:=h.out.uc;obtain⟨C,z,d⟩:=h.mL.uc;have hr:=h.S5 x;have m:=Fi hr h.blk bh;have ne:=s0 hr f;have r:=s0 hr k;have o:=s0 hr d
 have hoi:∀p∈eP,∀g,p.2.ownBlock=ab g->((ec eN x).getD (ad af 0 0)).ownBlock≠ab g:=by
  intro p c g a hv;cases fO:ec eN x with
  |none=>rw[fO]at hv;cases hv
  |some t=>
   rw[fO]at hv;exact h.CA p c _ (rY fO) g a hv
 have hop:=ada h.MM h.Fu.2 hloc;have e:=h.p9.only eh (λp c g a=>hoi p c g a);have j:=eh.heap d o
 exact{h with
  blk:=fm.heap (eh.heap h.blk m) (BE h.blk d)
  mB:=(h.mB.only eh ne).only fm h.Tp
  mL:=hm
  out:=(h.out.only eh r).only fm h.Tt
  p7:=h.p7.put h.MM eh hrow d fm (λy=>atj mo _ y)
  p9:=e.only fm (λp c g a=>Na e (xm h.out.nodup c) a j)
  li:=by have:=acQ eN x v';have:=h.li;simp;omega
  MM:=hop.1
  CA:=λp c q l=>(hop.2 p (h.Fu.1 p c) (λs hq'=>(h.CA p c s hq').symm) q l).symm
  xN:=λp c g a=>by
   rcases As c with rfl|⟨c,_⟩
   .rcases hloc with h1|⟨fH,h1,h2⟩
    .replace a:v'.ownBlock=ab g:=a;rw[h1]at a;cases fO:ec eN x with
     |none=>rw[fO]at a;cases a
     |some t=>rw[fO]at a;exact h.xN _ (rY fO) g a
    grind
   .exact h.xN p c g a}
def gT.new{n}(c:0<=n)(h1:n<=1048576)(w:aM):
 gT ((((w.alloc (iO #[] 0)).alloc (iO #[] 0)).alloc (iO #[] 0)).alloc (bc #[J R n,dE (ab w.heap.size),dE (ab (w.heap.size+1)),dE (ab (w.heap.size+2))] 305))
  (λk=>w.heap.size<=k/\k<w.heap.size+4) (w.heap.size+3) n []:=by
 have a0:=dY.made w vv qQ;have a:=dY.made (w.alloc (iO #[] 0)) encI db;have b:=dY.made ((w.alloc (iO #[] 0)).alloc (iO #[] 0)) encI db;simp only[zn]at a b;refine⟨⟨w.heap.size,w.heap.size+1,w.heap.size+2,[],[],?_⟩,aT,aT⟩
 exact{
  blk:=by have:=fe (((w.alloc (iO #[] 0)).alloc (iO #[] 0)).alloc (iO #[] 0)) (bc #[J R n,dE (ab w.heap.size),dE (ab (w.heap.size+1)),dE (ab (w.heap.size+2))] 305);simpa using this
  mB:=((a0.only (ar.alloc (F:=λ_=>False) _ _) (λh=>h)).only (ar.alloc (F:=λ_=>False) _ _) (λh=>h)).only (ar.alloc (F:=λ_=>False) _ _) (λh=>h)
  out:=(a.only (ar.alloc (F:=λ_=>False) _ _) (λh=>h)).only (ar.alloc (F:=λ_=>False) _ _) (λh=>h)
  mL:=b.only (ar.alloc (F:=λ_=>False) _ _) (λh=>h)
  p9:=λu=>⟨λv hv=>by grind[ec],λ_=>aa⟩
  p7:=λu=>⟨λv hv=>by grind[ec],λ_=>aa⟩
  MN:=aT
  MM:=aT
  CA:=aT
  xM:=ae
  Da:=ae
  Dc:=ae
  Db:=ae
  xO:=aT
  xN:=aT
  Tq:=ae
  Tp:=ae
  Tt:=ae
  lo:=aT
  li:=aT
  n0:=c
  qO:=h1}
end
open Go.RowKit Go.MapKept
def UE w:(zeroValue 4).run ax w=a7 (ak au) w:=aw
def FL w:(zeroValue 82).run ax w=a7 (ad af 0 0) w:=aw
set_option maxHeartbeats 400000 in
def acX n w(d:0<=n)(h1:n<=1048576):
 aD ax 179 #[J R n] w λe w'=>∃b,e=aA (ay (ab ⟨b,0,af⟩))/\gT w' (λk=>w.heap.size<=k/\k<w'.heap.size) b n []/\aq w w':=by
 have f:decide (n<0)=false:=aF;have g:decide (1048576<n)=false:=aF;have h:=@run_makeMap ax;have c:=hid (gT.new d h1 w);go_enter func179,ntmps179;go_wp2;go_ret;refine⟨_,aa,c.out.mono (λi _ hi=>⟨hi.1,ae⟩),?_⟩;exact(((ar.alloc w _).trans (ar.alloc _ _) (λ_ _ a=>a)).trans (ar.alloc _ _) (λ_ _ a=>a)).trans (ar.alloc _ _) (λ_ _ a=>a)
set_option maxHeartbeats 400000 in
def xk b n w(hc:w.cell? ⟨b,0,af⟩=ab (J R n)):aD ax 303 #[ay (ab ⟨b,0,af⟩)] w λe w'=>e=aA (J R n)/\w=w':=by go_enter func303,ntmps303;go_wp2;go_ret;exact⟨aa,aa⟩
def p2(n v:Int):Bool:=decide (0<=v/\v<n)
set_option maxHeartbeats 400000 in
def zc b(n v)w(hc:w.cell? ⟨b,0,af⟩=ab (J R n)):aD ax 253 #[ay (ab ⟨b,0,af⟩),J R v] w λe w'=>e=aA (ak (p2 n v))/\w=w':=by
 by_cases c:0<=v
 .have h1:decide (0<=v)=true:=aF;have hr:p2 n v=decide (v<n):=by grind[p2]
  have a:=hid hr;clear hr;go_enter Tryz.func253,Tryz.ntmps253;go_wp2_with (go_at_call 303;refine(xk _ _ _ hc).mono ?_;rintro e w' ⟨rfl,rfl⟩);go_ret;exact⟨by rw[a.out];rfl,aa⟩
 .have h1:decide (0<=v)=false:=aF;have hr:p2 n v=false:=by grind[p2]
  have a:=hid hr;clear hr;go_enter Tryz.func253,Tryz.ntmps253;go_wp2;go_ret;exact⟨by rw[a.out];rfl,aa⟩
open Go.RowKit Go.MapKept
def canAdd(n:Int)(E:List (Int×Int))(e:Int×Int):Bool:=p2 n e.1&&p2 n e.2&&decide (e.1≠e.2)&&!decide (e∈E)
def pI(n:Int)(E:List (Int×Int))(e:Int×Int):List (Int×Int):=if canAdd n E e then E++[e]else E
def jj(n:Int)(E l:List (Int×Int)):List (Int×Int):=l.foldl (pI n) E
def An:(ax.info? 3).map (λi=>(i.zero,i.size,i.bytes))=ab (ab (J R 0),1,8):=aw
def akn n(E l:List (Int×Int)){k e}(h:l[k]?=ab e):jj n E (l.take (k+1))=pI n (jj n E (l.take k)) e:=by grind[jj,List.take_add_one]
def akm n(E l):E.length<=(jj n E l).length/\(jj n E l).length<=E.length+l.length:=by
 unfold jj;induction l generalizing E with
 |nil=>simp
 |cons e r a=>grind[pI]
set_option maxHeartbeats 400000 in
def X0 b n E F A c l w(dT:gT w F b n E)(hl:jy w A l)(ka:∀e∈l,qQ e)(eU:E.length+l.length<=1099511627776)(bu:∀blk off,A=ab ⟨blk,off,af⟩->¬F blk):
 aD ax 182 #[ay (ab ⟨b,0,af⟩),ad A l.length c] w λe w'=>e=aA (J R ((jj n E l).length -E.length:Nat))/\
  gT w' (λk=>F k\/(w.heap.size<=k/\k<w'.heap.size)) b n (jj n E l)/\ar F w w':=by
 go_enter func182,ntmps182;go_wp2
 go_loopw [5,10] (λs i wr=>∃k:Nat,k<=l.length/\i=J R k/\s=J R ((jj n E (l.take k)).length -E.length:Nat)/\
  gT wr (λk=>F k\/w.heap.size<=k) b n (jj n E (l.take k))/\ar F w wr) (λ_ i _=>l.length -(cw i).toNat);case atStart=>exact⟨0,cQ _,aa,by simp[jj],by simpa [jj]using dT.mono (λi _ h=>bH h),ar.refl _ _⟩
 case round=>
  obtain⟨k,hk,rfl,rfl,Ej,hO⟩:=hrel;by_cases hlt:k<l.length
  .have HU:=hl.only hO bu;obtain⟨fT,off,rfl,hcell⟩:=HU ae;obtain⟨h1,h2⟩:=hcell k hlt;obtain⟨⟨u,x⟩,k2⟩:∃p,l[k]?=ab p:=⟨l[k],aT⟩;have c':qQ (u,x):=ka _ (cL k2);have hst:=akn n E l k2;have hle:=akm n E (l.take k);have qL:(l.take k).length=k:=aF;simp only[k2,Option.getD_some]at h1 h2;clear hcell hl ka HU;have eJ:=hid hst;have Kn:=hid k2;clear hst k2;rw[qL]at hle;clear qL;generalize jj n E (l.take k)=gv at*;have hb0:(k:Int)<(l.length:Int):=ae;obtain⟨⟨fI,cW,fz,eP,eN,g⟩,eg,hval⟩:=Ej;have aaW:ar (λ_=>False) wr (wr.alloc (bc #[J R u,J R x] 192)):=ar.alloc _ _;have g1:=g.only aaW (λ_ _ h=>h);have hblk:=fe wr (bc #[J R u,J R x] 192);have bZ:(wr.alloc (bc #[J R u,J R x] 192)).cell? ⟨wr.heap.size,0,af⟩=ab (J R u):=eB _ _ 0 _ _ _ (fe wr _);have c1:(wr.alloc (bc #[J R u,J R x] 192)).cell? ⟨wr.heap.size,1,af⟩=ab (J R x):=eB _ _ 1 _ _ _ (fe wr _);have lS:wr.heap.size<(wr.alloc (bc #[J R u,J R x] 192)).heap.size:=aT;go_wp2_with fail;generalize ic:wr.heap.size=B at*;generalize c3:wr.alloc (bc #[J R u,J R x] 192)=W at*;clear c3 ic h1 h2;have kn:=eB _ _ 0 _ _ _ g1.blk;have eh:=eB _ _ 1 _ _ _ g1.blk;have fm:=eB _ _ 2 _ _ _ g1.blk;have ly:=eB _ _ 3 _ _ _ g1.blk;simp at kn eh fm ly
   have fX:aE (∀nq,gT (W.drewN nq) (λk=>F k\/w.heap.size<=k) b n gv/\ar F w (W.drewN nq)):=
    hid λnq=>⟨⟨⟨fI,cW,fz,eP,eN,g1.only (ar.drewN (F:=λ_=>False) W nq) (λ_ _ h=>h)⟩,eg,hval⟩,(hO.trans aaW (λ_ _ h=>h.elim)).trans (ar.drewN (F:=F) W nq) (λ_ _ h=>h)⟩;by_cases nL:canAdd n gv (u,x)=aB
   .have aab:=nL;simp only[canAdd,Bool.and_eq_true,Bool.not_eq_true',decide_eq_true_eq,decide_eq_false_iff_not]at aab;obtain⟨⟨⟨o6,hv2⟩,k2⟩,xb⟩:=aab;have hq:(u==x)=false:=by simpa using k2
    have hlk:∀nq,(qj 302 (dE (ab fI)) (av #[J R u,J R x]) au).run ax (W.drewN nq)=a7 (ak au) (W.drewN nq):=λnq=>by have h:=((g1.mB.only (ar.drewN (F:=λ_=>False) W nq) (λh=>h)).lookup Mm O3 UE c').1;rw[MD.2 (λp hp e=>by obtain⟨km,B3,rfl⟩:=gV.1 hp;exact xb (e▸B3))]at h;exact h
    have WI:aE (pI n gv (u,x)=gv++[(u,x)]):=hid (by unfold pI;rw[if_pos nL])
    have Xd:aE ((gv++[(u,x)]).Nodup/\∀e∈gv++[(u,x)],(0<=e.1/\e.1<n)/\(0<=e.2/\e.2<n)/\e.1≠e.2):=hid (by
     refine⟨x'.2 ⟨eg,aT,λa ha c hc e=>?_⟩,λe he=>?_⟩;·simp at hc;exact xb (hc▸e▸ha)
     .rcases jf.1 he with he|he;·exact hval e he
      .simp only[List.mem_singleton]at he;subst he;exact⟨by simpa [p2]using o6,by simpa [p2]using hv2,k2⟩);have zy:=hid xb;have Kn:=hid k2;clear k2 xb nL;go_quiet ((go_at_call 253;(first|exact CK (zc _ _ _ _ kn)|exact Fp (zc _ _ _ _ kn))));clear hlk hq o6 hv2;go_wp2_with fail;have Ei:(W.drewN nq).heap[B]?=ab (bc #[J R u,J R x] 192 (0,0)):=hblk;have g2:kz (W.drewN nq) (λk=>F k\/w.heap.size<=k) b n gv gv gv fI cW fz eP eN:=g1.only (ar.drewN (F:=λ_=>False) W nq) (λ_ _ h=>h);have kH:ar F w (W.drewN nq):=(fX.out nq).2;clear fX kn eh fm ly bZ c1 g1 hblk;generalize W.drewN nq=hY at*;have bZ:=eB _ _ 0 _ _ _ Ei;have c1:=eB _ _ 1 _ _ _ Ei;have eh:=eB _ _ 1 _ _ _ g2.blk;simp at bZ c1 eh;go_still_tail 5,aw;change cG _ _ _ _ _ hY.drew;refine Jb aa _ _ _ aa Mm O3 (g2.mB.only (ar.drew (F:=λ_=>False) hY) (λh=>h)) (by unfold dN;simp;omega) aa c' aa (ak _) aa ?_;intro fv jo hg2 hs2;have g3:=(g2.only (ar.drew (F:=λ_=>False) hY) (λ_ _ h=>h)).Lg hg2 jo zy.out;obtain⟨Zi,ays,abb⟩:=g2.mB.uc;obtain⟨ayB,ayt,apA⟩:=g2.out.uc;obtain⟨ayC,ayu,apy⟩:=g2.mL.uc;have o1:ar (λk=>F k\/w.heap.size<=k) hY.drew fv:=ar.of_grownBy hg2 (λi e=>by cases e;exact bH g2.Da);have qD:fv.heap[B]?=ab (bc #[J R u,J R x] 192 (0,0)):=(ar.of_grownBy (F:=λi=>i=fI) hg2 (λi e=>by cases e;exact bH aa)).heap (show hY.drew.heap[B]?=_ from Ei) (BE Ei abb);have SX:w.heap.size<=hY.heap.size:=kH.size;have o2:ar F w fv:=kH.trans o1.avN (λi hi h=>by rcases h with h|h;exact h;omega);have ayN:aE (hY.heap[B]?=ab (bc #[J R u,J R x] 192 (0,0))):=hid Ei;obtain⟨ayD,ayv,vG⟩:=g3.out.uc;clear jo hg2 o1 bZ c1 eh abb apA apy Ei kH hs2 SX g2;have bZ:=eB _ _ 0 _ _ _ qD;have c1:=eB _ _ 1 _ _ _ qD;have fm:=eB _ _ 2 _ _ _ g3.blk;simp at bZ c1 fm;go_wp2_with fail;go_frame;go_cut []from 46 to 62 (λC1=>∃Ql,kz C1 (λk=>F k\/w.heap.size<=k) b n (gv++[(u,x)]) (gv++[(u,x)]) gv fI cW fz Ql eN/\ar F w C1/\C1.heap[B]?=ab (bc #[J R u,J R x] 192 (0,0)))
    case first=>
     have hrow:=g3.IE u;have apn:=I0 gv u
     have Cc:∀w',ar (λi=>((ec eP u).getD (ad af 0 0)).ownBlock=ab i) fv w'->(qj 303 (dE (ab cW)) (J R u) au).run ax w'=a7 ((ec eP u).getD (ad af 0 0)) w':=λw' hw'=>
      ((g3.out.only hw' (λe=>s0 hrow vG e)).lookup o7 A6 FL c'.1).1;have k7:=Fi hrow g3.blk bh;have yV:=Fi hrow qD bh
     have uX:aE (∀i,((ec eP u).getD (ad af 0 0)).ownBlock=ab i->F i\/w.heap.size<=i):=hid λi hi=>by
      cases hm:ec eP u with
      |none=>rw[hm]at hi;cases hi
      |some v=>rw[hm]at hi;exact g3.xO _ (rY hm) i hi
     have PJ:=hid (λ(w' w1:aM) (v':aO)=>g3.outs (w':=w') (w1:=w1) (u:=u) (x:=x) (v':=v'));generalize en:(ec eP u).getD (ad af 0 0)=ei at*;have m':=hid en;clear en;have bZ:=eB _ _ 0 _ _ _ qD;have c1:=eB _ _ 1 _ _ _ qD;have fm:=eB _ _ 2 _ _ _ g3.blk;simp at bZ c1 fm
     have I:aE (∀w',ar (λi=>ei.ownBlock=ab i) fv w'->w'.cell? ⟨b,2,af⟩=ab (dE (ab cW))/\w'.cell? ⟨B,0,af⟩=ab (J R u)/\w'.cell? ⟨B,1,af⟩=ab (J R x)):=
      hid λw' hw'=>⟨hw'.cell fm k7,hw'.cell bZ yV,hw'.cell c1 yV⟩;have apo:=Cc fv.drew (ar.drew _);have apq:=λo=>Cc (fv.alloc o).drew ((ar.alloc _ _).trans (ar.drew _) (λ_ _ h=>h));have bV:aE (∀w',ar (λi=>ei.ownBlock=ab i) fv w'->dY w' cW encI db eP):=hid λw' hw'=>g3.out.only hw' (λe=>s0 hrow vG e);have apr:=g3.lo;have ss:=hid (And.intro (BE g3.blk vG) (BE qD vG));have zz:=hid yV;clear Cc k7 yV vG;obtain⟨i0,gO,hz0,hz1,hz2⟩:=rf An
     go_region_held3 (λw'=>w'.cell? ⟨b,2,af⟩=ab (dE (ab cW))/\w'.cell? ⟨B,0,af⟩=ab (J R u)/\w'.cell? ⟨B,1,af⟩=ab (J R x))
      (first
        |exact I.out _ (ar.drew _)
        |exact I.out _ ((ar.alloc _ _).trans (ar.drew _) (λ_ _ h=>h))
        |exact I.out _ (((ar.alloc _ _).trans (ar.drew _) (λ_ _ h=>h)).trans (ar.of_grownBy hgrow (λi e=>bH e)) (λ_ _ h=>h))
        |exact qo.out)
      (first
        |(refine aiu _ aS _ _ _ aS 0 3 i0 _ 1 8 ij gO hz0 hz1 hz2 aa ae ei _ _ aS ((hrow.alloc _).drew)
           ⟨fv.heap.size,0,af⟩ 1 1 [J R x] aS aS (Wz (cs:=#[J R x]) (t:=3) (fr:=(0,0)) (fe fv _)) (by simp[wB])
           ae (by unfold dN;omega) ae aT (fv.heap.size+1) aT ?_;intro rO cap w1 hown1 hgrow hat HW;obtain⟨hZ,Ic,Sq,hg3,hs3⟩:=(bV.out _ (((ar.alloc _ _).trans (ar.drew _) (λ_ _ h=>h)).trans (ar.of_grownBy hgrow (λi e=>bH e)) (λ_ _ h=>h))).update o7 A6 (by unfold dN;omega) c'.1 (ad (ab ⟨rO,0,af⟩) ((succ gv u).length+1) cap);replace Ic:(Dh 303 (dE (ab cW)) (J R u) (ad (ab ⟨rO,0,af⟩) ((succ gv u).length+1) cap)).run ax w1=a7 () hZ:=Ic
          have qo:aE (hZ.cell? ⟨b,2,af⟩=ab (dE (ab cW))/\hZ.cell? ⟨B,0,af⟩=ab (J R u)/\hZ.cell? ⟨B,1,af⟩=ab (J R x)):=hid (by have hs1:=I.out _ (((ar.alloc _ _).trans (ar.drew _) (λ_ _ h=>h)).trans (ar.of_grownBy hgrow (λi e=>bH e)) (λ_ _ h=>h));have ly:ar (λi=>i=cW) w1 hZ:=ar.of_grownBy hg3 (λi e=>by cases e;exact bH aa);exact⟨ly.cell hs1.1 ss.out.1,ly.cell hs1.2.1 ss.out.2,ly.cell hs1.2.2 ss.out.2⟩)))
     all_goals
      go_wp2_with fail;go_meet;have gh:ar (λi=>ei.ownBlock=ab i) fv w1:=((ar.alloc _ _).trans (ar.drew _) (λ_ _ h=>h)).trans (ar.of_grownBy hgrow (λi e=>bH e)) (λ_ _ h=>h);have iL:ar (λi=>i=cW) w1 hZ:=ar.of_grownBy hg3 (λi e=>by cases e;exact bH aa);have SX:w.heap.size<=fv.heap.size:=o2.size
      have hloc:(ad (ab ⟨rO,0,af⟩) ((succ gv u).length+1) cap).ownBlock=ei.ownBlock\/∃g,(ad (ab ⟨rO,0,af⟩) ((succ gv u).length+1) cap).ownBlock=ab g/\fv.heap.size<=g:=by
       rcases hat with h|h;·exact bH h.symm
       .exact b1 ⟨rO,aa,ae⟩
      have eG:=PJ.out hZ w1 _ gh hown1 hloc iL Sq (λi hi=>b1 ae);refine⟨_,eG,(o2.trans gh ?_).trans iL ?_,iL.heap (gh.heap qD zz.out) ss.out.2⟩
      .intro i hi h;have h2:=uX.out i h;rcases h2 with h2|h2;·exact h2
       .omega
      .intro i hi h;rcases(g3.Dc:_)with h2|h2;·exact h▸h2
       .omega
    case rest=>
     obtain⟨Ql,g4,o2,qD⟩:=hcut;obtain⟨ayE,ayw,vG⟩:=g4.mL.uc;go_wp2_with fail;go_cut []from 63 to 79 (λC1=>∃Xw,kz C1 (λk=>F k\/w.heap.size<=k) b n (gv++[(u,x)]) (gv++[(u,x)]) (gv++[(u,x)]) fI cW fz Ql Xw/\ar F w C1/\C1.heap[B]?=ab (bc #[J R u,J R x] 192 (0,0)))
     case first=>
      have hrow:=g4.S5 x;have apn:=TQ gv x
      have Cc:∀w',ar (λi=>((ec eN x).getD (ad af 0 0)).ownBlock=ab i) wc w'->(qj 303 (dE (ab fz)) (J R x) au).run ax w'=a7 ((ec eN x).getD (ad af 0 0)) w':=λw' hw'=>
       ((g4.mL.only hw' (λe=>s0 hrow vG e)).lookup o7 A6 FL c'.2).1;have k7:=Fi hrow g4.blk bh;have yV:=Fi hrow qD bh
      have uX:aE (∀i,((ec eN x).getD (ad af 0 0)).ownBlock=ab i->F i\/w.heap.size<=i):=hid λi hi=>by
       cases hm:ec eN x with
       |none=>rw[hm]at hi;cases hi
       |some v=>rw[hm]at hi;exact g4.xN _ (rY hm) i hi
      have PJ:=hid (λ(w' w1:aM) (v':aO)=>g4.ins (w':=w') (w1:=w1) (u:=u) (x:=x) (v':=v'));generalize en:(ec eN x).getD (ad af 0 0)=ei at*;have m':=hid en;clear en;have bZ:=eB _ _ 0 _ _ _ qD;have c1:=eB _ _ 1 _ _ _ qD;have fm:=eB _ _ 3 _ _ _ g4.blk;simp at bZ c1 fm
      have I:aE (∀w',ar (λi=>ei.ownBlock=ab i) wc w'->w'.cell? ⟨b,3,af⟩=ab (dE (ab fz))/\w'.cell? ⟨B,0,af⟩=ab (J R u)/\w'.cell? ⟨B,1,af⟩=ab (J R x)):=
       hid λw' hw'=>⟨hw'.cell fm k7,hw'.cell bZ yV,hw'.cell c1 yV⟩;have apo:=Cc wc.drew (ar.drew _);have apq:=λo=>Cc (wc.alloc o).drew ((ar.alloc _ _).trans (ar.drew _) (λ_ _ h=>h));have bV:aE (∀w',ar (λi=>ei.ownBlock=ab i) wc w'->dY w' fz encI db eN):=hid λw' hw'=>g4.mL.only hw' (λe=>s0 hrow vG e);have apr:=g4.li;have ss:=hid (And.intro (BE g4.blk vG) (BE qD vG));have zz:=hid yV;clear Cc k7 yV vG;obtain⟨i0,gO,hz0,hz1,hz2⟩:=rf An
      go_region_held3 (λw'=>w'.cell? ⟨b,3,af⟩=ab (dE (ab fz))/\w'.cell? ⟨B,0,af⟩=ab (J R u)/\w'.cell? ⟨B,1,af⟩=ab (J R x))
       (first
         |exact I.out _ (ar.drew _)
         |exact I.out _ ((ar.alloc _ _).trans (ar.drew _) (λ_ _ h=>h))
         |exact I.out _ (((ar.alloc _ _).trans (ar.drew _) (λ_ _ h=>h)).trans (ar.of_grownBy hgrow (λi e=>bH e)) (λ_ _ h=>h))
         |exact qo.out)
       (first
         |(refine aiu _ aS _ _ _ aS 0 3 i0 _ 1 8 ij gO hz0 hz1 hz2 aa ae ei _ _ aS ((hrow.alloc _).drew)
            ⟨wc.heap.size,0,af⟩ 1 1 [J R u] aS aS (Wz (cs:=#[J R u]) (t:=3) (fr:=(0,0)) (fe wc _)) (by simp[wB])
            ae (by unfold dN;omega) ae aT (wc.heap.size+1) aT ?_;intro rO cap w1 hown1 hgrow hat HW;obtain⟨hZ,Ic,Sq,hg4,hs3⟩:=(bV.out _ (((ar.alloc _ _).trans (ar.drew _) (λ_ _ h=>h)).trans (ar.of_grownBy hgrow (λi e=>bH e)) (λ_ _ h=>h))).update o7 A6 (by unfold dN;omega) c'.2 (ad (ab ⟨rO,0,af⟩) ((pred gv x).length+1) cap);replace Ic:(Dh 303 (dE (ab fz)) (J R x) (ad (ab ⟨rO,0,af⟩) ((pred gv x).length+1) cap)).run ax w1=a7 () hZ:=Ic
           have qo:aE (hZ.cell? ⟨b,3,af⟩=ab (dE (ab fz))/\hZ.cell? ⟨B,0,af⟩=ab (J R u)/\hZ.cell? ⟨B,1,af⟩=ab (J R x)):=hid (by have hs1:=I.out _ (((ar.alloc _ _).trans (ar.drew _) (λ_ _ h=>h)).trans (ar.of_grownBy hgrow (λi e=>bH e)) (λ_ _ h=>h));have ly:ar (λi=>i=fz) w1 hZ:=ar.of_grownBy hg4 (λi e=>by cases e;exact bH aa);exact⟨ly.cell hs1.1 ss.out.1,ly.cell hs1.2.1 ss.out.2,ly.cell hs1.2.2 ss.out.2⟩)))
      all_goals
       go_wp2_with fail;go_meet;have gh:ar (λi=>ei.ownBlock=ab i) wc w1:=((ar.alloc _ _).trans (ar.drew _) (λ_ _ h=>h)).trans (ar.of_grownBy hgrow (λi e=>bH e)) (λ_ _ h=>h);have iL:ar (λi=>i=fz) w1 hZ:=ar.of_grownBy hg4 (λi e=>by cases e;exact bH aa);have SX:w.heap.size<=wc.heap.size:=o2.size
       have hloc:(ad (ab ⟨rO,0,af⟩) ((pred gv x).length+1) cap).ownBlock=ei.ownBlock\/∃g,(ad (ab ⟨rO,0,af⟩) ((pred gv x).length+1) cap).ownBlock=ab g/\wc.heap.size<=g:=by
        rcases hat with h|h;·exact bH h.symm
        .exact b1 ⟨rO,aa,ae⟩
       have eG:=PJ.out hZ w1 _ gh hown1 hloc iL Sq (λi hi=>b1 ae);refine⟨_,eG,(o2.trans gh ?_).trans iL ?_,iL.heap (gh.heap qD zz.out) ss.out.2⟩
       .intro i hi h;have h2:=uX.out i h;rcases h2 with h2|h2;·exact h2
        .omega
       .intro i hi h;rcases(g4.Db:_)with h2|h2;·exact h▸h2
        .omega
     case rest=>
      obtain⟨Xw,g5,o2,qD⟩:=hcut;clear qD;go_wp2;go_roundw
      case rel=>
       refine⟨k+1,ae,by go_num,?_,?_,o2⟩;·rw[eJ.out,WI.out];have bB:((gv++[(u,x)]).length -E.length:Nat)=(gv.length -E.length)+1:=aF;rw[bB];go_num
       .rw[eJ.out,WI.out];exact⟨⟨_,_,_,_,_,g5⟩,Xd.out.1,Xd.out.2⟩
      case measure=>grind[cw]
   .have EM:pI n gv (u,x)=gv:=by unfold pI;rw[if_neg nL]
    have zC:=hid EM;have aix:=hid nL;clear EM nL;cases o6:p2 n u with
    |false=>
     go_quiet ((go_at_call 253;exact CK (zc _ _ _ _ kn)));go_wp2;go_roundw;case rel=>exact⟨k+1,ae,by go_num,by rw[eJ.out,zC.out],by rw[eJ.out,zC.out];exact(fX.out _).1,(fX.out _).2⟩
     case measure=>simp[cw];omega
    |true=>
     cases hv2:p2 n x with
     |false=>
      go_quiet ((go_at_call 253;(first|exact CK (zc _ _ _ _ kn)|exact Fp (zc _ _ _ _ kn))));go_wp2;go_roundw;case rel=>exact⟨k+1,ae,by go_num,by rw[eJ.out,zC.out],by rw[eJ.out,zC.out];exact(fX.out _).1,(fX.out _).2⟩
      case measure=>simp[cw];omega
     |true=>
      by_cases k2:u=x
      .have hq:(u==x)=true:=by simpa using k2
       have gS:=hid k2;clear k2;go_quiet ((go_at_call 253;(first|exact CK (zc _ _ _ _ kn)|exact Fp (zc _ _ _ _ kn))));go_wp2;go_roundw;case rel=>exact⟨k+1,ae,by go_num,by rw[eJ.out,zC.out],by rw[eJ.out,zC.out];exact(fX.out _).1,(fX.out _).2⟩
       case measure=>simp[cw];omega
      .have hq:(u==x)=false:=by simpa using k2
       have xb:(u,x)∈gv:=by have:=aix.out;simpa [canAdd,o6,hv2,k2]using this
       have hlk:∀nq,(qj 302 (dE (ab fI)) (av #[J R u,J R x]) au).run ax (W.drewN nq)=a7 (ak aB) (W.drewN nq):=λnq=>by have h:=((g1.mB.only (ar.drewN (F:=λ_=>False) W nq) (λh=>h)).lookup Mm O3 UE c').1;rw[xm g1.mB.nodup (gV.2 ⟨(u,x),xb,aa⟩)]at h;exact h
       clear k2 xb;go_quiet ((go_at_call 253;(first|exact CK (zc _ _ _ _ kn)|exact Fp (zc _ _ _ _ kn))));go_wp2;go_roundw;case rel=>exact⟨k+1,ae,by go_num,by rw[eJ.out,zC.out],by rw[eJ.out,zC.out];exact(fX.out _).1,(fX.out _).2⟩
       case measure=>simp[cw];omega
  .obtain rfl:k=l.length:=ae;rw[ik]at*;have Bg:=hid Ej;have du:=hid hO;clear Ej hO dT ka eU bu hl;go_wp2;go_ret;exact⟨aa,Bg.out.mono (λi hi h=>by rcases h with h|h;exact bH h;exact b1 ⟨h,hi⟩),du.out⟩
end G
open Go.RowKit Go.MapKept
def oc.at{w p S}(h:oc w p S){i x}(hx:S[i]?=ab x):∃b o c,w.cell? ⟨p,0,af⟩=ab (ad (ab ⟨b,o,af⟩) S.length c)/\w.cell? ⟨b,o+i*3,af⟩=ab (J R x.1.1)/\w.cell? ⟨b,o+i*3+1,af⟩=ab (J R x.1.2)/\w.cell? ⟨b,o+i*3+2,af⟩=ab (J R x.2):=by obtain⟨A,c,h1,a,d⟩:=h;have hi:=(eQ.1 hx).1;obtain⟨b,o,rfl,hc⟩:=a ae;grind[pw]
def akq(i:Nat)(q7 da p)S off W x(hx:S[i]?=ab x)(q:eD x.1)(g:W.cell? ⟨q7,0,af⟩=ab (ay (ab ⟨p,0,af⟩)))(h1:W.cell? ⟨da,0,af⟩=ab (J R off))(j:oc W p S)r(hr:decide (off<x.1.1+x.1.2)=r):
 aD ax 344 #[J R i,ay (ab ⟨q7,0,af⟩),ay (ab ⟨da,0,af⟩)] W λe w'=>e=aA (ak r)/\aq W w':=by
 obtain⟨b,o,c,l,a,d,_⟩:=j.at hx;obtain⟨⟨dc,bm⟩,lg⟩:=x;obtain⟨m,v2,v3⟩:=q;simp only at a d m v2 v3 hr;have hi:=(eQ.1 hx).1;have hb0:(i:Int)<(S.length:Int):=ae
 have f:aE (∀w',aq W w'->w'.cell? ⟨q7,0,af⟩=ab (ay (ab ⟨p,0,af⟩))/\w'.cell? ⟨da,0,af⟩=ab (J R off)/\w'.cell? ⟨p,0,af⟩=ab (ad (ab ⟨b,o,af⟩) S.length c)/\w'.cell? ⟨b,o+i*3,af⟩=ab (J R dc)/\w'.cell? ⟨b,o+i*3+1,af⟩=ab (J R bm)):=
  hid (λw' h=>⟨h.cell g (λh=>h),h.cell h1 (λh=>h),h.cell l (λh=>h),h.cell a (λh=>h),h.cell d (λh=>h)⟩);clear g h1 l a d j hx;generalize S.length=n at*;go_enter func344,ntmps344;go_wp2_with fail
 go_region_held3 (λw'=>w'.cell? ⟨q7,0,af⟩=ab (ay (ab ⟨p,0,af⟩))/\w'.cell? ⟨da,0,af⟩=ab (J R off)/\w'.cell? ⟨p,0,af⟩=ab (ad (ab ⟨b,o,af⟩) n c)/\w'.cell? ⟨b,o+i*3,af⟩=ab (J R dc)/\w'.cell? ⟨b,o+i*3+1,af⟩=ab (J R bm))
  (first
    |exact f.out _ (ar.drew _)
    |exact f.out _ k)
  (first
    |(go_at_call 117;refine(lN dc bm _ m v2 v3).mono ?_;rintro e s ⟨rfl,ha0⟩;have k:aq W s:=aq.trans (ar.drew _) ha0))
 all_goals
  go_wp2;go_ret;exact⟨aS,k⟩
def ana args w:(callFunc 344 args).run ax w=a7 (.enter 344 args) w:=aS
def uz(S:List jQ)(off:Int)(i:Nat):Bool:=decide (off<(S[i]?.getD yp).1.1+(S[i]?.getD yp).1.2)
def jS.at{S}(h:jS S){i:Nat}{x}(hx:S[i]?=ab x):eD x.1/\0<x.1.2:=h.2 x (cL hx)
def jS.lt{S}(h:jS S){i j:Nat}{x y}(hx:S[i]?=ab x)(c:S[j]?=ab y)(a:i<j):x.1.1+x.1.2<=y.1.1:=by obtain⟨hi,rfl⟩:=eQ.1 hx;obtain⟨b,rfl⟩:=eQ.1 c;exact l3.1 h.1 i j hi b a
def as4{S}(h:jS S)off(a b)(hab:a<=b)(hb:b<S.length)(e:uz S off a=aB):uz S off b=true:=by
 unfold uz at*;rcases Nat.lt_or_eq_of_le hab with hlt|rfl;·have c:=cj (l:=S) (i:=a) ae;have hb':=cj (l:=S) (i:=b) hb;have h1:=h.lt c hb' hlt;have d:=(h.at hb').2;grind
 .omega
def akp p S off w(c:oc w p S)(j:jS S):
 aD ax 310 #[ay (ab ⟨p,0,af⟩),J R off] w λe w'=>∃k:Nat,e=aA (J R k)/\IsCut S.length (uz S off) k/\aq w w':=by
 have hlen:=c;obtain⟨_,_,_,_,n⟩:=hlen;have b:=hid (And.intro c j);have o:∀(g:Fn) (first cap:Array aO) (w:aM),(Instr.makeFunc g first cap).run ax w=a7 (dJ g first cap) w:=λ_ _ _ _=>aa;clear c j
 have a:aE (aq w ((w.alloc (bc #[ay (ab ⟨p,0,af⟩)] 295)).alloc (bc #[J R off] 3))/\((w.alloc (bc #[ay (ab ⟨p,0,af⟩)] 295)).alloc (bc #[J R off] 3)).cell? ⟨w.heap.size,0,af⟩=ab (ay (ab ⟨p,0,af⟩))/\((w.alloc (bc #[ay (ab ⟨p,0,af⟩)] 295)).alloc (bc #[J R off] 3)).cell? ⟨w.heap.size+1,0,af⟩=ab (J R off)):=hid (by have g1:=fe w (bc #[ay (ab ⟨p,0,af⟩)] 295);have g2:=fe (w.alloc (bc #[ay (ab ⟨p,0,af⟩)] 295)) (bc #[J R off] 3);rw[zn]at g2;exact⟨aq.trans (ar.alloc _ _) (ar.alloc _ _),(ar.alloc (F:=λ_=>False) _ _).cell (pw g1) (λh=>h),pw g2⟩);go_enter func310,ntmps310;go_wp2_with fail;go_at_call 311;clear o;generalize (w.alloc (bc #[ay (ab ⟨p,0,af⟩)] 295)).alloc (bc #[J R off] 3)=ao at*;refine(xk p S ao (b.out.1.aH a.out.1)).mono ?_;rintro e w1 ⟨rfl,rfl⟩
 have m:aE (aD ax 287 #[J R S.length,dJ (ej 344) #[] #[ay (ab ⟨w.heap.size,0,af⟩),ay (ab ⟨w.heap.size+1,0,af⟩)]] ao λe w'=>∃k:Nat,e=aA (J R k)/\IsCut S.length (uz S off) k/\aq ao w'):=hid (by refine Nd _ _ S.length (uz S off) ao n ana (λW i hi d=>?_) (as4 b.out.2 off);have hx:=cj (l:=S) (i:=i) hi;exact akq i _ _ p S off W _ hx (b.out.2.at hx).1 (d.cell a.out.2.1 (λh=>h)) (d.cell a.out.2.2 (λh=>h)) (b.out.1.aH (aq.trans a.out.1 d)) _ (by grind[uz]));go_wp2_with (go_at_call 287;have f:=m.out;with_reducible refine f.mono ?_;clear f;rintro e q ⟨k,rfl,hk,hg2⟩);go_ret;exact⟨k,aa,hk,aq.trans a.out.1 hg2⟩
def IsCut.before{S off k}(h:IsCut S.length (uz S off) k){i x}(hx:S[i]?=ab x)(hi:i<k):x.1.1+x.1.2<=off:=by have:=h.2.1 i hi;grind[uz]
def IsCut.behind{S off k}(h:IsCut S.length (uz S off) k){i x}(hx:S[i]?=ab x)(hi:k<=i):off<x.1.1+x.1.2:=by have:=h.2.2 i hi (eQ.1 hx).1;grind[uz]
open Go.Shelf
def Tryz.aqX:Go.Shelf.Ren:=⟨λ|107=>190|108=>262|n=>n,λ|28=>82|3=>3|4=>4|0=>0|n=>n,λ|n=>n⟩
def Tryz.acr:axK ax Tryz.aqX:={
 mixed:=aS
 f107:=func190.trans (congrArg ab aS)
 f108:=func262.trans (congrArg ab aS)
 t0:=wv
 a0:=wo
 z0:=wu
 v0:=wx
 t3:=j2
 a3:=pr
 z3:=pt
 v3:=ql
 t4:=tr
 a4:=tn
 z4:=tp
 v4:=ts
 t28:=ij
 a28:=A4
 z28:=A5
 v28:=A8}
def Tryz.aq5:Go.Shelf.Ren:=⟨λ|15=>380|n=>n,λ|22=>82|3=>3|4=>4|n=>n,λ|n=>n⟩
def Tryz.Tc:axO ax Tryz.aq5:={
 mixed:=aS
 f15:=func380.trans (congrArg ab aS)
 t3:=j2
 a3:=pr
 z3:=pt
 v3:=ql
 t4:=tr
 a4:=tn
 z4:=tp
 v4:=ts
 t22:=ij
 a22:=A4
 z22:=A5
 v22:=A8
 i3:=by rfl}
def Tryz.aq6:Go.Shelf.Ren:=⟨λ|25=>305|31=>339|32=>340|37=>194|n=>n,λ|22=>82|3=>3|4=>4|40=>311|0=>0|n=>n,λ|n=>n⟩
def Tryz.acv:axQ ax Tryz.aq6:={
 mixed:=aS
 f25:=func305.trans (congrArg ab aS)
 f31:=Tryz.func339.trans (congrArg ab aS)
 f32:=func340.trans (congrArg ab aS)
 f37:=OP.trans (congrArg ab aS)
 t0:=wv
 a0:=wo
 z0:=wu
 v0:=wx
 t3:=j2
 a3:=pr
 z3:=pt
 v3:=ql
 t4:=tr
 a4:=tn
 z4:=tp
 v4:=ts
 t22:=ij
 a22:=A4
 z22:=A5
 v22:=A8
 t40:=JP
 a40:=JK
 z40:=JN
 v40:=JQ}
def Tryz.acu:Go.Shelf.Ren:=⟨λ|21=>306|27=>341|28=>342|35=>364|39=>382|n=>n,λ|22=>82|3=>3|4=>4|0=>0|n=>n,λ|n=>n⟩
def Tryz.It:axP ax Tryz.acu:={
 mixed:=aS
 f21:=func306.trans (congrArg ab aS)
 f27:=func341.trans (congrArg ab aS)
 f28:=func342.trans (congrArg ab aS)
 f35:=func364.trans (congrArg ab aS)
 f39:=func382.trans (congrArg ab aS)
 t0:=wv
 a0:=wo
 z0:=wu
 v0:=wx
 t3:=j2
 a3:=pr
 z3:=pt
 v3:=ql
 t4:=tr
 a4:=tn
 z4:=tp
 v4:=ts
 t22:=ij
 a22:=A4
 z22:=A5
 v22:=A8
 i3:=by rfl}
def Tryz.aq1:Go.Shelf.Ren:=⟨λ|10=>334|6=>363|n=>n,λ|22=>82|23=>3|25=>144|3=>3|4=>4|0=>0|n=>n,λ|n=>n⟩
def Tryz.aq0:axS ax Tryz.aq1:={
 mixed:=aS
 f6:=⟨f363.name,bh,func363.trans (congrArg ab aS)⟩
 f10:=⟨f334.name,bh,func334.trans (congrArg ab aS)⟩
 t0:=wv
 a0:=wo
 z0:=wu
 v0:=wx
 t3:=j2
 a3:=pr
 z3:=pt
 v3:=ql
 t4:=tr
 a4:=tn
 z4:=tp
 v4:=ts
 t22:=ij
 a22:=A4
 z22:=A5
 v22:=A8
 a23:=pr
 z23:=pt
 t25:=Tryz.underlying144
 a25:=Tryz.isAgg144
 z25:=Tryz.sizeOf144
 v25:=Tryz.zeroValue144}
def Tryz.acj:Go.Shelf.Ren:=⟨λ|7=>381|10=>388|n=>n,λ|23=>467|26=>3|3=>4|28=>300|0=>0|27=>143|33=>144|4=>4|n=>n,λ|n=>n⟩
def Tryz.aci:axV ax Tryz.acj:={
 mixed:=aS
 f7:=⟨f381.name,bh,func381.trans (congrArg ab aS)⟩
 f10:=⟨f388.name,bh,Tryz.func388.trans (congrArg ab aS)⟩
 t0:=wv
 a0:=wo
 z0:=wu
 v0:=wx
 t4:=tr
 a4:=tn
 z4:=tp
 v4:=ts
 t23:=Tryz.underlying467
 a23:=isAgg467
 z23:=sizeOf467
 v23:=zeroValue467
 t26:=j2
 a26:=pr
 z26:=pt
 v26:=ql
 t27:=underlying143
 a27:=isAgg143
 z27:=sizeOf143
 v27:=zeroValue143
 t28:=Tryz.underlying300
 a28:=Tryz.isAgg300
 z28:=Tryz.sizeOf300
 v28:=Tryz.zeroValue300
 t33:=Tryz.underlying144
 a33:=Tryz.isAgg144
 z33:=Tryz.sizeOf144
 v33:=Tryz.zeroValue144}
def Tryz.ae0:Go.Shelf.Ren:=⟨λ|6=>183|8=>254|9=>255|11=>312|13=>193|12=>313|23=>271|24=>272|14=>345|15=>346|16=>347|17=>348|18=>349|19=>350|20=>339|21=>351|22=>352|25=>373|26=>317|27=>318|28=>374|29=>375|30=>194|31=>386|n=>n,λ|26=>3|28=>300|24=>82|0=>0|3=>3|37=>311|48=>315|50=>42|4=>4|40=>372|39=>371|45=>188|5=>5|9=>9|51=>420|55=>423|57=>448|58=>80|33=>144|n=>n,λ|n=>n⟩
def Tryz.avb:axU ax Tryz.ae0:={
 mixed:=aS
 f6:=⟨f183.name,bh,Tryz.func183.trans (congrArg ab aS)⟩
 f8:=⟨f254.name,bh,Tryz.func254.trans (congrArg ab aS)⟩
 f11:=⟨f312.name,bh,Tryz.func312.trans (congrArg ab aS)⟩
 t0:=wv
 a0:=wo
 z0:=wu
 v0:=wx
 t24:=ij
 a24:=A4
 z24:=A5
 v24:=A8
 t26:=j2
 a26:=pr
 z26:=pt
 v26:=ql
 t28:=Tryz.underlying300
 a28:=Tryz.isAgg300
 z28:=Tryz.sizeOf300
 v28:=Tryz.zeroValue300
 i26:=by rfl}
def Tryz.au3:Go.Shelf.Ren:=⟨λ|5=>255|8=>193|7=>313|19=>271|20=>272|10=>345|11=>346|12=>347|13=>348|14=>349|15=>350|16=>339|17=>351|18=>352|30=>373|31=>317|32=>318|33=>374|34=>375|35=>194|40=>386|n=>n,λ|23=>82|25=>3|3=>3|32=>311|22=>82|0=>0|44=>315|46=>42|4=>4|36=>372|35=>371|41=>188|5=>5|9=>9|53=>420|57=>423|63=>448|64=>80|n=>n,λ|n=>n⟩
def Tryz.aeX:axT ax Tryz.au3:={
 mixed:=aS
 f5:=⟨f255.name,bh,Tryz.func255.trans (congrArg ab aS)⟩
 f7:=⟨f313.name,bh,func313.trans (congrArg ab aS)⟩
 f8:=Vn.trans (congrArg ab aS)
 f10:=⟨f345.name,bh,func345.trans (congrArg ab aS)⟩
 f11:=⟨f346.name,bh,func346.trans (congrArg ab aS)⟩
 f12:=⟨f347.name,bh,func347.trans (congrArg ab aS)⟩
 f13:=⟨f348.name,bh,func348.trans (congrArg ab aS)⟩
 f14:=⟨f349.name,bh,func349.trans (congrArg ab aS)⟩
 f15:=⟨f350.name,bh,func350.trans (congrArg ab aS)⟩
 f16:=⟨f339.name,bh,Tryz.func339.trans (congrArg ab aS)⟩
 f17:=⟨f351.name,bh,func351.trans (congrArg ab aS)⟩
 f18:=⟨f352.name,bh,func352.trans (congrArg ab aS)⟩
 f19:=Vv.trans (congrArg ab aS)
 f20:=Vw.trans (congrArg ab aS)
 f30:=⟨f373.name,bh,func373.trans (congrArg ab aS)⟩
 f31:=VA.trans (congrArg ab aS)
 f32:=VB.trans (congrArg ab aS)
 f33:=⟨f374.name,bh,func374.trans (congrArg ab aS)⟩
 f34:=⟨f375.name,bh,func375.trans (congrArg ab aS)⟩
 f35:=⟨f194.name,bh,OP.trans (congrArg ab aS)⟩
 f40:=⟨f386.name,bh,func386.trans (congrArg ab aS)⟩
 t0:=wv
 a0:=wo
 z0:=wu
 v0:=wx
 t3:=j2
 a3:=pr
 z3:=pt
 v3:=ql
 t4:=tr
 a4:=tn
 z4:=tp
 v4:=ts
 t5:=lj
 a5:=Tryz.isAgg5
 z5:=JO
 v5:=JR
 t9:=zl
 a9:=Tryz.isAgg9
 z9:=F4
 v9:=F6
 t22:=ij
 a22:=A4
 z22:=A5
 v22:=A8
 t23:=ij
 a23:=A4
 z23:=A5
 v23:=A8
 t25:=j2
 a25:=pr
 z25:=pt
 v25:=ql
 t32:=JP
 a32:=JK
 z32:=JN
 v32:=JQ
 t35:=Wc
 a35:=VI
 z35:=V4
 v35:=Wm
 t36:=Wd
 a36:=VJ
 z36:=V5
 v36:=Wn
 t41:=Wa
 a41:=VH
 z41:=V3
 v41:=Wl
 t44:=O4
 a44:=OU
 z44:=O1
 v44:=O5
 t46:=We
 a46:=VK
 z46:=V6
 v46:=Wo
 t53:=Wf
 a53:=VL
 z53:=V7
 v53:=Wp
 t57:=Wg
 a57:=VM
 z57:=V8
 v57:=Wq
 t63:=Wi
 a63:=VN
 z63:=V9
 v63:=Wr
 t64:=Wk
 a64:=VO
 z64:=V'
 v64:=Ws}
def Tryz.aqZ:Go.Shelf.Ren:=⟨λ|122=>108|215=>194|n=>n,λ|3=>3|4=>4|n=>n,λ|n=>n⟩
def Tryz.aqY:axL ax Tryz.aqZ:={
 mixed:=aS
 f122:=Tryz.func108.trans (congrArg ab aS)
 f215:=OP.trans (congrArg ab aS)
 t3:=j2
 a3:=pr
 z3:=pt
 v3:=ql
 t4:=tr
 a4:=tn
 z4:=tp
 v4:=ts}
def Tryz.aq9:Go.Shelf.Ren:=⟨λ|6=>307|15=>193|14=>343|28=>271|29=>272|20=>365|21=>366|22=>367|23=>368|24=>369|25=>370|26=>371|27=>372|46=>383|47=>317|48=>318|49=>384|50=>385|57=>389|n=>n,λ|22=>409|24=>413|25=>415|3=>3|39=>311|0=>0|53=>315|55=>42|4=>4|46=>372|45=>371|50=>188|5=>5|9=>9|66=>420|70=>423|76=>448|77=>80|n=>n,λ|n=>n⟩
def Tryz.acx:agy ax Tryz.aq9:={
 mixed:=aS
 f6:=⟨f307.name,bh,func307.trans (congrArg ab aS)⟩
 f14:=⟨f343.name,bh,func343.trans (congrArg ab aS)⟩
 f15:=Vn.trans (congrArg ab aS)
 f20:=⟨f365.name,bh,func365.trans (congrArg ab aS)⟩
 f21:=⟨f366.name,bh,func366.trans (congrArg ab aS)⟩
 f22:=⟨f367.name,bh,func367.trans (congrArg ab aS)⟩
 f23:=⟨f368.name,bh,func368.trans (congrArg ab aS)⟩
 f24:=⟨f369.name,bh,func369.trans (congrArg ab aS)⟩
 f25:=⟨f370.name,bh,func370.trans (congrArg ab aS)⟩
 f26:=⟨f371.name,bh,func371.trans (congrArg ab aS)⟩
 f27:=⟨f372.name,bh,func372.trans (congrArg ab aS)⟩
 f28:=Vv.trans (congrArg ab aS)
 f29:=Vw.trans (congrArg ab aS)
 f46:=⟨f383.name,bh,func383.trans (congrArg ab aS)⟩
 f47:=VA.trans (congrArg ab aS)
 f48:=VB.trans (congrArg ab aS)
 f49:=⟨f384.name,bh,func384.trans (congrArg ab aS)⟩
 f50:=⟨f385.name,bh,func385.trans (congrArg ab aS)⟩
 f57:=⟨f389.name,bh,func389.trans (congrArg ab aS)⟩
 t0:=wv
 a0:=wo
 z0:=wu
 v0:=wx
 t3:=j2
 a3:=pr
 z3:=pt
 v3:=ql
 t4:=tr
 a4:=tn
 z4:=tp
 v4:=ts
 t5:=lj
 a5:=Tryz.isAgg5
 z5:=JO
 v5:=JR
 t9:=zl
 a9:=Tryz.isAgg9
 z9:=F4
 v9:=F6
 t22:=underlying409
 a22:=isAgg409
 z22:=sizeOf409
 v22:=zeroValue409
 t25:=underlying415
 a25:=isAgg415
 z25:=sizeOf415
 v25:=zeroValue415
 t39:=JP
 a39:=JK
 z39:=JN
 v39:=JQ
 t45:=Wc
 a45:=VI
 z45:=V4
 v45:=Wm
 t46:=Wd
 a46:=VJ
 z46:=V5
 v46:=Wn
 t50:=Wa
 a50:=VH
 z50:=V3
 v50:=Wl
 t53:=O4
 a53:=OU
 z53:=O1
 v53:=O5
 t55:=We
 a55:=VK
 z55:=V6
 v55:=Wo
 t66:=Wf
 a66:=VL
 z66:=V7
 v66:=Wp
 t70:=Wg
 a70:=VM
 z70:=V8
 v70:=Wq
 t76:=Wi
 a76:=VN
 z76:=V9
 v76:=Wr
 t77:=Wk
 a77:=VO
 z77:=V'
 v77:=Ws}
def Tryz.aq8:Go.Shelf.Ren:=⟨λ|6=>106|15=>193|14=>192|28=>271|29=>272|20=>263|21=>264|22=>265|23=>266|24=>267|25=>268|26=>269|27=>270|46=>316|47=>317|48=>318|49=>319|50=>320|57=>353|n=>n,λ|22=>24|24=>73|25=>172|3=>3|39=>311|0=>0|53=>315|55=>42|4=>4|46=>372|45=>371|50=>188|5=>5|9=>9|66=>420|70=>423|76=>448|77=>80|n=>n,λ|n=>n⟩
def Tryz.acw:agy ax Tryz.aq8:={
 mixed:=aS
 f6:=⟨f106.name,bh,func106.trans (congrArg ab aS)⟩
 f14:=⟨f192.name,bh,func192.trans (congrArg ab aS)⟩
 f15:=Vn.trans (congrArg ab aS)
 f20:=⟨f263.name,bh,func263.trans (congrArg ab aS)⟩
 f21:=⟨f264.name,bh,func264.trans (congrArg ab aS)⟩
 f22:=⟨f265.name,bh,func265.trans (congrArg ab aS)⟩
 f23:=⟨f266.name,bh,func266.trans (congrArg ab aS)⟩
 f24:=⟨f267.name,bh,func267.trans (congrArg ab aS)⟩
 f25:=⟨f268.name,bh,func268.trans (congrArg ab aS)⟩
 f26:=⟨f269.name,bh,func269.trans (congrArg ab aS)⟩
 f27:=⟨f270.name,bh,func270.trans (congrArg ab aS)⟩
 f28:=Vv.trans (congrArg ab aS)
 f29:=Vw.trans (congrArg ab aS)
 f46:=⟨f316.name,bh,func316.trans (congrArg ab aS)⟩
 f47:=VA.trans (congrArg ab aS)
 f48:=VB.trans (congrArg ab aS)
 f49:=⟨f319.name,bh,func319.trans (congrArg ab aS)⟩
 f50:=⟨f320.name,bh,func320.trans (congrArg ab aS)⟩
 f57:=⟨f353.name,bh,func353.trans (congrArg ab aS)⟩
 t0:=wv
 a0:=wo
 z0:=wu
 v0:=wx
 t3:=j2
 a3:=pr
 z3:=pt
 v3:=ql
 t4:=tr
 a4:=tn
 z4:=tp
 v4:=ts
 t5:=lj
 a5:=Tryz.isAgg5
 z5:=JO
 v5:=JR
 t9:=zl
 a9:=Tryz.isAgg9
 z9:=F4
 v9:=F6
 t22:=Tryz.underlying24
 a22:=isAgg24
 z22:=sizeOf24
 v22:=zeroValue24
 t25:=underlying172
 a25:=isAgg172
 z25:=sizeOf172
 v25:=zeroValue172
 t39:=JP
 a39:=JK
 z39:=JN
 v39:=JQ
 t45:=Wc
 a45:=VI
 z45:=V4
 v45:=Wm
 t46:=Wd
 a46:=VJ
 z46:=V5
 v46:=Wn
 t50:=Wa
 a50:=VH
 z50:=V3
 v50:=Wl
 t53:=O4
 a53:=OU
 z53:=O1
 v53:=O5
 t55:=We
 a55:=VK
 z55:=V6
 v55:=Wo
 t66:=Wf
 a66:=VL
 z66:=V7
 v66:=Wp
 t70:=Wg
 a70:=VM
 z70:=V8
 v70:=Wq
 t76:=Wi
 a76:=VN
 z76:=V9
 v76:=Wr
 t77:=Wk
 a77:=VO
 z77:=V'
 v77:=Ws}
def w0:Nat->List (Int×Int)->List jQ
 |_,[]=>[]
 |k,e::t=>(e,(k:Int))::w0 (k+1) t
def iF(l:List (Int×Int)):List jQ:=w0 0 l
theorem Zf e:∀(t) k,w0 k (t++[e])=w0 k t++[(e,((k+t.length:Nat):Int))]
 |[],k=>aa
 |x::t,k=>by simp only[pB,w0,Zf e t (k+1),jT];rw[show k+1+t.length=k+(t.length+1) by omega]
def ano t e:iF (t++[e])=iF t++[(e,(t.length:Int))]:=by grind[iF,Zf]
def Zd:∀(t) k,(w0 k t).length=t.length
 |[],_=>aa
 |_::t,k=>by simp[w0,Zd t (k+1)]
theorem zZ l:(iF l).length=l.length:=Zd l 0
theorem Ru:∀(t) (k i),(w0 k t)[i]?=(t[i]?).map λe=>(e,((k+i:Nat):Int))
 |[],_,i=>by rfl
 |e::t,k,0=>by rfl
 |e::t,k,i+1=>by simp only[w0,List.getElem?_cons_succ];rw[Ru t (k+1) i,show k+1+i=k+(i+1) by omega]
theorem Ef l(i:Nat):(iF l)[i]?=(l[i]?).map λe=>(e,(i:Int)):=by grind[iF,Ru]
theorem Ar{l x}:x∈iF l↔∃i:Nat,l[i]?=ab x.1/\x.2=(i:Int):=by
 rw[List.mem_iff_getElem?];constructor;·grind[Ef]
 .rintro⟨i,hi,h2⟩;refine⟨i,?_⟩;grind[Ef]
def ow(x:jQ):List Value:=[J R x.1.1,J R x.1.2,J R x.2]
def qA(S:List jQ):List Value:=S.flatMap ow
def alq S:(qA S).length=S.length*3:=by
 unfold qA;induction S with
 |nil=>rfl
 |cons e r a=>grind[ow]
def alr S x:qA (S++[x])=qA S++ow x:=by simp[qA]
def Yz:∀(S) (j c),j<S.length->c<3->(qA S)[j*3+c]?=(ow (S[j]?.getD yp))[c]?
 |[],j,c,a,_=>by grind
 |x::S,0,c,_,hc=>by grind[ow,qA]
 |x::S,j+1,c,a,hc=>by
  show(ow x++qA S)[(j+1)*3+c]?=_;rw[List.getElem?_append_right (by simp[ow];omega)];have bB:(j+1)*3+c -(ow x).length=j*3+c:=by simp[ow];omega
  rw[bB,Yz S j c (by simpa using a) hc];simp
theorem nf.lW{w base n c A S}(h:w.ownsRow base 413 3 (ad A n c) n (qA S)):n=S.length/\nf w A S:=by
 have b:n=S.length:=by have:=h.1;rw[alq]at this;omega
 refine⟨b,λl=>?_⟩;rcases h.2 with⟨hv,f⟩|⟨g,cap,cur,hv,hb,i,k,hcm,hcs,d⟩;·omega
 .injection hv with h1 h2 h3;subst h1;refine⟨g,0,rfl,λj a=>?_⟩
  have key:∀c,c<3->∀u,(ow (S[j]?.getD yp))[c]?=ab u->w.cell? ⟨g,0+j*3+c,af⟩=ab u:=λc hc u e=>by rw[<-Yz S j c a hc,<-d,tE,if_pos ae]at e;grind[World.cell?]
  exact⟨key 0 ae _ aa,key 1 ae _ aa,key 2 ae _ aa⟩
def YG(x y)w:aD ax 108 #[J R x,J R y] w λe w'=>e=aA (J R (zi x y))/\w'=w:=Any.cmp_Compare_int Tryz.aqY x y w
def ave(x y:jQ)W:aD ax 308 #[av #[J R x.1.1,J R x.1.2,J R x.2],av #[J R y.1.1,J R y.1.2,J R y.2]] W λe w'=>e=aA (J R (zi x.1.1 y.1.1))/\∃q b,w'=F8 (W.drewN q) b:=by have hcon:=λa=>YG x.1.1 y.1.1 a;generalize zi x.1.1 y.1.1=r at hcon⊢;go_enter func308,ntmps308;go_wp2_with (go_at_call 108;refine(hcon _).mono ?_;rintro e w' ⟨rfl,rfl⟩);go_ret;exact⟨aa,0,_,by rw[Pc,Pc,Sort.grow_grow];rfl⟩
def K4(x y:jQ):Int:=zi x.1.1 y.1.1
theorem My(x y):F7 K4 x y=decide (x.1.1<y.1.1):=by grind[F7,K4,zi]
def avs:Sort.SWO (F7 K4) where
 irrefl x:=by grind[My]
 trans x y z h1 h2:=by grind[My]
 ntrans x y z h1 h2:=by grind[My]
def am9 args w:(callFunc 308 args).run ax w=a7 (.enter 308 args) w:=aS
def ar.putRowK F w(blk off)d(hb:F blk):ar F w (Sort.putRowK ow 3 w blk off d):=
 ⟨aa,aa,aa,by show w.heap.size<=(w.heap.modify blk _).size;simp,λk _ a=>by show(w.heap.modify blk _)[k]?=_;grind⟩
def ar.ZL F w os:ar F w (F8 w os):=
 ⟨aa,aa,aa,by show w.heap.size<=(w.heap++os).size;rw[Array.size_append];omega,λk hk _=>by show(w.heap++os)[k]?=_;rw[Jr hk]⟩
def ar.X2 F w q:ar F w (JT w q):=⟨aa,aa,aa,cm _,λ_ _ _=>aa⟩
def getElem!_toArray(S:List jQ)j(a:j<S.length):S.toArray[j]! =S[j]?.getD default:=aT
def nf.holds{w g S cur}(i:w.heap[g]?=ab (bc cur 413 (0,0)))(h:nf w (ab ⟨g,0,af⟩) S):Pb ow 3 w g 0 S.toArray:=λt d=>by
 rw[Sort.size_flatK]at d;have j:t<S.length*3:=ae;have c:t/3<S.length:=ae;rw[Sort.get_flatK _ 3 _ t d,getElem!_toArray S _ c];obtain⟨b,off,e,hc⟩:=h ae;cases e;have a:=hc (t/3) c;have hr:t%3=0\/t%3=1\/t%3=2:=ae;refine⟨?_,by grind[uR]⟩;have f:S[t/3]?.getD default=S[t/3]?.getD yp:=aS;rw[f];rcases hr with hr|hr|hr;·have bB:0+t=0+t/3*3:=ae;rw[hr,bB];exact a.1
 .have bB:0+t=0+t/3*3+1:=ae;rw[hr,bB];exact a.2.1
 .have bB:0+t=0+t/3*3+2:=ae;rw[hr,bB];exact a.2.2
def nf.ar8{w g d}(h:Pb ow 3 w g 0 d):nf w (ab ⟨g,0,af⟩) d.toList:=λ_=>by refine⟨g,0,rfl,λj b=>?_⟩;have hj':j<d.size:=ae;have a:d.toList[j]?.getD yp=d[j]!:=aF;rw[a];exact⟨(h.cell hj' (c:=0) ae).1,(h.cell hj' (c:=1) ae).1,(h.cell hj' (c:=2) ae).1⟩
def au9(base n c)A S w(hv:w.ownsRow base 413 3 (ad A n c) n (qA S))(u:0<S.length)(hlen:S.length<=1048576):
 aD ax 307 #[ad A n c,dJ (ej 308) #[] #[]] w λe w'=>e=aA (bg #[])/\∃a,a.Perm S/\a.Pairwise (λx y=>x.1.1<=y.1.1)/\nf w' A a/\ar (λi=>(ad A n c).ownBlock=ab i) w w':=by
 obtain⟨o,p⟩:=nf.lW hv;subst o;rcases hv.2 with⟨k,r⟩|⟨g,cap,cur,k,hb,d,t,hcm,hcs,z⟩;·omega
 .injection k with h1 h2 h3;subst h1 h3;have b:=nf.holds d p
  have h:=agx Tryz.acx 3 isAgg413 sizeOf413 ow (λ_=>aa) (λx v hv=>by simp[ow]at hv;rcases hv with rfl|rfl|rfl<;>rfl) K4 avs 308 #[] g 0 c S.toArray w am9
   (λm os gB _ x y=>ave x y _) b (pj.1 d).1 aF;simp only[iQ]at h;change aD ax 307 _ _ _ at h;refine h.mono ?_;clear h;rintro e w' ⟨rfl,cD,m,os,f,q,rfl⟩;have hsz:cD.size=S.length:=by have:=f.1;simpa using this
  refine⟨aa,cD.toList,?_,?_,?_,((ar.X2 (λi=>(ad _ _ c).ownBlock=ab i) w m).trans (ar.putRowK (λi=>(ad _ _ c).ownBlock=ab i) _ g 0 cD aa) (λ_ _ h=>h)).trans (ar.ZL _ _ os) (λ_ _ h=>h)⟩
  .have:=f.2.2;have bB:(cD.extract 0 S.length).toList=cD.toList:=by rw[<-hsz];simp
   grind
  .rw[l3];intro i j hi s l;have:=q i j (cQ _) l aF;grind[My]
  .refine nf.ar8 ?_;refine Sort.holdsK_grow ow 3 _ os g 0 cD ?_ (Sort.holdsK_putRowK ow 3 _ g 0 S.toArray cD (Sort.holdsK_ahead ow 3 w m g 0 S.toArray b) ae);show g<(w.heap.modify g _).size;grind
namespace G
open Go.RowKit Go.Shelf Go.Sort Go.Maps
attribute [local go_sem] Oper.semAt_some
def S3:(ax.info? 3).map (λi=>(i.zero,i.size,i.bytes))=ab (ab (J R 0),1,8):=aw
def upto{a:Type}(f:Nat->a)(k:Nat):List a:=(dF k).map f
theorem afu{a}(f:Nat->a)k:upto f (k+1)=upto f k++[f k]:=by simp[upto,List.range_succ]
theorem avQ{a}(f:Nat->a)k:(upto f k).length=k:=by simp[upto]
theorem avP(a:List Int):upto (λj=>a[j]?.getD 0) a.length=a:=by
 apply Xz;·simp[upto]
 .grind[upto]
def avR(a:List Int){k}(hk:k<=a.length):upto (λj=>a[j]?.getD 0) k=a.take k:=by
 apply Xz;·grind[upto]
 grind[upto]
set_option maxHeartbeats 2000000 in
def avS F n (q:F.fn 256) (hro:F.round=af) (z:1<=n) (l bX f b off len cap) (c:List Int) (A:len*8<=140737488351232) (hb:b<f) (d g:List Int->aM->Prop)
 (z8:∀pre x W,d pre W->pre.length<len->YieldAt F (n -1) ax l #[J R x] W λe a=>
   (e=aA (ak aB)/\d (pre++[x]) a/\uO f W a)\/(e=aA (ak au)/\g (pre++[x]) a))
 W (yv:W.cell? ⟨bX,0,af⟩=ab (ad (ab ⟨b,off,af⟩) len cap)) (hc:∀j,j<len->W.cell? ⟨b,off+j,af⟩=ab (J R (c[j]?.getD 0))) (h0:d [] W):
 rb F n ax 256 #[dJ (.yield l) #[] #[],ay (ab ⟨bX,0,af⟩)] W λe a=>(∃v,e=aA v)/\
  ((∃cn,cn=upto (λj=>c[j]?.getD 0) len/\d cn a)\/(∃pre,(∃k,k<=len/\pre=upto (λj=>c[j]?.getD 0) k)/\g pre a)):=by
 refine Dn Vu aa q ?_ hro;simp only[Tryz.ntmps256,iQ,jT,l2,qf,qg,qv,qu,nd,pB];gi_wp2
 gi_loopw [7] (λi wr=>∃k:Nat,k<=len/\i=J R k/\d (upto (λj=>c[j]?.getD 0) k) wr/\uO f W wr)
  (λi _=>len -(intOf i).toNat);case atStart=>exact⟨0,cQ _,aa,h0,O9 _ _⟩
 case round=>
  obtain⟨k,hk,rfl,m,o⟩:=hrel;have t:k<len->wr.cell? ⟨b,off+k,af⟩=ab (J R (c[k]?.getD 0)):=λh=>(o.cell (p:=⟨b,off+k,af⟩) hb).trans (hc k h);by_cases hlt:k<len
  .obtain⟨fn,tmps,assign,body,B,s⟩:=z8 _ (c[k]?.getD 0) wr m (by grind[avQ]);have y:=t hlt;gi_wp2;refine s.mono ?_;rintro e u (⟨rfl,w,hk3⟩|⟨rfl,r⟩)
   .gi_wp2;go_roundw;case rel=>exact⟨k+1,ae,aT,by grind[afu],o.trans hk3⟩
    case measure=>grind[intOf]
   .gi_wp2;refine bodyPost_ret (results_none aa _ _ _) aa ?_;exact⟨⟨_,aa⟩,b1 ⟨_,⟨_,ae,(afu _ _).symm⟩,r⟩⟩
  .obtain rfl:k=len:=ae;gi_wp2;go_end0;exact⟨⟨_,aa⟩,bH ⟨_,aa,m⟩⟩
def avT F n(c:F.fn 256)(hro:F.round=af)(l bX cap)A(a:List Int->aM->Prop)W(g:W.cell? ⟨bX,0,af⟩=ab (ad A 0 cap))(f:a [] W):
 rb F n ax 256 #[dJ (.yield l) #[] #[],ay (ab ⟨bX,0,af⟩)] W λe b=>(∃v,e=aA v)/\a [] b:=by
 refine Dn Vu aa c ?_ hro;simp only[Tryz.ntmps256,iQ,jT,l2,qf,qg,qv,qu,nd,pB];gi_wp2;gi_loopw [7] (λi wr=>i=J R 0/\a [] wr) (λ_ _=>0);case atStart=>grind
 case round=>
  obtain⟨rfl,d⟩:=hrel;gi_wp2;go_end0;exact⟨⟨_,aa⟩,d⟩
def avU F n(b:F.fn 184)(hro:F.round=af)a(len cap)w:
 rb F n ax 184 #[ad a len cap] w λe w'=>e=aA (dJ (ej 256) #[] #[ay (ab ⟨w.heap.size,0,af⟩)])/\w'=w.alloc (bc #[ad a len cap] 82):=by
 refine Dn func184 aa b ?_ hro;simp only[ntmps184,iQ,jT,l2,qf,qg,qv,qu,nd,pB];gi_wp2;go_ret;exact⟨aa,aa⟩
def avV F n (i:F.fn 256) (hro:F.round=af) (t:1<=n) (bX d cap) A a (v:a.length*8<=140737488351232) w (r:bX<w.heap.size) (u:w.heap.size=d)
 (hc:w.cell? ⟨bX,0,af⟩=ab (ad A a.length cap)) (fZ:cX w A a):
 SeqStopsK F n ax 256 #[ay (ab ⟨bX,0,af⟩)] (λx:Int=>#[J R x]) (uO d) (λcn=>cn=a) (λpre=>pre<+:a) a.length w:=λl g o W m _ _ s h=>by
 have hc':=(m.cell (p:=⟨bX,0,af⟩) r).trans hc;rcases lJ a.length with hz|hz;·obtain rfl:=jH hz;exact(avT F n i hro l bX _ A g W hc' h).mono λe q ⟨f,c⟩=>⟨f,bH ⟨_,aa,c⟩⟩
 .obtain⟨b,off,rfl,hcs⟩:=fZ hz;have hb:b<d:=u▸uQ w _ (hcs 0 hz);refine(avS F n i hro t l bX d b off a.length cap a v hb g o s W hc' (λj c=>(m.cell (p:=⟨b,off+j,af⟩) aF).trans (hcs j c)) h).mono ?_;rintro e q ⟨f,⟨cn,rfl,c⟩|⟨pre,⟨k,hk,rfl⟩,c⟩⟩;·grind[avP]
  .exact⟨f,b1 ⟨_,by rw[avR a hk];exact List.take_prefix _ _,c⟩⟩
set_option maxHeartbeats 2000000 in
def appendSeq_in F n (m:F.fn 312) (g:F.fn 256) (hro:F.round=af) (y:3<=n) (bX cap) A a (hbytes:a.length*8<=140737488351232) w
 (yv:bX<w.heap.size) (hc0:w.cell? ⟨bX,0,af⟩=ab (ad A a.length cap)) (fZ:cX w A a):
 rb F n ax 312 #[ad af 0 0,dJ (ej 256) #[] #[ay (ab ⟨bX,0,af⟩)]] w λe f=>∃v,e=aA v/\f.ownsRow w.heap.size 3 1 v a.length (a.map (J R))/\(v=ad af 0 0↔a=[])/\uO w.heap.size w f:=by
 have h1:1<=n:=ae;obtain⟨r,hi,hz0,hz1,hz2⟩:=rf S3;refine callsIn_of_wp_marks Tryz.func312 aa m ?_ hro;simp only[ntmps312,iQ,jT,l2,qf,qg,qv,qu,nd,pB];gi_wp2;have k:=Boxed.new w 82 (ad af 0 0);have d:uO w.heap.size w (w.alloc (bc #[ad af 0 0] 82)):=(O9 _ w).alloc (cm _) _
 have hseq:SeqStopsK F (n -1) ax 256 #[ay (ab ⟨bX,0,af⟩)] (λx:Int=>#[J R x]) (uO w.heap.size) (λcn=>cn=a) (λpre=>pre<+:a) a.length (w.alloc (bc #[ad af 0 0] 82)):=
  λl i j W p=>avV F (n -1) g hro ae bX w.heap.size cap A a hbytes w yv aa hc0 fZ l i j W (d.trans (p.mono d.size))
 refine wpIn_rangeFunc_ownG hro h1 (gf:=256) (lb:=_) aa g (ll Vu aw aa)
  hseq belowK_t (belowK_b aT) (O9 _ _) (λ_=>aa)
  (λpre W=>(∃v,Boxed W w.heap.size 82 v/\W.ownsRow w.heap.size 3 1 v pre.length (pre.map (J R))/\(v=ad af 0 0↔pre=[]))/\uO w.heap.size w W)
  (λ_ _ _=>False)
  (OwnFrom.and (Own.from (holdsRow_own w.heap.size w.heap.size 82 3 1 (λpre=>pre.length) (λpre=>pre.map (J R)) (λpre v=>v=ad af 0 0↔pre=[])) _) (ownFrom_below (cm _) aT))
  (λ_ _ _ _ _ q _ _=>q)
  ⟨⟨_,k,A9 _ _ _ _,aT⟩,d⟩
  (λx=>{tmps:=#[ad af 0 0,dJ (ej 256) #[] #[ay (ab ⟨bX,0,af⟩)],ay (ab ⟨w.heap.size,0,af⟩),aY,ad af 0 0,J R x,dJ (ej 256) #[] #[ay (ab ⟨bX,0,af⟩)],J R x,aY,aY,aY,aY,aY],defers:=[]}) ?assign ?body ?done ?stop
 case assign=>
  intro l x W K c;gi_wp2;exact c
 case body=>
  rintro l pre x W ⟨⟨v,hv,hrow,hnil⟩,b⟩ hlt;have hc:=hv.cell;gi_wp2_with (gi_at_builtin;refine wpListIn_append_own _ aa _ _ 82 aa w.heap.size 3 r (J R 0) 1 8 ij hi hz0 hz1 hz2 aa bh _ _ _ aa (hrow.alloc _) ⟨W.heap.size,0,af⟩ 1 1 [J R x] aa aa (cell_one_new _ _ _) (by simp[wB]) (by grind[dN]) ae (by have:=b.size;simp;omega) ?_;intro v' w1 hown' hgrow _;obtain⟨t,s,rfl⟩:=ownsRow_succ hown';obtain⟨h,hv2,hr2,hk2,hb2⟩:=hv.appended bh hrow b.size (cm _) hown' hgrow;have hc1:=h.cell;have u:=h.frozen);exact⟨hk2.from _,hb2,⟨_,hv2,aF,aT⟩,b.trans hb2⟩
 case done=>
  rintro D cn W o rfl ⟨⟨v,hv,hrow,hnil⟩,b⟩ c;have hc:=hv.cell;gi_wp2;refine⟨aT,bH ⟨_,_,aa,run_takeDeferred c,?_⟩⟩;exact⟨_,results_tmp aa _ _ _,v,aa,ownsRow_putObj hrow _ c aa,hnil,b.trans (belowK_b (w:=w) (cm _) W D _ _ (by simp at o;omega) c aa aa)⟩
 case stop=>simp
open Go.RowKit Go.Shelf Go.Sort Go.Maps
def qZ(xs:List Int):List Int:=xs.mergeSort (λx y=>decide (x<=y))
def y3 xs:(qZ xs).Perm xs:=List.mergeSort_perm _ _
theorem Nh xs:(qZ xs).length=xs.length:=(y3 xs).length_eq
def Ni xs:(qZ xs).Pairwise (·<=·):=by have:=List.pairwise_mergeSort (le:=λx y:Int=>decide (x<=y)) (λa b c h1 d=>aF) (λa b=>aF) xs;exact this.imp (λh=>aF)
def anq{l l':List Int}(d:l.Perm l')(h:l.Pairwise (·<=·))(c:l'.Pairwise (·<=·)):l=l':=
 d.eq_of_pairwise (λa b _ _ h1 e=>ae) h c
def au6{xs cn}(a:cn.Perm xs)(b:cn.Pairwise (·<=·)):qZ xs=cn:=
 anq ((y3 xs).trans a.symm) (Ni xs) b
def au5{xs cn}(a:xs.Perm cn):qZ xs=qZ cn:=au6 ((y3 cn).trans a.symm) (Ni cn)
def collect_in F n (d:F.fn 254) (f:F.fn 312) (g:F.fn 256) (hro:F.round=af) (h:4<=n) (bX cap) A a (hbytes:a.length*8<=140737488351232) w
 (yv:bX<w.heap.size) (hc0:w.cell? ⟨bX,0,af⟩=ab (ad A a.length cap)) (fZ:cX w A a):
 rb F n ax 254 #[dJ (ej 256) #[] #[ay (ab ⟨bX,0,af⟩)]] w λe b=>∃v,e=aA v/\b.ownsRow w.heap.size 3 1 v a.length (a.map (J R))/\(v=ad af 0 0↔a=[])/\uO w.heap.size w b:=by
 have h1:1<=n:=ae;have c:=hid (appendSeq_in F (n -1) f g hro ae bX cap A a hbytes w yv hc0 fZ);clear hc0 fZ;refine Dn Tryz.func254 aa d ?_ hro;simp only[ntmps254,iQ,jT,l2,qf,qg,qv,qu,nd,pB];gi_wp2_with (gi_at_call 312;refine(c.out).mono ?_;rintro e w' ⟨v,rfl,hrow,hnil,hb⟩);go_ret;exact⟨v,aa,hrow,hnil,hb⟩
def Uf m:AnyZI.SortsIn ax Tryz.ae0 mr m:=
 ⟨λblk off cap b W a hblk hsz=>sn.2 (AnyM.slices_Sort_int Tryz.aeX blk off cap b W a hblk hsz),
  λp cap W=>sn.2 (AnyM.slices_Sort_int_none Tryz.aeX p cap W)⟩
def sorted_in (bX cap) A a (hbytes:a.length*8<=140737488351232) w
 (yv:bX<w.heap.size) (hc0:w.cell? ⟨bX,0,af⟩=ab (ad A a.length cap)) (fZ:cX w A a):
 rb mr 6 ax 183 #[dJ (ej 256) #[] #[ay (ab ⟨bX,0,af⟩)]] w λe h=>∃v,e=aA v/\h.ownsRow w.heap.size 3 1 v a.length ((qZ a).map encZ)/\uO w.heap.size w h:=by
 have r:=hid (collect_in mr 5 trivial trivial trivial aa ae bX cap A a hbytes w yv hc0 fZ);have l:=λblk off cap C W f hblk hsz=>(Uf 5).1 blk off cap C W f hblk hsz;have m:=λp cap W=>(Uf 5).2 p cap W;have D:mr.fn 254:=trivial;have hf2:mr.fn 255:=trivial;have s:=hid l;have t:=hid m;clear hc0 fZ l m;refine Dn Tryz.func183 aa trivial ?_ aa;simp only[ntmps183,iQ,jT,l2,qf,qg,qv,qu,nd,pB];gi_wp2_with (gi_at_call 254;refine(r.out).mono ?_;rintro e W ⟨v,rfl,hrow,hnil,hb⟩);rcases hrow.2 with⟨rfl,hz⟩|⟨c,i,cur,rfl,hbase,hgb,n,o,q,B⟩;·have z:a=[]:=jH hz;subst z;have b:rb mr 5 ax 255 #[ad af 0 0] W λe w'=>e=aA (bg #[])/\w'=W:=t.out af 0 W;have g:=hid b;clear b;gi_wp2_with (gi_at_call 255;refine(g.out).mono ?_;rintro e w' ⟨rfl,rfl⟩);go_ret;exact⟨_,aa,by simpa [qZ]using hrow,hb⟩
 .have f:Holds encZ W c 0 a.toArray:=holds_of_block_i hgb aF;have u:c<W.heap.size:=(pj.1 hgb).1;have hsz:a.length<4611686018427387904:=ae;have b:rb mr 5 ax 255 #[ad (ab ⟨c,0,af⟩) a.length i] W λe w'=>e=aA (bg #[])/\∃k os,w'=F8 (putRow encZ (JT W k) c 0 (a.mergeSort λx y=>decide (x<=y)).toArray) os:=s.out c 0 i a W f u hsz;have g:=hid b;have d:=hid (And.intro hgb (And.intro n (And.intro o q)));clear b f hgb n o q B hrow;gi_wp2_with (gi_at_call 255;refine(g.out).mono ?_;rintro e w' ⟨rfl,F,os,rfl⟩);go_ret;exact⟨_,aa,ownsRow_sorted_i aT hbase d.out.1 d.out.2.1 d.out.2.2.1 d.out.2.2.2,hb.grown (grownBy_sorted_i _) hb.size (λj E=>aF)⟩
def afy A(len cap)w:
 aD ax 184 #[ad A len cap] w λe w'=>e=aA (dJ (ej 256) #[] #[ay (ab ⟨w.heap.size,0,af⟩)])/\w.alloc (bc #[ad A len cap] 82)=w':=
 ((sn (n:=2)).1 (avU mr 2 trivial aa A len cap w)).mono λ_ _ ⟨h1,a⟩=>⟨h1,a.symm⟩
def pF(w w':aM)(v:aO)(xs:List Int):Prop:=w'.ownsRow w.heap.size 3 1 v xs.length (xs.map (J R))
def pF.form{w w' v xs}(h:pF w w' v xs):∃A c,v=ad A xs.length c/\cX w' A xs/\xs.length<=c/\c<=dN/\∀b off,A=ab ⟨b,off,af⟩->w.heap.size<=b/\b<w'.heap.size:=by
 have a:=h;rcases h.2 with⟨rfl,hz⟩|⟨g,cap,cur,rfl,hb,j,h1,d,f,i⟩;·grind[cX.nil]
 .exact⟨_,_,aa,cX.lW a,h1,d,λb off e=>aF⟩
def ae1(bX cap)A a(hbytes:a.length*8<=140737488351232)w(hc0:w.cell? ⟨bX,0,af⟩=ab (ad A a.length cap))(c:cX w A a):
 aD ax 183 #[dJ (ej 256) #[] #[ay (ab ⟨bX,0,af⟩)]] w λe w'=>∃v,e=aA v/\pF w w' v (qZ a)/\aq w w':=
 ((sn (n:=6)).1 (sorted_in bX cap A a hbytes w (uQ w _ hc0) hc0 c)).mono λ_ _ ⟨v,h1,d,b⟩=>
  ⟨v,h1,by grind[pF,Nh],ar.ML b (cm _)⟩
theorem G7 A c xs x w(hx:cX w A xs)(h1:xs.length<=9223372036854775807):
 aD ax 190 #[ad A xs.length c,J R x] w λe w'=>e=aA (ak (decide (x∈xs)))/\w=w':=by
 rcases lJ xs.length with d|d;·obtain rfl:xs=[]:=jH d;exact(Any.slices_Contains_int_empty Tryz.acr A c x w).mono λ_ _ ⟨a,b⟩=>⟨aF,b.symm⟩
 .obtain⟨eR,fa,rfl,c1⟩:=hx d;refine(Any.slices_Contains_int Tryz.acr eR fa xs.length c xs x w (cm _) h1 (λj f=>aT)).mono λ_ _ ⟨a,b⟩=>⟨?_,b.symm⟩;grind
def alG A c xs w(hx:cX w A xs)(h1:xs.length*8<=140737488355328):
 aD ax 380 #[ad A xs.length c] w λe w'=>∃v,e=aA v/\pF w w' v xs/\aq w w':=by
 rcases A with _|a
 .obtain rfl:xs=[]:=by
   rcases lJ xs.length with f|f;·grind
   .obtain⟨_,_,h,_⟩:=hx f;cases h
  exact(Any.slices_Clone_int_nil Tryz.Tc 0 c w).mono λ_ _ ⟨a,b⟩=>⟨_,a,b▸A9 _ _ _ _,b▸ar.refl _ _⟩
 .rcases lJ xs.length with f|f;·obtain rfl:xs=[]:=jH f;exact(Any.slices_Clone_int_zero Tryz.Tc a c w).mono λ_ _ ⟨v,a,b,_,d⟩=>⟨v,a,b,ar.ML d (cm _)⟩
  .obtain⟨eR,fa,e,c1⟩:=hx f;cases e;refine(Any.slices_Clone_int Tryz.Tc eR fa xs.length c xs w (cm _) h1 (λj g=>aT)).mono λ_ _ ⟨v,a,b,_,d⟩=>⟨v,a,?_,ar.ML d (cm _)⟩;rw[ik]at b;exact b
open Go.RowKit Go.Shelf Go.Sort Go.Maps Go.MapKept
open Go.WideElems (rg rg_of)
open Go.WideShapes (sorted_perm)
def afv:aO->Int|.int _ x=>x|_=>0
abbrev DW:aO->Option (DataW Unit×List MemPlace):=λ_=>ab (.nil,[])
def asP{P k}(hk:P.underlying k=ab (.int R)){w ms a}(h:dY w ms encI db a):
 ∃D,w.ownsMap P k DW ms a.length D/\(WC D).Perm (a.map (·.1))/\JG D=a.length:=by
 obtain⟨es,m,hb,j,hz,c,n⟩:=h;have hlen:es.size=a.length:=by have:=congrArg vg c;simpa using this
 have g:∀e∈es.toList,∃x,e.key=encI x/\db x:=λe b=>by have:(e.key,e.val)∈es.toList.map (λe=>(e.key,e.val)):=gV.2 ⟨e,b,aa⟩;grind
 have i:∀e∈es.toList,ain P k DW e=ab (FW R (afv e.key),.nil):=λe b=>by obtain⟨x,hx,l⟩:=g e b;rw[hx];unfold ain;rw[hx,encI,Vf hk (NA l)];rfl
 refine⟨_,⟨es,_,hb,⟨hz,j,λe b=>⟨_,i e b⟩⟩,ae,aa⟩,?_,?_⟩
 .have h1:(es.toList.map (rg P k DW)).map (λp=>_root_.Go.intOf p.1)=a.map (·.1):=by
   have d:(es.toList.map (rg P k DW)).map (λp=>_root_.Go.intOf p.1)=(es.toList.map (λe=>(e.key,e.val))).map (λq=>afv q.1):=by grind[List.map_congr_left,_root_.Go.intOf,rg_of]
   rw[d,c,GM];rfl
  rw[<-h1];have f:=(sorted_perm (es.toList.map (rg P k DW))).map (λp=>_root_.Go.intOf p.1);exact f
 .grind[JG,length_sorted]
def asO{w ms a}(h:dY w ms encI db a):
 ∃D,w.ownsMap ax 3 DW ms a.length D/\(WC D).Perm (a.map (·.1))/\JG D=a.length:=asP j2 h
def S' a w:aD ax 381 #[dE a] w λe w'=>e=aA (dJ (ej 388) #[] #[ay (ab ⟨w.heap.size,0,af⟩)])/\w.alloc (bc #[dE a] 467)=w':=by have h:rb mr 5 ax 381 #[dE a] w λe w'=>e=aA (dJ (ej 388) #[] #[ay (ab ⟨w.heap.size,0,af⟩)])/\w'=w.alloc (bc #[dE a] 467):=AnyZI.keys_in Tryz.aci mr 5 trivial aa a w;exact((sn (n:=5)).1 h).mono λ_ _ ⟨h1,b⟩=>⟨h1,b.symm⟩
def avc(e1 ms)a(hbytes:a.length*8<=140737488351232)w(hc:w.cell? ⟨e1,0,af⟩=ab (dE (ab ms)))(h:dY w ms encI db a):
 aD ax 183 #[dJ (ej 388) #[] #[ay (ab ⟨e1,0,af⟩)]] w λe w'=>∃v,e=aA v/\pF w w' v (qZ (a.map (·.1)))/\aq w w':=by
 obtain⟨D,hown,d,hsz⟩:=asO h
 have hseq:SeqGives mr 3 ax 388 #[ay (ab ⟨e1,0,af⟩)] encZ (λb=>b.Perm (WC D)) (JG D) w:=
  AnyZI.keys_gives (ρ:=Tryz.acj) {Tryz.aci with} mr _ trivial aa ae e1 ms a.length D _ (uQ w _ hc) hc hown;have c:=AnyZI.sorted_in Tryz.avb mr 6 trivial trivial trivial trivial aa ae (Uf _) (ll Tryz.func255 aw aa) 388 #[ay (ab ⟨e1,0,af⟩)] trivial (ll Tryz.func388 aw aa) _ (JG D) (by grind[dN]) ae w hseq;refine((sn (n:=6)).1 (show rb mr 6 ax 183 _ _ _ from c)).mono λe w'=>?_;rintro⟨v,b,rfl,hS,hrow,_,hb⟩;refine⟨v,aa,?_,ar.ML hb (cm _)⟩;have h1:qZ (a.map (·.1))=qZ b:=au5 ((hS.trans d).symm);unfold pF;rw[h1,Nh];exact hrow
def Ix{E u x}:x∈succ E u↔(u,x)∈E:=by unfold succ;simp only[gV,nb,decide_eq_true_eq];simp
def arH{E u x}:u∈pred E x↔(u,x)∈E:=by unfold pred;simp only[gV,nb,decide_eq_true_eq];simp
inductive Path (E:List (Int×Int)) (v:Int):Int->Prop where
 |one {x:Int} (h:(v,x)∈E):Path E v x
 |more {x y:Int} (h:Path E v x) (e:(x,y)∈E):Path E v y
def Xv(E:List (Int×Int))(v:Int)(xs:List Int):Prop:=xs.Pairwise (·<·)/\∀x,x∈xs↔Path E v x
theorem Ap{xs:List Int}(h:xs.Pairwise (·<·)):xs.Nodup:=h.imp (λh=>ae)
def Zh{xs cn:List Int}(hx:xs.Pairwise (·<·))(c:cn.Pairwise (·<·))(h:∀x,x∈xs↔x∈cn):xs=cn:=
 ((List.perm_ext_iff_of_nodup (Ap hx) (Ap c)).2 h).eq_of_pairwise (λa b _ _ h1 d=>ae) hx c
structure tk (E:List (Int×Int)) (v:Int) (seen stack:List Int):Prop where
 Av:seen.Nodup
 path:∀x,x∈seen\/x∈stack->Path E v x
 first:∀y∈succ E v,y∈seen\/y∈stack
 closed:∀s∈seen,∀y∈succ E s,y∈seen\/y∈stack
def tk.start E v:tk E v [] (succ E v):=
 ⟨aT,λx h=>by rcases h with h|h;cases h;exact .one (Ix.1 h),λy h=>b1 h,λ_ h=>aF⟩
def tk.skip{E v x seen st}(h:tk E v seen (st++[x]))(hx:x∈seen):tk E v seen st:=by
 have key:∀y,y∈seen\/y∈st++[x]->y∈seen\/y∈st:=λy a=>by grind
 exact⟨h.Av,λy a=>h.path y (a.imp id (λa=>Bq _ a)),λy a=>key y (h.first y a),λs b y a=>key y (h.closed s b y a)⟩
def tk.visit{E v x seen st}(h:tk E v seen (st++[x]))(hx:x∉seen):tk E v (seen++[x]) (st++succ E x):=by
 have f:Path E v x:=h.path x (b1 aT);have key:∀y,y∈seen\/y∈st++[x]->y∈seen++[x]\/y∈st++succ E x:=λy c=>by grind
 refine⟨x'.2 ⟨h.Av,aT,λa g b hb e=>?_⟩,λy c=>?_,λy c=>key y (h.first y c),λs d y c=>?_⟩;·grind
 .rcases c with c|c
  .rcases jf.1 c with c|c;·exact h.path y (bH c)
   .grind
  .rcases jf.1 c with c|c;·exact h.path y (b1 (Bq _ c))
   .exact .more f (Ix.1 c)
 .rcases jf.1 d with d|d;·exact key y (h.closed s d y c)
  grind
def tk.done{E v seen}(h:tk E v seen [])x:x∈seen↔Path E v x:=by
 refine⟨λhx=>h.path x (bH hx),λp=>?_⟩;induction p with
 |one e=>
  rcases h.first _ (Ix.2 e)with h|h;·omega
  .grind
 |more _ e a=>
  rcases h.closed _ a _ (Ix.2 e)with h|h;·omega
  .grind
def dt(n:Nat):List Int:=(dF n).map (λi:Nat=>(i:Int))
theorem qN{n x}:x∈dt n↔0<=x/\x<n:=by
 unfold dt;simp;constructor;·omega
 .rintro⟨h0,h1⟩;exact⟨x.toNat,ae,ae⟩
theorem CX n:(dt n).Pairwise (·<·):=by unfold dt;rw[List.pairwise_map];exact List.pairwise_lt_range.imp (λh=>ae)
def E2{n:Nat}{xs:List Int}(a:xs.Nodup)(h:∀x∈xs,0<=x/\x<n):xs.length<=n:=by have:=a.length_le_of_subset (l₂:=dt n) (λx hx=>qN.2 (h x hx));simpa [dt]using this
def AA{E n}(a:∀e∈E,(0<=e.1/\e.1<n)/\(0<=e.2/\e.2<n)/\e.1≠e.2){v x}(p:Path E v x):0<=x/\x<n:=by
 cases p with
 |one e=>grind
 |more _ e=>grind
def amJ{n s t m L}(b:s<n)(a:m<=L):(n -(s+1))*(L+1)+(t+m)<(n -s)*(L+1)+(t+1):=by
 have:(n -s)*(L+1)=(n -(s+1))*(L+1)+(L+1):=by rw[<-Nat.succ_mul];congr 1;omega
 omega
def Fy{t fr}g:∀(b) o (w:aM) cur,w.heap[g]?=ab (bc cur t fr)->
 ∃a,(w.setCells g o b).heap[g]?=ab (bc a t fr)/\a.size=cur.size/\∀j,a[j]?=if o<=j/\j<o+b.length/\j<cur.size then b[j -o]? else cur[j]?
 |[],o,w,cur,h=>⟨cur,h,rfl,λj=>aF⟩
 |v::r,o,w,cur,h=>by
  have h1:(w.setCell ⟨g,o,af⟩ v).heap[g]?=ab (bc (cur.setIfInBounds o v) t fr):=by grind[World.setCell]
  obtain⟨a,c,e,d⟩:=Fy g r (o+1) _ _ h1;refine⟨a,c,aF,λj=>?_⟩;rw[d j,Array.getElem?_setIfInBounds];grind[Nat.le_of_not_lt]
def _root_.Go.Proofs.YtcmhplknoglbkaaGreat.ar.setCells w(g o)a:ar (λk=>k=g) w (w.setCells g o a):=by
 induction a generalizing o w with
 |nil=>exact ar.refl _ _
 |cons v r b=>exact(ar.setCell (F:=λk=>k=g) w (p:=_) aa v).trans (b _ _) (λ_ _ h=>h)
def eX(w:aM)(base:Nat)(v:aO)(xs:List Int):Prop:=∃A c,v=ad A xs.length c/\((A=af/\xs=[]/\c=0)\/
 ∃g off cur,A=ab ⟨g,off,af⟩/\base<=g/\w.heap[g]?=ab (bc cur 3 (0,0))/\xs.length<=c/\c<=dN/\off+c<=cur.size/\∀j,j<xs.length->cur[off+j]?=ab (J R (xs[j]?.getD 0)))
theorem eX.lW{w base v n xs}(h:w.ownsRow base 3 1 v n (xs.map (J R))):eX w base v xs:=by
 have f:xs.length=n:=by simpa using h.1
 subst f;rcases h.2 with⟨rfl,a⟩|⟨g,cap,cur,rfl,hb,c,h1,b,i,k⟩;·obtain rfl:=jH a;exact⟨_,0,aa,bH ⟨aa,aa,aa⟩⟩
 .refine⟨_,cap,aa,b1 ⟨g,0,cur,rfl,hb,c,h1,b,ae,λj d=>?_⟩⟩;have e:(cur.toList.take (xs.length*1))[j]?=ab (J R xs[j]):=aF;rw[tE,if_pos ae]at e;simpa [d]using e
def eX.only{F w w' base v xs}(h:eX w base v xs)(k:ar F w w')(a:∀g,v.ownBlock=ab g->¬F g):eX w' base v xs:=by obtain⟨A,c,rfl,h⟩:=h;refine⟨A,c,aa,h.imp id ?_⟩;rintro⟨g,off,cur,rfl,h1,h2,r⟩;exact⟨g,_,_,aa,h1,k.heap h2 (a g aa),r⟩
def eX.lt{w base v xs}(h:eX w base v xs){g}(a:v.ownBlock=ab g):base<=g/\g<w.heap.size:=by
 obtain⟨A,c,rfl,⟨rfl,_⟩|⟨d,off,cur,rfl,h1,b,r⟩⟩:=h;·cases a
 .cases a;exact⟨h1,(pj.1 b).1⟩
def eX.nU{w base c A xs}(h:eX w base (ad A xs.length c) xs):cX w A xs:=λl=>by
 obtain⟨a,b,e,⟨rfl,rfl,_⟩|⟨g,off,cur,rfl,h1,d,f,i,j,k⟩⟩:=h;·grind
 grind[eB]
def eX.form{w base v xs}(h:eX w base v xs):∃A c,v=ad A xs.length c/\xs.length<=c/\c<=maxLen:=by
 obtain⟨A,c,rfl,⟨_,rfl,rfl⟩|⟨g,off,cur,rfl,h1,a,b,d,r⟩⟩:=h;·grind
 .grind
def eX.tail{w base n c A x xs}(h:eX w base (ad A n c) (x::xs)):∃g off,A=ab ⟨g,off,af⟩/\n=xs.length+1/\xs.length+1<=c/\c<=dN/\w.cell? ⟨g,off,af⟩=ab (J R x)/\
 eX w base (ad (ab ⟨g,off+1,af⟩) xs.length (c -1)) xs/\(xs=[]->eX w base (ad (ab ⟨g,off,af⟩) xs.length (c -1)) xs):=by
 obtain⟨k,l,e,⟨rfl,m,_⟩|⟨g,off,cur,rfl,h1,a,b,f,o,d⟩⟩:=h;·grind
 .injection e with bB b7 fG;subst bB b7 fG;simp at b d;refine⟨g,off,aa,aa,b,f,?_,⟨_,_,aa,b1 ⟨g,off+1,cur,rfl,h1,a,ae,ae,ae,λj i=>?_⟩⟩,?_⟩;·rw[eB w g _ _ _ _ a];simpa using d 0 ae
  .grind
  .rintro rfl;exact⟨_,_,aa,b1 ⟨g,off,cur,aa,h1,a,cQ _,ae,ae,λj i=>aF⟩⟩
def uo(xs:List Int)(i:Nat)(x:Int):List Int:=xs.take i++x::xs.drop i
def aqr{xs i}x(hi:i<=xs.length):(uo xs i x).length=xs.length+1:=by grind[uo]
theorem Mk{xs i}x(hi:i<=xs.length)j:(uo xs i x)[j]?=if j<i then xs[j]? else if j=i then ab x else xs[j -1]?:=by grind[uo]
theorem UF n:(mT (J R 0).cells n).size=n:=by simp[mT,Pd]
def aqu base v xs i x d w(z:eX w base v xs)(hi:i<=xs.length)(O:w.heap[d]?=ab (bc #[J R x] 3 (0,0)))(hne:∀g,v.ownBlock=ab g->g≠d)(W:xs.length<=1048576)(hbase:base<=w.heap.size):
 aD ax 306 #[v,J R i,ad (ab ⟨d,0,af⟩) 1 1] w λe w'=>∃v',e=aA v'/\eX w' base v' (uo xs i x)/\ar (λk=>v.ownBlock=ab k) w w'/\(v'.ownBlock=v.ownBlock\/∃k,v'.ownBlock=ab k/\w.heap.size<=k):=by
 obtain⟨A,c,rfl,z⟩:=z;have hlen:=aqr x hi
 have p:∀(j:Nat) (u:aO),[J R x][j]?=ab u->w.cell? ⟨d,0+j,af⟩=ab u:=λj u N=>by
  rw[eB w d _ _ _ _ O];cases j with
  |zero=>grind
  |succ j=>grind
 have l:∀u∈[J R x],u.oneCell'=true:=by simp[wB]
 have B:(xs.map (J R)).length=xs.length:=aT;have G:=Ty xs;have L:∀j,j<xs.length->(xs.map (J R))[j]?=ab (J R (xs[j]?.getD 0)):=λj b=>by grind
 have X:∀j,j<xs.length+1->∃y,(uo xs i x)[j]?=ab y:=λj b=>⟨_,cj ae⟩;rcases z with⟨rfl,rfl,rfl⟩|⟨g,off,cur,rfl,hb,C,h1,H,T,U⟩
 .obtain rfl:i=0:=aF;refine(agv Tryz.It af 0 0 d 0 1 1 [] [J R x] w ae (cm _) ae ae aa aa (λ_=>aa) (λa h=>aT) p l).mono ?_;rintro e w' ⟨rfl,rfl⟩;have D:=zq w (0+1) 0 3;have m:=zr w (0+1) 0 3 (by grind[dN]);refine⟨_,aa,⟨_,_,aa,b1 ⟨w.heap.size,0,_,aa,hbase,fe w.drew _,D,m,?_,λj b=>?_⟩⟩,?_,b1 ⟨_,aa,cm _⟩⟩;·grind[UF]
  .grind[uo]
  .exact(ar.drew w).trans (ar.alloc _ _) (λ_ _ h=>h)
 .have hcs:∀(j:Nat) (u:aO),(xs.map (J R))[j]?=ab u->w.cell? ⟨g,off+j,af⟩=ab u:=λj u N=>by grind[eB]
  have K:∀j,w.frozen? ⟨g,j,af⟩=false:=λj=>by grind[uR]
  have I:∀j,w.frozen? ⟨d,j,af⟩=false:=λj=>by grind[uR]
  have hsp:∀j,j<c->(w.cell? ⟨g,off+j,af⟩).isSome=true:=λj b=>by rw[eB w g _ _ _ _ C];simp;omega
  have M:d≠g:=λe=>hne g aa e.symm;by_cases hroom:xs.length+1<=c
  .by_cases E:i<xs.length
   .refine(Any2.slices_Insert_int_shift Tryz.It g off xs.length c i d 0 1 1 (xs.map (J R)) [J R x] w E ae hroom (by grind[dN]) M B aa hcs (λj b=>hsp j ae) (λj _=>K _) p G l 3 3 1 cur.size
     (by grind[Pg]) (by grind[Pg]) ae (I _) (I _)).mono ?_;rintro e w' ⟨rfl,rfl⟩;obtain⟨q,r,F,s⟩:=Fy g ((xs.map (J R)).drop i) (off+(i+1)) w.drew cur C;obtain⟨f,eR,eY,sC⟩:=Fy g [J R x] (off+i) _ q r;refine⟨_,aa,⟨_,c,aF,b1 ⟨g,off,f,rfl,hb,eR,ae,H,ae,λj b=>?_⟩⟩,?_,bH aa⟩
    .rw[hlen]at b;rw[sC,s,Mk x hi];simp only[jT,l2,vh,gU];by_cases o:j<i;·grind
     .by_cases n:j=i;·subst n;rw[if_pos ae,if_neg ae,if_pos aa];simp
      .rw[if_neg ae,if_pos ae,if_neg o,if_neg n,DP,show i+(off+j -(off+(i+1)))=j -1 by omega];exact L _ ae
    .exact((ar.drew w).trans (ar.setCells _ g _ _) (λ_ _ h=>by rw[h];rfl)).trans (ar.setCells _ g _ _) (λ_ _ h=>by rw[h];rfl)
   .obtain rfl:i=xs.length:=ae;refine(Any2.slices_Insert_int_end_room Tryz.It g off xs.length c d 0 1 1 [J R x] w ae hroom (by grind[dN]) aa (λj b=>aF) (λj _=>K _) p l).mono ?_;rintro e w' ⟨rfl,rfl⟩;obtain⟨f,eR,eY,sC⟩:=Fy g [J R x] (off+xs.length) w cur C;refine⟨_,aa,⟨_,c,aF,b1 ⟨g,off,f,rfl,hb,eR,ae,H,ae,λj b=>?_⟩⟩,?_,bH aa⟩;·grind[Mk]
    .exact(ar.setCells w g _ _).mono (λ_ _ h=>by rw[h];rfl)
  .have V:c=xs.length:=ae;by_cases E:i<xs.length
   .refine(Any2.slices_Insert_int_grow Tryz.It g off _ c i d 0 1 1 _ _ w E ae h1 ae ae B aa hcs p G l).mono ?_;rintro e w' ⟨rfl,rfl⟩;have D:=zq w (xs.length+1) c 3;have m:=zr w (xs.length+1) c 3 (by grind[dN]);obtain⟨q,r,F,s⟩:=Fy w.heap.size [J R x] i (w.alloc (bc (((xs.map (J R)).take i).toArray++mT (J R 0).cells (xs.length+1 -i)++mT (J R 0).cells (xV w (xs.length+1) c 3 -(xs.length+1))) 3)).drew _ (fe w _);obtain⟨f,eR,eY,sC⟩:=Fy w.heap.size ((xs.map (J R)).drop i) (i+1) (((w.alloc (bc (((xs.map (J R)).take i).toArray++mT (J R 0).cells (xs.length+1 -i)++mT (J R 0).cells (xV w (xs.length+1) c 3 -(xs.length+1))) 3)).drew.setCells w.heap.size i [J R x]).drew) q r;have hsz:q.size=xV w (xs.length+1) c 3:=by grind[UF]
    refine⟨_,aa,⟨_,_,by rw[hlen];rfl,b1 ⟨w.heap.size,0,f,rfl,hbase,eR,ae,m,ae,λj b=>?_⟩⟩,?_,b1 ⟨_,aa,cm _⟩⟩
    .rw[hlen]at b;rw[sC,s,Mk x hi,kV,<-F,hsz];simp only[jT,l2,vh,gU];by_cases o:j<i;·rw[if_neg ae,if_neg ae,if_pos o,Jr (by simp;omega),Jr (by simp;omega)];grind
     .by_cases n:j=i;·subst n;rw[if_neg ae,if_pos ae,if_neg o,if_pos aa];simp
      .rw[if_pos ae,if_neg o,if_neg n,DP,show i+(j -(i+1))=j -1 by omega];exact L _ ae
    .have P:=(aq.trans (ar.alloc w (bc (((xs.map (J R)).take i).toArray++mT (J R 0).cells (xs.length+1 -i)++mT (J R 0).cells (xV w (xs.length+1) c 3 -(xs.length+1))) 3)) (ar.drew _));have Q:ar (λk=>k=w.heap.size) w _:=(aq.to P).trans (ar.setCells _ w.heap.size i [J R x]) (λ_ _ h=>h);have S:=(Q.trans (ar.drew _) (λ_ _ h=>h)).trans (ar.setCells _ w.heap.size (i+1) ((xs.map (J R)).drop i)) (λ_ _ h=>h);exact S.mono (λk hk e=>ae)
   .obtain rfl:i=xs.length:=ae;refine(agv Tryz.It (ab ⟨g,off,af⟩) xs.length c d 0 1 1 (xs.map (J R)) [J R x] w ae h1 ae ae B aa (λh=>aF) (λa h=>by grind[nG]) p l).mono ?_;rintro e w' ⟨rfl,rfl⟩;have D:=zq w (xs.length+1) c 3;have m:=zr w (xs.length+1) c 3 (by grind[dN]);refine⟨_,aa,⟨_,_,by rw[hlen];rfl,b1 ⟨w.heap.size,0,_,aa,hbase,fe w.drew _,ae,m,?_,λj b=>?_⟩⟩,?_,b1 ⟨_,aa,cm _⟩⟩;·simp[UF,show Tryz.acu.t 3=3 from aa];omega
    .rw[hlen]at b;rw[Mk x hi,kV,Jr aF];grind
    .exact(ar.drew w).trans (ar.alloc _ _) (λ_ _ h=>h)
def Nd A c xs x w(hx:cX w A xs)(f:xs.Pairwise (·<=·))(h1:xs.length<=1048576):
 aD ax 305 #[ad A xs.length c,J R x] w λe w'=>∃r,e=aA (bg #[J R (xs.countP (·<x):Nat),ak r])/\∃q,w'=w.drewN q:=by
 rcases lJ xs.length with a|a;·obtain rfl:=jH a;refine(Any.slices_BinarySearch_int_empty Tryz.acv A c x w).mono ?_;rintro e w' ⟨rfl,rfl⟩;exact⟨_,aa,0,aa⟩
 .obtain⟨b,off,rfl,hc⟩:=hx a;refine(Any.slices_BinarySearch_int Tryz.acv b off xs.length c xs x w (cm _) ae (λj d=>aT) aF).mono ?_;grind
open Go.ChangeMaps (setBlock heap_setBlock_same heap_setBlock_other)
open Go.Maps (Keyed)
section
variable {fc:Type} [DecidableEq fc] {P:Program} {k:TypeId} {enc:fc->aO} {ok:fc->Prop} {w w':aM} {b r:Nat} {bj:List (fc×aO)} {left:List fc}
def Over(w:aM)(b r:Nat)(enc:fc->aO)(ok:fc->Prop)(bj:List (fc×aO))(left:List fc):Prop:=
 dY w b enc ok bj/\left.Nodup/\(∀x∈left,∃v,ec bj x=ab v)/\∃es a since seen bZ,w.heap[b]?=ab (iO es a)/\w.heap[r]?=ab (JH (ab b) since seen bZ)/\
  (∀x∈es.toList,x.born<since)/\since<=bZ/\since<=a/\(A' es seen).toList.map (·.key)=left.map enc
def Over.acK(h:Over w b r enc ok bj left):dY w b enc ok bj:=h.1
def Over.left_eq(h:Over w b r enc ok bj left):w.rangeLeft b r=left.length:=by obtain⟨_,_,_,es,c,since,seen,bZ,hb,hr,_,_,_,a⟩:=h;simp only[World.rangeLeft,hb,hr];simpa using congrArg vg a
def Mo{left:List fc}(a:left.Nodup){x}(hx:x∈left):left.Perm (x::left.filter (λy=>!decide (y=x))):=aF
def Over.only{F}(h:Over w b r enc ok bj left)(k:ar F w w')(hb:¬F b)(hr:¬F r):Over w' b r enc ok bj left:=by obtain⟨h1,a,c,es,f,since,seen,bZ,d,e,rest⟩:=h;exact⟨h1.only k hb,a,c,es,_,_,_,bZ,k.heap d hb,k.heap e hr,rest⟩
omit [DecidableEq fc]in
def aqT{es:Array OI}(a:es.toList.map (λe=>(e.key,e.val))=bj.map (λp=>(enc p.1,p.2))):es.toList.map (·.key)=(bj.map (·.1)).map enc:=by have:=congrArg (List.map Prod.fst) a;simpa [GM,Jz]using this
def _root_.Go.Proofs.YtcmhplknoglbkaaGreat.dY.range{t e}(j:P.underlying t=ab (wA k e))(h:dY w b enc ok bj):
 ∃w',(Instr.range t (dE (ab b))).run P w=a7 (ay (ab ⟨w.heap.size,0,af⟩)) w'/\Over w' b w.heap.size enc ok bj (bj.map (·.1))/\aq w w'/\w'.heap.size=w.heap.size+1:=by
 have c:=h;have f:=h.nodup;have hlt:=h.lt;obtain⟨es,a,hb,i,hz,d,l⟩:=h;refine⟨_,run_range_map w t k e b es a j hb,⟨c.only (ar.alloc (F:=λ_=>False) _ _) (λh=>h),?_,λx hx=>?_,es,a,a,#[],a,((Ve w _).2 b hlt).trans hb,(Ve w _).1,((OJ es a).1 i).1,cm _,cm _,?_⟩,ar.alloc _ _,aT⟩;·grind
 .obtain⟨p,g,rfl⟩:=gV.1 hx;exact⟨_,xm f g⟩
 .have:A' es #[]=es:=by simp[A']
  rw[this];exact aqT d
def anQ{l:List OI}{f}:(l.filter (λe=>f e.key)).map (·.key)=(l.map (·.key)).filter f:=by rw[Qq];rfl
def Over.next(C:sj P k enc ok)(h:Over w b r enc ok bj left)ty:
 (left=[]/\(Instr.next (ay (ab ⟨r,0,af⟩)) au ty).run P w=a7 (bg #[ak au]) w)\/
 ∃x v w',x∈left/\ec bj x=ab v/\(Instr.next (ay (ab ⟨r,0,af⟩)) au ty).run P w=a7 (bg #[ak aB,enc x,v]) w'/\
  Over w' b r enc ok bj (left.filter (λy=>!decide (y=x)))/\ar (λi=>i=r) w w'/\w'.heap.size=w.heap.size/\(ago (ay (ab ⟨r,0,af⟩))).run P w'=a7 (bg #[enc x,v]) w':=by
 classical
 obtain⟨l,G,E,es,a,since,seen,bZ,hb,hr,hold,hsc,hsk,d⟩:=h;have hne:r≠b:=aF;have A:=l;obtain⟨u,t,hb',I,hz,B,L⟩:=A;rw[hb]at hb';obtain⟨rfl,rfl⟩:es=u/\a=t:=aF;rcases run_next_at (P:=P) w ty r b since bZ seen es a hr hb hold hsc with⟨K,hrun⟩|⟨e,m,w1,c,hrun⟩;·refine bH ⟨?_,hrun⟩;have h1:(A' es seen).toList=[]:=aF;rw[h1]at d;simpa using d.symm
 .obtain⟨n,hes⟩:=mem_left m;have F:e.key∈left.map enc:=d▸gV.2 ⟨e,m,aa⟩;obtain⟨x,hx,j⟩:=gV.1 F;have H:(e.key,e.val)∈bj.map (λp=>(enc p.1,p.2)):=B▸gV.2 ⟨e,n,aa⟩;obtain⟨p,M,o⟩:=gV.1 H;simp only[Prod.mk.injEq]at o;have N:p.1=x:=C.inj (o.1.trans j.symm);have D:ec bj x=ab e.val:=xm l.nodup aF;have hr1:w1.heap[r]?=ab (JH (ab b) since seen bZ):=by rcases c with rfl|rfl<;>exact hr
  have hb1:w1.heap[b]?=ab (iO es a):=by rcases c with rfl|rfl<;>exact hb
  have g:=heap_set (o':=JH (ab b) since (seen.push e.born) a) hr1;have hb2:(kR w1 r (JH (ab b) since (seen.push e.born) a)).heap[b]?=ab (iO es a):=(g.2 b (λbB=>hne bB.symm)).trans hb1
  have s:ar (λi=>i=r) w (kR w1 r (JH (ab b) since (seen.push e.born) a)):=by rcases c with rfl|rfl<;>exact⟨aa,aa,aa,by simp[kR],λi _ hi=>g.2 i hi⟩
  have hst:=(OJ es a).1 I;rw[<-j]at hrun;refine b1 ⟨x,_,_,hx,D,hrun,⟨l.only s (λbB=>hne bB.symm),G.filter _,λy J=>E y (nb.1 J).1,es,_,_,_,_,hb2,g.1,hold,hsk,hsk,?_⟩,s,?_,?_⟩
  .have bB:(A' es (seen.push e.born)).toList=(A' es seen).toList.filter (λz=>!decide (z.key=e.key)):=by unfold A';rw[afZ,afZ,List.filter_filter];refine DN (λz hz=>?_);grind[entry_eq_of_key,born_inj]
   rw[bB,anQ (f:=λkey=>!decide (key=e.key)),d,Qq];refine congrArg (List.map enc) (DN (λy _=>?_));simp only[Jz,<-j];by_cases q:y=x;·grind
   .have:¬enc y=enc x:=λh=>q (C.inj h);simp[q,this]
  .rcases c with rfl|rfl<;>simp[kR]
  .rw[j];exact run_entry_at _ r b _ _ es _ e g.1 hb2 n hst.2.1
theorem Zr{e f:Type}{p}{g:e->f}{x y}:∀{l:List e} {j},l[j]?=ab x->p y=p x->g y=g x->((l.set j y).filter p).map g=(l.filter p).map g
 |[],_,h,_,_=>by rfl
 |a::l,0,h,c,b=>by grind
 |a::l,j+1,h,c,b=>by
  have d:=Zr (l:=l) (j:=j) (by simpa using h) c b;rw[List.set_cons_succ,DO,DO];split;·rw[jx,jx,d]
  .exact d
def Over.put{t e}(C:sj P k enc ok)(J:P.underlying t=ab (wA k e))(h:Over w b r enc ok bj left){x}(hx:ok x)(F:∃v,ec bj x=ab v)v:
 ∃w',(Dh t (dE (ab b)) (enc x) v).run P w=a7 () w'/\Over w' b r enc ok (jY bj x v) left/\ar (λi=>i=b) w w'/\w'.heap.size=w.heap.size:=by
 obtain⟨c,H,hall,es,f,since,seen,bZ,hb,hr,hold,hsc,hsk,O⟩:=h;have hne:r≠b:=aF;obtain⟨Q,hlx⟩:=C.reads hx;have u:∀p∈bj,ok p.1:=by obtain⟨_,_,_,_,_,_,u⟩:=c;exact u
 have hzz:es.size<=maxLen:=by obtain⟨m,g,hb',_,hz,_⟩:=c;grind
 obtain⟨m,g,hb',I,hsz,B,D⟩:=c.find C hx;rw[hb]at hb';obtain⟨rfl,rfl⟩:es=m/\f=g:=aF;obtain⟨R,hv0⟩:=F;rcases D with⟨h1,n,o⟩|⟨j,dS,h1,n,o,M,A⟩;·grind
 .have hh:rZ bj x=true:=by grind[Iz]
  have G:∀a,es[j]?=ab a->({a with key:=enc x,val:=v}:OI).key=a.key:=λa q=>by grind
  have N:es.toList[j]?=ab dS:=aF;have K:(es.modify j (λa=>{a with key:=enc x,val:=v})).toList=es.toList.set j {dS with key:=enc x,val:=v}:=by grind[agi]
  refine⟨kR w b (iO (es.modify j (λa=>{a with key:=enc x,val:=v})) f),?_,⟨⟨_,_,Df hb _,stamped_modify I _ _ (λ_ _=>aa) (λa _ q=>G a q),aF,?_,?_⟩,H,λy L=>?_,
   _,_,since,seen,bZ,Df hb _,(De hb _ hne).trans hr,λy L=>?_,hsc,hsk,?_⟩,⟨aa,aa,aa,by simp[kR],λi _ hi=>De hb _ hi⟩,by simp[kR]⟩;·simp[Dh,gF J,zj hb,C.keyed.check w au hlx,h1,n,o,C.keyed.stays w hlx,FZ _ hb,kR]
  .rw[K,List.map_set,B];unfold jY;rw[if_pos hh];apply List.ext_getElem?;intro i;rw[List.getElem?_set,kB,kB,kB];by_cases s:j=i;·grind
   .rw[if_neg s];cases hi:bj[i]? with
    |none=>rfl
    |some p=>
     have hne:p.1≠x:=λl=>by
      have li:=(eQ.1 hi);have d:=(eQ.1 A);rcases Nat.lt_or_gt_of_ne s with hlt|E;·have:=l3.1 c.nodup j i d.1 li.1 hlt;rw[d.2,li.2]at this;exact this l.symm
      .have:=l3.1 c.nodup i j li.1 d.1 E;rw[d.2,li.2]at this;exact this l
     simp[hne]
  .intro p z;rcases As z with rfl|⟨z,_⟩;·omega
   .grind
  .grind[Tl]
  .grind
  .grind[A',Zr]
def Ti{b c:Type}(f:b->c):∀(l:List b) j,(l.eraseIdx j).map f=(l.map f).eraseIdx j
 |[],_=>aa
 |_::_,0=>aa
 |a::l,j+1=>by simp[Ti f l j]
def acL{x:fc}{v}:∀{bj j},bj.Pairwise (λp q=>p.1≠q.1)->bj[j]?=ab (x,v)->Aq bj x=bj.eraseIdx j
 |[],_,_,h=>by rfl
 |p::r,0,a,h=>by obtain rfl:p=(x,v):=aF;obtain⟨h1,_⟩:=vj.1 a;unfold Aq;grind[zE]
 |p::r,j+1,a,h=>by
  obtain⟨h1,c⟩:=vj.1 a;have hr:r[j]?=ab (x,v):=by simpa using h
  have d:p.1≠x:=h1 _ (cL hr);have b:=acL c hr;unfold Aq at b⊢;rw[DO];simp[d,b]
theorem acM{x:fc}{bj}(h:ec bj x=af):Aq bj x=bj:=
 zE.2 (λq a=>by grind[MD])
def _root_.Go.Proofs.YtcmhplknoglbkaaGreat.dY.drop{t e ty}(C:sj P k enc ok)(g:P.underlying t=ab (wA k e))(h:dY w b enc ok bj){x}(hx:ok x):
 ∃w',(U' #[t,k] ty #[dE (ab b),enc x]).run P w=a7 (bg #[]) w'/\dY w' b enc ok (Aq bj x)/\w.grownBy w' (ab b)/\w'.heap.size=w.heap.size:=by
 obtain⟨D,hlx⟩:=C.reads hx;have u:=h.nodup;have c:∀p∈bj,ok p.1:=by obtain⟨_,_,_,_,_,_,c⟩:=h;exact c
 have hzz:∃es a,w.heap[b]?=ab (iO es a)/\es.size<=maxLen:=by obtain⟨A,z,hb',_,hz,_⟩:=h;exact⟨_,_,hb',hz⟩
 obtain⟨m,l,hb0,hz0⟩:=hzz;obtain⟨es,a,hb,f,hsz,q,r⟩:=h.find C hx;rw[hb]at hb0;obtain⟨rfl,rfl⟩:es=m/\a=l:=aF;rcases r with⟨h1,d,n⟩|⟨j,dS,h1,d,n,B,o⟩
 .refine⟨_,?_,⟨es,_,Df hb _,f,hz0,?_,?_⟩,⟨aa,aa,aa,by simp[kR],λi _ hi=>De hb _ (λe=>hi (by rw[e]))⟩,by simp[kR]⟩;·simp[U',gF g,zj hb,C.keyed.check w _ hlx,h1,FZ _ hb,kR]
  .grind[acM]
  .grind[acM]
 .have s:j<es.size:=(pj.1 d).1
  have y:(es.eraseIdxIfInBounds j).toList=es.toList.eraseIdx j:=by unfold Array.eraseIdxIfInBounds;rw[dif_pos s];simp
  refine⟨_,?_,⟨_,_,Df hb _,stamped_erase f j,Nat.le_trans (MapFrom.size_erase es j) hz0,?_,?_⟩,⟨aa,aa,aa,by simp[kR],λi _ hi=>De hb _ (λe=>hi (by rw[e]))⟩,by simp[kR]⟩;·simp[U',gF g,zj hb,C.keyed.check w _ hlx,h1,FZ _ hb,kR]
  .rw[y,Ti,q,acL u o,Ti]
  .intro p v;exact c p (nb.1 v).1
section
variable {ops:Array Oper} {rest:List Oper} {o:Oper} {a:Act} {Q:Exit->Act->aM->Prop}
def afJ (c:o.guard=af) m (t e) (hop:o.op=Op.range t m) (f:P.underlying t=ab (wA k e)) (h:dY w b enc ok bj) (d:a.eval m=dE (ab b))
 (hK:∀w',Over w' b w.heap.size enc ok bj (bj.map (·.1))->aq w w'->w'.heap.size=w.heap.size+1->cG P ops Q rest (a.put o.dst (ay (ab ⟨w.heap.size,0,af⟩))) w'):cG P ops Q (o::rest) a w:=by
 refine Dq c λl hK'=>?_;obtain⟨w',hrun,g,i,j⟩:=h.range f;unfold hB;simp[bt,hop,d,hrun];exact hK' _ _ (hK w' g i j)
def afK (e:o.guard=af) c (hop:o.op=Op.next c au) (C:sj P k enc ok) (hit:a.eval c=ay (ab ⟨r,0,af⟩)) (h:Over w b r enc ok bj left)
 (aot:left=[]->cG P ops Q rest (a.put o.dst (bg #[ak au])) w)
 (aoG:∀x v w',x∈left->ec bj x=ab v->Over w' b r enc ok bj (left.filter (λy=>!decide (y=x)))->ar (λi=>i=r) w w'->w'.heap.size=w.heap.size->
   (ago (ay (ab ⟨r,0,af⟩))).run P w'=a7 (bg #[enc x,v]) w'->cG P ops Q rest (a.put o.dst (bg #[ak aB,enc x,v])) w'):cG P ops Q (o::rest) a w:=by
 refine Dq e λl hK'=>?_;unfold hB;rcases h.next C o.type with⟨d,hrun⟩|⟨x,v,w',hx,hv,hrun,f,g,j,hen⟩;·simp[bt,hop,hit,hrun];exact hK' _ _ (aot d)
 .simp[bt,hop,hit,hrun];exact hK' _ _ (aoG x v w' hx hv f g j hen)
def awn {t e} (c:o.guard=af) (m x v) (hop:o.op=Op.mapUpdate t m x v)
 (C:sj P k enc ok) (ht:P.underlying t=ab (wA k e)) (h:Over w b r enc ok bj left) (hm:a.eval m=dE (ab b)) {y} (hy:ok y) (cT:∃v,ec bj y=ab v) (hx:a.eval x=enc y) val (hv:a.eval v=val)
 (hK:∀w',Over w' b r enc ok (jY bj y val) left->ar (λi=>i=b) w w'->w'.heap.size=w.heap.size->cG P ops Q rest (a.put o.dst aY) w'):cG P ops Q (o::rest) a w:=by
 refine Dq c λj hK'=>?_;obtain⟨w',hrun,d,f,g⟩:=h.put C ht hy cT val;unfold hB;simp[bt,hop,hm,hx,hv,hrun];exact hK' _ _ (hK w' d f g)
def awm (c:o.guard=af) (m x) (t e) (hop:o.op=Op.call {callee:=Callee.builtin Builtin.delete,args:=#[m,x],argTypes:=#[t,k]})
 (C:sj P k enc ok) (ht:P.underlying t=ab (wA k e)) (h:dY w b enc ok bj) (hm:a.eval m=dE (ab b)) {y} (hy:ok y) (hx:a.eval x=enc y)
 (hK:∀w',dY w' b enc ok (Aq bj y)->w.grownBy w' (ab b)->w'.heap.size=w.heap.size->cG P ops Q rest (a.put o.dst (bg #[])) w'):cG P ops Q (o::rest) a w:=by
 refine Dq c λi hK'=>?_;obtain⟨w',hrun,d,f,g⟩:=h.drop (ty:=o.type) C ht hy;unfold hB;simp[bt,hop,resolve,invoke,builtin,hm,hx,hrun,Result.andThen];exact hK' _ _ (hK w' d f g)
end
end
end G
end Go.Proofs.YtcmhplknoglbkaaGreat
