/- Part 3 of the proof of TopConflictsSaid. -/
import Derived.RangeFuncWrites
import Derived.OrdersIn
import Derived.TacticsIn
import Derived.RangeFuncLeaves
import Derived.Deep.Cut
import Derived.Deep.LoopGhost
import Derived.Shelf.Abstract
import Derived.Lib.AppendZerosOnto
import Derived.Deep.AppendSrc
import Derived.Lib.JoinLaws
import Derived.Shelf.Bytes.SlEqualAll
import Derived.Shelf.Bytes.SlSmallAll
import Derived.Test.YtcmhplknoglbkaaGreatProg
import Derived.Test.YtcmhplknoglbkaaGreatQx0
import Derived.Test.YtcmhplknoglbkaaGreatQx1
import Derived.Test.YtcmhplknoglbkaaGreatQx2
set_option linter.all false
set_option maxRecDepth 100000
set_option maxHeartbeats 4000000
open Go.Proofs.Tryz
open Array renaming all_eq_true_iff_forall_mem->U5,size->ja
open BitVec renaming ofInt->nw
open Bool renaming false->ao,true->az
open Go renaming Act->bT,Addr->bQ,Calls->aD,Ending->wg,Exit->iD,FuncId->Bm,Oper->cU,Operand->iE,PanicEntry->rv,Program->ee,TypeId->gb,Value->aO,World->aM,asIntOf->zC,binOp->x8,bodyPostM->WI,bodyPost_ret->dp,builtin->qF,callFunc->km,callsIn_wide->sy,cell_of_row->fu,eqGuard->zD,execOp->bt,grownCap_ge->zE,grownCap_le_maxLen->zF,growslice_fits->Ka,heap_alloc_new->fz,invoke->nC,loadCellsFrom->Pv,maxLen->eh,resolve->nD,results_cell_row->jd,run_endLoop->Px,run_firstCells_some->Kf,run_underlying->gE,sizeOf->my,storeCells->Bz,typeInfo->mS,undef->a1,wpIn_region_lit->aiK,wpIn_wide->x',wpList->cL,wpListIn->tF,wpList_nil->an,wpList_step->ry,wp_region_lit->cm,yielded->cZ
open Go.Addr renaming add_mid->OS
open Go.Builtin renaming append_->oQ,firstCells->rr,lenOf->we,zeroCells->mQ
open Go.Callee renaming builtin->oR
open Go.Code renaming region->x1
open Go.Ending renaming returned->aB
open Go.Exit renaming normal->su
open Go.Fence renaming wide->mx
open Go.Fn renaming func->ed,yield->wh
open Go.Instr renaming beginRound->Vi,indexAt->Vk,sureAddr->Bn,yield->agH
open Go.IntKind renaming i64->R,u32->wi
open Go.IntWalk renaming i64_in->wj
open Go.LoopState renaming exhausted->Gw,ready->kl
open Go.Next renaming value->c9
open Go.Obj renaming cells->bl,deferred->jV,loop->fP
open Go.Op renaming binOp->nA,call->nB,indexAddr->DM,intArith->Vq,intDiv->O1,load->oc,store->zw
open Go.Oper renaming wp->ih
open Go.Operand renaming tmp->bj
open Go.Proofs.Lays renaming nb116->ayd
open Go.Proofs.Tryz renaming func235->VA,ntmps235->V3,prog->aw,underlying22->dL,underlying24->eA,underlying73->fy,underlying82->hR
open Go.Region renaming wanted->c6
open Go.Result renaming andThen_ok->jc,ok->a6
open Go.RowKit renaming Hid->aE,intOf->cy
open Go.Sem renaming run_bind->ga,run_pure->jK
open Go.Target renaming collected->DO
open Go.TypeDesc renaming array->wy,slice->iF
open Go.Value renaming agg->av,bool->ai,func->dC,int->J,pointer->ax,slice->ae,tuple->bm
open Int renaming ediv_le_self->ajW,ediv_nonneg->XL
open List.Perm renaming swap->yp
open List renaming eq_nil_of_length_eq_zero->j2,getElem?_append_left->wM,getElem?_append_right->o0,getElem?_cons_succ->vi,getElem?_eq_getElem->cC,getElem?_eq_some_iff->e5,getElem?_map->lr,getElem?_toArray->zV,map_append->gp,map_cons->jM,map_nil->kp,map_toArray->oo,mem_append->j3,mem_map->fL,mem_of_getElem?->cY,mem_singleton->wO,not_mem_nil->fQ,perm_append_comm->vm,perm_append_singleton->Hi,perm_middle->XX,range->dG,replicate->eU,setIfInBounds_toArray->akg,set_append_right->XY,take_add_one->gg,take_append_drop->o1,take_length->kH
open Nat renaming eq_zero_or_pos->lL,le_mul_of_pos_right->zW,le_refl->b4,lt_succ_self->X4,zero_add->jt,zero_le->cF
open Option renaming getD_some->vo,map_some->pR,none->af,some->ab,toList_some->z1
open Option.some renaming injEq->wR
open Or renaming inl->bM,inr->b8
open Prod.mk renaming injEq->o3
namespace Go.Proofs.YtcmhplknoglbkaaGreat
section
open Go.RowKit Go.MapKept
abbrev Fr(r:Option Nat):Fence:={mx with round:=r}
def te(o:cU):Bool:=match o.op with|.defer _=>ao|_=>az
def atp{o}(h:te o=az):∀c,o.op≠.defer c:=by grind[te]
section
variable {P:ee} {ops:Array cU} {rest:List cU} {Q:iD->bT->aM->Prop} {K0:bT->aM->Prop} {o:cU} {a bx:bT} {w:aM} {v:aO} {r:Option Nat} {n:Nat}
def alF{f args cp}(h:aD P f args w cp):CallsIn (Fr r) n P f args w cp:=
 have h2:CallsIn mx n P f args w cp:=sy.2 h
 h2
def aut{row args cp}(h:Rows P row args w cp):RowsIn (Fr r) n P row args w cp:=λc cs _=>by obtain⟨v,w',h1,h2⟩:=h c cs;have h3:=stepsIn_wide.2 h2;exact⟨v,w',h1,h3⟩
def zZ:iD->bT->aM->Prop:=λ_ _ _=>False
def M1{next next0}(hn:∀a w,next0 a w->next a w)(hp:te o=az)(h:o.wp P a w next0 (Exit.then K0 zZ)):o.wpIn (Fr r) n P a w next Q:=by
 refine⟨λ_ _=>trivial,?_⟩;rw[Oper.semAt_eq _ _ _ (atp hp)];unfold ih at h;generalize (bt a.eval o).run P w=x at*;cases x with
 |ok nx w'=>
  cases nx with
  |value u=>exact hn _ _ h
  |skip=>exact hn _ _ h
  |defer d=>exact hn _ _ h
  |enter f args=>exact⟨λh=>(by cases h),(alF h).mono λe aW h2=>by
   cases e with
   |returned v=>grind
   |panicked c=>exact h2.elim
   |outgrown=>obtain⟨_,_,h3⟩:=h2;exact h3.elim⟩
  |row row args=>exact⟨λh=>(by cases h),(aut h).mono λv aW h2=>hn _ _ h2⟩
  |_=>exact h.elim
 |halt hh w'=>cases hh<;>exact h.elim
theorem MC{C post}(h9:∀a w,C a w->tF (Fr r) n P ops Q post a w):∀(l) a w,l.all te=az->cL P ops (Exit.then C zZ) l a w->tF (Fr r) n P ops Q (l++post) a w
 |[],_,_,_,h=>h9 _ _ h
 |o::l,a,w,hp,h=>by
  simp only[List.all_cons,Bool.and_eq_true]at hp;unfold cL at h;show tF (Fr r) n P ops Q (o::(l++post)) a w;unfold tF;by_cases hw:c6 o (cZ ops a.tmps)=az
  .rw[if_pos hw]at h⊢;rcases h with h|⟨_,a2,aW,h⟩;·exact M1 (λbx w' h=>MC h9 l bx w' hp.2 h) hp.1 h
   .exact h.elim
  .rw[if_neg hw]at h⊢;exact⟨λ_ _=>trivial,MC h9 l _ _ hp.2 h⟩
def arw(k:Nat)(h:cL P ops (Exit.then (tF (Fr r) n P ops Q (rest.drop k)) zZ) (rest.take k) a w)(hp:(rest.take k).all te=true:=by kernel_rfl):tF (Fr r) n P ops Q rest a w:=by grind[MC,o1]
def s8(h:cL P ops (Exit.then (Q su) zZ) rest a w)(hp:rest.all te=true:=by kernel_rfl):tF (Fr r) n P ops Q rest a w:=by have h2:=MC (r:=r) (n:=n) (Q:=Q) (post:=[]) (λ_ _ h=>wpListIn_nil h) _ a w hp h;rwa [List.append_nil]at h2
def K5{md}(hp:ops.all te=az):∀(fuel) ez a w,wpAny P md ops (Exit.then (Q su) zZ) fuel ez a w->wpAnyIn (Fr r) n P md ops Q fuel ez a w
 |0,_,_,_,h=>h
 |fuel+1,ez,a,w,h=>by
  refine⟨h.1,λi hi=>?_⟩;have h2:=h.2 i hi;unfold wpOp at h2;unfold wpOpIn;cases ho:ops[i]? with
  |none=>
   rw[ho]at h2;exact K5 hp fuel _ _ _ h2
  |some o=>
   rw[ho]at h2
   have CJ:te o=true:=by obtain⟨hi,rfl⟩:=Array.getElem?_eq_some_iff.1 ho;exact Array.all_eq_true.1 hp i hi
   simp only at h2⊢;by_cases hw:c6 o (cZ ops a.tmps)=az
   .rw[if_pos hw]at h2⊢;rcases h2 with h|⟨_,a2,aW,h⟩;·exact M1 (λbx w' h=>K5 hp fuel _ bx w' h) CJ h
    .exact h.elim
   .rw[if_neg hw]at h2⊢;exact⟨λ_ _=>trivial,K5 hp fuel _ _ _ h2⟩
def jG{id:Nat}{l:List cU}{q:Nat}(h:cL P l.toArray (Exit.then (Q su) zZ) l a w)(hp:l.all te=true:=by kernel_rfl):(x1 id l.toArray ao).wpIn (Fr (ab q)) n P Q a w:=
 aiK (s8 h hp)
def Jt{id:Nat}{l:List cU}(k:Nat)(h:cL P l.toArray (Exit.then (tF (Fr af) 0 P l.toArray Q (l.drop k)) zZ) (l.take k) a w)(hp:(l.take k).all te=true:=by kernel_rfl):(x1 id l.toArray ao).wp P Q a w:=
 (x' (n:=0)).1 (aiK (F:=Fr af) (arw k h hp))
def UI {aq:aM} {FX:Nat->Prop} {bo:List bp} {I' q:Nat} {a0:bT} (I:ak aq FX w bo) (LE:List Nat) (bV:Nat->e7->aO) (out:(Nat->e7)->Nat->bp) (ins rd look:Nat->List Nat) (fin:List Nat)
 (h9:∀us,cM P ops (Exit.then (Q su) zZ) (ox ops) LE bV aq FX bo out ins rd fin (λ_ _=>False) us 0 ops.toList a0)
 (hloc:BR look out LE:=by(repeat' (first|exact trivial|refine And.intro (λus kA h=>?_) ?_|rfl|(simp(disch:=decide) only[h];done))))
 (hm:P.follows .mixedOrders=true:=by kernel_rfl) (hk:EA ops (ox ops) (yL ops)=true:=by kernel_rfl) (hsz:((dG ops.size).all λi=>match ox ops i with|some d=>decide (d<a0.tmps.size)|none=>LE.contains i)=true:=by kernel_rfl) (hs:FZ bo.length ops.size (yL ops) LE ins rd look fin=true:=by kernel_rfl)
 (hp:ops.all te=true:=by kernel_rfl):
 (x1 I' ops az).wpIn (Fr (ab q)) n P Q a0 w:=wpIn_region_any hm (K5 hp _ _ _ _ (UH I (yL ops) (ox ops) LE bV out ins rd look fin _ hk hsz hs (λ_ _ _ _ h=>h.elim) (hloc.spec) h9))
end
def obj(l:Nat)(o:Obj):bp:=⟨λb=>b=l,λw=>w.heap[l]?=ab o,λw w' h hl hp=>(h l aa (hl l aa)).trans hp⟩
def bK:List bp->bp
 |[]=>emp
 |t::l=>both t (bK l)
section
variable {aq w w':aM} {FX:Nat->Prop} {l l':List bp} {s t:bp}
def ak.bK(h:ak aq FX w (l++l')):ak aq FX w (bK l::l'):=by
 induction l with
 |nil=>exact h.dN
 |cons t l ca=>
  have h1:=h.perm (by simpa using(XX (l₁:=l) (a:=t) (l₂:=l')).symm);clear ca
  have key:∀(l) l',ak aq FX w (l++l')->ak aq FX w (Go.Proofs.YtcmhplknoglbkaaGreat.bK l::l'):=by
   intro l;induction l with
   |nil=>intro l' h;exact h.dN
   |cons t l ca=>
    intro l' h;have h2:=ca _ (h.perm (by simpa using(XX (l₁:=l) (a:=t) (l₂:=l')).symm));exact(h2.perm (yp _ _ _)).star
  exact key _ l' h
def ak.kT(h:ak aq FX w (Go.Proofs.YtcmhplknoglbkaaGreat.bK l::l')):ak aq FX w (l++l'):=by
 induction l generalizing l' with
 |nil=>exact h.drop 0
 |cons t l ca=>
  have h1:=h.fi;have h2:=ca (h1.perm (yp _ _ _));exact h2.perm a8
def ak.Ep(h:ak aq FX w (t::l)):ak aq FX w [t,Go.Proofs.YtcmhplknoglbkaaGreat.bK l]:=by have h1:=h.perm (by simpa using(XX (l₁:=l) (a:=t) (l₂:=[])).symm);exact h1.bK.perm (yp _ _ _)
def ak.uR(h:ak aq FX w [t,Go.Proofs.YtcmhplknoglbkaaGreat.bK l]):ak aq FX w (t::l):=by have h1:=(h.perm (yp _ _ _)).kT;exact h1.perm a8
def aso{q o}o'(h:q<w.heap.size):Turned w (w.putObj q o') (obj q o) (obj q o'):=
 ⟨⟨rfl,rfl,rfl,a8,λk _ hk=>World.putObj_heap_other (λe=>hk e)⟩,World.putObj_heap_same h,λb hb=>⟨by have e:b=q:=hb;rw[e];simpa using h,bM hb⟩⟩
def ak.putObj{q o}(h:ak aq FX w l)i o'(hi:l[i]?=ab (obj q o)):ak aq FX (w.putObj q o') (l.set i (obj q o')):=
 h.Dg i hi (aso o' ((h.has i hi).2 q aa))
def ak.obj{q:Nat}{o:Obj}(h:ak aq FX w l)(i:Nat)(hi:l[i]?=ab (obj q o):=by rfl):w.heap[q]?=ab o:=h.at i hi
def ak.newObj o(h:ak aq FX w l):ak aq FX (w.alloc o) (Go.Proofs.YtcmhplknoglbkaaGreat.obj w.heap.size o::l):=
 h.new _ ⟨au.alloc _ _,World.alloc_heap_new _ _,λb hb=>⟨by have e:b=w.heap.size:=hb;omega,by have e:b=w.heap.size:=hb;rw[e,World.size_alloc];omega⟩⟩
end
section
variable {α:Type} {P:ee} {g:Nat} {lb:Array aO} {encs:α->Array aO} {aq:aM} {FX:Nat->Prop}
def akq(P:ee)(l:Nat)(encs:α->Array aO)(aq:aM)(FX:Nat->Prop)(S gH:List α->bp->Prop)(xs:List α):Prop:=
 ∀pre x W F t,pre++[x]<+:xs->S pre t->ak aq FX W [t,F]->YieldAt (Fr af) 0 P l (encs x) W λe cP=>(e=aB (ai az)/\∃b7,S (pre++[x]) b7/\ak aq FX cP [b7,F])\/(e=aB (ai ao)/\∃b7,gH (pre++[x]) b7/\ak aq FX cP [b7,F])
def sI(aq:aM)(FX:Nat->Prop)(S gH:List α->bp->Prop)(kJ:bp->Prop)(xs:List α)(F:bp)(e:wg)(cP:aM):Prop:=
 (∃v,e=aB v)/\((∃b7 u,S xs b7/\kJ u/\ak aq FX cP [b7,u,F])\/∃pre b7 u,pre<+:xs/\gH pre b7/\ak aq FX cP [b7,u,F])
def sI.all{S gH kJ}{xs:List α}{F t u v cP}(hS:S xs t)(bL:kJ u)(I:ak aq FX cP [t,u,F]):sI aq FX S gH kJ xs F (aB v) cP:=⟨⟨_,aa⟩,bM ⟨_,_,hS,bL,I⟩⟩
theorem sI.cut{S gH kJ}{xs pre:List α}{F t u v cP}(hp:pre<+:xs)(hS:gH pre t)(I:ak aq FX cP [t,u,F]):sI aq FX S gH kJ xs F (aB v) cP:=⟨⟨_,aa⟩,b8 ⟨_,_,_,hp,hS,I⟩⟩
def wT(P:ee)(g:Nat)(lb:Array aO)(encs:α->Array aO)(aq:aM)(FX:Nat->Prop)(T:bp)(kJ:bp->Prop)(xs:List α):Prop:=
 ∀(l:Nat) (S gH:List α->bp->Prop) (W:aM) (F t:bp),akq P l encs aq FX S gH xs->S [] t->ak aq FX W [T,t,F]->
  aD P g (#[dC (wh l) #[] #[]]++lb) W (sI aq FX S gH kJ xs F)
def aeH(aq:aM)(FX:Nat->Prop)(S:List α->bp->Prop)(gH:Code->List α->bp->Prop)(xs:List α)(b F:bp):iD->bT->aM->Prop
 |.normal,_,W=>∃t,S xs t/\ak aq FX W [t,b,F]
 |.ret,_,W=>∃t,gH .ret xs t/\ak aq FX W [t,b,F]
 |.exit id,_,W=>∃t,gH (.exit id) xs t/\ak aq FX W [t,b,F]
 |.goto q,_,W=>∃t,gH (.goto q) xs t/\ak aq FX W [t,b,F]
 |.panic _,_,_=>False
 |.outgrown,_,_=>False
def Ab{w:aM}{L:List bp}{q:Nat}{rd:Loop}{C:aM->Prop}(I:ak aq FX w L)(i:Nat)(hr:rd.state=kl)(h:∀w',ak aq FX w' (L.set i (obj q (fP {rd with state:=.busy})))->C w')(hi:L[i]?=ab (obj q (fP rd)):=by rfl):∃w',(Vi q).run P w=a6 () w'/\C w':=
 ⟨_,run_beginRound (I.obj i hi) hr,h _ (I.putObj i _ hi)⟩
def Gd {HH:iE} {ps:Array Tmp} {assign body:Code} {Q:iD->bT->aM->Prop} {se:Array aO} {ds:List Deferred} {w:aM} {xs:List α} {T:bp} {kJ:bp->Prop} {t F:bp} {ji:α->Array aO}
 (hg:(Act.mk se ds).eval HH=dC (ed g) #[] lb) (gq:∀args w,(km g args).run P w=a6 (.enter g args) w) (r4:∀x,(encs x).size=ps.size) (hseq:wT P g lb encs aq FX T kJ xs)
 (S:List α->bp->Prop) (gH:Code->List α->bp->Prop) (h0:S [] t) (I:ak aq FX w [T,t,F])
 (S1:∀(l:Nat) (rd:Loop) (pre:List α) (x:α) (W:aM) (t F:bp),pre++[x]<+:xs->rd.state=kl->S pre t->ak aq FX W [t,obj l (fP rd),F]->
   assign.wpIn (Fr (ab l)) 0 P (Exit.then (λfX w1=>∃aW,(Vi l).run P w1=a6 () aW/\body.wpIn (Fr (ab l)) 0 P (aeH aq FX S gH (pre++[x]) (obj l (fP {rd with state:=.busy})) F) fX aW) (λ_ _ _=>False))
    {tmps:=ji x,defers:=[]} W)
 (hdone:∀D t u W,S xs t->kJ u->ak aq FX W [t,u,obj D (jV (ab [])),F]->Q su {tmps:=se,defers:={target:=DO D,args:=#[]}::ds} W)
 (S3:∀D c pre t u W,pre<+:xs->gH c pre t->ak aq FX W [t,u,obj D (jV (ab [])),F]->c.wp P Q {tmps:=se,defers:={target:=DO D,args:=#[]}::ds} W)
 (hat:∀x,(ps.zip (encs x)).foldl (λt (p,v)=>t.setIfInBounds p v) se=ji x:=by(intro _;simp only[List.zip_toArray,List.zip_cons_cons,List.zip_nil_right,List.foldl_toArray',List.size_toArray,List.foldl_cons,List.foldl_nil,List.setIfInBounds_toArray,List.set_cons_succ,List.set_cons_zero];rfl)):
 (Code.rangeFunc HH ps assign body).wp P Q {tmps:=se,defers:=ds} w:=by
 refine(x' (n:=0)).1 (wpIn_rangeFunc ?_);intro fn hfn;obtain⟨rec,nh⟩:∃rec:LoopState->Option Code->Loop,rec=λst aI=>{state:=st,pending:=aI,fn,tmps:=se,params:=ps,assign,body,defers:=w.heap.size}:=⟨_,aa⟩;obtain⟨D,dQ⟩:=ex w.heap.size;obtain⟨l,hl⟩:=ex ((w.alloc (jV (ab []))).heap.size);have G8:=I.newObj (jV (ab []));have kY:=G8.newObj (fP (rec kl af));have SB:l=w.heap.size+1:=by rw[<-hl];simp
 rw[hl,dQ]at kY;obtain⟨hW,HV⟩:=ex ((w.alloc (jV (ab []))).alloc (fP (rec kl af)));rw[HV]at kY
 refine⟨l,[{target:=DO D,args:=#[]}],hW,{target:=.fn (ed g) lb,args:=#[dC (wh l) #[] #[]]},hW,g,
  #[dC (wh l) #[] #[]]++lb,hW,?_,?_,?_,?_,λh=>(by cases h),?_⟩;·rw[<-HV,nh,SB,<-dQ];exact run_enterLoop_outer _ _ _ _ _
 .simp only[nD,hg];simp[go_sem]
 .intro _ _;trivial
 .grind[nC]
 .refine sy.2 ((hseq l (λpre t=>∃t2,S pre t2/\t=both t2 (obj l (fP (rec kl af)))) (λpre t=>∃t2 c,gH c pre t2/\t=both t2 (obj l (fP (rec .done (ab c))))) hW (both (obj D (jV (ab []))) F) _ ?_ ⟨t,h0,aa⟩ ?_).mono ?_)
  .rintro pre x W Bk _ eO ⟨t2,hs,rfl⟩ hst;have h1:=hst.fi;have Cy:=h1.obj 1;have hy:=run_yield (P:=P) (args:=encs x) Cy aF;rw[nh]at hy;refine⟨fn,_,assign,body,hy,roundIn_of_wpIn hfn (wpIn_mono ((hat x).symm▸S1 l (rec kl af) pre x W t2 Bk eO aF hs h1) ?_)⟩;rintro e fX w1 he;cases e with
   |normal=>
    obtain⟨aW,hb,Sd⟩:=he;refine⟨aW,hb,wpIn_mono Sd ?_⟩
    have fin:∀(jump) gX t3,ak aq FX gX [t3,obj l (fP {rec kl af with state:=.busy}),Bk]->(Instr.endRound l _).run P gX=a6 _ (gX.putObj l (fP (rec _ _)))/\
     ak aq FX _ _:=λjump gX t3 h3=>by
     have hr:=run_endRound (P:=P) jump (h3.obj 1);have h4:ak aq FX _ [t3,obj l _,Bk]:=h3.putObj 1 (fP (rec (if jump.isNone then kl else .done) jump)) aa;refine⟨?_,h4.star⟩;rw[hr,nh]
    rintro e a3 gX hp;cases e with
    |normal=>
     obtain⟨t3,hs3,h3⟩:=hp;obtain⟨hr,h4⟩:=fin af gX t3 h3;exact⟨_,_,hr,bM ⟨aa,_,⟨t3,hs3,aa⟩,h4⟩⟩
    |ret=>
     obtain⟨t3,hs3,h3⟩:=hp;obtain⟨hr,h4⟩:=fin (ab .ret) gX t3 h3;exact⟨_,_,hr,b8 ⟨aa,_,⟨t3,_,hs3,aa⟩,h4⟩⟩
    |exit id=>
     obtain⟨t3,hs3,h3⟩:=hp;obtain⟨hr,h4⟩:=fin (ab (.exit id)) gX t3 h3;exact⟨_,_,hr,b8 ⟨aa,_,⟨t3,_,hs3,aa⟩,h4⟩⟩
    |goto q=>
     obtain⟨t3,hs3,h3⟩:=hp;obtain⟨hr,h4⟩:=fin (ab (.goto q)) gX t3 h3;exact⟨_,_,hr,b8 ⟨aa,_,⟨t3,_,hs3,aa⟩,h4⟩⟩
    |panic ch=>exact hp.elim
    |outgrown=>exact hp.elim
   |_=>exact he.elim
  .have h2:=kY;have h3:ak aq FX hW [t,obj l _,obj D _,F,T]:=h2.pick [3,0,1,4,2];have h4:ak aq FX hW [obj D _,F,T,both t _]:=h3.star.pick [1,2,3,0];exact h4.star.pick [1,2,0]
  .rintro e eE ⟨⟨v,rfl⟩,(⟨_,u,⟨t2,hs,rfl⟩,bL,hst⟩|⟨pre,_,u,eO,⟨t2,c,hs,rfl⟩,hst⟩)⟩;·have h1:=hst.fi;have h2:=(h1.pick (l':=[both _ F,t2,obj l _,u]) [3,0,1,2]).fi;have h3:=h2.putObj 3 (fP {rec kl af with state:=Gw}) aa;refine⟨af,_,by have:=Px (P:=P) (h2.obj 3) aF;rw[nh]at this;exact this,?_⟩;have h4:=hdone D t2 u _ hs bL ((ak.pick (l:=_) h3 [2,4,0,1]));rw[nh]at h4;exact h4
   .have h1:=hst.fi;have h2:=(h1.pick (l':=[both _ F,t2,obj l _,u]) [3,0,1,2]).fi;have h3:=h2.putObj 3 (fP {rec .done (ab c)with state:=Gw}) aa;refine⟨ab c,_,by have:=Px (P:=P) (h2.obj 3) aF;rw[nh]at this;exact this,?_⟩;have h4:=S3 D c _ t2 u _ eO hs ((ak.pick (l:=_) h3 [2,4,0,1]));grind[x']
def at_region{F n id ops d Q a w}(h:(x1 id ops d).wpIn F n P Q a w):(x1 id ops d).wpIn F n P Q a w:=h
def ak.YF{w a b c}(h:ak aq FX w (a++(b++c))):ak aq FX w [Go.Proofs.YtcmhplknoglbkaaGreat.bK a,Go.Proofs.YtcmhplknoglbkaaGreat.bK b,Go.Proofs.YtcmhplknoglbkaaGreat.bK c]:=by
 have h1:=h.bK.perm (by simpa using(Hi (Go.Proofs.YtcmhplknoglbkaaGreat.bK a) (b++c)).symm)
 have h2:=h1.bK.perm (by have:=(Hi (Go.Proofs.YtcmhplknoglbkaaGreat.bK b) (c++[Go.Proofs.YtcmhplknoglbkaaGreat.bK a])).symm;simpa using this);exact h2.bK.pick [1,2,0]
def ak.B2{w t b c}(h:ak aq FX w (t::(b++c))):ak aq FX w [t,Go.Proofs.YtcmhplknoglbkaaGreat.bK b,Go.Proofs.YtcmhplknoglbkaaGreat.bK c]:=
 (ak.YF (a:=[t]) h).kT
def ak.fv{w l}k(h:ak aq FX w l):ak aq FX w (Go.Proofs.YtcmhplknoglbkaaGreat.bK (l.take k)::l.drop k):=ak.bK (by grind[o1])
def F8{A B b}(h:(aB b=aB (ai az)/\A)\/(aB b=aB (ai ao)/\B)):(b=ai az/\A)\/(b=ai ao/\B):=aF
def EC{o}{a:bT}{w l x xs ty encs}(ho:o.op=nB {callee:=.value x,args:=xs,argTypes:=ty})(hx:a.eval x=dC (wh l) #[] #[])(has:xs.map a.eval=encs):(bt a.eval o).run P w=(agH l encs).run P w:=by grind[bt,nD,Deferred.ofValue,nC]
def Gf {o:cU} {a:bT} {w:aM} {l:Nat} {encs:Array aO} {Q:iD->bT->aM->Prop} {ops:Array cU} {rest:List cU} {cp:wg->aM->Prop} (hy:YieldAt (Fr af) 0 P l encs w cp)
 (hK:∀b w',cp (aB b) w'->tF (Fr af) 0 P ops Q rest (a.put o.dst b) w') (fo:∀e w',cp e w'->∃v,e=aB v) (hx:(bt a.eval o).run P w=(agH l encs).run P w) (hw:c6 o (cZ ops a.tmps)=true:=by kernel_rfl):tF (Fr af) 0 P ops Q (o::rest) a w:=by
 obtain⟨fn,tmps,assign,body,h1,h2⟩:=hy;unfold tF;rw[if_pos hw];refine⟨λ_ _=>trivial,?_⟩;show Oper.uponIn _ _ _ _ _ _ _ ((Oper.semAt af a.eval o).run P w);rw[Oper.semAt_none,hx,h1];refine⟨λh=>(by cases h),h2.1,λc cs hr=>?_⟩;obtain⟨e,w',hr2,hs⟩:=h2.2 c cs hr;obtain⟨v,rfl⟩:=fo e w' hr2;exact⟨aB v,w',hK v w' hr2,hs⟩
def Ag {f fn c args w cp} (hf:P.funcs[f]?=ab fn) (hb:fn.body=ab c)
 (h:c.wp P (WI (Fr af) 0 P fn cp) {tmps:=args++Array.replicate (fn.ntmps -args.size) a1,defers:=[]} w):aD P f args w cp:=
 (sy (n:=0)).1 (callsIn_of_wp_marks hf hb trivial (x'.2 h) aa)
def xw {fn:Func} {cp:wg->aM->Prop} {a:bT} {w:aM} {L:List bp} {D:Nat} {v:aO} (I:ak aq FX w L) (i:Nat) (h:∀w',ak aq FX w' (L.set i (obj D (jV af)))->(results fn a.tmps).run P w'=a6 v w'/\cp (aB v) w')
 (hd:a.defers=[{target:=DO D,args:=#[]}]:=by rfl) (hi:L[i]?=ab (obj D (jV (ab []))):=by rfl):WI (Fr af) 0 P fn cp .ret a w:=by
 show LeavesInM _ _ _ _ _ _ a.defers _ _;rw[hd];obtain⟨h1,h2⟩:=h _ (I.putObj i (jV af) hi);exact⟨a8,bM ⟨D,_,aa,run_takeDeferred (I.obj i hi),⟨v,h1,h2⟩⟩⟩
def arK{fn:Func}{cp:wg->aM->Prop}{a:bT}{w:aM}{v:aO}(h1:(results fn a.tmps).run P w=a6 v w)(h2:cp (aB v) w)(hd:a.defers=[]:=by rfl):WI (Fr af) 0 P fn cp .ret a w:=by show LeavesInM _ _ _ _ _ _ a.defers _ _;rw[hd];exact⟨v,h1,h2⟩
end
end
section
open Go.RowKit Go.MapKept
abbrev cd(x:Int):Value:=J wi x
def ks(x:Int):Int:=wi.wrap x
def a32(x y:Int):Int:=wi.wrap (x+y)
def kB(x y:Int):Int:=wi.wrap ((nw 32 x^^^nw 32 y).toNat:Int)
def n32(x y:Int):Int:=wi.wrap ((nw 32 x&&& nw 32 y).toNat:Int)
def xD(x y:Int):Int:=wi.wrap ((nw 32 x|||BitVec.ofInt 32 y).toNat:Int)
def vT(x:Int)(n:Nat):Int:=wi.wrap (x*2^n)
def ke(x:Int)(n:Nat):Int:=x.fdiv (2^n)
def kS(x:Int)(n:Nat):Int:=xD (vT x n) (ke x (32 -n))
section
variable {U:Int->aO} {L:List Int} {tail:List aO}
def aZ(U:Int->aO)(L:List Int)(tail:List aO):Array Value:=(L.map U++tail).toArray
def KY{i}(h:i<L.length):(aZ U L tail)[i]?=ab (U (L[i]?.getD 0)):=by grind[aZ,wM]
def sJ{k v n}(hn:L.length=n)(h:tail[k]?=ab v):(aZ U L tail)[n+k]?=ab v:=by grind[aZ]
def akx{i}(h:i<L.length)v:(aZ U L tail).setIfInBounds i (U v)=aZ U (L.set i v) tail:=by grind[aZ]
def aky{k n}(hn:L.length=n)v:(aZ U L tail).setIfInBounds (n+k) v=aZ U L (tail.set k v):=by grind[aZ]
theorem kr:(aZ U L tail).size=L.length+tail.length:=by simp[aZ]
def Q7(sY:∀x,(U x).oneCell'=az)(ht:∀v∈tail,v.oneCell'=az):(aZ U L tail).all (·.oneCell')=true:=by rw[U5];intro v hv;have hv':=List.mem_toArray.1 hv;grind
end
section
variable {P:ee} {o:cU} {a:bT} {w:aM}
def mZ t(x y)b7(ho:o.op=nA .add t x y b7)(p q z)(hx:a.eval x=J R p)(hy:a.eval y=J R q)(hz:p+q=z)(h1:-9223372036854775808<=z)(h2:z<=9223372036854775807):
 (bt a.eval o).run P w=a6 (c9 (J R z)) w:=by
 have hw:R.wrap (p+q)=z:=by grind[wj]
 unfold bt;simp[ho,hx,hy,zD,x8,Vq,hw]
def qQ t(x y)b7(ho:o.op=nA .sub t x y b7)(p q z)(hx:a.eval x=J R p)(hy:a.eval y=J R q)(hz:p -q=z)(h1:-9223372036854775808<=z)(h2:z<=9223372036854775807):
 (bt a.eval o).run P w=a6 (c9 (J R z)) w:=by
 have hw:R.wrap (p -q)=z:=by grind[wj]
 unfold bt;simp[ho,hx,hy,zD,x8,Vq,hw]
def nM t(x y)b7(ho:o.op=nA .mul t x y b7)(p q z)(hx:a.eval x=J R p)(hy:a.eval y=J R q)(hz:p*q=z)(h1:-9223372036854775808<=z)(h2:z<=9223372036854775807):
 (bt a.eval o).run P w=a6 (c9 (J R z)) w:=by
 have hw:R.wrap (p*q)=z:=by grind[wj]
 unfold bt;simp[ho,hx,hy,zD,x8,Vq,hw]
def akG:∀n:Nat,n<128->R.wrap ((nw 64 (n:Int)&&& nw 64 15).toNat:Int)=((n%16:Nat):Int):=by decide+kernel
def Em t(x y)b7(ho:o.op=nA .and t x y b7)(n:Nat)(hx:a.eval x=J R (n:Int))(hy:a.eval y=J R 15)(hn:n<128)k(hk:n%16=k):
 (bt a.eval o).run P w=a6 (c9 (J R (k:Int))) w:=by
 have hw:=akG n hn;rw[hk]at hw;unfold bt;simp only[ho,hx,hy,zD,x8];show a6 (c9 (J R (R.wrap ((nw 64 (n:Int)&&& nw 64 15).toNat:Int)))) w=_;rw[hw]
def aqP(t e sz m:Nat)(x k7)(ho:o.op=DM t x k7)(ht:P.underlying t=ab (wy m e))(hs:(P.info? e).map (·.size)=ab sz)(b off i k:Nat)(hx:a.eval x=ax (ab ⟨b,off,af⟩))(hi:a.eval k7=J R (i:Int))(h:i<m)(hk:off+i*sz=k):
 (bt a.eval o).run P w=a6 (c9 (ax (ab ⟨b,k,af⟩))) w:=by
 cases hq:P.info? e with
 |none=>grind
 |some tk=>
  have hsz:tk.size=sz:=aF;subst hk;have nP:(⟨b,off,_⟩:bQ).add (i*sz)=⟨b,_,_⟩:=OS _ _ _;unfold bt;simp[ho,hx,hi,Vk,Bn,zC,ga,gE ht,my,mS,hq,hsz,nP];intro h2;omega
def Tj (t e m:Nat) (x k7) (ho:o.op=.index t x k7) (ht:P.underlying t=ab (wy m e)) (he:(P.underlying e).map (λ|.struct _|.array _ _=>az|_=>ao)=ab ao) (hs:(P.info? e).map (·.size)=ab 1)
 U L (i:Nat) (hx:a.eval x=av (aZ U L [])) (hi:a.eval k7=J R (i:Int)) (h:i<m) (cz:L.length=m):
 (bt a.eval o).run P w=a6 (c9 (U (L[i]?.getD 0))) w:=by
 cases hq:P.info? e with
 |none=>grind
 |some tk=>
  have hsz:tk.size=1:=aF;cases hd:P.underlying e with
  |none=>grind
  |some d=>
   rw[hd]at he;have hg:(aZ U L [])[i]?=ab _:=KY ad;have hb:¬(m:Int)<=(i:Int):=ad;have h1:(i:Int)<(m:Int):=ad;unfold bt;simp only[ho,hx,hi,Instr.index,zC,ga,gE ht,jK,jc];rw[if_pos ⟨ad,h1⟩];simp only[my,mS,ga,jK,jc,part,isAgg,gE hd];cases d<;>simp_all
def ars (ty e) n x (ho:o.op=oc ty x) B (hx:a.eval x=ax (ab ⟨B,0,af⟩)) {t U L tail} (hg:aU w B (aZ U L tail) t) (cz:L.length=n)
 (hu:P.underlying ty=ab (wy n e)) (hi:(P.info? ty).map (·.size)=ab n):(bt a.eval o).run P w=a6 (c9 (av (aZ U L []))) w:=by
 have h:=eC (P:=P) (o:=o) (a:=a) (w:=w) ty x ho B 0 hx _ (d:=_) (λj v hv=>by rw[jt];refine aU.cell hg j ?_;simp only[aZ,zV];rw[wM (e5.1 hv).1];exact hv) hu aa (by rw[hi];simp[cz]);rw[h];simp[aZ]
variable {K:bT->aM->Prop} {Q:iD->bT->aM->Prop}
end
end
section
open Go.RowKit Go.MapKept
def nth:List bp->Nat->(Nat->bp)->bp
 |[],n,f=>f n
 |t::_,0,_=>t
 |_::l,n+1,f=>nth l n f
def adt t l f:nth (t::l) 0 f=t:=rfl
theorem TM t l n f:nth (t::l) (n+1) f=nth l n f:=rfl
def adv n f:nth [] n f=f n:=rfl
def uM(f:Nat->bp):List Nat->List bp
 |[]=>[]
 |n::l=>f n::uM f l
def ae2 f:uM f []=[]:=rfl
theorem Up f n l:uM f (n::l)=f n::uM f l:=rfl
def asi bo out us:∀n,dk bo out us n=nth bo n (out us):=by
 intro n;unfold dk
 have key:∀(l) n f,(match l[n]? with|some t=>t|none=>f (n -l.length))=nth l n f:=by
  intro l;induction l with
  |nil=>intro n f;rfl
  |cons t l ca=>
   intro n f;cases n with
   |zero=>rfl
   |succ n=>grind[TM]
 exact key bo n _
theorem au8 bo out us fin:fin.map (dk bo out us)=uM (λn=>nth bo n (out us)) fin:=by
 induction fin with
 |nil=>rfl
 |cons n l ca=>rw[jM,ca,asi];rfl
section
variable {P:ee} {ops:Array cU} {Q:iD->bT->aM->Prop} {aq:aM} {FX:Nat->Prop} {dst:Nat->Option Tmp} {LE:List Nat} {bV:Nat->e7->aO} {bo l':List bp} {out:(Nat->e7)->Nat->bp} {ins rd:Nat->List Nat} {fin:List Nat} {QP:List rv->aM->Prop} {us:Nat->e7} {i:Nat} {a:bT}
def bU(h:∀w',ak aq FX w' l'->Q su a w')(hl:uM (λn=>nth bo n (out us)) fin=l':=by(simp only[ae2,Up,adt,TM,adv];rfl)):cM P ops Q dst LE bV aq FX bo out ins rd fin QP us i [] a:=
 pv (λw' I=>h w' (by grind[au8]))
end
section
variable {aq w:aM} {FX:Nat->Prop} {l l' L r:List bp} {a b c d:bp}
def MU(l:List bp)(n:Nat):bp:=nth l n λ_=>emp
theorem adu:∀{l} {n},n<l.length->l[n]?=ab (MU l n)
 |_::_,0,_=>aa
 |_::l,n+1,h=>by rw[vi];exact adu (l:=l) (by simpa using h)
def atg(h:ak aq FX w l)idx(h1:(idx.all λn=>decide (n<l.length))=az)(h2:decide idx.Nodup=az):ak aq FX w (uM (MU l) idx):=by
 refine h.pick _ ?_ h2;clear h2;induction idx with
 |nil=>rfl
 |cons n idx ca=>grind[Up,adu]
def ak.pk(h:ak aq FX w l)(idx:List Nat)(hl:uM (MU l) idx=L:=by(simp only[ae2,Up,MU,adt,TM,adv];rfl))(h1:(idx.all λn=>decide (n<l.length))=true:=by kernel_rfl)(h2:decide idx.Nodup=true:=by kernel_rfl):ak aq FX w L:=hl▸atg h idx h1 h2
def ak.Nx(l l')(h:ak aq FX w (l++l')):ak aq FX w (l++[Go.Proofs.YtcmhplknoglbkaaGreat.bK l']):=by have h1:=h.perm vm;exact h1.bK.perm (by simpa using(Hi (Go.Proofs.YtcmhplknoglbkaaGreat.bK l') l).symm)
def ak.ND(l l')(h:ak aq FX w (l++[Go.Proofs.YtcmhplknoglbkaaGreat.bK l'])):ak aq FX w (l++l'):=by have h1:=h.perm (Hi _ _);exact h1.kT.perm vm
def ak.t1(h:ak aq FX w (a::r)):ak aq FX w [a,Go.Proofs.YtcmhplknoglbkaaGreat.bK r]:=h.Nx [a] r
def ak.t2(h:ak aq FX w (a::b::r)):ak aq FX w [a,b,Go.Proofs.YtcmhplknoglbkaaGreat.bK r]:=h.Nx [a,b] r
def ak.t3(h:ak aq FX w (a::b::c::r)):ak aq FX w [a,b,c,Go.Proofs.YtcmhplknoglbkaaGreat.bK r]:=h.Nx [a,b,c] r
def ak.t4(h:ak aq FX w (a::b::c::d::r)):ak aq FX w [a,b,c,d,Go.Proofs.YtcmhplknoglbkaaGreat.bK r]:=h.Nx [a,b,c,d] r
def ak.df(h:ak aq FX w [a,Go.Proofs.YtcmhplknoglbkaaGreat.bK r]):ak aq FX w (a::r):=h.ND [a] r
def ak.br(h:ak aq FX w [a,b,Go.Proofs.YtcmhplknoglbkaaGreat.bK r]):ak aq FX w (a::b::r):=h.ND [a,b] r
def ak.lh(h:ak aq FX w [a,b,c,Go.Proofs.YtcmhplknoglbkaaGreat.bK r]):ak aq FX w (a::b::c::r):=h.ND [a,b,c] r
def ak.oN(h:ak aq FX w [a,b,c,d,Go.Proofs.YtcmhplknoglbkaaGreat.bK r]):ak aq FX w (a::b::c::d::r):=h.ND [a,b,c,d] r
def ak.kg(h:ak aq FX w (Go.Proofs.YtcmhplknoglbkaaGreat.bK l::l'))(hl:l++l'=L:=by(simp only[List.cons_append,List.nil_append];rfl)):ak aq FX w L:=hl▸h.kT
end
section
variable {P:ee} {ops:Array cU} {rest:List cU} {Q:iD->bT->aM->Prop} {o:cU} {a bx:bT} {w:aM}
def pk (v:aO) (h:cL P ops Q rest bx w) (hr:(bt a.eval o).run P w=a6 (c9 v) w:=by(show _=_;kernel_rfl)) (hw:c6 o (cZ ops a.tmps)=true:=by kernel_rfl)
 (ha:a.put o.dst v=bx:=by((try simp only[Act.put,List.setIfInBounds_toArray,List.set_cons_zero,List.set_cons_succ]);rfl)):cL P ops Q (o::rest) a w:=ag h hw hr ha
def bu (v:aO) (h:cL P ops Q rest bx w) (hr:(bt a.eval o).run P w=a6 (c9 v) w:=by(go_simp;try omega)) (hw:c6 o (cZ ops a.tmps)=true:=by kernel_rfl)
 (ha:a.put o.dst v=bx:=by((try simp only[Act.put,List.setIfInBounds_toArray,List.set_cons_zero,List.set_cons_succ]);rfl)):cL P ops Q (o::rest) a w:=ag h hw hr ha
def di {p:Prop} (H:aE p) (v:aO) (h:cL P ops Q rest bx w) (hr:p->(bt a.eval o).run P w=a6 (c9 v) w:=by(intro h;go_simp;try simp[h])) (hw:c6 o (cZ ops a.tmps)=true:=by kernel_rfl)
 (ha:a.put o.dst v=bx:=by((try simp only[Act.put,List.setIfInBounds_toArray,List.set_cons_zero,List.set_cons_succ]);rfl)):cL P ops Q (o::rest) a w:=ag h hw (hr H.out) ha
def pad (p q z:Int) (h:cL P ops Q rest bx w) {t b7:gb} {x y:iE} (ho:o.op=nA .add t x y b7:=by rfl) (hx:a.eval x=J R p:=by rfl) (hy:a.eval y=J R q:=by rfl) (hz:p+q=z:=by omega) (h1:-9223372036854775808<=z:=by omega) (h2:z<=9223372036854775807:=by omega) (hw:c6 o (cZ ops a.tmps)=true:=by kernel_rfl)
 (ha:a.put o.dst (J R z)=bx:=by((try simp only[Act.put,List.setIfInBounds_toArray,List.set_cons_zero,List.set_cons_succ]);rfl)):cL P ops Q (o::rest) a w:=ag h hw (mZ t x y b7 ho p q z hx hy hz h1 h2) ha
def lH (p q z:Int) (h:cL P ops Q rest bx w) {t b7:gb} {x y:iE} (ho:o.op=nA .sub t x y b7:=by rfl) (hx:a.eval x=J R p:=by rfl) (hy:a.eval y=J R q:=by rfl) (hz:p -q=z:=by omega) (h1:-9223372036854775808<=z:=by omega) (h2:z<=9223372036854775807:=by omega) (hw:c6 o (cZ ops a.tmps)=true:=by kernel_rfl)
 (ha:a.put o.dst (J R z)=bx:=by((try simp only[Act.put,List.setIfInBounds_toArray,List.set_cons_zero,List.set_cons_succ]);rfl)):cL P ops Q (o::rest) a w:=ag h hw (qQ t x y b7 ho p q z hx hy hz h1 h2) ha
def iL {aq:aM} {B k t:Nat} {cs:Array aO} {v:aO} {ty:gb} {x:iE} (hb:aU aq B cs t) (g:au (λ_=>False) aq w) (h:cL P ops Q rest bx w) (ho:o.op=oc ty x:=by rfl) (hx:a.eval x=ax (ab ⟨B,k,af⟩):=by rfl)
 (hv:cs[k]?=ab v:=by((try simp only[List.getElem?_toArray,List.getElem?_cons_succ,List.getElem?_cons_zero])<;>rfl)) (hu:(P.underlying ty).map (λd=>d.isRow)=ab false:=by kernel_rfl) (hw:c6 o (cZ ops a.tmps)=true:=by kernel_rfl)
 (ha:a.put o.dst v=bx:=by((try simp only[Act.put,List.setIfInBounds_toArray,List.set_cons_zero,List.set_cons_succ]);rfl)):cL P ops Q (o::rest) a w:=ag h hw (fw ho hx (au.heap g hb (λh=>h)) hv hu) ha
end
section
variable {P:ee} {ops:Array cU} {rest:List cU} {Q:iD->bT->aM->Prop} {o:cU} {a bx:bT} {aq:aM} {FX:Nat->Prop} {dst:Nat->Option Tmp} {LE:List Nat} {bV:Nat->e7->aO} {bo:List bp} {out:(Nat->e7)->Nat->bp} {ins rd:Nat->List Nat} {fin:List Nat} {QP:List rv->aM->Prop} {us:Nat->e7} {i:Nat}
def gZ (v:aO) (h:cM P ops Q dst LE bV aq FX bo out ins rd fin QP us (i+1) rest bx) (hr:∀w,(bt a.eval o).run P w=a6 (c9 v) w:=by(intro _;show _=_;kernel_rfl)) (hi:decide (i∈LE)=false:=by kernel_rfl) (hw:c6 o (cZ ops a.tmps)=true:=by kernel_rfl)
 (ha:a.put o.dst v=bx:=by((try simp only[Act.put,List.setIfInBounds_toArray,List.set_cons_zero,List.set_cons_succ]);rfl)):cM P ops Q dst LE bV aq FX bo out ins rd fin QP us i (o::rest) a:=aK h hi hw hr ha
end
def Y{P Q:Prop}(k:Q)(h:aE Q->P):P:=h (hid k)
def Ys{P n ops d Q a w}(h:(x1 n ops d).wp P Q a w):(x1 n ops d).wp P Q a w:=h
def ah{P:Prop}{cp:(bT->aM->Prop)->Prop}{fc:∀x,cp x->(bT->aM->Prop)->Prop}{Q:∀x y br,fc x y br->Prop}(k:∀{x} {y:cp x} {br} {bF:fc x y br},Q x y br bF)(h:aE (∀x y br bF,Q x y br bF)->P:=by(intro k;(try refine wpList_nil ?_);(repeat((fail_if_success (with_reducible refine Ys ?_));(first|go_values|go_skip|go_guarded|go_step|go_upon|go_back)));(refine wp_region_lit ?_);(first|(rename_i dF h1;(have dE:Act->World->Prop:=λ_ _=>True);(have t1:True:=trivial);with_reducible exact k.out dE t1 dF h1)|(rename_i dF h1 hV h2;with_reducible exact k.out dF h1 hV h2)|((have dE:Act->World->Prop:=λ_ _=>True);(have t1:True:=trivial);(have fq:Act->World->Prop:=λ_ _=>True);(have t2:True:=trivial);exact k.out dE t1 fq t2)))):P:=by grind[hid]
def cx{P:Prop}{cp:(bT->aM->Prop)->Prop}{fc:∀x,cp x->(bT->aM->Prop)->Prop}{Q:∀x y br,fc x y br->Prop}(k:∀{x} {y:cp x} {br} {bF:fc x y br},Q x y br bF)(h:aE (∀x y br bF,Q x y br bF)->P:=by(intro k;(try refine wpList_nil ?_);(repeat((fail_if_success (with_reducible refine Ys ?_));(first|go_values|go_skip|go_guarded|go_step|go_upon|go_back)));(first|(rename_i dF h1;(have dE:Act->World->Prop:=λ_ _=>True);(have t1:True:=trivial);with_reducible exact k.out dE t1 dF h1)|(rename_i dF h1 hV h2;with_reducible exact k.out dF h1 hV h2)|((have dE:Act->World->Prop:=λ_ _=>True);(have t1:True:=trivial);(have fq:Act->World->Prop:=λ_ _=>True);(have t2:True:=trivial);exact k.out dE t1 fq t2)))):P:=by grind[hid]
def v2{P Q:Prop}(k:Q)(h:aE Q->P:=by(intro k;(iterate 2 refine ag ?_);exact k.out)):P:=h (hid k)
def v3{P Q:Prop}(k:Q)(h:aE Q->P:=by(intro k;(iterate 3 refine ag ?_);exact k.out)):P:=h (hid k)
def v4{P Q:Prop}(k:Q)(h:aE Q->P:=by(intro k;(iterate 4 refine ag ?_);exact k.out)):P:=h (hid k)
def v5{P Q:Prop}(k:Q)(h:aE Q->P:=by(intro k;(iterate 5 refine ag ?_);exact k.out)):P:=h (hid k)
def v6{P Q:Prop}(k:Q)(h:aE Q->P:=by(intro k;(iterate 6 refine ag ?_);exact k.out)):P:=h (hid k)
def xO{P Q:Prop}(k:Q)(h:aE Q->P:=by(intro k;(iterate 8 refine ag ?_);exact k.out)):P:=h (hid k)
def v9{P Q:Prop}(k:Q)(h:aE Q->P:=by(intro k;(iterate 9 refine ag ?_);exact k.out)):P:=h (hid k)
def bF{P Q:Prop}(k:Q)(h:aE Q->P:=by(intro k;(iterate 2 refine aK ?_);exact k.out)):P:=h (hid k)
def da{P Q:Prop}(k:Q)(h:aE Q->P:=by(intro k;(iterate 3 refine aK ?_);exact k.out)):P:=h (hid k)
def hD{P Q:Prop}(k:Q)(h:aE Q->P:=by(intro k;(iterate 4 refine aK ?_);exact k.out)):P:=h (hid k)
def oO{P Q:Prop}(k:Q)(h:aE Q->P:=by(intro k;(iterate 5 refine aK ?_);exact k.out)):P:=h (hid k)
def Og{P Q:Prop}(k:Q)(h:aE Q->P:=by(intro k;(iterate 6 refine aK ?_);exact k.out)):P:=h (hid k)
def Oh{P Q:Prop}(k:Q)(h:aE Q->P:=by(intro k;(iterate 7 refine aK ?_);exact k.out)):P:=h (hid k)
def Dq{P Q:Prop}(k:Q)(h:aE Q->P:=by(intro k;(iterate 8 refine aK ?_);exact k.out)):P:=h (hid k)
def Oi{P Q:Prop}(k:Q)(h:aE Q->P:=by(intro k;(iterate 9 refine aK ?_);exact k.out)):P:=h (hid k)
def dN{P Q:Prop}(k:Q)(h:aE Q->P:=by(intro k;(try refine wpList_nil ?_);(go_wp2_with fail);(first|go_end0|refine bodyPost_ret (results_none rfl _ _ _) rfl ?_);exact k.out)):P:=h (hid k)
def bB{P Q:Prop}(k:Q)(h:aE Q->P:=by(intro k;(try refine wpList_nil ?_);(go_wp2_with fail);(go_ret);exact k.out)):P:=h (hid k)
def bY{P Q:Prop}(k:Q)(h:aE Q->P:=by(intro k;(try refine wpList_nil ?_);(go_wp2_with fail);(go_ret2);exact k.out)):P:=h (hid k)
def Lv{P Q:Prop}(k:Q)(h:aE Q->P:=by(intro k;(try refine wpList_nil ?_);(go_wp2_with fail);exact k.out)):P:=h (hid k)
end
open Go.RowKit Go.MapKept
def cK{P:Prop}{cp:(Act->World->Prop)->Prop}{fc:∀x,cp x->(Act->World->Prop)->Prop}{Q:∀x y br,fc x y br->Prop}(k:∀{x} {y:cp x} {br} {bF:fc x y br},Q x y br bF)(h:Hid (∀x y br bF,Q x y br bF)->P:=by (intro k;refine ag ?_;refine ah ?_;refine ag ?_;(first|(rename_i dF h1;(have dE:Act->World->Prop:=λ_ _=>True);(have t1:True:=trivial);with_reducible exact k.out dE t1 dF h1)|(rename_i dF h1 hV h2;with_reducible exact k.out dF h1 hV h2)|((have dE:Act->World->Prop:=λ_ _=>True);(have t1:True:=trivial);(have fq:Act->World->Prop:=λ_ _=>True);(have t2:True:=trivial);exact k.out dE t1 fq t2)))):P:=h (hid λ_ _ _ _=>k)
def b'{P:Prop}{cp:(Act->World->Prop)->Prop}{fc:∀x,cp x->(Act->World->Prop)->Prop}{Q:∀x y br,fc x y br->Prop}(k:∀{x} {y:cp x} {br} {bF:fc x y br},Q x y br bF)(h:Hid (∀x y br bF,Q x y br bF)->P:=by (intro k;refine ah ?_;refine ag ?_;(first|(rename_i dF h1;(have dE:Act->World->Prop:=λ_ _=>True);(have t1:True:=trivial);with_reducible exact k.out dE t1 dF h1)|(rename_i dF h1 hV h2;with_reducible exact k.out dF h1 hV h2)|((have dE:Act->World->Prop:=λ_ _=>True);(have t1:True:=trivial);(have fq:Act->World->Prop:=λ_ _=>True);(have t2:True:=trivial);exact k.out dE t1 fq t2)))):P:=h (hid λ_ _ _ _=>k)
def bP{P Q:Prop}(k:Q)(h:Hid Q->P:=by (intro k;refine ag ?_;refine wpList_nil ?_;exact k.out)):P:=h (hid k)
def hE{P:Prop}{cp:(Act->World->Prop)->Prop}{fc:∀x,cp x->(Act->World->Prop)->Prop}{Q:∀x y br,fc x y br->Prop}(k:∀{x} {y:cp x} {br} {bF:fc x y br},Q x y br bF)(h:Hid (∀x y br bF,Q x y br bF)->P:=by (intro k;refine ah ?_;refine v2 ?_;(first|(rename_i dF h1;(have dE:Act->World->Prop:=λ_ _=>True);(have t1:True:=trivial);with_reducible exact k.out dE t1 dF h1)|(rename_i dF h1 hV h2;with_reducible exact k.out dF h1 hV h2)|((have dE:Act->World->Prop:=λ_ _=>True);(have t1:True:=trivial);(have fq:Act->World->Prop:=λ_ _=>True);(have t2:True:=trivial);exact k.out dE t1 fq t2)))):P:=h (hid λ_ _ _ _=>k)
def en{P:Prop}{cp:(Act->World->Prop)->Prop}{fc:∀x,cp x->(Act->World->Prop)->Prop}{Q:∀x y br,fc x y br->Prop}(k:∀{x} {y:cp x} {br} {bF:fc x y br},Q x y br bF)(h:Hid (∀x y br bF,Q x y br bF)->P:=by (intro k;refine ag ?_;refine ah ?_;(first|(rename_i dF h1;(have dE:Act->World->Prop:=λ_ _=>True);(have t1:True:=trivial);with_reducible exact k.out dE t1 dF h1)|(rename_i dF h1 hV h2;with_reducible exact k.out dF h1 hV h2)|((have dE:Act->World->Prop:=λ_ _=>True);(have t1:True:=trivial);(have fq:Act->World->Prop:=λ_ _=>True);(have t2:True:=trivial);exact k.out dE t1 fq t2)))):P:=h (hid λ_ _ _ _=>k)
def jz{P:Prop}{cp:(Act->World->Prop)->Prop}{fc:∀x,cp x->(Act->World->Prop)->Prop}{Q:∀x y br,fc x y br->Prop}(k:∀{x} {y:cp x} {br} {bF:fc x y br},Q x y br bF)(h:Hid (∀x y br bF,Q x y br bF)->P:=by (intro k;refine ah ?_;refine v3 ?_;(first|(rename_i dF h1;(have dE:Act->World->Prop:=λ_ _=>True);(have t1:True:=trivial);with_reducible exact k.out dE t1 dF h1)|(rename_i dF h1 hV h2;with_reducible exact k.out dF h1 hV h2)|((have dE:Act->World->Prop:=λ_ _=>True);(have t1:True:=trivial);(have fq:Act->World->Prop:=λ_ _=>True);(have t2:True:=trivial);exact k.out dE t1 fq t2)))):P:=h (hid λ_ _ _ _=>k)
def iB{P:Prop}{cp:(Act->World->Prop)->Prop}{fc:∀x,cp x->(Act->World->Prop)->Prop}{Q:∀x y br,fc x y br->Prop}(k:∀{x} {y:cp x} {br} {bF:fc x y br},Q x y br bF)(h:Hid (∀x y br bF,Q x y br bF)->P:=by (intro k;refine ag ?_;refine cx ?_;(first|(rename_i dF h1;(have dE:Act->World->Prop:=λ_ _=>True);(have t1:True:=trivial);with_reducible exact k.out dE t1 dF h1)|(rename_i dF h1 hV h2;with_reducible exact k.out dF h1 hV h2)|((have dE:Act->World->Prop:=λ_ _=>True);(have t1:True:=trivial);(have fq:Act->World->Prop:=λ_ _=>True);(have t2:True:=trivial);exact k.out dE t1 fq t2)))):P:=h (hid λ_ _ _ _=>k)
def Jy{P Q:Prop}(k:Q)(h:Hid Q->P:=by (intro k;refine ag ?_;refine bB ?_;exact k.out)):P:=h (hid k)
def mO{P:Prop}{cp:(Act->World->Prop)->Prop}{fc:∀x,cp x->(Act->World->Prop)->Prop}{Q:∀x y br,fc x y br->Prop}(k:∀{x} {y:cp x} {br} {bF:fc x y br},Q x y br bF)(h:Hid (∀x y br bF,Q x y br bF)->P:=by (intro k;refine ag ?_;refine ah ?_;refine v2 ?_;(first|(rename_i dF h1;(have dE:Act->World->Prop:=λ_ _=>True);(have t1:True:=trivial);with_reducible exact k.out dE t1 dF h1)|(rename_i dF h1 hV h2;with_reducible exact k.out dF h1 hV h2)|((have dE:Act->World->Prop:=λ_ _=>True);(have t1:True:=trivial);(have fq:Act->World->Prop:=λ_ _=>True);(have t2:True:=trivial);exact k.out dE t1 fq t2)))):P:=h (hid λ_ _ _ _=>k)
def axi{P:Prop}{cp:(Act->World->Prop)->Prop}{fc:∀x,cp x->(Act->World->Prop)->Prop}{Q:∀x y br,fc x y br->Prop}(k:∀{x} {y:cp x} {br} {bF:fc x y br},Q x y br bF)(h:Hid (∀x y br bF,Q x y br bF)->P:=by (intro k;refine ah ?_;refine v2 ?_;refine bB ?_;(first|(rename_i dF h1;(have dE:Act->World->Prop:=λ_ _=>True);(have t1:True:=trivial);with_reducible exact k.out dE t1 dF h1)|(rename_i dF h1 hV h2;with_reducible exact k.out dF h1 hV h2)|((have dE:Act->World->Prop:=λ_ _=>True);(have t1:True:=trivial);(have fq:Act->World->Prop:=λ_ _=>True);(have t2:True:=trivial);exact k.out dE t1 fq t2)))):P:=h (hid λ_ _ _ _=>k)
def dZ{P Q:Prop}(k:Q)(h:Hid Q->P:=by (intro k;refine v2 ?_;refine wpList_nil ?_;exact k.out)):P:=h (hid k)
def axj{P:Prop}{cp:(Act->World->Prop)->Prop}{fc:∀x,cp x->(Act->World->Prop)->Prop}{Q:∀x y br,fc x y br->Prop}(k:∀{x} {y:cp x} {br} {bF:fc x y br},Q x y br bF)(h:Hid (∀x y br bF,Q x y br bF)->P:=by (intro k;refine ag ?_;refine ah ?_;refine ag ?_;refine wpList_nil ?_;(first|(rename_i dF h1;(have dE:Act->World->Prop:=λ_ _=>True);(have t1:True:=trivial);with_reducible exact k.out dE t1 dF h1)|(rename_i dF h1 hV h2;with_reducible exact k.out dF h1 hV h2)|((have dE:Act->World->Prop:=λ_ _=>True);(have t1:True:=trivial);(have fq:Act->World->Prop:=λ_ _=>True);(have t2:True:=trivial);exact k.out dE t1 fq t2)))):P:=h (hid λ_ _ _ _=>k)
def n3{P:Prop}{cp:(Act->World->Prop)->Prop}{fc:∀x,cp x->(Act->World->Prop)->Prop}{Q:∀x y br,fc x y br->Prop}(k:∀{x} {y:cp x} {br} {bF:fc x y br},Q x y br bF)(h:Hid (∀x y br bF,Q x y br bF)->P:=by (intro k;refine ah ?_;refine v4 ?_;(first|(rename_i dF h1;(have dE:Act->World->Prop:=λ_ _=>True);(have t1:True:=trivial);with_reducible exact k.out dE t1 dF h1)|(rename_i dF h1 hV h2;with_reducible exact k.out dF h1 hV h2)|((have dE:Act->World->Prop:=λ_ _=>True);(have t1:True:=trivial);(have fq:Act->World->Prop:=λ_ _=>True);(have t2:True:=trivial);exact k.out dE t1 fq t2)))):P:=h (hid λ_ _ _ _=>k)
def Dr{P:Prop}{cp:(Act->World->Prop)->Prop}{fc:∀x,cp x->(Act->World->Prop)->Prop}{Q:∀x y br,fc x y br->Prop}(k:∀{x} {y:cp x} {br} {bF:fc x y br},Q x y br bF)(h:Hid (∀x y br bF,Q x y br bF)->P:=by (intro k;refine v2 ?_;refine ah ?_;refine ag ?_;(first|(rename_i dF h1;(have dE:Act->World->Prop:=λ_ _=>True);(have t1:True:=trivial);with_reducible exact k.out dE t1 dF h1)|(rename_i dF h1 hV h2;with_reducible exact k.out dF h1 hV h2)|((have dE:Act->World->Prop:=λ_ _=>True);(have t1:True:=trivial);(have fq:Act->World->Prop:=λ_ _=>True);(have t2:True:=trivial);exact k.out dE t1 fq t2)))):P:=h (hid λ_ _ _ _=>k)
def axk{P:Prop}{cp:(Act->World->Prop)->Prop}{fc:∀x,cp x->(Act->World->Prop)->Prop}{Q:∀x y br,fc x y br->Prop}(k:∀{x} {y:cp x} {br} {bF:fc x y br},Q x y br bF)(h:Hid (∀x y br bF,Q x y br bF)->P:=by (intro k;refine ah ?_;refine ag ?_;refine ah ?_;(first|(rename_i dF h1;(have dE:Act->World->Prop:=λ_ _=>True);(have t1:True:=trivial);with_reducible exact k.out dE t1 dF h1)|(rename_i dF h1 hV h2;with_reducible exact k.out dF h1 hV h2)|((have dE:Act->World->Prop:=λ_ _=>True);(have t1:True:=trivial);(have fq:Act->World->Prop:=λ_ _=>True);(have t2:True:=trivial);exact k.out dE t1 fq t2)))):P:=h (hid λ_ _ _ _=>k)
def Ds{P Q:Prop}(k:Q)(h:Hid Q->P:=by (intro k;refine aQ ?_;refine ag ?_;refine wpList_nil ?_;exact k.out)):P:=h (hid k)
def UU{P:Prop}{cp:(Act->World->Prop)->Prop}{fc:∀x,cp x->(Act->World->Prop)->Prop}{Q:∀x y br,fc x y br->Prop}(k:∀{x} {y:cp x} {br} {bF:fc x y br},Q x y br bF)(h:Hid (∀x y br bF,Q x y br bF)->P:=by (intro k;refine ah ?_;refine ag ?_;refine ah ?_;refine ag ?_;(first|(rename_i dF h1;(have dE:Act->World->Prop:=λ_ _=>True);(have t1:True:=trivial);with_reducible exact k.out dE t1 dF h1)|(rename_i dF h1 hV h2;with_reducible exact k.out dF h1 hV h2)|((have dE:Act->World->Prop:=λ_ _=>True);(have t1:True:=trivial);(have fq:Act->World->Prop:=λ_ _=>True);(have t2:True:=trivial);exact k.out dE t1 fq t2)))):P:=h (hid λ_ _ _ _=>k)
def Be{P Q:Prop}(k:Q)(h:Hid Q->P:=by (intro k;refine aQ ?_;refine wpList_nil ?_;exact k.out)):P:=h (hid k)
def UW{P:Prop}{cp:(Act->World->Prop)->Prop}{fc:∀x,cp x->(Act->World->Prop)->Prop}{Q:∀x y br,fc x y br->Prop}(k:∀{x} {y:cp x} {br} {bF:fc x y br},Q x y br bF)(h:Hid (∀x y br bF,Q x y br bF)->P:=by (intro k;refine ag ?_;refine ah ?_;refine v3 ?_;(first|(rename_i dF h1;(have dE:Act->World->Prop:=λ_ _=>True);(have t1:True:=trivial);with_reducible exact k.out dE t1 dF h1)|(rename_i dF h1 hV h2;with_reducible exact k.out dF h1 hV h2)|((have dE:Act->World->Prop:=λ_ _=>True);(have t1:True:=trivial);(have fq:Act->World->Prop:=λ_ _=>True);(have t2:True:=trivial);exact k.out dE t1 fq t2)))):P:=h (hid λ_ _ _ _=>k)
def Om{P:Prop}{cp:(Act->World->Prop)->Prop}{fc:∀x,cp x->(Act->World->Prop)->Prop}{Q:∀x y br,fc x y br->Prop}(k:∀{x} {y:cp x} {br} {bF:fc x y br},Q x y br bF)(h:Hid (∀x y br bF,Q x y br bF)->P:=by (intro k;refine aQ ?_;refine v5 ?_;refine ah ?_;refine ag ?_;(first|(rename_i dF h1;(have dE:Act->World->Prop:=λ_ _=>True);(have t1:True:=trivial);with_reducible exact k.out dE t1 dF h1)|(rename_i dF h1 hV h2;with_reducible exact k.out dF h1 hV h2)|((have dE:Act->World->Prop:=λ_ _=>True);(have t1:True:=trivial);(have fq:Act->World->Prop:=λ_ _=>True);(have t2:True:=trivial);exact k.out dE t1 fq t2)))):P:=h (hid λ_ _ _ _=>k)
def xU{P:Prop}{cp:(Act->World->Prop)->Prop}{fc:∀x,cp x->(Act->World->Prop)->Prop}{Q:∀x y br,fc x y br->Prop}(k:∀{x} {y:cp x} {br} {bF:fc x y br},Q x y br bF)(h:Hid (∀x y br bF,Q x y br bF)->P:=by (intro k;refine ag ?_;refine ah ?_;refine v4 ?_;(first|(rename_i dF h1;(have dE:Act->World->Prop:=λ_ _=>True);(have t1:True:=trivial);with_reducible exact k.out dE t1 dF h1)|(rename_i dF h1 hV h2;with_reducible exact k.out dF h1 hV h2)|((have dE:Act->World->Prop:=λ_ _=>True);(have t1:True:=trivial);(have fq:Act->World->Prop:=λ_ _=>True);(have t2:True:=trivial);exact k.out dE t1 fq t2)))):P:=h (hid λ_ _ _ _=>k)
section
theorem aU.cellsOf{w}{B m sz t:Nat}{cs}(h:aU w B cs.toArray t)(hn:cs.length=m*sz):Cells w sz (ab ⟨B,0,af⟩) m cs:=
 ⟨hn,λ_=>⟨_,rfl,λj u a=>by grind[nL,aU.cell]⟩⟩
section
variable {P:ee} {o:cU} {a:bT} {w:aM} {K:bT->aM->Prop} {Q:iD->bT->aM->Prop}
def cq(t e sz:Nat)(x d)(ho:o.op=DM t x d)(g:P.underlying t=ab (iF e))(m:(P.info? e).map (·.size)=ab sz)(b off n c i k:Nat)(hx:a.eval x=ae (ab ⟨b,off,af⟩) n c)(hi:a.eval d=J R (i:Int))(h:i<n)(hk:off+i*sz=k):
 (bt a.eval o).run P w=a6 (c9 (ax (ab ⟨b,k,af⟩))) w:=by
 cases hq:P.info? e with
 |none=>grind
 |some j=>
  have hsz:j.size=sz:=aF;have h1:(i:Int)<(n:Int):=ad;subst hk;have f:(⟨b,off,_⟩:bQ).add (i*sz)=⟨b,_,_⟩:=OS _ _ _;unfold bt;simp[ho,hx,hi,Vk,zC,ga,gE g,my,mS,hq,hsz,f];intro l;omega
end
end
section
section
variable {P:ee} {o:cU} {a:bT} {w:aM}
def po{B k v ty x}(ho:o.op=oc ty x)(hx:a.eval x=ax (ab ⟨B,k,af⟩))(hc:w.cell? ⟨B,k,af⟩=ab v)(c:(P.underlying ty).map (λd=>d.isRow)=ab ao):
 (bt a.eval o).run P w=a6 (c9 v) w:=by
 cases hq:P.underlying ty with
 |none=>grind
 |some d=>
  have b:d.isRow=false:=aF
  have hagg:(isAgg ty).run P w=a6 ao w:=by unfold isAgg;rw[ga,gE hq w];cases d<;>simp_all
  unfold bt;simp[ho,hx,Instr.loadAt,Bn,loadVar,hagg,hc]
def afK{t c x y p q}(ho:o.op=nA .xor t x y c)(hx:a.eval x=cd p)(b:a.eval y=cd q):(bt a.eval o).run P w=a6 (c9 (cd (kB p q))) w:=by unfold bt;rw[ho];simp only[hx,b];rfl
def afI{t c x y p q}(ho:o.op=nA .and t x y c)(hx:a.eval x=cd p)(b:a.eval y=cd q):(bt a.eval o).run P w=a6 (c9 (cd (n32 p q))) w:=by unfold bt;rw[ho];simp only[hx,b];rfl
def afJ{t c x y p q}(ho:o.op=nA .or t x y c)(hx:a.eval x=cd p)(b:a.eval y=cd q):(bt a.eval o).run P w=a6 (c9 (cd (xD p q))) w:=by unfold bt;rw[ho];simp only[hx,b];rfl
def afH{t c x y p q}(ho:o.op=nA .add t x y c)(hx:a.eval x=cd p)(b:a.eval y=cd q):(bt a.eval o).run P w=a6 (c9 (cd (a32 p q))) w:=by unfold bt;rw[ho];simp only[hx,b];rfl
def acJ{t e m:Nat}{x c}{b i:Nat}(ho:o.op=DM t x c)(f:P.underlying t=ab (wy m e))(d:(P.info? e).map (·.size)=ab 1)(hx:a.eval x=ax (ab ⟨b,0,af⟩))(hi:a.eval c=J R (i:Int))(h:i<m):
 (bt a.eval o).run P w=a6 (c9 (ax (ab ⟨b,i,af⟩))) w:=aqP t e 1 m x c ho f d b 0 i i hx hi h ad
end
section
variable {U:Int->aO} {L:List Int} {tail:List aO} {i k n:Nat} {v:Int} {x:aO}
def X'(h:i<L.length)(a:(U v).cells=#[U v]:=by rfl):i+(U v).cells.size<=(aZ U L tail).size:=by grind[kr]
def KX(hn:L.length=n)(hk:k<tail.length)(hx:x.cells=#[x]:=by rfl):n+k+x.cells.size<=(aZ U L tail).size:=by grind[kr]
def Ya(h:i<L.length)(a:(U v).cells=#[U v]:=by rfl):lay (aZ U L tail) i (U v).cells.toList=aZ U (L.set i v) tail:=by rw[a];exact akx h v
def KZ(hn:L.length=n)(hx:x.cells=#[x]:=by rfl):lay (aZ U L tail) (n+k) x.cells.toList=aZ U L (tail.set k x):=by rw[hx];exact aky hn x
end
section
variable {P:ee} {o:cU} {a:bT} {w:aM}
def ac3{B k v u}ty{x d}(ho:o.op=oc ty x)(hx:a.eval x=ax (ab ⟨B,k,af⟩))(e:w.cell? ⟨B,k,af⟩=ab v)(h1:w.cell? ⟨B,k+1,af⟩=ab u)(c:P.underlying ty=ab d)(b:d.isRow=az)(hi:(P.info? ty).map (·.size)=ab 2):
 (bt a.eval o).run P w=a6 (c9 (av #[v,u])) w:=eC ty x ho B k hx [v,u] (λj z hz=>aF) c b hi
end
def eW{a:Type}(cs:Array a):cs.extract 0 (0+cs.size)=cs:=a8
def aU.aG{w w'}{B t:Nat}{cs}(h:aU w B cs t)(g:ar w w'):aU w' B cs t:=by grind[au.heap]
def CS:∀(b P a),b.length<=a.length->lay (P++a).toArray P.length b=(P++(b++a.drop b.length)).toArray
 |[],P,a,_=>by rfl
 |v::b,P,[],h=>by grind
 |v::b,P,r::a,h=>by have c:=CS b (P++[v]) a (by simpa using h);rw[lay,akg,show(P++r::a).set P.length v=(P++[v])++a by simp,show P.length+1=(P++[v]).length by simp,c];simp
theorem lay_all{cs cs'}(h:cs'.size=cs.size):lay cs 0 cs'.toList=cs':=by have e:=CS cs'.toList [] cs.toList aF;simp at e;grind
section
variable {U:Int->aO} {L:List Int} {tail:List aO} {n:Nat}
def akt{a}(cz:L.length=n)(b:a.length=n):lay (aZ U L tail) 0 (aZ U a []).toList=aZ U a tail:=by have e:=CS (a.map U) [] (L.map U++tail) aF;grind[aZ]
end
section
variable {P:ee} {ops:Array cU} {rest:List cU} {Q:iD->bT->aM->Prop} {o:cU} {a bx:bT} {w:aM} {v:aO} {aq:aM} {FX:Nat->Prop} {l l':List bp}
def Nd {F:Nat->Prop} {B k:Nat} {ty:gb} {x:iE} (hc:aq.cell? ⟨B,k,af⟩=ab v) (b:au F aq w) (h:cL P ops Q rest bx w) (c:¬F B:=by first|exact(λh=>h)|assumption) (ho:o.op=oc ty x:=by rfl) (hx:a.eval x=ax (ab ⟨B,k,af⟩):=by rfl) (e:(P.underlying ty).map (λd=>d.isRow)=ab false:=by kernel_rfl) (f:c6 o (cZ ops a.tmps)=true:=by kernel_rfl)
 (ha:a.put o.dst v=bx:=by((try simp only[Act.put,List.setIfInBounds_toArray,List.set_cons_zero,List.set_cons_succ]);rfl)):cL P ops Q (o::rest) a w:=ag h f (po ho hx (b.cell hc c) e) ha
def I4 (p q z:Int) (h:cL P ops Q rest bx w) {t b:gb} {x y:iE} (ho:o.op=nA .mul t x y b:=by rfl) (hx:a.eval x=J R p:=by rfl) (e:a.eval y=J R q:=by rfl) (hz:p*q=z:=by omega) (h1:-9223372036854775808<=z:=by omega) (c:z<=9223372036854775807:=by omega) (d:c6 o (cZ ops a.tmps)=true:=by kernel_rfl)
 (ha:a.put o.dst (J R z)=bx:=by((try simp only[Act.put,List.setIfInBounds_toArray,List.set_cons_zero,List.set_cons_succ]);rfl)):cL P ops Q (o::rest) a w:=ag h d (nM t x y b ho p q z hx e hz h1 c) ha
def pu (h:cL P ops Q rest bx w) (hr:(bt a.eval o).run P w=a6 (c9 v) w:=by first|exact afK rfl rfl rfl|exact afI rfl rfl rfl|exact afJ rfl rfl rfl|exact afH rfl rfl rfl) (b:c6 o (cZ ops a.tmps)=true:=by kernel_rfl)
 (ha:a.put o.dst v=bx:=by((try simp only[Act.put,List.setIfInBounds_toArray,List.set_cons_zero,List.set_cons_succ]);rfl)):cL P ops Q (o::rest) a w:=ag h b hr ha
def mK (h:cL P ops Q rest bx w) {t e m b i:Nat} {x c:iE} (ho:o.op=DM t x c:=by rfl) (g:P.underlying t=ab (wy m e):=by rfl) (f:(P.info? e).map (·.size)=ab 1:=by kernel_rfl) (hx:a.eval x=ax (ab ⟨b,0,af⟩):=by rfl) (hi:a.eval c=J R (i:Int):=by rfl) (d:i<m:=by first|exact(of_decide_eq_true rfl)|omega) (j:c6 o (cZ ops a.tmps)=true:=by kernel_rfl)
 (ha:a.put o.dst (ax (ab ⟨b,i,af⟩))=bx:=by((try simp only[Act.put,List.setIfInBounds_toArray,List.set_cons_zero,List.set_cons_succ]);rfl)):cL P ops Q (o::rest) a w:=ag h j (acJ ho g f hx hi d) ha
def pt {B k t n:Nat} {U:Int->aO} {L:List Int} {tail:List aO} {ty:gb} {x:iE} (b:ak aq FX w l) (j:Nat) (cz:L.length=n) (h:cL P ops Q rest bx w) (c:l[j]?=ab (aj B (aZ U L tail) t):=by rfl) (ho:o.op=oc ty x:=by rfl) (hx:a.eval x=ax (ab ⟨B,k,af⟩):=by rfl) (hk:k<n:=by first|exact(of_decide_eq_true rfl)|omega) (e:(P.underlying ty).map (λd=>d.isRow)=ab false:=by kernel_rfl) (f:c6 o (cZ ops a.tmps)=true:=by kernel_rfl)
 (ha:a.put o.dst (U (L[k]?.getD 0))=bx:=by((try simp only[Act.put,List.setIfInBounds_toArray,List.set_cons_zero,List.set_cons_succ]);rfl)):cL P ops Q (o::rest) a w:=ag h f (fw ho hx (b.aX j c) (KY (cz▸hk)) e) ha
def FK {B k t n:Nat} {U:Int->aO} {L:List Int} {tail:List aO} {ty:gb} {x y:iE} {z:Int} (b:ak aq FX w l) (j:Nat) (cz:L.length=n) (h:∀w',ak aq FX w' l'->cL P ops Q rest bx w') (c:l[j]?=ab (aj B (aZ U L tail) t):=by rfl) (ho:o.op=zw ty x y:=by rfl) (hx:a.eval x=ax (ab ⟨B,k,af⟩):=by rfl) (d:a.eval y=U z:=by rfl) (hk:k<n:=by first|exact(of_decide_eq_true rfl)|omega)
 (sY:(U z).cells=#[U z]:=by rfl) (h1:∀x,(U x).oneCell'=true:=by(intro _;rfl)) (hz:(P.info? ty).map (·.size)=ab (U z).cells.size:=by kernel_rfl) (hl:l.set j (aj B (aZ U (L.set k z) tail) t)=l':=by((try simp only[List.set_cons_zero,List.set_cons_succ]);rfl)) (hw:c6 o (cZ ops a.tmps)=true:=by kernel_rfl)
 (ha:a.put o.dst a1=bx:=by((try simp only[Act.put,List.setIfInBounds_toArray,List.set_cons_zero,List.set_cons_succ]);rfl)):cL P ops Q (o::rest) a w:=a' b j (U z) h c ho hx d (X' (cz▸hk) sY) hz aF (Ya (cz▸hk) sY) hl hw ha
def C4 {B t n:Nat} {U:Int->aO} {L b:List Int} {tail:List aO} {ty:gb} {x y:iE} (d:ak aq FX w l) (j:Nat) (cz:L.length=n) (c:b.length=n) (h:∀w',ak aq FX w' l'->cL P ops Q rest bx w') (e:l[j]?=ab (aj B (aZ U L tail) t):=by rfl) (ho:o.op=zw ty x y:=by rfl) (hx:a.eval x=ax (ab ⟨B,0,af⟩):=by rfl) (f:a.eval y=av (aZ U b []):=by rfl)
 (sY:∀x,(U x).oneCell'=true:=by(intro _;rfl)) (hz:(P.info? ty).map (·.size)=ab n:=by kernel_rfl) (hl:l.set j (aj B (aZ U b tail) t)=l':=by((try simp only[List.set_cons_zero,List.set_cons_succ]);rfl)) (hw:c6 o (cZ ops a.tmps)=true:=by kernel_rfl)
 (ha:a.put o.dst a1=bx:=by((try simp only[Act.put,List.setIfInBounds_toArray,List.set_cons_zero,List.set_cons_succ]);rfl)):cL P ops Q (o::rest) a w:=a' d j (av (aZ U b [])) h e ho hx f (by show 0+(aZ U b []).size<=_;rw[kr,kr,cz,c];simp) (by show _=ab (aZ U b []).size;rw[kr,c,hz];rfl) (Q7 sY a8) (akt cz c) hl hw ha
def M7 {B t n:Nat} {U:Int->aO} {L c:List Int} {fg b:List aO} {ty:gb} {x y:iE} (f:ak aq FX w l) (j:Nat) (cz:L.length=n) (d:c.length=n) (h:∀w',ak aq FX w' l'->cL P ops Q rest bx w') (g:l[j]?=ab (aj B (aZ U L fg) t):=by rfl) (ho:o.op=zw ty x y:=by rfl) (hx:a.eval x=ax (ab ⟨B,0,af⟩):=by rfl) (i:a.eval y=av (aZ U c b):=by rfl) (e:b.length=fg.length:=by rfl)
 (sY:∀x,(U x).oneCell'=true:=by(intro _;rfl)) (bL:∀v∈b,v.oneCell'=true:=by simp[Value.oneCell']) (hz:(P.info? ty).map (·.size)=ab (n+b.length):=by kernel_rfl) (hl:l.set j (aj B (aZ U c b) t)=l':=by((try simp only[List.set_cons_zero,List.set_cons_succ]);rfl)) (hw:c6 o (cZ ops a.tmps)=true:=by kernel_rfl)
 (ha:a.put o.dst a1=bx:=by((try simp only[Act.put,List.setIfInBounds_toArray,List.set_cons_zero,List.set_cons_succ]);rfl)):cL P ops Q (o::rest) a w:=a' f j (av (aZ U c b)) h g ho hx i (by show 0+(aZ U c b).size<=_;rw[kr,kr,cz,d,e];simp) (by show _=ab (aZ U c b).size;rw[kr,d,hz]) (Q7 sY bL) (lay_all (by show(aZ U c b).size=_;rw[kr,kr,cz,d,e])) hl hw ha
def Nb {B t n:Nat} {U:Int->aO} {L:List Int} {tail:List aO} {ty e:gb} {x:iE} (b:ak aq FX w l) (j:Nat) (cz:L.length=n) (h:cL P ops Q rest bx w) (c:l[j]?=ab (aj B (aZ U L tail) t):=by rfl) (ho:o.op=oc ty x:=by rfl) (hx:a.eval x=ax (ab ⟨B,0,af⟩):=by rfl) (d:P.underlying ty=ab (wy n e):=by rfl) (hz:(P.info? ty).map (·.size)=ab n:=by kernel_rfl) (f:c6 o (cZ ops a.tmps)=true:=by kernel_rfl)
 (ha:a.put o.dst (av (aZ U L []))=bx:=by((try simp only[Act.put,List.setIfInBounds_toArray,List.set_cons_zero,List.set_cons_succ]);rfl)):cL P ops Q (o::rest) a w:=ag h f (ars ty e n x ho B hx (b.aX j c) cz d hz) ha
def bH{f:Bm}{args:Array aO}(hc:aD P f args w λe w'=>e=aB v/\ar w w')(b:ak aq FX w l)(h:∀w',ak aq FX w' l->cL P ops Q rest bx w')(hr:(bt a.eval o).run P w=a6 (.enter f args) w:=by(go_simp;try with_reducible rfl))(i:c6 o (cZ ops a.tmps)=true:=by kernel_rfl)(c:a.put o.dst v=bx:=by((try simp only[Act.put,List.setIfInBounds_toArray,List.set_cons_zero,List.set_cons_succ]);rfl)):cL P ops Q (o::rest) a w:=
 aP hc (λe w' ⟨d,g⟩=>d▸aQ (h w' (b.aG g)) c) hr i
def dB{f:Bm}{args:Array aO}{b:Option bQ->Nat->aO}{bs:List Int}{bx:Option bQ->Nat->bT}(hc:aD P f args w λe w'=>∃A c,e=aB (b A c)/\e6 w.heap.size w' A c bs/\ar w w')(d:ak aq FX w l)(h:∀A c w',ak aq FX w' (cg A c bs::l)->cL P ops Q rest (bx A c) w')(hr:(bt a.eval o).run P w=a6 (.enter f args) w:=by(go_simp;try with_reducible rfl))(k:c6 o (cZ ops a.tmps)=true:=by kernel_rfl)(i:∀A c,a.put o.dst (b A c)=bx A c:=by(intro _ _;(try simp only[Act.put,List.setIfInBounds_toArray,List.set_cons_zero,List.set_cons_succ]);rfl)):cL P ops Q (o::rest) a w:=
 aP hc (λe w' ⟨A,c,j,hb,g⟩=>j▸aQ (h A c w' (d.jE g hb)) (i A c)) hr k
end
section
variable {P:ee} {ops:Array cU} {rest:List cU} {Q:iD->bT->aM->Prop} {o:cU} {a bx:bT} {v:aO} {aq:aM} {FX:Nat->Prop} {dst:Nat->Option Tmp} {LE:List Nat} {bV:Nat->e7->aO} {bo:List bp} {out:(Nat->e7)->Nat->bp} {ins rd:Nat->List Nat} {fin:List Nat} {QP:List rv->aM->Prop} {us:Nat->e7} {i:Nat}
def lv {B k:Nat} {ty:gb} {x:iE} (hc:aq.cell? ⟨B,k,af⟩=ab v) (h:cM P ops Q dst LE bV aq FX bo out ins rd fin QP us (i+1) rest bx) (c:¬FX B:=by first|exact(λh=>h)|assumption) (ho:o.op=oc ty x:=by rfl) (hx:a.eval x=ax (ab ⟨B,k,af⟩):=by rfl) (e:(P.underlying ty).map (λd=>d.isRow)=ab false:=by kernel_rfl) (hi:decide (i∈LE)=false:=by kernel_rfl) (f:c6 o (cZ ops a.tmps)=true:=by kernel_rfl)
 (ha:a.put o.dst v=bx:=by((try simp only[Act.put,List.setIfInBounds_toArray,List.set_cons_zero,List.set_cons_succ]);rfl)):cM P ops Q dst LE bV aq FX bo out ins rd fin QP us i (o::rest) a:=aN v (λ_ _ b=>po ho hx (b.only.cell hc c) e) h hi f ha
def p2 (h:cM P ops Q dst LE bV aq FX bo out ins rd fin QP us (i+1) rest bx) (hr:∀w,(bt a.eval o).run P w=a6 (c9 v) w:=by(intro _;first|exact afK rfl rfl rfl|exact afI rfl rfl rfl|exact afJ rfl rfl rfl|exact afH rfl rfl rfl)) (hi:decide (i∈LE)=false:=by kernel_rfl) (b:c6 o (cZ ops a.tmps)=true:=by kernel_rfl)
 (ha:a.put o.dst v=bx:=by((try simp only[Act.put,List.setIfInBounds_toArray,List.set_cons_zero,List.set_cons_succ]);rfl)):cM P ops Q dst LE bV aq FX bo out ins rd fin QP us i (o::rest) a:=aK h hi b hr ha
def p0 (h:cM P ops Q dst LE bV aq FX bo out ins rd fin QP us (i+1) rest bx) {t e m b k:Nat} {x c:iE} (ho:o.op=DM t x c:=by rfl) (g:P.underlying t=ab (wy m e):=by rfl) (f:(P.info? e).map (·.size)=ab 1:=by kernel_rfl) (hx:a.eval x=ax (ab ⟨b,0,af⟩):=by rfl) (hk:a.eval c=J R (k:Int):=by rfl) (d:k<m:=by first|exact(of_decide_eq_true rfl)|omega) (hi:decide (i∈LE)=false:=by kernel_rfl) (j:c6 o (cZ ops a.tmps)=true:=by kernel_rfl)
 (ha:a.put o.dst (ax (ab ⟨b,k,af⟩))=bx:=by((try simp only[Act.put,List.setIfInBounds_toArray,List.set_cons_zero,List.set_cons_succ]);rfl)):cM P ops Q dst LE bV aq FX bo out ins rd fin QP us i (o::rest) a:=aK h hi j (λ_=>acJ ho g f hx hk d) ha
def sU {B k t n:Nat} {U:Int->aO} {L:List Int} {tail:List aO} {ty:gb} {x:iE} (j:Nat) (cz:L.length=n) (h:cM P ops Q dst LE bV aq FX bo out ins rd fin QP us (i+1) rest bx) (ho:o.op=oc ty x:=by rfl) (hx:a.eval x=ax (ab ⟨B,k,af⟩):=by rfl) (c:∀Fr,((rd i).map (dk bo out us)++Fr)[j]?=ab (aj B (aZ U L tail) t):=by(intro _;rfl)) (hk:k<n:=by first|exact(of_decide_eq_true rfl)|omega) (e:(P.underlying ty).map (λd=>d.isRow)=ab false:=by kernel_rfl) (hi:decide (i∈LE)=false:=by kernel_rfl) (f:c6 o (cZ ops a.tmps)=true:=by kernel_rfl)
 (ha:a.put o.dst (U (L[k]?.getD 0))=bx:=by((try simp only[Act.put,List.setIfInBounds_toArray,List.set_cons_zero,List.set_cons_succ]);rfl)):cM P ops Q dst LE bV aq FX bo out ins rd fin QP us i (o::rest) a:=aN _ (λ_ Fr b=>fw ho hx (b.aX j (c Fr)) (KY (cz▸hk)) e) h hi f ha
def RG {B k t m n:Nat} {U:Int->aO} {L:List Int} {tail:List aO} {ty:gb} {x y:iE} {z:Int} (cz:L.length=n) (h:cM P ops Q dst LE bV aq FX bo out ins rd fin QP us (i+1) rest bx) (hn:ins i=[m]:=by rfl) (b:dk bo out us m=aj B (aZ U L tail) t:=by rfl) (ho:o.op=zw ty x y:=by rfl) (hx:a.eval x=ax (ab ⟨B,k,af⟩):=by rfl) (c:a.eval y=U z:=by rfl) (hk:k<n:=by first|exact(of_decide_eq_true rfl)|omega)
 (sY:(U z).cells=#[U z]:=by rfl) (h1:∀x,(U x).oneCell'=true:=by(intro _;rfl)) (hz:(P.info? ty).map (·.size)=ab (U z).cells.size:=by kernel_rfl) (hl:∀u,bV i u=undef:=by(intro _;rfl)) (nR:∀u,out (dw us i u) i=aj B (aZ U (L.set k z) tail) t:=by(intro _;rfl)) (hd:dst i=none:=by rfl) (j7:o.dst=none:=by rfl)
 (hi:decide (i∈LE)=true:=by kernel_rfl) (hw:c6 o (cZ ops a.tmps)=true:=by kernel_rfl) (ha:a.put o.dst (bV i (us i))=bx:=by((try simp only[Act.put,List.setIfInBounds_toArray,List.set_cons_zero,List.set_cons_succ]);rfl)):cM P ops Q dst LE bV aq FX bo out ins rd fin QP us i (o::rest) a:=gi (U z) h hn b ho hx c (X' (cz▸hk) sY) hz aF (Ya (cz▸hk) sY) hl nR hd j7 hi hw ha
def uc (p q z:Int) (h:cM P ops Q dst LE bV aq FX bo out ins rd fin QP us (i+1) rest bx) {t b:gb} {x y:iE} (ho:o.op=nA .add t x y b:=by rfl) (hx:a.eval x=J R p:=by rfl) (e:a.eval y=J R q:=by rfl) (hz:p+q=z:=by omega) (h1:-9223372036854775808<=z:=by omega) (c:z<=9223372036854775807:=by omega) (hi:decide (i∈LE)=false:=by kernel_rfl) (d:c6 o (cZ ops a.tmps)=true:=by kernel_rfl)
 (ha:a.put o.dst (J R z)=bx:=by((try simp only[Act.put,List.setIfInBounds_toArray,List.set_cons_zero,List.set_cons_succ]);rfl)):cM P ops Q dst LE bV aq FX bo out ins rd fin QP us i (o::rest) a:=aK h hi d (λ_=>mZ t x y b ho p q z hx e hz h1 c) ha
def HC (p q z:Int) (h:cM P ops Q dst LE bV aq FX bo out ins rd fin QP us (i+1) rest bx) {t b:gb} {x y:iE} (ho:o.op=nA .sub t x y b:=by rfl) (hx:a.eval x=J R p:=by rfl) (e:a.eval y=J R q:=by rfl) (hz:p -q=z:=by omega) (h1:-9223372036854775808<=z:=by omega) (c:z<=9223372036854775807:=by omega) (hi:decide (i∈LE)=false:=by kernel_rfl) (d:c6 o (cZ ops a.tmps)=true:=by kernel_rfl)
 (ha:a.put o.dst (J R z)=bx:=by((try simp only[Act.put,List.setIfInBounds_toArray,List.set_cons_zero,List.set_cons_succ]);rfl)):cM P ops Q dst LE bV aq FX bo out ins rd fin QP us i (o::rest) a:=aK h hi d (λ_=>qQ t x y b ho p q z hx e hz h1 c) ha
def Lo (p q z:Int) (h:cM P ops Q dst LE bV aq FX bo out ins rd fin QP us (i+1) rest bx) {t b:gb} {x y:iE} (ho:o.op=nA .mul t x y b:=by rfl) (hx:a.eval x=J R p:=by rfl) (e:a.eval y=J R q:=by rfl) (hz:p*q=z:=by omega) (h1:-9223372036854775808<=z:=by omega) (c:z<=9223372036854775807:=by omega) (hi:decide (i∈LE)=false:=by kernel_rfl) (d:c6 o (cZ ops a.tmps)=true:=by kernel_rfl)
 (ha:a.put o.dst (J R z)=bx:=by((try simp only[Act.put,List.setIfInBounds_toArray,List.set_cons_zero,List.set_cons_succ]);rfl)):cM P ops Q dst LE bV aq FX bo out ins rd fin QP us i (o::rest) a:=aK h hi d (λ_=>nM t x y b ho p q z hx e hz h1 c) ha
def dD {f:Bm} {args:Array aO} (hc:∀w (Fr:List bp),ak aq FX w ((ins i).map (dk bo out us)++((rd i).map (dk bo out us)++Fr))->aD P f args w λe w'=>e=aB v/\ar w w') (h:cM P ops Q dst LE bV aq FX bo out ins rd fin QP us (i+1) rest bx) (hn:ins i=[]:=by rfl) (k:∀u,bV i u=v:=by(intro _;rfl)) (c:∀u,out (dw us i u) i=emp:=by(intro _;rfl))
 (hr:∀w,(bt a.eval o).run P w=a6 (.enter f args) w:=by(intro _;go_simp;try with_reducible rfl)) (hd:dst i=o.dst:=by rfl) (hlt:(match o.dst with|some d=>decide (d<a.tmps.size)|none=>ao)=true:=by kernel_rfl) (hi:decide (i∈LE)=true:=by kernel_rfl) (hw:c6 o (cZ ops a.tmps)=true:=by kernel_rfl) (ha:a.put o.dst (bV i (us i))=bx:=by((try simp only[Act.put,List.setIfInBounds_toArray,List.set_cons_zero,List.set_cons_succ]);rfl)):cM P ops Q dst LE bV aq FX bo out ins rd fin QP us i (o::rest) a:=
 du (λw Fr b=>(hc w Fr b).mono (λe w' ⟨j,g⟩=>⟨{},aF,by rw[c];rw[hn]at b;exact(b.aG g).dN⟩)) h hr hd hlt hi hw ha
def Ex {f:Bm} {args:Array aO} {j:Option bQ->Nat->aO} {bs:List Int} (hc:∀w (Fr:List bp),ak aq FX w ((ins i).map (dk bo out us)++((rd i).map (dk bo out us)++Fr))->aD P f args w λe w'=>∃A c,e=aB (j A c)/\e6 w.heap.size w' A c bs/\ar w w') (h:cM P ops Q dst LE bV aq FX bo out ins rd fin QP us (i+1) rest bx) (hn:ins i=[]:=by rfl) (m:∀u,bV i u=j u.A u.c:=by(intro _;rfl)) (k:∀u,out (dw us i u) i=cg u.A u.c bs:=by(intro _;rfl))
 (hr:∀w,(bt a.eval o).run P w=a6 (.enter f args) w:=by(intro _;go_simp;try with_reducible rfl)) (hd:dst i=o.dst:=by rfl) (hlt:(match o.dst with|some d=>decide (d<a.tmps.size)|none=>ao)=true:=by kernel_rfl) (hi:decide (i∈LE)=true:=by kernel_rfl) (hw:c6 o (cZ ops a.tmps)=true:=by kernel_rfl) (ha:a.put o.dst (bV i (us i))=bx:=by((try simp only[Act.put,List.setIfInBounds_toArray,List.set_cons_zero,List.set_cons_succ]);rfl)):cM P ops Q dst LE bV aq FX bo out ins rd fin QP us i (o::rest) a:=
 du (λw Fr b=>(hc w Fr b).mono (λe w' ⟨A,c,l,hb,g⟩=>⟨{A:=A,c:=c},aF,by rw[k];rw[hn]at b;exact b.jE g hb⟩)) h hr hd hlt hi hw ha
end
section
variable {P:ee} {o:cU} {a:bT} {w:aM}
def Row.blk{w A}{n c e sz:Nat}{xs}(h:Row 0 w A n c e sz xs)(hn:0<n):∃g cur,A=ab ⟨g,0,af⟩/\aU w g cur e/\n<=c/\c<=eh/\cur.size=c*sz/\cur.toList.take (n*sz)=xs:=by
 rcases h.2 with⟨_,a⟩|⟨g,cap,cur,hv,_,i,h1,b,d,f⟩;·omega
 grind
def Jb{w}{g n c e sz:Nat}{cur}(d:aU w g cur e)(h1:n<=c)(a:c<=eh)(b:cur.size=c*sz):Row 0 w (ab ⟨g,0,af⟩) n c e sz (cur.toList.take (n*sz)):=
 ⟨by grind[Nat.mul_le_mul_right],b8 ⟨g,c,cur,aa,cF _,d,h1,a,b,aa⟩⟩
def ak.A9{aq w:aM}{FX:Nat->Prop}{l:List bp}{g e:Nat}{cur:Array aO}(h:ak aq FX w l)(i n c sz:Nat)(xs:List aO)(hx:cur.toList.take (n*sz)=xs)(h1:n<=c)(a:c<=eh)(d:cur.size=c*sz)(hi:l[i]?=ab (aj g cur e):=by rfl):ak aq FX w (l.set i (bk (ab ⟨g,0,af⟩) n c e sz xs)):=
 h.as i hi _ (λhb=>hx▸Jb hb h1 a d) (λb ⟨off,f,e⟩=>by injection e with e;injection e with bB bY;exact bB.symm)
def aeS{x}{t e B off n c ty sz:Nat}{z cs}(ho:o.op=nB {callee:=oR .clear,args:=#[x],argTypes:=#[t]})(hx:a.eval x=ae (ab ⟨B,off,af⟩) n c)(f:P.underlying t=ab (iF e))(hz:(P.info? e).bind (·.zero)=ab z)(hzs:z.cells.size=sz)(hz1:z.cells.all (·.oneCell')=az)(hn:0<n)(hb:aU w B cs ty)(h:off+n*sz<=cs.size):
 ∃w' cs',(bt a.eval o).run P w=a6 (c9 (bm #[])) w'/\Turned w w' (aj B cs ty) (aj B cs' ty)/\cs'.size=cs.size/\cs'.toList.take off=cs.toList.take off:=by
 have hzl:((mQ z.cells n).toList).length=n*sz:=by grind[mQ]
 have hz2:(mQ z.cells n).toList.all (·.oneCell')=true:=by grind[mQ,Nat.mod_lt]
 obtain⟨w',hr,b,d,g⟩:=Uj (P:=P) B ty (mQ z.cells n).toList w cs off 0 hb ad hz2;refine⟨w',lay cs (off+0) (mQ z.cells n).toList,?_,vt d b,lay_size _ _ _,?_⟩;·obtain⟨m,rfl⟩:∃m,n=m+1:=⟨n -1,ad⟩;have hv:(zeroValue e).run P w=a6 z w:=Uk hz w;unfold bt;simp[ho,nD,nC,qF,ga,hx,Builtin.clear_,gE f,hv,hr]
 .rw[Nat.add_zero]
  have key:∀(l:List aO) (cs:Array aO) (k:Nat),off<=k->(lay cs k l).toList.take off=cs.toList.take off:=by
   intro l;induction l with
   |nil=>intro cs k _;rfl
   |cons v l i=>grind[lay,List.take_set_of_le]
  exact key _ _ _ (b4 _)
end
def adU {P:ee} {ops:Array cU} {rest:List cU} {Q:iD->bT->aM->Prop} {o:cU} {a bx:bT} {w:aM} {v:aO} {aq:aM} {FX:Nat->Prop} {l:List bp} {G ty:Nat} {cs:Array aO} {C:Array aO->Prop} (b:ak aq FX w l) (i:Nat) (hr:∃w' cs',(bt a.eval o).run P w=a6 (c9 v) w'/\Turned w w' (aj G cs ty) (aj G cs' ty)/\C cs') (h:∀w' cs',C cs'->ak aq FX w' (l.set i (aj G cs' ty))->cL P ops Q rest bx w') (hi:l[i]?=ab (aj G cs ty):=by rfl) (f:c6 o (cZ ops a.tmps)=true:=by kernel_rfl)
 (ha:a.put o.dst v=bx:=by((try simp only[Act.put,List.setIfInBounds_toArray,List.set_cons_zero,List.set_cons_succ]);rfl)):cL P ops Q (o::rest) a w:=by
 obtain⟨w',cs',h1,c,d⟩:=hr;refine ry λK e=>?_;rw[if_pos f];unfold ih;rw[h1];show K _ _;rw[ha];exact e _ _ (h w' _ d (b.Dg i hi c))
def F5{P o}{a:bT}{w}{B k t:Nat}{cs cs' ty x y}v(ho:o.op=zw ty x y)(hx:a.eval x=ax (ab ⟨B,k,af⟩))(b:a.eval y=v)(hb:aU w B cs t)(hk:k+v.cells.size<=cs.size)(hi:(P.info? ty).map (·.size)=ab v.cells.size)(h1:v.cells.all (·.oneCell')=az)(hc:lay cs k v.cells.toList=cs'):
 ∃w',(bt a.eval o).run P w=a6 .skip w'/\Turned w w' (aj B cs t) (aj B cs' t):=by grind[Np,vt]
def awE{B c i sz}(h:i<c):fF (ab ⟨B,0,af⟩) c i sz=ab ⟨B,i*sz,af⟩:=by grind[fF,nL]
def afh {P o} {a:bT} {w} (t e sz:Nat) (x lo) (ho:o.op=.slice t x (ab lo) af af) (d:P.underlying t=ab (iF e)) (b:(P.info? e).map (·.size)=ab sz) (B n c i m:Nat)
 (hx:a.eval x=ae (ab ⟨B,0,af⟩) n c) (kO:a.eval lo=J R (i:Int)) (hm:i+m=n) (h2:n<=c) (hi:i<c):(bt a.eval o).run P w=a6 (c9 (ae (ab ⟨B,i*sz,af⟩) m (c -i))) w:=by
 have h:=A3 (w:=w) t e sz x lo ho d b _ n c i m hx kO hm h2;rw[awE hi]at h;exact h
def I1{w W A}{n c e sz:Nat}{xs}(h:Row 0 w A n c e sz xs)(g:ar w W):Row 0 W A n c e sz xs:=
 bp.only (bk A n c e sz xs) h (λ_ hb=>(Row.lt h hb).2) g (λ_ _ h=>h)
def adV {P:ee} {ops:Array cU} {rest:List cU} {Q:iD->bT->aM->Prop} {o:cU} {a:bT} {w aq:aM} {FX:Nat->Prop} {l:List bp} {s:bp} {bx:Option bQ->Nat->bT} {b:Option bQ->Nat->aO} {t:Option bQ->Nat->bp} {l':Option bQ->Nat->List bp} (d:ak aq FX w l) (i:Nat) (hr:∃A c w',(bt a.eval o).run P w=a6 (c9 (b A c)) w'/\Turned w w' s (t A c)) (h:∀A c w',ak aq FX w' (l' A c)->cL P ops Q rest (bx A c) w') (hi:l[i]?=ab s:=by rfl)
 (hl:∀A c,l.set i (t A c)=l' A c:=by(intro _ _;(try simp only[List.set_cons_zero,List.set_cons_succ]);rfl)) (hw:c6 o (cZ ops a.tmps)=true:=by kernel_rfl) (ha:∀A c,a.put o.dst (b A c)=bx A c:=by(intro _ _;(try simp only[Act.put,List.setIfInBounds_toArray,List.set_cons_zero,List.set_cons_succ]);rfl)):cL P ops Q (o::rest) a w:=by
 obtain⟨A,c,w',h1,e⟩:=hr;refine ry λK f=>?_;rw[if_pos hw];unfold ih;rw[h1];show K _ _;rw[ha];exact f _ _ (h A c w' (hl A c▸d.Dg i hi e))
end
def Tw cQ p A c bs w(i:w.cell? ⟨p,0,af⟩=ab (ae A bs.length c))(hx:bX w A bs)(h1:bs.length<=140737488355328):
 aD aw 100 #[J R cQ,ae (ab ⟨p,0,af⟩) 1 1] w λe w'=>∃b d,e=aB (av #[J R 2,J R cQ,J R 0,J R 0,ae b bs.length d])/\e6 w.heap.size w' b d bs/\ar w w':=by
 go_enter func100,ntmps100;have a:=bc w;go_step;refine ah ?_;refine bA a #[J _ 0,J _ 0,J _ 0,J _ 0,ae _ 0 0] (λj w1 a=>?_);refine hE ?_;refine aP (Hw p A c bs _ (a.only.cell i (λh=>h)) (hx.aG a.only) h1) ?_;rintro e k ⟨f,c1,rfl,hr,g⟩;replace a:=a.jE g (e6.nU hr);refine aQ ?_;refine ag ?_;refine a' a 1 (av _) (λl a=>?_);refine an ?_;go_wp2_with fail;refine dp (v:=_) (jd aa _ _ _ _ _ _ _ aa (a.aX 1) fy aa ay) aa (⟨f,c1,aa,(a.fresh 0).Db,a.only⟩)
def Rv(k cQ fr n)A c bs w(hx:bX w A bs)(h1:bs.length<=140737488355328):
 aD aw 102 #[av #[J R k,J R cQ,J R fr,J R n,ae A bs.length c]] w λe w'=>∃d f,e=aB (av #[J R k,J R cQ,J R fr,J R n,ae d bs.length f])/\e6 w.heap.size w' d f bs/\ar w w':=by
 go_enter func102,ntmps102;have a:=bc w;go_step;refine ah ?_;refine bG a (av _) (λh w1 a=>?_);refine bA a #[J _ 0,J _ 0,J _ 0,J _ 0,ae _ 0 0] (λi j a=>?_);refine b' ?_;refine pl a 1 4 ?_;refine aP (wZ A c bs _ (hx.aG a.only) h1) ?_;rintro e l ⟨b,c1,rfl,hr,g⟩;replace a:=a.jE g (e6.nU hr);refine aQ ?_;refine ag ?_;refine a' a 2 (ae b _ c1) (λm a=>?_);refine ah ?_;refine bh a 2 #[J R k,J R cQ,J R fr,J R n,ae b bs.length c1] ?_;refine a' a 1 (av _) (λo a=>?_);refine an ?_;go_wp2_with fail;refine dp (v:=_) (jd aa _ _ _ _ _ _ _ aa (a.aX 1) fy aa ay) aa (⟨b,c1,aa,(a.fresh 0).Db,a.only⟩)
def as8(cQ fr n a b)A(m c)w(h1:et (cQ,n))(y:et (fr,n))(z:et (a,b))(hb:0<b)(l:cQ<=a)(o:a+b<=cQ+n):
 aD aw 237 #[av #[J R 1,J R cQ,J R fr,J R n,ae A m c],av #[J R a,J R b]] w λe w'=>e=aB (bm #[av #[J R 1,J R a,J R (fr+(a -cQ)),J R b,ae af 0 0],ai az])/\ar w w':=by
 obtain⟨df,br,lh⟩:=z;obtain⟨k,bF,da⟩:=h1;obtain⟨p,q,r⟩:=y;simp only at df br lh k bF da p q r;obtain⟨f,hr1⟩:=ex (a -cQ);obtain⟨j,hr2⟩:=ex (fr+f);have t:=hid (show R.wrap (a -cQ)=f by grind[wj]);have x:=hid (show R.wrap (fr+f)=j by grind[wj]);have s:=hid (λW=>aaC cQ n a b W ⟨k,bF,da⟩ ⟨df,br,lh⟩ hb l o);rw[hr1,hr2];clear hr1 hr2 df br lh k bF da p q r hb l o;go_enter Tryz.func237,Tryz.ntmps237;have d:=bc w;go_step;refine ah ?_;refine bG d (av _) (λB w1 d=>?_);refine bG d (av _) (λC F d=>?_);refine bA d #[J _ 0,J _ 0,J _ 0,J _ 0,ae _ 0 0] (λD G d=>?_);refine iB ?_;refine bN d [1,4,5] (λi u=>match i with|1=>av #[J R cQ,J R n]|4=>ax (ab ⟨u.b,0,af⟩)|_=>a1) (λg=>λ|4=>aj ((g 4).b) #[J R 0,J R 0,J R 0,J R 0,J R 0,J R 0,ae af 0 0] 400|5=>aj ((g 4).b) #[J R cQ,J R n,J R 1,J R cQ,J R fr,J R n,ae A m c] 400|_=>emp) (λ|5=>[7]|_=>[]) (λ|0=>[2]|2=>[2]|_=>[]) (λ|4=>[4]|5=>[4]|_=>[]) [0,1,2,4,8] (λg=>?_);refine eI 0 #[J R 1,J R cQ,J R fr,J R n,ae A m c] ?_;refine dD (λ_ _ _=>MW 1 cQ fr n A m c _) ?_;refine eI 0 #[J R 1,J R cQ,J R fr,J R n,ae A m c] ?_;refine aK ?_;refine rR _ ?_;refine gi _ ?_;refine bU λH d=>?_;generalize (g 4).b=E at d⊢;replace d:=d.drop 3;refine b' ?_;refine bh d 3 #[J R cQ,J R n] ?_;refine bh d 1 #[J R a,J R b] ?_;refine bH (s _) d (λI d=>?_);refine cK ?_;refine pl d 1 0 ?_;refine ag ?_;refine pl d 2 1 ?_;refine aI (J R f) (by(have h:=t.out;go_simp;try rw[h])) ?_;refine cK ?_;refine pl d 2 0 ?_;refine cK ?_;refine pl d 1 0 ?_;refine ag ?_;refine pl d 2 2 ?_;refine ag ?_;refine aI (J R j) (by(have h:=x.out;go_simp;try rw[h])) ?_;refine ag ?_;refine pl d 1 1 ?_;refine bH (Y0 a j b _) d (λK d=>?_);refine a' d 0 (av _) (λL d=>?_);refine bP ?_;go_wp2_with fail;refine dp (v:=_) (mL aa aa aa (d.aX 0) ay ay) aa (⟨aa,d.only⟩)
def ata(cQ fr n a b)A(c f j:Nat)bs w(hx:bX w A bs)(hc:bs.length<=c)(C:bs.length<=140737488355328)(h1:et (cQ,(bs.length:Int)))(hai:a=cQ+(f:Int))(B:b=(j:Int))(hb:0<j)(o:f+j<=bs.length):
 aD aw 237 #[av #[J R 2,J R cQ,J R fr,J R n,ae A bs.length c],av #[J R a,J R b]] w λe w'=>∃l m,e=aB (bm #[av #[J R 2,J R a,J R 0,J R 0,ae l j m],ai az])/\e6 w.heap.size w' l m ((bs.drop f).take j)/\ar w w':=by
 have y:=hid (show R.wrap (a -cQ)=(f:Int) by grind[wj]);have r:et (a,b):=by obtain⟨U,bF,da⟩:=h1;simp only at*;exact⟨ad,ad,ad⟩
 have k:bX w (fF A c f 1) ((bs.drop f).take j):=by have:=hx.win (i:=f) (q:=_) hc o;rwa [show f+j -f=j by omega]at this
 have s:((bs.drop f).take j).length=j:=aF;obtain⟨ds,p⟩:=ex ((bs.drop f).take j);rw[p]at k s⊢;have x:=hid (λW=>aaC cQ _ a b W h1 r ad ad ad);have L:f+j<=c:=ad;have hjb:j<=140737488355328:=ad;subst B s;have z:=hid k;have M:f<=f+ds.length:=ad;have N:f+ds.length -f=ds.length:=ad;have K:(f:Int)+(ds.length:Int)<=140737488355328:=ad;clear r h1 hx hai hb o hc C p k;go_enter Tryz.func237,Tryz.ntmps237;have d:=bc w;go_step;refine ah ?_;refine bG d (av _) (λF w1 d=>?_);refine bG d (av _) (λG O d=>?_);refine bA d #[J _ 0,J _ 0,J _ 0,J _ 0,ae _ 0 0] (λt P d=>?_);refine iB ?_;refine bN d [1,4,5] (λi u=>match i with|1=>av #[J R cQ,J R (bs.length:Int)]|4=>ax (ab ⟨u.b,0,af⟩)|_=>a1) (λg=>λ|4=>aj ((g 4).b) #[J R 0,J R 0,J R 0,J R 0,J R 0,J R 0,ae af 0 0] 400|5=>aj ((g 4).b) #[J R cQ,J R (bs.length:Int),J R 2,J R cQ,J R fr,J R n,ae A bs.length c] 400|_=>emp) (λ|5=>[7]|_=>[]) (λ|0=>[2]|2=>[2]|_=>[]) (λ|4=>[4]|5=>[4]|_=>[]) [0,1,2,4,8] (λg=>?_);refine eI 0 #[J R 2,J R cQ,J R fr,J R n,ae A bs.length c] ?_;refine dD (λ_ _ _=>MW 2 cQ fr n A _ c _) ?_;refine eI 0 #[J R 2,J R cQ,J R fr,J R n,ae A bs.length c] ?_;refine aK ?_;refine rR _ ?_;refine gi _ ?_;refine bU λQ d=>?_;generalize (g 4).b=H at d⊢;replace d:=d.drop 3;refine b' ?_;refine bh d 3 #[J R cQ,J R (bs.length:Int)] ?_;refine bh d 1 #[J R a,J R (ds.length:Int)] ?_;refine bH (x _) d (λS d=>?_);refine cK ?_;refine pl d 1 0 ?_;refine ag ?_;refine pl d 2 1 ?_;refine aI (J R (f:Int)) (by(have h:=y.out;go_simp;try rw[h])) ?_;refine cK ?_;refine pl d 2 0 ?_;refine iB ?_;refine bN d [10,11,12] (λi u=>match i with|10=>ae (ab ⟨u.b,0,af⟩) 1 1|11=>av #[J R 2,J R a,J R 0,J R 0,ae u.A ds.length u.c]|_=>a1) (λg=>λ|10=>aj ((g 10).b) #[ae (fF A c f 1) ((f+ds.length) -f) (c -f)] 22|11=>cg ((g 11).A) ((g 11).c) ds|12=>aj t #[J R 2,J R a,J R 0,J R 0,ae (g 11).A ds.length (g 11).c] 73|_=>emp) (λ|12=>[0]|_=>[]) (λ|1=>[1]|3=>[2]|7=>[1]|11=>[14]|_=>[]) (λ|10=>[10]|11=>[11]|12=>[11]|_=>[]) [1,2,3,14,15,16] (λg=>?_);refine aK ?_;refine dl 0 0 ?_;refine aK ?_;refine dl 0 4 ?_;refine da ?_;refine dl 0 1 ?_;refine uc _ _ ((f+ds.length:Nat):Int) ?_;refine aN _ (λ_ _ _=>aff 22 5 1 _ _ _ aa dL ay A _ c f _ aa aa aa ad ad) ?_;refine lN _ 22 ?_;refine Ex (λ_ _ d=>Tw a _ (fF A c f 1) (c -f) ds _ ((d.aX 0).cell 0 a8) (z.out.aG d.only) hjb) ?_;refine gi _ ?_;refine aK ?_;refine bU λT d=>?_;generalize (g 10).b=E at d⊢;generalize (g 11).A=D at d⊢;generalize (g 11).c=I at d⊢;go_wp2_with fail;refine dp (v:=_) (mL aa aa aa (d.aX 5) ay ay) aa (⟨_,_,aa,(d.fresh 4).Db,d.only⟩)
def cnt(r s:Int):Int:=(r -1)/s+1
def lu(m:bJ)(a b:Int):bJ:=if m.k=1 then⟨1,a,m.fr+(a -m.to),b,[]⟩else⟨2,a,0,0,(m.data.drop (a -m.to).toNat).take b.toNat⟩
def Ah(m:bJ):Bool:=decide (m.k=1)&&(meets (m.fr,m.n) (m.to,m.n)&&decide (m.fr<m.to))
def j5(m:bJ)(s:Int):Int:=cnt (b5 m) s
def l9(m:bJ)(s k:Int):Int:=if Ah m then j5 m s -1 -k else k
def kZ(m:bJ)(s k:Int):bJ:=lu m (m.to+l9 m s k*s) (min s (b5 m -l9 m s k*s))
def gW(m:bJ):Prop:=wU m.k m.to m.fr m.n m.data.length
def qz(w:aM)(m:bJ)(A:Option bQ)(c:Nat):Prop:=bX w A m.data/\m.data.length<=c
def qz.aG{w w' m A c}(h:qz w m A c)(g:ar w w'):qz w' m A c:=⟨h.1.aG g,h.2⟩
def e6.cmd{w N m A c}(h:e6 N w A c m.data):qz w m A c:=⟨h.1,h.2.2⟩
def av3 m:fg m.k m.n m.data.length=b5 m:=rfl
theorem gW.ck{m}(h:gW m):0<=m.to/\0<b5 m/\m.to+b5 m<=4611686018427387903:=by have:=wU.ck h;rw[av3]at this;obtain⟨⟨h1,_,a⟩,b⟩:=this;exact⟨h1,b,a⟩
def as7 m(a b)A c w(hv:gW m)(l:qz w m A c)(q:m.data.length<=140737488355328)(h1:m.to<=a)(o:0<b)(f:a+b<=m.to+b5 m):
 aD aw 237 #[l6 m A c,av #[J R a,J R b]] w λe w'=>∃i j,e=aB (bm #[l6 (lu m a b) i j,ai az])/\e6 w.heap.size w' i j (lu m a b).data/\ar w w':=by
 obtain⟨k,cQ,fr,n,data⟩:=m;rcases hv with⟨rfl,d,v2,v3,v4⟩|⟨rfl,d,v2,v3,v4⟩;·simp only at d v2 v3 v4 h1 f;obtain rfl:=j2 v4;have p:a+b<=cQ+n:=f;refine(as8 cQ fr n a b A 0 c w d v2 ⟨by have:=d.1;simp only at*;omega,ad,by have:=d.2.2;simp only at*;omega⟩ o ad ad).mono ?_;rintro e w' ⟨rfl,g⟩;exact⟨_,0,aa,e6.nil,g⟩
 .simp only at d v2 v3 v4 h1 f;subst v2;subst v3;have p:a+b<=cQ+(data.length:Int):=f;have h:=ata cQ 0 0 a b A c (a -cQ).toNat b.toNat data w l.1 l.2 q d ad ad ad ad;grind[lu]
def RC{m s k}(hv:gW m)(g:1<=s)(h1:0<=k)(d:k<j5 m s):0<=l9 m s k/\l9 m s k<j5 m s/\0<=l9 m s k*s/\l9 m s k*s<b5 m:=by
 have a:0<=l9 m s k/\l9 m s k<j5 m s:=by grind[l9]
 refine⟨a.1,a.2,Int.mul_nonneg a.1 ad,?_⟩;have c:l9 m s k<=(b5 m -1)/s:=by grind[j5,cnt]
 have e:l9 m s k*s<=(b5 m -1)/s*s:=Int.mul_le_mul_of_nonneg_right c ad;have f:=Int.ediv_mul_le (b5 m -1) (b:=s) ad;omega
def B4{m s}(hv:gW m)(c:1<=s):1<=j5 m s/\j5 m s<=b5 m:=by have h:=hv.ck;unfold j5 cnt;have h1:0<=(b5 m -1)/s:=XL ad ad;have b:=ajW (a:=b5 m -1) s ad;omega
def auR{P o}{a:bT}{w t f x y p s q}(ho:o.op=nA .quo t x y f)(hx:a.eval x=J R p)(e:a.eval y=J R s)(b:¬s=0)(c:Int.tdiv p s=q)(d:R.wrap q=q):(bt a.eval o).run P w=a6 (c9 (J R q)) w:=by unfold bt;simp[ho,hx,e,zD,x8,O1,b,c,d]
def RB m A c s w(h1:0<b5 m)(i:b5 m<=4611686018427387903)(o:1<=s):
 aD aw 138 #[l6 m A c,J R s] w λe w'=>e=aB (J R (j5 m s))/\ar w w':=by
 obtain⟨r,hr⟩:=ex (b5 m);have b:=hid (λW=>uN m.k m.to m.fr m.n A m.data.length c W);rw[show fg _ _ _=r from hr]at b;rw[j5,cnt,hr];rw[hr]at h1 i;clear hr;have d:0<=(r -1)/s/\(r -1)/s<=r -1:=⟨XL ad ad,ajW _ ad⟩;obtain⟨q,f⟩:=ex ((r -1)/s);have h:=hid (show Int.tdiv (r -1) s=q by grind);rw[f]at d⊢;obtain⟨fS,fD⟩:=d;have hs0:¬s<1:=ad;have j:¬s=0:=ad;have g:=hid (show R.wrap q=q from wj _ ad);clear f;go_enter func138,ntmps138;have a:=bc w;go_step;refine ah ?_;refine bG a (av _) (λl w1 a=>?_);refine ag ?_;refine an ?_;go_step;refine ah ?_;refine v2 ?_;refine an ?_;go_step;refine ah ?_;refine bh a 0 #[J R m.k,J R m.to,J R m.fr,J R m.n,ae A m.data.length c] ?_;refine bH (b _) a (λp a=>?_);refine pk (J R r) ?_;refine lH r 1 (r -1) ?_;refine ag ?_;refine aI _ (auR aa aa aa j h g) ?_;refine pad q 1 (q+1) ?_;refine ag ?_;refine an ?_;go_wp2_with fail;go_ret;exact⟨aa,a.only⟩
def am2 m A c w(hv:gW m):
 aD aw 235 #[l6 m A c] w λe w'=>e=aB (ai (Ah m))/\ar w w':=by
 obtain⟨k,cQ,fr,n,data⟩:=m;rcases hv with⟨rfl,d,v2,v3,v4⟩|⟨rfl,d,v2,v3,v4⟩
 .have b:=hid (λW=>asU cQ fr n A data.length c W d v2);clear d v2 v3 v4;show aD _ _ _ _ λe w'=>e=aB (ai (meets (fr,n) (cQ,n)&&decide (fr<cQ)))/\ar w w';cases hm:meets (fr,n) (cQ,n)
  .rw[hm]at b;clear hm;go_enter VA,V3;have a:=bc w;go_step;refine ah ?_;refine bG a (av #[J _ 1,J _ cQ,J _ fr,J _ n,ae A data.length c]) (λf w1 a=>?_);refine en ?_;refine bh a 0 #[J R 1,J R cQ,J R fr,J R n,ae A data.length c] ?_;refine bH (b _) a (λg a=>?_);refine ag ?_;iterate 5 refine ps ?_
   refine v2 ?_;refine bB ?_;exact⟨aa,a.only⟩
  .rw[hm]at b;clear hm;go_enter VA,V3;have a:=bc w;go_step;refine ah ?_;refine bG a (av #[J _ 1,J _ cQ,J _ fr,J _ n,ae A data.length c]) (λf h a=>?_);refine en ?_;refine bh a 0 #[J R 1,J R cQ,J R fr,J R n,ae A data.length c] ?_;refine bH (b _) a (λi a=>?_);refine v2 ?_;refine pl a 0 1 ?_;refine ag ?_;refine pl a 0 2 ?_;refine v3 ?_;refine bB ?_;exact⟨aa,a.only⟩
 .have b:=hid (λW=>asV 2 cQ fr n A data.length c W bf);clear d v2 v3 v4;show aD _ _ _ _ λe w'=>e=aB (ai ao)/\ar w w';go_enter VA,V3;have a:=bc w;go_step;refine ah ?_;refine bG a (av #[J _ 2,J _ cQ,J _ fr,J _ n,ae A data.length c]) (λf j a=>?_);refine en ?_;refine bh a 0 #[J R 2,J R cQ,J R fr,J R n,ae A data.length c] ?_;refine bH (b _) a (λl a=>?_);refine ag ?_;iterate 5 refine ps ?_
  refine v2 ?_;refine bB ?_;exact⟨aa,a.only⟩
structure X6 (w:aM) (cG tt ts sn b1:Nat) (m:bJ) (A:Option bQ) (c:Nat) (s:Int):Prop where
 d:aU w cG #[ai (Ah m)] 4
 n:aU w tt #[J R (j5 m s)] 3
 c:aU w ts #[J R m.k,J R m.to,J R m.fr,J R m.n,ae A m.data.length c] 73
 t:aU w sn #[J R m.to,J R (b5 m)] 35
 s:aU w b1 #[J R s] 3
def ati m A c s w(hv:gW m)(d:1<=s):
 aD aw 160 #[l6 m A c,J R s] w λe w'=>∃cG tt ts sn b1,e=aB (dC (ed 236) #[] #[ax (ab ⟨cG,0,af⟩),ax (ab ⟨tt,0,af⟩),ax (ab ⟨ts,0,af⟩),ax (ab ⟨sn,0,af⟩),ax (ab ⟨b1,0,af⟩)])/\X6 w' cG tt ts sn b1 m A c s/\ar w w':=by
 have b:=hv.ck;have h:aE (∀W,aD _ _ #[l6 m A c] W λe w'=>e=aB (av #[J _ _,J _ (b5 m)])/\ar W w'):=hid (λW=>uN _ _ _ _ A _ c W);have g:=hid (λW=>RB m A c s W b.2.1 ad d);have f:=hid (λW=>am2 m A c W hv);clear b hv d;go_enter func160,ntmps160;have a:=bc w;go_step;refine ah ?_;refine bG a (av _) (λts w1 a=>?_);refine bG a (J _ s) (λb1 l a=>?_);refine en ?_;refine bh a 1 #[J R m.k,J R m.to,J R m.fr,J R m.n,ae A m.data.length c] ?_;refine bH (h _) a (λo a=>?_);refine bA a #[J _ 0,J _ 0] (λsn p a=>?_);refine a' a 0 (av _) (λq a=>?_);refine ah ?_;refine bh a 2 #[J R m.k,J R m.to,J R m.fr,J R m.n,ae A m.data.length c] ?_;refine pl a 1 0 ?_;refine bH (g _) a (λr a=>?_);refine bA a #[J _ 0] (λtt t a=>?_);refine a' a 0 (J _ _) (λu a=>?_);refine ah ?_;refine bh a 3 #[J R m.k,J R m.to,J R m.fr,J R m.n,ae A m.data.length c] ?_;refine bH (f _) a (λv a=>?_);refine bA a #[ai _] (λcG i a=>?_);refine a' a 0 (ai _) (λj a=>?_);refine axi ?_;exact⟨cG,tt,ts,sn,b1,aa,⟨a.aX 0,a.aX 1,a.aX 4,a.aX 2,a.aX 3⟩,a.only⟩
set_option maxHeartbeats 4000000 in
def ath m A(c cG tt ts sn b1)(s o)w(dH:X6 w cG tt ts sn b1 m A c s)(E:qz w m A c)(hv:gW m)(S:m.data.length<=140737488355328)(T:1<=s)(hk:0<=o/\o<j5 m s):
 aD aw 236 #[J R o,ax (ab ⟨cG,0,af⟩),ax (ab ⟨tt,0,af⟩),ax (ab ⟨ts,0,af⟩),ax (ab ⟨sn,0,af⟩),ax (ab ⟨b1,0,af⟩)] w λe w'=>∃N Q,e=aB (l6 (kZ m s o) N Q)/\e6 w.heap.size w' N Q (kZ m s o).data/\ar w w':=by
 obtain⟨uI,U,V,M⟩:=RC hv T hk.1 hk.2;obtain⟨t1,t2,t3⟩:=hv.ck;obtain⟨F,hn,hc,L,hsz⟩:=dH;obtain⟨r,hr⟩:=ex (b5 m);obtain⟨q,K⟩:=ex (j5 m s);have y:=B4 hv T;obtain⟨p,x⟩:=ex (l9 m s o);obtain⟨f,I⟩:=ex (kZ m s o);obtain⟨d,hdd⟩:=ex (Ah m);have apq:(if d then q -1 -o else o)=p:=by rw[<-hdd,<-K,<-x];rfl
 rw[x]at uI U V M;rw[hr]at M t2 t3 y L;rw[K]at U hk y hn;rw[hdd]at F;obtain⟨j,G⟩:=ex (p*s);rw[G]at V M;obtain⟨z,H⟩:=ex (min s (r -j));have Z:=hid (show lu m (m.to+j) z=f by rw[<-I,<-H,<-G,<-hr,<-x];rfl);rw[I];have P:=hid H;have t:=hid G;have cn:=hid E;have O:=hid (λW=>lO _ r W t1 ad t3);have C:=hid (λW dc=>as7 m (m.to+j) z A c W hv (E.aG dc) S ad ad ad);rw[Z]at C;have l:=hid (And.intro F (And.intro hn (And.intro hc (And.intro L hsz))));obtain⟨y,oF⟩:=y;clear hr K x I hdd H F hn hc L hsz E hv S;cases d;·obtain rfl:o=p:=aF;go_enter Tryz.func236,Tryz.ntmps236;have a:=bc w;go_step;refine ah ?_;refine bA a #[J _ 0,J _ 0,J _ 0,J _ 0,ae _ 0 0] (λX w1 a=>?_);refine ah ?_;refine iL l.out.1 a.only ?_;refine cx ?_;refine bN a [9,19,23,24] (λi u=>match i with|9=>J R (m.to+r)|19=>bm #[av #[J R f.k,J R f.to,J R f.fr,J R f.n,ae u.A f.data.length u.c],ai az]|23=>ax (ab ⟨u.b,0,af⟩)|_=>a1) (λg=>λ|19=>cg ((g 19).A) ((g 19).c) f.data|23=>aj ((g 23).b) #[J R 0,J R 0,J R 0,J R 0,ae af 0 0] 73|24=>aj ((g 23).b) #[J R f.k,J R f.to,J R f.fr,J R f.n,ae (g 19).A f.data.length (g 19).c] 73|_=>emp) (λ|24=>[24]|_=>[]) (λ_=>[]) (λ|19=>[19]|23=>[23]|24=>[19,23]|_=>[]) [0,10,20,25] (λg=>?_);refine aN _ (λ_ _ a=>mi (cs':=#[J R m.k,J R m.to,J R m.fr,J R m.n,ae A m.data.length c]) aa aa (aU.aG l.2.2.1 a.only) ay (of_decide_eq_true ay) ay ay) ?_;refine aK ?_;refine aN (J _ _) (λ_ _ a=>fw aa aa (aU.aG l.2.2.2.1 a.only) aa ay) ?_;refine aK ?_;refine aN (J _ s) (λ_ _ a=>fw aa aa (aU.aG l.2.2.2.2 a.only) aa ay) ?_;refine aN _ (λ_ _ _=>nM _ _ _ _ aa _ _ j aa aa t ad ad) ?_;refine uc _ j (m.to+j) ?_;refine aN (J _ s) (λ_ _ a=>fw aa aa (aU.aG l.2.2.2.2 a.only) aa ay) ?_;refine aN _ (λ_ _ a=>mi (cs':=#[J R m.to,J R r]) aa aa (aU.aG l.2.2.2.1 a.only) ay (of_decide_eq_true ay) ay ay) ?_;refine dD (λ_ _ _=>O _) ?_;refine aK ?_;refine aN (J _ _) (λ_ _ a=>fw aa aa (aU.aG l.2.2.2.1 a.only) aa ay) ?_;refine HC _ _ r ?_;refine aK ?_;refine aN (J _ s) (λ_ _ a=>fw aa aa (aU.aG l.2.2.2.2 a.only) aa ay) ?_;refine aN _ (λ_ _ _=>nM _ _ _ _ aa _ _ j aa aa t ad ad) ?_;refine HC r j (r -j) ?_;refine aN (J R z) (λ_ _ _=>by(have h:=P.out;go_simp;try rw[h])) ?_;refine aK ?_;refine Ex (λ_ _ a=>C _ a.only) ?_;refine da ?_;refine rR _ ?_;refine gi _ ?_;refine aK ?_;refine bU λaW a=>?_;generalize (g 19).A=B at a⊢;generalize (g 19).c=D at a⊢;generalize (g 23).b=Y at a⊢;replace a:=a.drop 1;refine ah ?_;refine bh a 2 #[J R f.k,J R f.to,J R f.fr,J R f.n,ae B f.data.length D] ?_;refine a' a 0 (av _) (λbI a=>?_);refine an ?_;go_wp2_with fail;refine dp (v:=_) (jd aa _ _ _ _ _ _ _ aa (a.aX 0) fy aa ay) aa (⟨_,_,aa,(a.fresh 1).Db,a.only⟩)
 .have apq:q -1 -o=p:=aF;go_enter Tryz.func236,Tryz.ntmps236;have a:=bc w;go_step;refine ah ?_;refine bA a #[J _ 0,J _ 0,J _ 0,J _ 0,ae _ 0 0] (λX cc a=>?_);refine ah ?_;refine iL l.out.1 a.only ?_;refine ah ?_;refine iL l.out.2.1 a.only ?_;refine lH q 1 (q -1) ?_;refine ag ?_;refine lH _ o p ?_;refine iB ?_;refine bN a [9,19,23,24] (λi u=>match i with|9=>J R (m.to+r)|19=>bm #[av #[J R f.k,J R f.to,J R f.fr,J R f.n,ae u.A f.data.length u.c],ai az]|23=>ax (ab ⟨u.b,0,af⟩)|_=>a1) (λg=>λ|19=>cg ((g 19).A) ((g 19).c) f.data|23=>aj ((g 23).b) #[J R 0,J R 0,J R 0,J R 0,ae af 0 0] 73|24=>aj ((g 23).b) #[J R f.k,J R f.to,J R f.fr,J R f.n,ae (g 19).A f.data.length (g 19).c] 73|_=>emp) (λ|24=>[24]|_=>[]) (λ_=>[]) (λ|19=>[19]|23=>[23]|24=>[19,23]|_=>[]) [0,10,20,25] (λg=>?_);refine aN _ (λ_ _ a=>mi (cs':=#[J R m.k,J R m.to,J R m.fr,J R m.n,ae A m.data.length c]) aa aa (aU.aG l.2.2.1 a.only) ay (of_decide_eq_true ay) ay ay) ?_;refine aK ?_;refine aN (J _ _) (λ_ _ a=>fw aa aa (aU.aG l.2.2.2.1 a.only) aa ay) ?_;refine aK ?_;refine aN (J _ s) (λ_ _ a=>fw aa aa (aU.aG l.2.2.2.2 a.only) aa ay) ?_;refine aN _ (λ_ _ _=>nM _ _ _ _ aa _ _ j aa aa t ad ad) ?_;refine uc _ j (m.to+j) ?_;refine aN (J _ s) (λ_ _ a=>fw aa aa (aU.aG l.2.2.2.2 a.only) aa ay) ?_;refine aN _ (λ_ _ a=>mi (cs':=#[J R m.to,J R r]) aa aa (aU.aG l.2.2.2.1 a.only) ay (of_decide_eq_true ay) ay ay) ?_;refine dD (λ_ _ _=>O _) ?_;refine aK ?_;refine aN (J _ _) (λ_ _ a=>fw aa aa (aU.aG l.2.2.2.1 a.only) aa ay) ?_;refine HC _ _ r ?_;refine aK ?_;refine aN (J _ s) (λ_ _ a=>fw aa aa (aU.aG l.2.2.2.2 a.only) aa ay) ?_;refine aN _ (λ_ _ _=>nM _ _ _ _ aa _ _ j aa aa t ad ad) ?_;refine HC r j (r -j) ?_;refine aN (J R z) (λ_ _ _=>by(have h:=P.out;go_simp;try rw[h])) ?_;refine aK ?_;refine Ex (λ_ _ a=>C _ a.only) ?_;refine da ?_;refine rR _ ?_;refine gi _ ?_;refine aK ?_;refine bU λcJ a=>?_;generalize (g 19).A=B at a⊢;generalize (g 19).c=D at a⊢;generalize (g 23).b=Y at a⊢;replace a:=a.drop 1;refine ah ?_;refine bh a 2 #[J R f.k,J R f.to,J R f.fr,J R f.n,ae B f.data.length D] ?_;refine a' a 0 (av _) (λc5 a=>?_);refine an ?_;go_wp2_with fail;refine dp (v:=_) (jd aa _ _ _ _ _ _ _ aa (a.aX 0) fy aa ay) aa (⟨_,_,aa,(a.fresh 1).Db,a.only⟩)
def alX m A c(s b)w(l:qz w m A c)(hv:gW m)(p:m.data.length<=140737488355328)(d:1<=s)(hk:0<=b/\b<j5 m s):
 aD aw 222 #[l6 m A c,J R s,J R b] w λe w'=>∃f j,e=aB (bm #[l6 (kZ m s b) f j,ai az])/\e6 w.heap.size w' f j (kZ m s b).data/\ar w w':=by
 have o:=hv.ck;have h:=hid (λW=>RB m A c s W o.2.1 ad d);have u:=hid (λW=>ati m A c s W hv d);have i:=hid (λW cG tt ts sn b1 h1 g=>ath m A c cG tt ts sn b1 s b W h1 (l.aG g) hv p d hk);obtain⟨q,t⟩:=ex (j5 m s);obtain⟨E,r⟩:=ex (kZ m s b);rw[r]at i⊢;rw[t]at hk h;obtain⟨D,hk2⟩:=hk;have hk3:¬b<0:=ad;have hk4:¬b>=q:=ad;clear t r o hv d p l;go_enter func222,ntmps222;have a:=bc w;go_step;refine ah ?_;refine bG a (av _) (λz w1 a=>?_);refine bA a #[J _ 0,J _ 0,J _ 0,J _ 0,ae _ 0 0] (λB F a=>?_);refine xU ?_;refine bh a 1 #[J R m.k,J R m.to,J R m.fr,J R m.n,ae A m.data.length c] ?_;refine ag ?_;refine bH (h _) a (λG a=>?_);refine v2 ?_;refine ah ?_;refine bh a 1 #[J R m.k,J R m.to,J R m.fr,J R m.n,ae A m.data.length c] ?_;refine ag ?_;refine aP (u _) ?_;rintro e H ⟨cG,tt,ts,sn,b1,rfl,x,g⟩;replace a:=a.aG g;refine aQ ?_;refine ag ?_;refine dB (i.out _ _ _ _ _ _ x a.only) a (λy C I a=>?_);refine a' a 1 (av _) (λK a=>?_);refine bP ?_;go_wp2_with fail;refine dp (v:=_) (mL aa aa aa (a.aX 1) ay ay) aa (⟨_,_,aa,(a.fresh 0).Db,a.only⟩)
abbrev kj:=(Int×Int)×Int
def yK:kj:=((0,0),0)
def mX(w:aM)(A:Option bQ)(S:List kj):Prop:=
 0<S.length->∃b off,A=ab ⟨b,off,af⟩/\∀j,j<S.length->w.cell? ⟨b,off+j*3,af⟩=ab (J R (S[j]?.getD yK).1.1)/\w.cell? ⟨b,off+j*3+1,af⟩=ab (J R (S[j]?.getD yK).1.2)/\w.cell? ⟨b,off+j*3+2,af⟩=ab (J R (S[j]?.getD yK).2)
def mX.only{F w w' A S}(h:mX w A S)(k:au F w w')(hn:∀b off,A=ab ⟨b,off,af⟩->¬F b):mX w' A S:=λc=>by obtain⟨b,off,rfl,hc⟩:=h c;exact⟨b,_,rfl,λj a=>⟨k.cell (hc j a).1 (hn b _ aa),k.cell (hc j a).2.1 (hn b _ aa),k.cell (hc j a).2.2 (hn b _ aa)⟩⟩
def mX.aG{w w' A S}(h:mX w A S)(k:ar w w'):mX w' A S:=h.only k (λ_ _ _ a=>a)
def oj(w:aM)(p:Nat)(S:List kj):Prop:=∃A c,w.heap[p]?=ab (bl #[ae A S.length c] 411 (0,0))/\mX w A S/\S.length<=1048576
def oj.aG{w w' p S}(h:oj w p S)(k:ar w w'):oj w' p S:=by obtain⟨A,c,h1,a,b⟩:=h;exact⟨A,c,k.heap h1 (λh=>h),a.aG k,b⟩
def jW(S:List kj):Prop:=S.Pairwise (λx y=>x.1.1+x.1.2<=y.1.1)/\∀x∈S,et x.1/\0<x.1.2
def xv p S w(h:oj w p S):aD aw 311 #[ax (ab ⟨p,0,af⟩)] w λe w'=>e=aB (J R S.length)/\w=w':=by obtain⟨A,c,h1,a,d⟩:=h;have f:=cell_of_one h1;have b:=hid a;clear h1 a;go_enter func311,ntmps311;go_wp2;go_ret;exact⟨aa,aa⟩
def IsCut(n:Nat)(p:Nat->Bool)(k:Nat):Prop:=k<=n/\(∀t,t<k->p t=ao)/\(∀t,k<=t->t<n->p t=az)
def Nq (g:Nat) dB n p w (hn:n<=1048576) (A:∀args w,(km g args).run aw w=a6 (.enter g args) w)
 (s:∀(W) (i:Nat),i<n->ar w W->aD aw g (#[J R i]++dB) W λe w'=>e=aB (ai (p i))/\ar W w')
 (c:∀a b,a<=b->b<n->p a=az->p b=az):
 aD aw 287 #[J R n,dC (ed g) #[] dB] w λe w'=>∃k:Nat,e=aB (J R k)/\IsCut n p k/\ar w w':=by
 have l:=hid (And.intro s c);clear s c;go_enter func287,ntmps287;go_wp2_with fail;go_loopg [5,6] (n+1) (λu y hv wr=>∃lo hi:Nat,y=J R lo/\hv=J R hi/\lo<=hi/\hi<=n/\hi -lo<u/\aE ((∀t,t<lo->p t=ao)/\(∀t,hi<=t->t<n->p t=az))/\ar w wr);case atStart=>exact⟨0,n,aa,aa,cF _,b4 _,ad,hid ⟨λt h=>ad,λt h1 q=>ad⟩,au.refl _ _⟩
 case round=>
  obtain⟨lo,hi,rfl,rfl,h1,q,B,d,r⟩:=hrel;have f:=hid r;clear r;by_cases hlt:lo<hi
  .have C:(lo:Int)<(hi:Int):=ad;obtain⟨m,c⟩:∃m,m=(lo+hi)/2:=⟨_,aa⟩;have F:((lo:Int)+(hi:Int))/2=(m:Int):=ad;have D:lo<=m:=ad;have E:m<hi:=ad;have z:=hid c;have hc:=l.out.1 wr m ad f.out;clear c;cases hp:p m with
   |false=>
    rw[hp]at hc;have o:=hid hp;clear hp;go_wp2_with (go_at_fn g;refine hc.mono ?_;clear hc;rintro e w1 ⟨rfl,hg1⟩);have j:=hid (ar.trans f.out hg1);clear hg1;go_roundg (hi -(m+1)+1);case measure=>omega
    case rel=>exact⟨m+1,hi,aY,aa,ad,q,ad,hid ⟨λt G=>(by
     cases h:p t with
     |false=>rfl
     |true=>have:=l.out.2 t m ad ad h;rw[o.out]at this;cases this),d.out.2⟩,j.out⟩
   |true=>
    rw[hp]at hc;have o:=hid hp;clear hp;go_wp2_with (go_at_fn g;refine hc.mono ?_;clear hc;rintro e w1 ⟨rfl,hg1⟩);have j:=hid (ar.trans f.out hg1);clear hg1;go_roundg (m -lo+1);case measure=>omega
    case rel=>exact⟨lo,m,aa,aY,ad,ad,ad,hid ⟨d.out.1,λt v x=>l.out.2 m t v x o.out⟩,j.out⟩
  .obtain rfl:lo=hi:=ad;go_wp2;go_ret;exact⟨lo,aa,⟨q,d.out.1,d.out.2⟩,f.out⟩
def kL(E:List (Int×Int)):Int:=E.foldr (λe n=>e.2+n) 0
def ZF{E}(h:∀e∈E,0<=e.2):0<=kL E:=by
 induction E with
 |nil=>exact Int.le_refl _
 |cons e r a=>grind[kL]
def RR(E F):kL (E++F)=kL E+kL F:=by
 induction E with
 |nil=>simp[kL]
 |cons e r a=>grind[kL]
def ZH{E}(h:∀e∈E,0<=e.2)k:0<=kL (E.take k)/\kL (E.take k)<=kL E:=by have h1:=RR (E.take k) (E.drop k);rw[o1]at h1;have b:=ZF (E:=E.take k) (λe a=>h e (List.mem_of_mem_take a));have c:=ZF (E:=E.drop k) (λe a=>h e (List.mem_of_mem_drop a));omega
def ZG{E:List (Int×Int)}{k x}(hx:E[k]?=ab x):kL (E.take (k+1))=kL (E.take k)+x.2:=by rw[gg,hx,z1,RR];simp[kL]
def av4 A c E w(m:kI w A E)(hle:E.length<=1048576)(hv:∀e∈E,0<=e.2)(n:kL E<=4611686018427387903):
 aD aw 137 #[ae A E.length c] w λe w'=>e=aB (bm #[J R (kL E),ai az])/\ar w w':=by
 have p:=hid m;have t:=hid hv;have r:=hid n;clear m hv n;go_enter func137,ntmps137;have a:=bc w;go_upto_region 0 with fail;refine cm ?_;refine v2 ?_;refine an ?_;go_upto_region 1 with fail;refine cm ?_;refine ag ?_;refine an ?_;go_upto_region 2 with fail;refine cm ?_;refine v3 ?_;refine Lv ?_;go_loopw [4,9] (λo i wr=>∃q:Nat,q<=E.length/\i=J R q/\o=J R (kL (E.take q))/\ak w (λ_=>False) wr []) (λo i wr=>E.length -(cy i).toNat);case atStart=>grind[kL]
 case round=>
  clear a;obtain⟨q,B,rfl,rfl,a⟩:=hrel;obtain⟨s,b⟩:=ex (kL (E.take q));rw[b];have j:=hid b;by_cases hlt:q<E.length
  .have z:(q:Int)<(E.length:Int):=ad;obtain⟨x,hx⟩:∃x,E[q]?=ab x:=⟨_,cC hlt⟩;have k:=hid hx;obtain⟨gN,of,rfl,hcell⟩:=p ad;obtain⟨d,f⟩:=hcell q hlt;simp only[hx,vo]at d f;obtain⟨df,br⟩:=x;simp only at d f;have g:=ZH t (q+1);rw[ZG k,j]at g;have u:=r.out;simp only at g;have y:¬s+br>4611686018427387903:=ad;have hg1:-9223372036854775808<=s+br:=ad;have l:=hid (And.intro d f);clear b hx hcell g u d f;go_upto_region 4 with fail;refine cm ?_;refine aI (ax (ab ⟨gN,(of+q*2),af⟩)) (cq 176 35 2 (bj 7) (bj 9) aa underlying176 aY _ _ _ _ _ _ aa aa hlt aa) ?_;refine aI (av #[J R df,J R br]) (ac3 35 aa aa (a.only.cell l.1 (λh=>h)) (a.only.cell l.2 (λh=>h)) Tryz.underlying35 aa aY) ?_;refine bA a #[J _ 0,J _ 0] (λv w1 a=>?_);refine a' a 0 (av _) (λC a=>?_);refine an ?_;go_upto_region 5 with fail;refine cm ?_;refine v2 ?_;refine pl a 0 1 ?_;refine pad s br (s+br) ?_;refine ag ?_;refine an ?_;go_upto_region 6 with fail;refine cm ?_;refine v2 ?_;refine an ?_;go_wp2_with fail;go_roundw;case rel=>exact⟨q+1,ad,by go_num,by rw[ZG k,j],a.drop 0⟩
   case measure=>grind[cy]
  .obtain rfl:q=E.length:=ad;rw[kH]at b;go_upto_region 9 with fail;refine cm ?_;refine v3 ?_;refine an ?_;go_wp2_with fail;go_ret2;exact⟨by rw[b];rfl,a.only⟩
def cX(w:aM)(A:Option bQ)(ms:List bJ):Prop:=0<ms.length->∃b off,A=ab ⟨b,off,af⟩/\∀(j:Nat) (m:bJ),ms[j]?=ab m->∃a c,(w.cell? ⟨b,off+j*5,af⟩=ab (J R m.k)/\w.cell? ⟨b,off+j*5+1,af⟩=ab (J R m.to)/\w.cell? ⟨b,off+j*5+2,af⟩=ab (J R m.fr)/\w.cell? ⟨b,off+j*5+3,af⟩=ab (J R m.n)/\w.cell? ⟨b,off+j*5+4,af⟩=ab (ae a m.data.length c))/\qz w m a c
def cX.aG{w w' A ms}(h:cX w A ms)(g:ar w w'):cX w' A ms:=λo=>by obtain⟨b,off,e,hc⟩:=h o;refine⟨b,_,e,λj m n=>?_⟩;obtain⟨a,c,⟨d,h1,f,i,k⟩,l⟩:=hc j m n;exact⟨a,c,⟨g.cell d (λh=>h),g.cell h1 (λh=>h),g.cell f (λh=>h),g.cell i (λh=>h),g.cell k (λh=>h)⟩,l.aG g⟩
theorem cX.ji{w A ms}(h:cX w A ms){j m}(f:ms[j]?=ab m):∃d l a c,A=ab ⟨d,l,af⟩/\(∀W,ar w W->qz W m a c)/\∀W,ar w W->W.rangeAt d (l+j*5) [J R m.k,J R m.to,J R m.fr,J R m.n,ae a m.data.length c]:=by
 have u:=(e5.1 f).1;obtain⟨b,off,e,hc⟩:=h ad;obtain⟨a,c,⟨o,h1,p,q,r⟩,s⟩:=hc j m f;refine⟨b,_,a,c,e,λW g=>s.aG g,λW g i v hi=>?_⟩;have t:i<5:=(e5.1 hi).1;obtain rfl|rfl|rfl|rfl|rfl:i=0\/i=1\/i=2\/i=3\/i=4:=ad;·cases hi;exact g.cell o (λh=>h)
 .cases hi;exact g.cell h1 (λh=>h)
 .cases hi;exact g.cell p (λh=>h)
 .cases hi;exact g.cell q (λh=>h)
 .cases hi;exact g.cell r (λh=>h)
def yI(s:Int)(m:bJ):List bJ:=(dG (j5 m s).toNat).map (λ(k:Nat)=>kZ m s (k:Int))
def db(s:Int)(ms:List bJ):List bJ:=ms.flatMap (yI s)
def lM(s:Int)(ms:List bJ)(i:Nat):Nat:=(db s (ms.take i)).length
theorem Y5 s m:(yI s m).length=(j5 m s).toNat:=by simp[yI]
theorem Y' s(a b):db s (a++b)=db s a++db s b:=by simp[db]
theorem Rt{s ms i m}(h:ms[i]?=ab m):lM s ms (i+1)=lM s ms i+(j5 m s).toNat:=by grind[lM,gg,db,Y5]
theorem Rs s ms:lM s ms ms.length=(db s ms).length:=by grind[lM]
def YU{s ms i j}(h:i<=j):lM s ms i<=lM s ms j:=by grind[lM,Y',o1]
def ams{s ms k i m}(a:ms[k]?=ab m)(h1:lM s ms k<=i)(b:i<lM s ms (k+1)):(db s ms)[i]?=ab (kZ m s ((i -lM s ms k:Nat):Int)):=by
 have hk:=(e5.1 a).1;have dN:ms=ms.take k++(m::ms.drop (k+1)):=by grind[o1,List.drop_eq_getElem_cons]
 have e:db s ms=db s (ms.take k)++(yI s m++db s (ms.drop (k+1))):=by
  conv=>lhs;rw[dN]
  rw[Y'];rfl
 grind[Rt,lM,yI]
structure BS (w:aM) (p:Nat) (s:Int) (ms:List bJ):Prop where
 ex:∃F iW G qR A c,(w.cell? ⟨p,0,af⟩=ab (J R s)/\w.cell? ⟨p,1,af⟩=ab (ae F (ms.length+1) iW)/\w.cell? ⟨p,2,af⟩=ab (ae G (ms.length+1) qR)/\w.cell? ⟨p,3,af⟩=ab (ae A ms.length c))/\
  c8 w F ((dG (ms.length+1)).map (λi=>(lM s ms i:Int)))/\cX w A ms
 dI:(db s ms).length<=1048576/\ms.length<=1048576
 size:1<=s
 valid:∀m∈ms,gW m/\m.data.length<=140737488355328
def BS.aG{w w' p s ms}(h:BS w p s ms)(g:ar w w'):BS w' p s ms:=by obtain⟨F,iW,G,qR,A,c,⟨a,h1,b,d⟩,e,f⟩:=h.ex;exact⟨⟨F,iW,G,qR,A,c,⟨g.cell a (λh=>h),g.cell h1 (λh=>h),g.cell b (λh=>h),g.cell d (λh=>h)⟩,e.aG g,f.aG g⟩,h.dI,h.size,h.valid⟩
def avH s(F G)(n iW qR)f w(hn:n<=1048576)(c:c8 w F ((dG (n+1)).map f)):
 aD aw 140 #[av #[J R s,ae F (n+1) iW,ae G (n+1) qR]] w λe w'=>e=aB (J R (f n))/\ar w w':=by
 obtain⟨b,o,rfl,hcell⟩:=c a8;have z:=by have:=hcell n a8;simpa using this
 clear hcell c;have d:n<n+1:=X4 n;go_enter func140,ntmps140;have a:=bc w;go_step;refine ah ?_;refine bG a (av _) (λg w1 a=>?_);refine cK ?_;refine pl a 0 1 ?_;refine ag ?_;refine pl a 0 1 ?_;refine ag ?_;refine lH _ 1 (n:Int) ?_;refine aI _ (cq 82 3 1 _ _ aa hR ay _ _ _ _ _ ((o+n)) aa aa d ad) ?_;refine Nd z a.only ?_;refine Jy ?_;exact⟨aa,a.only⟩
def an7 F(n iW cT jA q)d f w(hn:n<=1048576)(c:c8 w F ((dG (n+1)).map f))(i:w.cell? ⟨cT,1,af⟩=ab (ae F (n+1) iW))(j:w.cell? ⟨jA,0,af⟩=ab (J R d))(k:q<n):
 aD aw 288 #[J R (q:Int),ax (ab ⟨cT,0,af⟩),ax (ab ⟨jA,0,af⟩)] w λe w'=>e=aB (ai (decide (d<f (q+1))))/\ar w w':=by
 obtain⟨b,o,rfl,hcell⟩:=c a8;have g:w.cell? ⟨b,o+(q+1),af⟩=ab (J R (f (q+1))):=by have:=hcell (q+1) aF;simpa [show q+1<n+1 by omega]using this
 clear hcell c;obtain⟨fS,h⟩:=ex (q+1);rw[h]at g⊢;have hb2:fS<n+1:=ad;go_enter func288,ntmps288;have a:=bc w;go_step;refine ah ?_;refine iB ?_;refine bN a [] (λ_ _=>a1) (λ_ _=>emp) (λ_=>[]) (λ_=>[]) (λ_=>[]) [] (λl=>?_);refine aK ?_;refine lv i ?_;refine aK ?_;refine uc _ 1 (fS:Int) ?_;refine aN _ (λ_ _ _=>cq 82 3 1 _ _ aa hR ay _ _ _ _ _ ((o+fS)) aa aa hb2 ad) ?_;refine lv g ?_;refine lv j ?_;refine bF ?_;refine bU λw1 a=>?_;refine bB ?_;exact⟨aa,a.only⟩
def ant args w:(km 288 args).run aw w=a6 (.enter 288 args) w:=aY
def IsCut.place{n}{f:Nat->Int}{i q}(h:IsCut n (λq=>decide (i<f (q+1))) q)(h1:f 0<=i)(g:i<f n):q<n/\f q<=i/\i<f (q+1):=by
 obtain⟨a,b,c⟩:=h;simp only[decide_eq_true_eq,decide_eq_false_iff_not]at b c
 have e:q<n:=by
  rcases Nat.lt_or_ge q n with h|h;·omega
  .exfalso;obtain rfl:q=n:=ad;rcases lL q with d|d;·grind
   .have:=b (q -1) ad;grind
 refine⟨e,?_,c q (b4 _) e⟩;rcases lL q with d|d;·grind
 .have:=b (q -1) ad;grind
def an6(s d)(F G)(n iW qR)f w(hn:n<=1048575)(o:c8 w F ((dG (n+1)).map f))(p:∀a b,a<=b->b<=n->f a<=f b)(h1:f 0<=d)(m:d<f n):
 aD aw 221 #[av #[J R s,ae F (n+1) iW,ae G (n+1) qR],J R d] w λe w'=>∃q:Nat,e=aB (J R (q:Int))/\(q<n/\f q<=d/\d<f (q+1))/\ar w w':=by
 have r:=hid o;have x:=hid hn;have t:=hid p;have l:=hid (And.intro h1 m);have y:=hn;clear o hn p h1 m;go_enter func221,ntmps221;have c:=bc w;go_step;refine ah ?_;refine bG c (av _) (λj w1 c=>?_);refine bG c (J _ d) (λk z c=>?_);refine cK ?_;refine pl c 1 1 ?_;refine ag ?_;refine lH _ 1 (n:Int) ?_;refine ag ?_;refine aP (Nq 288 #[ax (ab ⟨j,0,af⟩),ax (ab ⟨k,0,af⟩)] n (λq=>decide (d<f (q+1))) _ ad ant (λW q v i=>an7 F n iW j k q d f W ad (r.out.aG (c.only.trans i (λ_ _ h=>h))) (au.cell i ((c.aX 1).cell 1 aa) (λh=>h)) (au.cell i ((c.aX 0).cell 0 aa) (λh=>h)) v) (λa b hab hb u=>by simp at u⊢;have:=t (a+1) (b+1) ad ad;omega)) ?_;rintro e A ⟨q,rfl,hcut,g⟩;replace c:=c.aG g;refine aQ ?_;refine Jy ?_;exact⟨q,aa,IsCut.place hcut l.1 l.2,c.only⟩
def FQ p s ms w(f:BS w p s ms):
 aD aw 60 #[ax (ab ⟨p,0,af⟩)] w λe w'=>e=aB (J R ((db s ms).length:Int))/\ar w w':=by
 obtain⟨F,iW,G,qR,A,c,⟨k,l,m,u⟩,n,x⟩:=f.ex;have t:=f.dI;have d:=hid (λW r=>avH s F G ms.length iW qR (λi=>(lM s ms i:Int)) W ad r);rw[Rs]at d;have o:=hid n
 have q:aE (∀W,ar w W->W.rangeAt p 0 [J R s,ae F (ms.length+1) iW,ae G (ms.length+1) qR]):=hid (λW g j v b=>by
  match j,b with
  |0,b=>simpa using(g.cell k (λh=>h)).trans aF
  |1,b=>simpa using(g.cell l (λh=>h)).trans aF
  |2,b=>simpa using(g.cell m (λh=>h)).trans aF);clear t k l m u n x;go_enter func60,ntmps60;have a:=bc w;go_step;refine ah ?_;refine ag ?_;refine ah ?_;refine v2 ?_;refine jz ?_;refine aI (av #[J R s,ae F (ms.length+1) iW,ae G (ms.length+1) qR]) (by(refine eC _ _ aa p 0 aa _ (q _ a.only) Tryz.underlying246 aa ay)) ?_;refine bH (d _ (o.out.aG a.only)) a (λw1 a=>?_);refine Jy ?_;exact⟨aa,a.only⟩
def ad8(p x)s ms w(t:BS w p s ms)(q0:ms.length<=1048575)(hi:x<(db s ms).length):
 aD aw 139 #[ax (ab ⟨p,0,af⟩),J R (x:Int)] w λe w'=>∃(q:Nat) (S:Option bQ) (Y:Nat) (m:bJ),e=aB (bm #[av #[J R (x:Int),J R (q:Int),J R m.k,J R m.to,J R m.fr,J R m.n,ae S m.data.length Y],ai az])/\(db s ms)[x]?=ab m/\e6 w.heap.size w' S Y m.data/\ar w w':=by
 obtain⟨F,iW,G,qR,A,c,⟨O,P,z2,z3⟩,Q,Oj⟩:=t.ex;obtain⟨dI,ZN⟩:=t.dI;have L:=t.size;have ajh:=hid (λW E=>FQ p s ms W (t.aG E));have gr:0<ms.length:=by grind[db]
 obtain⟨X,bS,rfl,aaK⟩:=Oj gr;obtain⟨B,z,rfl,aaL⟩:=Q a8;have cr:=hid (λW E=>an6 s (x:Int) (ab ⟨B,z,af⟩) G ms.length iW qR (λi=>(lM s ms i:Int)) W q0 (Q.aG E) (λa b hab _=>by have:=YU (s:=s) (ms:=ms) hab;omega) (by simp[lM,db]) (by grind[Rs]))
 have Qn:aE (∀W,ar w W->W.rangeAt p 0 [J R s,ae (ab ⟨B,z,af⟩) (ms.length+1) iW,ae G (ms.length+1) qR]):=hid (λW g j v o=>by
  match j,o with
  |0,o=>simpa using(g.cell O (λh=>h)).trans aF
  |1,o=>simpa using(g.cell P (λh=>h)).trans aF
  |2,o=>simpa using(g.cell z2 (λh=>h)).trans aF);have dU:(x:Int)<((db s ms).length:Int):=ad;have dT:=hid (And.intro hi (And.intro dI ZN));have wH:=hid t.valid;have iR:=hid aaK;have yc:=hid aaL;clear dI ZN hi aaK aaL Oj Q t z2;go_enter Tryz.func139,Tryz.ntmps139;have f:=bc w;go_step;refine ah ?_;refine bA f #[J _ 0,J _ 0,J _ 0,J _ 0,J _ 0,J _ 0,ae _ 0 0] (λdV w1 f=>?_);refine ag ?_;refine ah ?_;refine v5 ?_;refine bH (ajh _ f.only) f (λaW f=>?_);refine v2 ?_;refine jz ?_;refine aI (av #[J R s,ae (ab ⟨B,z,af⟩) (ms.length+1) iW,ae G (ms.length+1) qR]) (by(refine eC _ _ aa p 0 aa _ (Qn _ f.only) Tryz.underlying246 aa ay)) ?_;refine ag ?_;refine aP (cr _ f.only) ?_;rintro e bI ⟨q,rfl,hq,g⟩;replace f:=f.aG g;refine Ds ?_;obtain⟨oE,I,K⟩:=hq;try simp only at I K
 obtain⟨m,y⟩:∃m,ms[q]?=ab m:=⟨_,cC oE⟩;obtain⟨U,aT,⟨iA,df,br,lh,oN⟩,Dp⟩:=iR q m y;have N:w.cell? ⟨B,z+q,af⟩=ab (J R (lM s ms q:Int)):=by have:=yc q aF;grind
 have hst:=ams (s:=s) y (i:=x) ad ad;have M:=Rt (s:=s) y;have hv:=wH m (cY y);have dh:=(B4 hv.1 L).1;obtain⟨D,Ay⟩:=ex (lM s ms q);rw[Ay]at I M hst N;rw[M]at K;obtain⟨d,hd⟩:=ex (x -D);rw[hd]at hst;obtain⟨l,H⟩:=ex (kZ m s (d:Int));rw[H]at hst;have ey:=hid hst;have V:=hid (λW g=>alX m U aT s (d:Int) W (Dp.aG g) hv.1 hv.2 L ad);rw[H]at V;have aAm:(x:Int) -(D:Int)=(d:Int):=ad;have azE:D<=x:=ad;have aAl:x<=1048576:=by have:=dT.out;omega
 have aju:aE (∀W,ar w W->W.rangeAt X _ [J R m.k,J R m.to,J R m.fr,J R m.n,ae U m.data.length aT]):=hid (λW g j v o=>by
  match j,o with
  |0,o=>simpa using(g.cell iA (λh=>h)).trans aF
  |1,o=>simpa using(g.cell df (λh=>h)).trans aF
  |2,o=>simpa using(g.cell br (λh=>h)).trans aF
  |3,o=>simpa using(g.cell lh (λh=>h)).trans aF
  |4,o=>simpa using(g.cell oN (λh=>h)).trans aF);have abR:q<ms.length+1:=ad;have ajO:=hid N;have C:=hid (And.intro O (And.intro P z3));clear y hst M hv dh Ay H hd I K L iA df br lh oN Dp N O P z3;refine cx ?_;refine bN f [22,26,27] (λi u=>match i with|22=>bm #[av #[J R l.k,J R l.to,J R l.fr,J R l.n,ae u.A l.data.length u.c],ai az]|26=>ax (ab ⟨u.b,0,af⟩)|_=>a1) (λr=>λ|22=>cg ((r 22).A) ((r 22).c) l.data|26=>aj ((r 26).b) #[J R 0,J R 0,J R 0,J R 0,ae af 0 0] 73|27=>aj ((r 26).b) #[J R l.k,J R l.to,J R l.fr,J R l.n,ae (r 22).A l.data.length (r 22).c] 73|_=>emp) (λ|27=>[27]|_=>[]) (λ_=>[]) (λ|22=>[22]|26=>[26]|27=>[22,26]|_=>[]) [0,23,28] (λr=>?_);refine da ?_;refine lv C.2.2 ?_;refine aK ?_;refine aN _ (λ_ _ _=>cq 24 73 5 _ _ aa eA ay _ _ _ _ _ _ aa aa oE aa) ?_;refine aN _ (λ_ _ f=>eC 73 _ aa X _ aa _ (aju _ f.only) fy aa ay) ?_;refine hD ?_;refine lv C.1 ?_;refine oO ?_;refine lv C.2.1 ?_;refine aK ?_;refine aN _ (λ_ _ _=>cq 82 3 1 _ _ aa hR ay _ _ _ _ _ ((z+q)) aa aa abR ad) ?_;refine lv ajO ?_;refine HC _ _ _ ?_;refine Ex (λ_ _ f=>V _ f.only) ?_;refine da ?_;refine rR _ ?_;refine gi _ ?_;refine aK ?_;refine bU λcc f=>?_;generalize (r 22).A=T at f⊢;generalize (r 22).c=Z at f⊢;generalize (r 26).b=axG at f⊢;refine hE ?_;refine bh f 2 #[J R l.k,J R l.to,J R l.fr,J R l.n,ae T l.data.length Z] ?_;refine v2 ?_;refine a' f 0 (av _) (λcJ f=>?_);refine bP ?_;go_wp2_with fail;refine dp (v:=_) (mL aa aa aa (f.aX 0) ay ay) aa (⟨q,T,Z,l,aa,ey,(f.fresh 1).Db,f.only⟩)
section
structure dS where
 l:List Int
 len:l.length=32
def dS.zero:dS:=⟨eU 32 0,aa⟩
def a7(o n:Int)(g h:dS)(S:aO):Array Value:=(J R o::J R n::(g.l.map bb++(h.l.map bb++[S]))).toArray
abbrev eB(o n:Int)(g h:dS)(S:aO):Value:=av (a7 o n g h S)
section
variable {o n:Int} {g h:dS} {S:aO}
theorem bW:(a7 o n g h S).size=67:=by simp[a7,g.len,h.len]
def ku:(a7 o n g h S)[0]?=ab (J R o):=aY
def hZ:(a7 o n g h S)[1]?=ab (J R n):=aY
def eH:(a7 o n g h S)[66]?=ab S:=by simp only[a7,zV,vi];rw[o0 (by simp[g.len]),o0 (by simp[g.len,h.len])];simp[g.len,h.len]
def amK{a}:(a7 o n g h S).setIfInBounds 66 a=a7 o n g h a:=by simp only[a7,akg,List.set_cons_succ];congr 3;rw[XY _ _ (by simp[g.len]),XY _ _ (by simp[g.len,h.len])];simp[g.len,h.len]
def w2(b:S.oneCell'=az):(a7 o n g h S).all (·.oneCell')=true:=by
 rw[U5];intro v hv;have hv':v∈(J R o::J R n::(g.l.map bb++(h.l.map bb++[S]))):=by grind[a7]
 simp at hv';rcases hv' with rfl|rfl|⟨a,_,rfl⟩|⟨a,_,rfl⟩|rfl;all_goals first|rfl|omega
end
def jv(m:bJ)(A:Option bQ)(c:Nat):List Value:=[J R m.k,J R m.to,J R m.fr,J R m.n,ae A m.data.length c]
def cE(l:List (bJ×Option bQ×Nat)):List Value:=l.flatMap (λx=>jv x.1 x.2.1 x.2.2)
def B8(a b):cE (a++b)=cE a++cE b:=by simp[cE]
def Ew m A c:cE [(m,A,c)]=jv m A c:=aY
theorem Y8 l:(cE l).length=l.length*5:=by
 unfold cE;induction l with
 |nil=>rfl
 |cons a r b=>grind[jv]
def Ev{l j x}(hx:l[j]?=ab x):∀i v,(jv x.1 x.2.1 x.2.2)[i]?=ab v->(cE l)[j*5+i]?=ab v:=by
 induction l generalizing j with
 |nil=>grind
 |cons a r c=>
  intro i v hv;have b:(jv a.1 a.2.1 a.2.2).length=5:=rfl;unfold cE;rw[List.flatMap_cons];cases j with
  |zero=>grind
  |succ j=>
   simp at hx;rw[o0 ad,b,show(j+1)*5+i -5=j*5+i by omega];exact c hx i v hv
def Q3(N:Nat)(w:aM)(A:Option bQ)(c:Nat)(ms:List bJ):Prop:=
 ∃l:List (bJ×Option bQ×Nat),l.map (·.1)=ms/\Row N w A ms.length c 73 5 (cE l)/\∀x∈l,e6 N w x.2.1 x.2.2 x.1.data
def Q3.vZ{N w A c ms}(h:Q3 N w A c ms):cX w A ms:=λo=>by
 obtain⟨l,h1,b,e⟩:=h;rcases b.cases with⟨_,n,_,_⟩|⟨g,cur,d,_⟩;·omega
 .refine⟨g,0,d,λj m a=>?_⟩;subst h1;rw[lr]at a;cases hx:l[j]? with
  |none=>rw[hx]at a;cases a
  |some x=>
   rw[hx]at a;simp at a;subst a;have f:=Ev hx
   have hc:∀i v,(jv _ _ _)[i]?=ab v->w.cell? ⟨g,0+j*5+i,_⟩=ab v:=λi v hv=>by obtain⟨k,bB,bY⟩:=b.cell (f i v hv);rw[d]at bB;injection bB with bB;injection bB with bB;subst bB;rw[jt];exact bY
   exact⟨_,_,⟨hc 0 _ aa,hc 1 _ aa,hc 2 _ aa,hc 3 _ aa,hc 4 _ aa⟩,(e x (cY hx)).cmd⟩
end
section
def B9(A:Option bQ)(n c:Nat)(l:List (bJ×Option bQ×Nat)):bp:=⟨λb=>eb A b\/∃x∈l,eb x.2.1 b,λw=>Row 0 w A n c 73 5 (cE l)/\∀x∈l,e6 0 w x.2.1 x.2.2 x.1.data,λw w' h a d=>
 ⟨(bk A n c 73 5 (cE l)).nO w w' (λb hb=>h b (bM hb)) (λb hb=>a b (bM hb)) d.1,λx hx=>(cg x.2.1 x.2.2 x.1.data).nO w w' (λb hb=>h b (b8 ⟨x,hx,hb⟩)) (λb hb=>a b (b8 ⟨x,hx,hb⟩)) (d.2 x hx)⟩⟩
def gM(t:bp)(A:Option bQ)(c:Nat)(ms:List bJ):Prop:=∃l:List (bJ×Option bQ×Nat),l.map (·.1)=ms/\t=B9 A ms.length c l
def gM.auq{t A c ms W}(h:gM t A c ms)(a:t.p W):Q3 0 W A c ms:=by obtain⟨l,h1,rfl⟩:=h;exact⟨l,h1,a⟩
def gM.vZ{t A c ms W}(h:gM t A c ms)(a:t.p W):cX W A ms:=(h.auq a).vZ
def gM.cmd{t A c ms}(h:gM t A c ms){j m}(a:ms[j]?=ab m):∃d f,(∀b,eb d b->t.cR b)/\∀W,t.p W->qz W m d f/\∃g,A=ab ⟨g,0,af⟩/\W.rangeAt g (0+j*5) (jv m d f):=by
 obtain⟨l,h1,rfl⟩:=h;subst h1;rw[lr]at a;cases hx:l[j]? with
 |none=>grind
 |some x=>
  rw[hx]at a;simp at a;subst a;have n:=cY hx;refine⟨_,_,λb hb=>b8 ⟨x,n,hb⟩,λW e=>⟨(e.2 x n).cmd,?_⟩⟩;obtain⟨g,k,_⟩:=e.1.cell (Ev hx 0 _ aa);refine⟨g,k,λi v hi=>?_⟩;obtain⟨o,bB,bY⟩:=e.1.cell (Ev hx i _ hi);rw[k]at bB;injection bB with bB;injection bB with bB;subst bB;rw[jt];exact bY
def xt{o n d c g h g2 b S a}:lay (a7 o n g h S) 0 (a7 d c g2 b a).toList=a7 d c g2 b a:=by grind[lay_all,bW]
section
variable {aq w:aM} {FX:Nat->Prop}
def gA(l:List (bJ×Option bQ×Nat)):bp:=⟨λb=>∃x∈l,eb x.2.1 b,λw=>∀x∈l,e6 0 w x.2.1 x.2.2 x.1.data,λw w' h a c x hx=>
 (cg x.2.1 x.2.2 x.1.data).nO w w' (λb hb=>h b ⟨x,hx,hb⟩) (λb hb=>a b ⟨x,hx,hb⟩) (c x hx)⟩
def ak.Ls{L}(h:ak aq FX w L):ak aq FX w (gA []::L):=h.new _ ⟨au.refl _ _,λ_ h=>(fQ h).elim,λ_ ⟨_,h,_⟩=>(fQ h).elim⟩
def ak.Lr{L l m A c}(h:ak aq FX w (gA l::cg A c m.data::L)):ak aq FX w (gA (l++[(m,A,c)])::L):=by
 refine h.star.as 0 aa _ (λa x hx=>?_) (λb hb=>?_)
 .rcases j3.1 hx with hx|hx;·exact a.1 x hx
  .obtain rfl:x=(m,A,c):=aF;exact a.2.1
 .obtain⟨x,hx,hb⟩:=hb;rcases j3.1 hx with hx|hx;·exact bM ⟨x,hx,hb⟩
  .obtain rfl:x=(m,A,c):=aF;exact b8 hb
def ak.am5{L l m}(c:m.data=[])(h:ak aq FX w (gA l::L)):ak aq FX w (gA (l++[(m,af,0)])::L):=by
 refine h.as 0 aa _ (λa x hx=>?_) (λb hb=>?_)
 .rcases j3.1 hx with hx|hx;·exact a x hx
  grind[e6.nil]
 .obtain⟨x,hx,hb⟩:=hb;rcases j3.1 hx with hx|hx;·exact⟨x,hx,hb⟩
  .obtain rfl:x=(m,af,0):=aF;obtain⟨_,_,hb⟩:=hb;cases hb
def ak.B9{r l A n c}(h:ak aq FX w (bk A n c 73 5 (cE l)::gA l::r)):ak aq FX w (Go.Proofs.YtcmhplknoglbkaaGreat.B9 A n c l::r):=h.star.as 0 aa _ (λh=>⟨h.1,h.2.1⟩) (λ_ hb=>hb)
variable {o n:Int} {g h:dS} {S gG:aO}
def Zb(a:gG.cells=#[gG]:=by rfl):66+gG.cells.size<=(a7 o n g h S).size:=by grind[bW]
def Zd(a:gG.cells=#[gG]:=by rfl):lay (a7 o n g h S) 66 gG.cells.toList=a7 o n g h gG:=by rw[a];exact amK
end
def Jq(o n)(g h)S A c ms w(hS:S.oneCell'=az)(H:cX w A ms)(hle:ms.length<=1048576)(hv:∀m∈ms,m.data.length<=140737488355328):
 aD aw 56 #[eB o n g h S,ae A ms.length c] w λe w'=>∃s B t,e=aB (eB o n g h (ae s ms.length B))/\cf w w' t/\gM t s B ms:=by
 have P:=hid H;have T:=hid hv;clear H hv;have azR:=hle;go_enter func56,ntmps56;have a:=bc w;go_upto_region 0 with fail;refine cm ?_;refine bG a (av _) (λcG w1 a=>?_);refine bA a (a7 0 0 dS.zero dS.zero _) (λL aW a=>?_);refine b' ?_;refine a' a 1 (ae af 0 0) (λbI a=>?_) (hk:=Zb) (hc:=Zd);refine ah ?_;refine v3 ?_;refine an ?_;replace a:=a.pk [1,0];replace a:=a.Ls.k9 (au.refl _ _) (Row.nil _ _ 73 5);go_wp2_with fail;go_loopw [10] (λr wr=>∃(q:Nat) (f:Option bQ) (j:Nat) (l:List (bJ×Option bQ×Nat)),q<=ms.length/\r=J R q/\aE (l.map (·.1)=ms.take q)/\ak w (λ_=>False) wr [bk f q j 73 5 (cE l),gA l,aj cG (a7 o n g h (ae f q j)) 26,aj L (a7 0 0 dS.zero dS.zero (ae af 0 0)) 26]) (λr wr=>ms.length -(cy r).toNat);case atStart=>exact⟨0,_,0,[],cF _,aa,hid aa,a⟩
 case round=>
  clear a;obtain⟨q,f,j,l,hq,rfl,z,a⟩:=hrel;by_cases hlt:q<ms.length
  .have cN:(q:Int)<(ms.length:Int):=ad;obtain⟨m,p⟩:∃m,ms[q]?=ab m:=⟨_,cC hlt⟩;obtain⟨U,bS,y,D,E,F,G⟩:=cX.ji P p;have M:=hid E;have N:=hid F;have O:=hid G;have Q:=hid p;have V:=T m (cY p);clear E F G p;go_upto_region 4 with fail;refine cm ?_;refine aI _ (cq 24 73 5 _ _ aa eA ay _ _ _ _ _ _ (by show ae A _ _=_;rw[M]) aa hlt aa) ?_;refine aI _ (by(refine eC 73 _ aa U _ aa _ (O _ a.only) fy aa ay)) ?_;refine bA a #[J _ 0,J _ 0,J _ 0,J _ 0,ae _ 0 0] (λX cc a=>?_);refine a' a 0 (av _) (λcJ a=>?_);refine cx ?_;refine bN a [3,4,5,7] (λi u=>match i with|3=>av #[J R m.k,J R m.to,J R m.fr,J R m.n,ae u.A m.data.length u.c]|4=>ae (ab ⟨u.b,0,af⟩) 1 1|5=>ae u.A (q+1) u.c|_=>a1) (λd=>λ|3=>cg ((d 3).A) ((d 3).c) m.data|4=>aj ((d 4).b) #[J R m.k,J R m.to,J R m.fr,J R m.n,ae (d 3).A m.data.length (d 3).c] 73|5=>bk ((d 5).A) (q+1) ((d 5).c) 73 5 (cE l++([J R m.k,J R m.to,J R m.fr,J R m.n,ae (d 3).A m.data.length (d 3).c]))|7=>aj cG (a7 o n g h (ae (d 5).A (q+1) (d 5).c)) 26|_=>emp) (λ|5=>[1]|7=>[3]|_=>[]) (λ|1=>[3]|2=>[0]|5=>[9]|_=>[]) (λ|3=>[3]|4=>[3,4]|5=>[3,5]|7=>[5]|_=>[]) [0,2,4,8,9,10,12] (λd=>?_);refine aK ?_;refine dl 0 66 ?_ (hv:=eH);refine eI 0 #[J R m.k,J R m.to,J R m.fr,J R m.n,ae y m.data.length D] ?_;refine Ex (λ_ _ a=>Rv _ _ _ _ y D _ _ (N _ a.only).1 V) ?_;refine lN #[J _ _,J _ _,J _ _,J _ _,ae (d 3).A _ (d 3).c] 73 ?_;refine ub (m:=1) 56 (λ_ _ a=>aU.cellsOf (m:=1) (a.aX 1) aa) (by intro u K;simp at K;rcases K with rfl|rfl|rfl|rfl|rfl<;>rfl) ?_;refine aK ?_;refine gi _ ?_ (hk:=Zb) (hc:=Zd);refine bU λc5 a=>?_;generalize (d 3).A=x at a⊢;generalize (d 3).c=C at a⊢;generalize (d 4).b=Y at a⊢;generalize (d 5).A=W at a⊢;generalize (d 5).c=Z at a⊢;replace a:=a.pk [1,3,5,6,2];replace a:=a.Lr.pk [1,0,2,3];go_wp2_with fail;go_roundw
   case rel=>
    have e:(cE l++([J R m.k,J R m.to,J R m.fr,J R m.n,ae x m.data.length C]))=cE (l++[(m,x,C)]):=by rw[B8,Ew];rfl
    rw[e]at a;exact⟨_,_,_,_,ad,by go_num,hid (by rw[gp,z,gg,Q];rfl),a⟩
   case measure=>grind[cy]
  .obtain rfl:q=ms.length:=ad;have I:=z.out;rw[kH]at I;go_upto_region 7 with fail;refine cm ?_;refine bh a 2 (a7 o n g h (ae f ms.length j)) ?_ (hv:=(eW _)) (hk:=by omega) (hz:=(by rw[bW];rfl));refine a' a 3 (av _) (λdK a=>?_) (hk:=by show 0+ja (a7 _ _ _ _ _)<=_;simp only[bW];decide) (hz:=by show _=ab (ja (a7 _ _ _ _ _));rw[bW];rfl) (h1:=(w2 aa)) (hc:=xt);refine an ?_;replace a:=a.B9;go_wp2_with fail;refine dp (v:=_) (jd aa _ _ _ _ _ _ _ aa (a.aX 2) Tryz.underlying26 aa (by rw[bW];rfl)) aa (⟨f,j,_,aa,a.fresh 0,l,I,aa⟩)
end
def Row.Ns{N n c w A xs}(h:Row N w A n c 3 1 (xs.map (J R))):c8 w A xs:=c8.nU h
def alN E x:jN (E++[x])=jN E++[J R x.1,J R x.2]:=by simp[jN]
def Row.Ur{N c w A E n}(h:Row N w A n c 35 2 (jN E)):n=E.length/\kI w A E:=by
 have a:n=E.length:=by have:=h.1;rw[YQ]at this;omega
 grind[kI.nU]
def Row.at{N n c e sz:Nat}{w A xs}(h:Row N w A n c e sz xs)(hn:0<n):∃g,A=ab ⟨g,0,af⟩:=by
 rcases h.cases with⟨_,a,_⟩|⟨g,_,h1,_⟩;·omega
 .grind
def Row.cellAt{N n c e sz g:Nat}{w xs}(h:Row N w (ab ⟨g,0,af⟩) n c e sz xs){j v}(a:xs[j]?=ab v):w.cell? ⟨g,j,af⟩=ab v:=by obtain⟨b,bB,bY⟩:=h.cell a;grind
def vs(ms:List bJ)(i:Nat):Int:=kL ((ms.take i).map ck)
def ale{ms q m}(h:ms[q]?=ab m):vs ms (q+1)=vs ms q+b5 m:=by unfold vs;rw[gg,h,z1,gp,RR];simp[kL,ck]
def Yz{ms}(h:∀m∈ms,gW m){q}:0<=vs ms q/\vs ms q<=kL (ms.map ck):=by unfold vs;rw[List.map_take];exact ZH (E:=_) (λe a=>by obtain⟨m,b,rfl⟩:=fL.1 a;have:=(h m b).ck;show 0<=b5 m;omega) q
def rG(t:bp)(p:Nat)(s:Int)(ms:List bJ):Prop:=∀W,t.p W->BS W p s ms
set_option maxHeartbeats 2000000 in
def atr s A c ms w(hl:cX w A ms)(hf2:ms.length<=1048575)(hf:(db s ms).length<=1048576)(hs:1<=s)(hv:∀m∈ms,gW m/\m.data.length<=140737488355328)(ht:kL (ms.map ck)<=4611686018427387903):
 aD aw 57 #[J R s,ae A ms.length c] w λe w'=>∃p t,e=aB (ax (ab ⟨p,0,af⟩))/\cf w w' t/\rG t p s ms:=by
 have cH:=hid hl;have v:=hid hv;have cr:=hid (And.intro hf hf2);have e4:=hid ht;have hs1:¬s<1:=ad;have V:=hid hs;clear hl hv hf ht;go_enter func57,ntmps57;have a:=bc w;go_upto_region 0 with fail;refine cm ?_;refine ag ?_;refine an ?_;go_upto_region 1 with fail;refine cm ?_;refine v2 ?_;refine an ?_;go_upto_region 3 with fail;refine cm ?_;refine ag ?_;refine fC a #[J R 0] 3 (λQ w1 a=>?_);refine fC a #[J R 0] 3 (λS aW a=>?_);refine v2 ?_;refine bG a (av _) (λy bI a=>?_);refine ag ?_;refine an ?_;go_upto_region 4 with fail;refine cm ?_;refine ag ?_;refine an ?_;go_upto_region 5 with fail;refine cm ?_;refine v3 ?_;refine an ?_;replace a:=a.pk [0,2,1];replace a:=a.k9 (au.refl _ _) (Row.nil _ _ 35 2);go_wp2_with fail;go_loopw [6,23] (λev z wr=>∃(q:Nat) (L:Option bQ) (M:Nat),q<=ms.length/\z=J R q/\ev=ae L q M/\ak w (λ_=>False) wr [bk L q M 35 2 (jN ((ms.take q).map ck)),aj y #[J R s,ae (ab ⟨Q,0,af⟩) 1 1,ae (ab ⟨S,0,af⟩) 1 1,ae af 0 0] 248,aj Q #[J R 0] 3,aj S #[J R 0] 3]) (λev z wr=>ms.length -(cy z).toNat);case atStart=>exact⟨0,_,0,cF _,aa,aa,a⟩
 case round=>
  clear a;obtain⟨q,L,M,hq,rfl,rfl,a⟩:=hrel;by_cases hlt:q<ms.length
  .have cN:(q:Int)<(ms.length:Int):=ad;obtain⟨m,j⟩:∃m,ms[q]?=ab m:=⟨_,cC hlt⟩;obtain⟨F,I,f,g,G,H,x⟩:=cX.ji cH j;have T:=hid G;have iR:=hid H;have U:=hid x;have o:=hid j;clear G H x j;have Ie:=(v m (cY o)).1;have gr:=(v m (cY o)).2;go_upto_region 7 with fail;refine cm ?_;refine aI (ax (ab ⟨F,(I+q*5),af⟩)) (cq 24 73 5 (bj 21) (bj 23) aa eA aY _ _ _ _ _ _ (by show ae A _ _=_;rw[T]) aa hlt aa) ?_;refine aI (av #[J R m.k,J R m.to,J R m.fr,J R m.n,ae f m.data.length g]) (by(refine eC 73 (bj 25) aa F (I+q*5) aa ([J R m.k,J R m.to,J R m.fr,J R m.n,ae f m.data.length g]:List aO) (U _ a.only) fy aa aY)) ?_;refine bA a #[J _ 0,J _ 0,J _ 0,J _ 0,ae _ 0 0] (λiC cc a=>?_);refine a' a 0 (av _) (λcJ a=>?_);refine an ?_;go_upto_region 8 with fail;refine cm ?_;refine ag ?_;refine bh a 0 #[J R m.k,J R m.to,J R m.fr,J R m.n,ae f m.data.length g] ?_;refine bH ((show aD _ _ _ _ λe w'=>e=aB (av #[J _ _,J _ (b5 m)])/\ar _ w' from uN _ _ m.fr _ f _ g _)) a (λc5 a=>?_);refine fC a #[J R m.to,J R (b5 m)] 35 (λVc dK a=>?_);refine lZ (m:=1) a 2 16 (aU.cellsOf (m:=1) (a.aX 0) aa) (by intro u r;simp at r;rcases r with rfl|rfl<;>rfl) (λaxq ayH dz a=>?_);refine ag ?_;refine an ?_;go_wp2_with fail;go_roundw;case rel=>exact⟨_,_,_,ad,by go_num,aa,by rw[gg,o,z1,gp,jM,kp,alN];exact a.pick [2,3,4,5]⟩
   case measure=>grind[cy]
  .obtain rfl:q=ms.length:=ad;rw[kH]at a
   have XF:=hid (λW h=>by have h2:=av4 L M (ms.map ck) W h aF (λe he=>by obtain⟨m,j,rfl⟩:=fL.1 he;have:=((v m j).1).ck;show 0<=b5 m;omega) e4.out;rw[List.length_map]at h2;exact h2);go_upto_region 10 with fail;refine cm ?_;refine ag ?_;refine bH (XF _ (Row.Ur (a.atR 0)).2) a (λeY a=>?_);refine v5 ?_;refine an ?_;go_upto_region 11 with fail;refine cm ?_;refine v2 ?_;refine an ?_;go_upto_region 13 with fail;refine cm ?_;refine v3 ?_;refine an ?_;replace a:=a.pk [1,2,3];replace a:=a.A9 1 1 1 1 [J _ 0] aa (b4 _) bf aa;replace a:=a.A9 2 1 1 1 [J _ 0] aa (b4 _) bf aa;replace a:=(a.Ls.k9 (au.refl _ _) (Row.nil _ _ 73 5)).pick (l':=[aj y _ _,bk _ 1 1 3 1 _,bk _ 1 1 3 1 _,bk _ 0 0 73 5 [],gA []]) [2,3,4,0,1];go_wp2_with fail;go_loopw [42] (λz wr=>∃(q:Nat) (E:Option bQ) (D B:Nat) (c1 c2 eG:Nat) (l:List (bJ×Option bQ×Nat)),q<=ms.length/\z=J R q/\aE (l.map (·.1)=ms.take q)/\ak w (λ_=>False) wr [aj y #[J R s,ae (ab ⟨D,0,af⟩) (q+1) c2,ae (ab ⟨B,0,af⟩) (q+1) eG,ae E q c1] 248,bk (ab ⟨D,0,af⟩) (q+1) c2 3 1 ((dG (q+1)).map (λi=>J R (lM s ms i:Int))),bk (ab ⟨B,0,af⟩) (q+1) eG 3 1 ((dG (q+1)).map (λi=>J R (vs ms i))),bk E q c1 73 5 (cE l),gA l]) (λz wr=>ms.length -(cy z).toNat);case atStart=>exact⟨0,af,Q,S,0,1,1,[],cF _,aa,hid aa,by grind[lM,db,vs,kL,cE]⟩
   case round=>
    clear a XF;obtain⟨q,E,D,B,c1,c2,eG,l,hq,rfl,G0,a⟩:=hrel;by_cases hlt:q<ms.length
    .have cN:(q:Int)<(ms.length:Int):=ad;obtain⟨m,j⟩:∃m,ms[q]?=ab m:=⟨_,cC hlt⟩;obtain⟨F,I,f,g,G,H,x⟩:=cX.ji cH j;have T:=hid G;have iR:=hid H;have U:=hid x;have o:=hid j;clear G H x j;have Ie:=(v m (cY o)).1;have gr:=(v m (cY o)).2;obtain⟨Y,hcc⟩:=ex (j5 m s);have x:=B4 Ie V;have acb:=Ie.ck;rw[hcc]at x;have WY:=hid (λW=>RB m f g s W acb.2.1 ad V);rw[hcc]at WY;have Fb:=Rt (s:=s) o;rw[hcc]at Fb;have hall:=YU (s:=s) (ms:=ms) (show q+1<=ms.length by omega);rw[Rs]at hall;have apa:=cr.1;obtain⟨O,Ay⟩:=ex ((lM s ms q:Int));obtain⟨C,aaY⟩:=ex ((lM s ms (q+1):Int));have Ss:O+Y=C:=ad;have yW:0<=O/\0<=C/\C<=1048576:=ad;obtain⟨eF,hb1⟩:=ex (vs ms q);obtain⟨eV,hb2⟩:=ex (vs ms (q+1));obtain⟨F7,S4⟩:=ex (b5 m);have Z:=ale o;have hbr:=Yz (λm j=>(v m j).1) (q:=q);have aaJ:=Yz (λm j=>(v m j).1) (q:=q+1);have aqi:=e4.out;rw[hb1,hb2,S4]at Z;rw[hb1]at hbr;rw[hb2]at aaJ;have Ck:=Z.symm;have hbl:0<=eF/\0<=eV/\eV<=4611686018427387903:=ad;have D':aE (∀W,aD _ _ #[l6 m f g] W λe w'=>e=aB (av #[J _ _,J _ F7])/\ar W w'):=hid (λW=>by rw[<-S4];exact uN _ _ _ _ f _ g W);have K:=hid (And.intro Ay (And.intro aaY (And.intro hb1 hb2)));have AJ:q<q+1:=X4 q;clear hcc x acb Fb hall apa Ay aaY hb1 hb2 S4 Z hbr aaJ aqi;go_upto_region 15 with fail;refine cm ?_;refine ag ?_;refine aI (ax (ab ⟨F,(I+q*5),af⟩)) (cq 24 73 5 (bj 40) (bj 42) aa eA aY _ _ _ _ _ _ (by show ae A _ _=_;rw[T]) aa hlt aa) ?_;refine aI (av #[J R m.k,J R m.to,J R m.fr,J R m.n,ae f m.data.length g]) (by(refine eC 73 (bj 45) aa F (I+q*5) aa ([J R m.k,J R m.to,J R m.fr,J R m.n,ae f m.data.length g]:List aO) (U _ a.only) fy aa aY)) ?_;refine bA a #[J _ 0,J _ 0,J _ 0,J _ 0,ae _ 0 0] (λiC gQ a=>?_);refine ag ?_;refine a' a 0 (av _) (λib a=>?_);refine an ?_;go_upto_region 16 with fail;refine bN a [6,7,8,11] (λi u=>match i with|6=>av #[J R m.k,J R m.to,J R m.fr,J R m.n,ae u.A m.data.length u.c]|7=>ae (ab ⟨u.b,0,af⟩) 1 1|8=>ae u.A (q+1) u.c|_=>a1) (λd=>λ|6=>cg ((d 6).A) ((d 6).c) m.data|7=>aj ((d 7).b) #[J R m.k,J R m.to,J R m.fr,J R m.n,ae (d 6).A m.data.length (d 6).c] 73|8=>bk ((d 8).A) (q+1) ((d 8).c) 73 5 (cE l++([J R m.k,J R m.to,J R m.fr,J R m.n,ae (d 6).A m.data.length (d 6).c]))|11=>aj y #[J R s,ae (ab ⟨D,0,af⟩) (q+1) c2,ae (ab ⟨B,0,af⟩) (q+1) eG,ae (d 8).A (q+1) (d 8).c] 248|_=>emp) (λ|8=>[4]|11=>[1]|_=>[]) (λ|4=>[1]|5=>[0]|8=>[13]|_=>[]) (λ|6=>[6]|7=>[6,7]|8=>[6,8]|11=>[8]|_=>[]) [0,2,3,5,12,13,14,17] (λd=>?_);refine hD ?_;refine dl 0 3 ?_;refine eI 0 #[J R m.k,J R m.to,J R m.fr,J R m.n,ae f m.data.length g] ?_;refine Ex (λ_ _ a=>Rv _ _ _ _ f g _ _ (iR _ a.only).1 gr) ?_;refine lN #[J _ _,J _ _,J _ _,J _ _,ae (d 6).A _ (d 6).c] 73 ?_;refine ub (m:=1) 56 (λ_ _ a=>aU.cellsOf (m:=1) (a.aX 1) aa) (by intro u r;simp at r;rcases r with rfl|rfl|rfl|rfl|rfl<;>rfl) ?_;refine bF ?_;refine gi _ ?_;refine bU λjS a=>?_;generalize (d 6).A=U2 at a⊢;generalize (d 6).c=YM at a⊢;generalize (d 7).b=Vc at a⊢;generalize (d 8).A=P at a⊢;generalize (d 8).c=X at a⊢;go_upto_region 17 with fail;refine bN a [16,18,19,23] (λi u=>match i with|16=>J R Y|18=>ae (ab ⟨u.b,0,af⟩) 1 1|19=>ae u.A ((q+1)+1) u.c|_=>a1) (λd i=>match i with|18=>aj ((d 18).b) #[J R C] 3|19=>bk ((d 19).A) ((q+1)+1) ((d 19).c) 3 1 ((dG (q+1)).map (λi=>J R (lM s ms i:Int))++([J R C]))|23=>aj y #[J R s,ae (d 19).A ((q+1)+1) (d 19).c,ae (ab ⟨B,0,af⟩) (q+1) eG,ae P (q+1) X] 248|_=>emp) (λ|19=>[1]|23=>[7]|_=>[]) (λ|5=>[7]|10=>[7]|13=>[1]|14=>[0]|19=>[26]|_=>[]) (λ|18=>[18]|19=>[19]|23=>[19]|_=>[]) [0,2,3,4,5,6,24,26,27,31] (λd=>?_);refine oO ?_;refine dl 0 1 ?_;refine hD ?_;refine dl 0 1 ?_;refine aK ?_;refine aN (ax (ab ⟨D,q,af⟩)) (λ_ _ _=>cq 82 3 1 (bj 68) (bj 69) aa hR aY _ _ _ _ _ q aa aa AJ ad) ?_;refine aN (J R O) (λ_ _ a=>po aa aa (Row.cellAt (a.atR 0) (by rw[<-K.1];simp)) aY) ?_;refine eI 0 #[J R m.k,J R m.to,J R m.fr,J R m.n,ae f m.data.length g] ?_;refine aK ?_;refine dD (λ_ _ _=>WY _) ?_;refine uc O Y C ?_;refine lN _ 3 ?_;refine ub (m:=1) 8 (λ_ _ a=>aU.cellsOf (m:=1) (a.aX 1) aa) (by intro u r;rw[wO.1 r];rfl) ?_;refine da ?_;refine gi _ ?_;refine bU λkh a=>?_;generalize (d 18).b=axY at a⊢;generalize (d 19).A=U3 at a⊢;generalize (d 19).c=Rp at a⊢;replace a:=a.drop 6;go_upto_region 18 with fail;refine bN a [15,18,19,23] (λi u=>match i with|15=>av #[J R m.to,J R F7]|18=>ae (ab ⟨u.b,0,af⟩) 1 1|19=>ae u.A ((q+1)+1) u.c|_=>a1) (λd i=>match i with|18=>aj ((d 18).b) #[J R eV] 3|19=>bk ((d 19).A) ((q+1)+1) ((d 19).c) 3 1 ((dG (q+1)).map (λi=>J R (vs ms i))++([J R eV]))|23=>aj y #[J R s,ae U3 ((q+1)+1) Rp,ae (d 19).A ((q+1)+1) (d 19).c,ae P (q+1) X] 248|_=>emp) (λ|19=>[1]|23=>[8]|_=>[]) (λ|5=>[8]|10=>[8]|13=>[1]|14=>[0]|19=>[27]|_=>[]) (λ|18=>[18]|19=>[19]|23=>[19]|_=>[]) [0,2,3,4,5,6,7,24,27,28,32] (λd=>?_);refine oO ?_;refine dl 0 2 ?_;refine hD ?_;refine dl 0 2 ?_;refine aK ?_;refine aN (ax (ab ⟨B,q,af⟩)) (λ_ _ _=>cq 82 3 1 (bj 91) (bj 92) aa hR aY _ _ _ _ _ q aa aa AJ ad) ?_;refine aN (J R eF) (λ_ _ a=>po aa aa (Row.cellAt (a.atR 0) (by rw[<-K.2.2.1];simp)) aY) ?_;refine eI 0 #[J R m.k,J R m.to,J R m.fr,J R m.n,ae f m.data.length g] ?_;refine dD (λ_ _ _=>D' _) ?_;refine gZ (J R F7) ?_;refine uc eF F7 eV ?_;refine lN _ 3 ?_;refine ub (m:=1) 8 (λ_ _ a=>aU.cellsOf (m:=1) (a.aX 1) aa) (by intro u r;rw[wO.1 r];rfl) ?_;refine da ?_;refine gi _ ?_;refine bU λlf a=>?_;generalize (d 18).b=axZ at a⊢;generalize (d 19).A=axl at a⊢;generalize (d 19).c=alx at a⊢;replace a:=a.drop 7;replace a:=a.pk [1,2,9,6,8,4];replace a:=a.Lr.pk [1,2,3,4,0];go_wp2_with fail;obtain⟨g2,rfl⟩:=Row.at (a.atR 1) ad;obtain⟨g3,rfl⟩:=Row.at (a.atR 2) ad;go_roundw
     case rel=>
      refine⟨q+1,P,g2,g3,X,Rp,alx,l++[(m,U2,YM)],ad,by go_num,hid (by rw[gp,G0,gg,o];rfl),?_⟩;rw[List.range_succ,gp,gp,jM,kp,jM,kp,K.2.1,K.2.2.2,B8,Ew];exact a
     case measure=>grind[cy]
    .obtain rfl:q=ms.length:=ad;have e0:=G0.out;rw[kH]at e0;go_upto_region 20 with fail;refine cm ?_;refine v2 ?_;refine an ?_;replace a:=(a.pk [3,4,1,0]).B9;replace a:=(a.star.pk [1,0]).star;go_wp2_with fail;go_ret;refine⟨y,_,aa,a.fresh 0,λW h=>?_⟩;have hc:gM _ E c1 ms:=⟨l,e0,aa⟩;exact⟨⟨_,c2,_,eG,E,c1,⟨h.1.cell 0 aa,h.1.cell 1 aa,h.1.cell 2 aa,h.1.cell 3 aa⟩,Row.Ns (N:=0) (n:=_) (c:=c2) (by rw[List.map_map];exact h.2.1.2.1),hc.vZ h.2.1.1⟩,⟨cr.1,ad⟩,V,v⟩

section
section
variable {P:ee} {o:cU} {a:bT} {w:aM}
def BZ t(x y)d(ho:o.op=nA .shr t x y d)(k e)v(n:Nat)(hx:a.eval x=J k v)(c:a.eval y=J e (n:Int))(hn:n<=k.bits):
 (bt a.eval o).run P w=a6 (c9 (J k (v.fdiv (2^n)))) w:=by
 have h1:¬((n:Int)<0):=ad;have b:=Nat.min_eq_left hn;unfold bt;simp[ho,hx,c,zD,x8,Op.shift,h1,b]
def Ac t(x y)e(ho:o.op=nA .quo t x y e)(p q z:Nat)(hx:a.eval x=J R (p:Int))(d:a.eval y=J R (q:Int))(g:0<q)(hz:p/q=z)(f:(z:Int)<=9223372036854775807):
 (bt a.eval o).run P w=a6 (c9 (J R (z:Int))) w:=by
 have c:R.wrap ((p:Int)/(q:Int))=(z:Int):=by grind[wj]
 have b:¬(q=0):=ad;unfold bt;simp[ho,hx,d,zD,x8,O1,c,b]
def Rg t(x y)e(ho:o.op=nA .rem t x y e)(p q z:Nat)(hx:a.eval x=J R (p:Int))(d:a.eval y=J R (q:Int))(g:0<q)(hz:p%q=z)(f:(z:Int)<=9223372036854775807):
 (bt a.eval o).run P w=a6 (c9 (J R (z:Int))) w:=by
 have c:(p:Int).tmod (q:Int)=(z:Int):=aF;have b:¬(q=0):=ad;unfold bt;simp[ho,hx,d,zD,x8,O1,c,b]
end
theorem axh v k:(mQ #[v] k).toList=eU k v:=by
 unfold mQ;simp;apply List.ext_getElem;·simp
 .grind
section
variable {P:ee} (w:aM)
def auE N (t ek ty e) i z h (d:P.underlying t=ab (iF e)) (f:P.underlying ek=ab (.int h)) (hi:P.info? e=ab i) (hz:i.zero=ab z) (o:z.cells=#[z]) (hsize:i.size=1)
 (g n) xs (hown:Row N w (ab ⟨g,0,af⟩) n n e 1 xs) k (h63:n+k<=eh) (hbytes:(n+k)*i.bytes<=140737488355328) (dU:N<=w.heap.size):
 ∃a c w',(oQ #[t,ek] ty #[ae (ab ⟨g,0,af⟩) n n,J R (k:Int)]).run P w=a6 (ae a (n+k) c) w'/\Row N w' a (n+k) c e 1 (xs++eU k z)/\ar w w'/\(∀b,eb a b->eb (ab ⟨g,0,af⟩) b\/w.heap.size<=b):=by
 have hlen:xs.length=n:=by have:=hown.1;omega
 rcases lL k with hk|hk;·subst hk;refine⟨_,n,w,?_,aF,au.refl _ w,λb hb=>bM hb⟩;have hw0:R.wrap 0=0:=bf;simp[oQ,gE d,gE f,my,mS,hi,we,rr,Bz,asInt,zC,hw0]
 .have holds:=hown.cells (g:=g) aa
  have j:(rr i.size n (ae (ab ⟨g,0,af⟩) n n)).run P w.drew=a6 xs.toArray w.drew:=by rw[hsize];exact Kf _ 1 n _ n n xs ad holds
  have hrun:=Lib.run_append_grow_zeros (P:=P) w t ek ty e i z R h d f hi hz (ab ⟨g,0,af⟩) n n xs j k hk ad ad (by grind[eh]) aF (Ka ad hbytes);have l:=zE w (n+k) n e;have hcm:=zF w _ n e h63;refine⟨_,_,_,hrun,⟨aF,b8 ⟨w.heap.size,_,_,aa,dU,fz w.drew _,l,hcm,?_,?_⟩⟩,ar.trans (au.drew _) (au.alloc _ _),λb ⟨_,_,m⟩=>aF⟩;·grind[size_zeroCells]
  .grind[axh]
end
def ak8 {P o} {a:bT} {w s x} {t ek e g n k:Nat} {xs} bytes f z (ho:o.op=nB {callee:=oR .append,args:=#[s,x],argTypes:=#[t,ek]}) (q:a.eval s=ae (ab ⟨g,0,af⟩) n n) (hx:a.eval x=J R (k:Int)) (hown:Row 0 w (ab ⟨g,0,af⟩) n n e 1 xs) (hbytes:(n+k)*bytes<=140737488355328) (hb0:0<bytes) (r:P.underlying t=ab (iF e)) (u:P.underlying ek=ab (.int f))
 (k3:(P.info? e).map (λi=>(i.zero,i.size,i.bytes))=ab (ab z,1,bytes)) (acy:z.cells=#[z]):
 ∃c d w',(bt a.eval o).run P w=a6 (c9 (ae c (n+k) d)) w'/\Turned w w' (bk (ab ⟨g,0,af⟩) n n e 1 xs) (bk c (n+k) d e 1 (xs++eU k z)):=by
 cases hq:P.info? e with
 |none=>grind
 |some i=>
  rw[hq]at k3;simp only[pR,wR,o3]at k3;obtain⟨bB,j,l⟩:=k3;subst l;have hle:(n+k)<=(n+k)*i.bytes:=zW _ hb0;obtain⟨c,d,w',hrun,h1,m,p⟩:=auE (P:=P) w 0 t ek o.type e i z f r u hq bB acy j g n xs hown k (by grind[eh]) hbytes (cF _);refine⟨c,d,w',?_,m.mono (λ_ _ h=>h.elim),h1,λb hb=>⟨(Row.lt h1 hb).2,p b hb⟩⟩;unfold bt;simp only[ho,nD,nC,qF,ga,jK,jc,oo,jM,kp,q,hx,hrun]
end
def qn(x a)s w(h:(a,s)∈[(-7,25),(-18,14),(-17,15),(-19,13),(-6,26),(-11,21),(-25,7),(-2,30),(-13,19),(-22,10)]):
 aD aw 332 #[cd x,J R a] w λe w'=>e=aB (cd (kS x s))/\ar w w':=by
 have hk:=by simpa using h
 go_enter func332,ntmps332;have b:=bc w;go_step;refine ah ?_;refine mO ?_;refine aI (J .u64 (s:Int)) (by(rcases hk with⟨rfl,rfl⟩|⟨rfl,rfl⟩|⟨rfl,rfl⟩|⟨rfl,rfl⟩|⟨rfl,rfl⟩|⟨rfl,rfl⟩|⟨rfl,rfl⟩|⟨rfl,rfl⟩|⟨rfl,rfl⟩|⟨rfl,rfl⟩<;>(show _=_;kernel_rfl))) ?_;refine mO ?_;refine aI (cd (vT x s)) (by(rcases hk with⟨rfl,rfl⟩|⟨rfl,rfl⟩|⟨rfl,rfl⟩|⟨rfl,rfl⟩|⟨rfl,rfl⟩|⟨rfl,rfl⟩|⟨rfl,rfl⟩|⟨rfl,rfl⟩|⟨rfl,rfl⟩|⟨rfl,rfl⟩<;>(show _=_;kernel_rfl))) ?_;refine v2 ?_;refine aI (J .u64 ((32 -s:Nat):Int)) (by(rcases hk with⟨rfl,rfl⟩|⟨rfl,rfl⟩|⟨rfl,rfl⟩|⟨rfl,rfl⟩|⟨rfl,rfl⟩|⟨rfl,rfl⟩|⟨rfl,rfl⟩|⟨rfl,rfl⟩|⟨rfl,rfl⟩|⟨rfl,rfl⟩<;>(show _=_;kernel_rfl))) ?_;refine aI (cd (ke x (32 -s))) (by(rcases hk with⟨rfl,rfl⟩|⟨rfl,rfl⟩|⟨rfl,rfl⟩|⟨rfl,rfl⟩|⟨rfl,rfl⟩|⟨rfl,rfl⟩|⟨rfl,rfl⟩|⟨rfl,rfl⟩|⟨rfl,rfl⟩|⟨rfl,rfl⟩<;>(show _=_;kernel_rfl))) ?_;refine pk (cd (kS x s)) ?_;refine Jy ?_;exact⟨aa,b.only⟩
def y8:List Int:=[1116352408,1899447441,3049323471,3921009573,961987163,1508970993,2453635748,2870763221,3624381080,310598401,607225278,1426881987,1925078388,2162078206,2614888103,3248222580,3835390401,4022224774,264347078,604807628,770255983,1249150122,1555081692,1996064986,2554220882,2821834349,2952996808,3210313671,3336571891,3584528711,113926993,338241895,666307205,773529912,1294757372,1396182291,1695183700,1986661051,2177026350,2456956037,2730485921,2820302411,3259730800,3345764771,3516065817,3600352804,4094571909,275423344,430227734,506948616,659060556,883997877,958139571,1322822218,1537002063,1747873779,1955562222,2024104815,2227730452,2361852424,2428436474,2756734187,3204031479,3329325298]
def Tn:y8.length=64:=rfl
def To w:
 aD aw 331 #[] w λe w'=>e=aB (av (aZ cd y8 []))/\ar w w':=by
 go_enter func331,ntmps331;have a:=bc w;go_step;refine ah ?_;refine bA a (aZ cd (eU 64 0) []) (λb w1 a=>?_);refine ah ?_;refine pk (av (aZ cd y8 [])) ?_;refine C4 a 0 (List.length_replicate ..) Tn (λc a=>?_);refine an ?_;go_wp2_with fail;refine dp (v:=av (aZ cd y8 [])) (jd aa _ _ _ _ _ _ _ aa (a.aX 0) Tryz.underlying435 aa aY) aa (⟨aa,a.only⟩)
section
def ae5{t fr}g:∀(b) o (w:aM) cur,w.heap[g]?=ab (bl cur t fr)->
 ∃a,(w.setCells g o b).heap[g]?=ab (bl a t fr)/\a.size=cur.size/\∀j,a[j]?=if o<=j/\j<o+b.length/\j<cur.size then b[j -o]? else cur[j]?
 |[],o,w,cur,h=>⟨cur,h,rfl,λj=>aF⟩
 |v::r,o,w,cur,h=>by
  have h1:(w.setCell ⟨g,o,af⟩ v).heap[g]?=ab (bl (cur.setIfInBounds o v) t fr):=by grind[World.setCell]
  obtain⟨a,c,d,e⟩:=ae5 g r (o+1) _ _ h1;refine⟨a,c,aF,λj=>?_⟩;grind
def au.ava w(g o)a:au (λk=>k=g) w (w.setCells g o a):=by
 induction a generalizing o w with
 |nil=>exact au.refl _ _
 |cons v r b=>exact(au.setCell (F:=λk=>k=g) w (p:=_) aa v).trans (b _ _) (λ_ _ h=>h)
def eZ(N:Nat)(w:aM)(A:Option bQ)(n c:Nat)(e:gb)(xs:List aO):Prop:=xs.length=n/\((A=af/\n=0/\c=0)\/
 ∃g off cur,A=ab ⟨g,off,af⟩/\N<=g/\aU w g cur e/\n<=c/\c<=eh/\off+c<=cur.size/\∀j,j<n->cur[off+j]?=xs[j]?)
section
variable {F:Nat->Prop} {w w':aM} {N n c e b7 B m:Nat} {A:Option bQ} {xs:List aO}
theorem eZ.nil N w e:eZ N w af 0 0 e []:=⟨aa,bM ⟨aa,aa,aa⟩⟩
def eZ.only(h:eZ N w A n c e xs)(k:au F w w')(hn:∀b,eb A b->¬F b):eZ N w' A n c e xs:=by
 refine⟨h.1,?_⟩;rcases h.2 with h2|⟨g,off,cur,rfl,hb,hg,r⟩;·grind
 .exact b8 ⟨g,_,_,aa,hb,k.heap hg (hn g ⟨_,_,aa⟩),r⟩
def eZ.mem(h:eZ N w A n c e xs):Mem N w A e:=λb off f a=>by
 rcases h.2 with⟨rfl,_⟩|⟨g,o,cur,rfl,hb,d,_⟩;·grind
 grind
def eZ.lt(h:eZ N w A n c e xs){b}(hb:eb A b):N<=b/\b<w.heap.size:=by obtain⟨off,d,e⟩:=hb;obtain⟨h1,cs,a⟩:=h.mem b off d e;exact⟨h1,aU.lt a⟩
def eZ.cap(h:eZ N w A n c e xs):n<=c:=by
 rcases h.2 with⟨_,a,b⟩|⟨_,_,_,_,_,_,d,_⟩;·omega
 .omega
def eZ.asg{cs}(h:eZ N w A n c e xs)(hb:aU w B cs b7)(g:b7≠e):¬eb A B:=λ⟨off,b,a⟩=>by obtain⟨_,d,f⟩:=h.mem B off b a;grind
def eZ.ofRow(h:Row N w A n c e 1 xs):eZ N w A n c e xs:=by
 refine⟨by simpa using h.1,?_⟩;rcases h.2 with⟨hv,d⟩|⟨g,cap,cur,hv,hb,a,hn,b,i,k⟩;·grind
 .injection hv with h1 h2 h3;subst h3;refine b8 ⟨g,0,_,h1,hb,a,hn,b,ad,λj f=>?_⟩;grind
def eZ.drop(h:eZ N w A n c e xs){i}(hi:i<=n):eZ N w (fF A c i 1) (n -i) (c -i) e (xs.drop i):=by
 refine⟨by rw[List.length_drop,h.1],?_⟩;rcases h.2 with⟨rfl,a,b⟩|⟨g,off,cur,rfl,h1,a,b,f,k,l⟩;·grind[fF]
 .right;by_cases hc:c=i;·exact⟨g,off,cur,by grind[fF],h1,a,ad,ad,ad,λj d=>ad⟩
  .refine⟨g,off+i,cur,by grind[fF,nL],h1,a,ad,ad,ad,λj d=>?_⟩;grind
def eZ.nZ{bs}(h:eZ N w A bs.length c 5 (bs.map bb)):e6 N w A c bs:=by
 refine⟨λi=>?_,h.mem,h.cap⟩;rcases h.2 with⟨_,a,_⟩|⟨g,off,cur,rfl,h1,a,b,d,e,f⟩;·omega
 grind[aU.cell]
end
section
variable {P:ee} (w:aM)
def auD N (t ty e) i z (d:P.underlying t=ab (iF e)) (hi:P.info? e=ab i) (hz:i.zero=ab z) (hsize:i.size=1) (hzs:z.cells.size=1)
 A (n c) xs (dc:eZ N w A n c e xs) aJ (m c2) news (hr:Cells w 1 aJ m news) (h1:∀u∈news,u.oneCell'=az)
 (h63:n+m<=eh) (hbytes:(n+m)*i.bytes<=140737488355328) (dU:N<=w.heap.size):
 ∃a f w',(oQ #[t,t] ty #[ae A n c,ae aJ m c2]).run P w=a6 (ae a (n+m) f) w'/\eZ N w' a (n+m) f e (xs++news)/\vg (eb A) w w'/\(∀b,eb a b->eb A b\/w.heap.size<=b):=by
 have hlen:(xs++news).length=n+m:=by rw[List.length_append,dc.1,hr.1];omega
 rcases lL m with p|p
 .subst p;have hn:=j2 (by simpa using hr.1);subst hn;refine⟨A,c,w,?_,aF,ar.keep (au.refl _ w),λb hb=>bM hb⟩;have hc:=dc.cap;rcases aJ with _|o
  .rcases dc.2 with⟨rfl,rfl,rfl⟩|⟨g,off,cur,rfl,_⟩;·simp[oQ,gE d,my,mS,hi,we,rr]
   .simp[oQ,gE d,my,mS,hi,we,rr,hc,Bz]
  .rcases dc.2 with⟨rfl,rfl,rfl⟩|⟨g,off,cur,rfl,_⟩;·simp[oQ,gE d,my,mS,hi,we,rr,loadCells,Pv]
   .simp[oQ,gE d,my,mS,hi,we,rr,loadCells,Pv,hc,Bz]
 .obtain⟨o,rfl,hnews⟩:=hr.2 p;have r:Src P i.size t _ m _ w:=Src.ofSlice w d o m c2 _ (by rw[hr.1,hsize]) hnews h1
  have grow:c<n+m->(rr i.size n (ae A n c)).run P w.drew=a6 xs.toArray w.drew->
   ∃a f w',(oQ #[t,t] ty #[ae A n c,ae (ab o) m c2]).run P w=a6 (ae a (n+m) f) w'/\eZ N w' a (n+m) f e (xs++news)/\vg (eb A) w w'/\(∀b,eb a b->eb A b\/w.heap.size<=b):=by
   intro hc hold;have hrun:=run_append_grow_src (P:=P) w t t ty e i z d hi hz A n c xs hold _ m news r hc (by grind[eh]) (Ka hc hbytes);have B:=zE w (n+m) c e;have C:=zF w _ c e h63;have y:∀D,ar w (w.drew.alloc D):=λ_=>ar.trans (au.drew _) (au.alloc _ _);refine⟨_,_,_,hrun,⟨hlen,b8 ⟨w.heap.size,0,_,aa,dU,fz w.drew _,B,C,?_,λj q=>?_⟩⟩,(y _).keep.adA,λb ⟨_,_,F⟩=>aF⟩;·grind[mQ]
   .grind
  rcases dc.2 with⟨rfl,rfl,rfl⟩|⟨g,off,cur,rfl,s,h,G,v,H,x⟩;·obtain rfl:=j2 dc.1;grind[run_firstCells_none]
  .have hcell:∀(j) u,xs[j]?=ab u->w.cell? _=ab u:=λj u l=>by rw[fu w g _ _ _ _ h,x j (by rw[<-dc.1];exact(e5.1 l).1),l]
   by_cases hroom:n+m<=c
   .have hrun:=run_append_room_src (P:=P) w t t ty e i d hi g off n c _ m _ r hroom (λj q=>by rw[fu w g _ _ _ _ h,hsize];have:=hr.1;simp;omega) (λj _=>by grind[World.frozen?]);rw[hsize,Nat.mul_one]at hrun;obtain⟨E,eF,eV,sL⟩:=ae5 g news (off+n) w cur h;refine⟨_,_,_,hrun,⟨hlen,b8 ⟨g,_,_,rfl,s,eF,hroom,v,ad,λj q=>?_⟩⟩,?_,λb hb=>bM hb⟩;·have hx:=dc.1;grind
    .have k:=vg.adz (au.ava w g _ _) h eF eV;exact⟨k.only.mono (λb _ e=>⟨off,af,by rw[e]⟩),k.shape⟩
   .refine grow ad ?_;rw[hsize];exact Kf _ 1 n _ n c xs (by have:=dc.1;omega) (λj u l=>by rw[nL];exact hcell j u l)
end
def ww(A:Option bQ)(n c:Nat)(e:gb)(xs:List aO):bp:=⟨eb A,λw=>eZ 0 w A n c e xs,λw w' h _ d=>
 ⟨d.1,d.2.elim bM (λ⟨g,off,cur,a,f,b,r⟩=>b8 ⟨g,off,cur,a,f,(h g (a▸⟨off,af,aa⟩) (aU.lt b)).trans b,r⟩)⟩⟩
def awA {P o} {a:bT} {w s x} {t e n c m c2:Nat} {A aJ xs news} bytes (ho:o.op=nB {callee:=oR .append,args:=#[s,x],argTypes:=#[t,t]}) (l:a.eval s=ae A n c) (hx:a.eval x=ae aJ m c2) (hown:(ww A n c e xs).p w) (hr:Cells w 1 aJ m news) (h1:∀u∈news,u.oneCell'=az) (hbytes:(n+m)*bytes<=140737488355328) (hb0:0<bytes) (q:P.underlying t=ab (iF e))
 (k3:(P.info? e).map (λi=>(i.zero.isSome,(i.zero.map (·.cells.size)).getD 0,i.size,i.bytes))=ab (az,1,1,bytes)):
 ∃d f w',(bt a.eval o).run P w=a6 (c9 (ae d (n+m) f)) w'/\Turned w w' (ww A n c e xs) (ww d (n+m) f e (xs++news)):=by
 cases hq:P.info? e with
 |none=>grind
 |some i=>
  rw[hq]at k3;simp only[pR,wR,o3]at k3;obtain⟨bB,bY,g,h⟩:=k3;obtain⟨z,hz⟩:=Option.isSome_iff_exists.1 bB;rw[hz]at bY;simp only[pR,vo]at bY;subst h;have hle:(n+m)<=(n+m)*i.bytes:=zW _ hb0;obtain⟨d,f,w',hrun,h1,j,k⟩:=auD (P:=P) w 0 t o.type e i z q hq hz g bY A n c xs hown aJ m c2 news hr h1 (by grind[eh]) hbytes (cF _);refine⟨d,f,w',?_,j.only,h1,λb hb=>⟨(h1.lt hb).2,k b hb⟩⟩;unfold bt;simp only[ho,nD,nC,qF,ga,jK,jc,oo,jM,kp,l,hx,hrun]
def Yx{bs:List Int}:∀u∈bs.map bb,u.oneCell'=true:=λu a=>by obtain⟨x,_,rfl⟩:=fL.1 a;rfl
end
open Go.Shelf
def Tryz.aro:Go.Shelf.Ren:=⟨λ|116=>282|115=>258|n=>n,λ|37=>22|4=>4|3=>3|9=>9|5=>5|n=>n,λ|n=>n⟩
def Tryz.Tt:ayd aw Tryz.aro:={
 mixed:=aY
 f115:=func258.trans (congrArg ab aY)
 f116:=func282.trans (congrArg ab aY)
 t3:=Tryz.underlying3
 a3:=Tryz.isAgg3
 z3:=Tryz.sizeOf3
 v3:=Tryz.zeroValue3
 t4:=Tryz.underlying4
 a4:=Tryz.isAgg4
 z4:=Tryz.sizeOf4
 v4:=Tryz.zeroValue4
 t9:=Tryz.underlying9
 a9:=Tryz.isAgg9
 z9:=Tryz.sizeOf9
 v9:=Tryz.zeroValue9
 t37:=dL
 a37:=isAgg22
 z37:=sizeOf22
 v37:=zeroValue22
 t5:=Tryz.underlying5
 a5:=Tryz.isAgg5
 z5:=Tryz.sizeOf5
 v5:=Tryz.zeroValue5}
end Go.Proofs.YtcmhplknoglbkaaGreat
