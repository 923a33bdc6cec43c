/- Part 3 of the proof of TopConvertsSaid. -/
import Derived.RangeFuncWrites
import Derived.OrdersIn
import Derived.TacticsIn
import Derived.RangeFuncLeaves
import Derived.Deep.Cut
import Derived.Deep.LoopGhost
import Derived.Shelf.Abstract
import Derived.Lib.AppendZerosOnto
import Derived.Deep.AppendSrc
import Derived.Lib.JoinLaws
import Derived.Shelf.Bytes.SlEqualAll
import Derived.Shelf.Bytes.SlSmallAll
import Derived.Test.YtcmhplknoglbkaaGreatProg
import Derived.Test.YtcmhplknoglbkaaGreatQc0
import Derived.Test.YtcmhplknoglbkaaGreatQc1
import Derived.Test.YtcmhplknoglbkaaGreatQc2
set_option linter.all false
set_option maxRecDepth 100000
set_option maxHeartbeats 4000000
open Go.Proofs.Tryz
open Array renaming all_eq_true_iff_forall_mem->UU,size->jD
open BitVec renaming ofInt->nw
open Bool renaming false->au,true->aB
open Go renaming Act->bT,Addr->bU,Calls->aD,Ending->xQ,Exit->iy,FuncId->A1,Oper->cR,Operand->iz,PanicEntry->re,Program->eu,TypeId->gl,Value->aO,World->aM,asIntOf->zo,binOp->wD,bodyPostM->WA,bodyPost_ret->dn,builtin->pv,callFunc->kj,callsIn_wide->sn,cell_of_row->eB,eqGuard->zp,execOp->bt,grownCap_ge->zq,grownCap_le_maxLen->zr,growslice_fits->JU,heap_alloc_new->fe,invoke->mW,loadCellsFrom->Pj,maxLen->dN,resolve->mX,results_cell_row->jd,run_endLoop->Pm,run_firstCells_some->JY,run_underlying->gF,sizeOf->mu,storeCells->Bb,typeInfo->mY,undef->aY,wpIn_region_lit->aiv,wpIn_wide->xW,wpList->cG,wpListIn->tv,wpList_nil->an,wpList_step->rh,wp_region_lit->cM,yielded->cY
open Go.Addr renaming add_mid->OB
open Go.Builtin renaming append_->oN,firstCells->ra,lenOf->wh,zeroCells->mT
open Go.Callee renaming builtin->n2
open Go.Code renaming region->xP
open Go.Ending renaming returned->aA
open Go.Exit renaming normal->sk
open Go.Fence renaming wide->mr
open Go.Fn renaming func->ej,yield->wi
open Go.Instr renaming beginRound->Va,indexAt->Vc,sureAddr->A2,yield->agq
open Go.IntKind renaming i64->R,u32->wj
open Go.IntWalk renaming i64_in->wk
open Go.LoopState renaming exhausted->FY,ready->kh
open Go.Next renaming value->c8
open Go.Obj renaming cells->bc,deferred->ki,loop->fS
open Go.Op renaming binOp->nz,call->mU,indexAddr->Dk,intArith->Vi,intDiv->OL,load->n3,store->zk
open Go.Oper renaming wp->hB
open Go.Operand renaming tmp->bb
open Go.Proofs.Lays renaming nb116->axN
open Go.Proofs.Tryz renaming func235->Vs,ntmps235->VW,prog->ax,underlying22->dI,underlying24->eA,underlying73->fW,underlying82->ij
open Go.Region renaming wanted->c4
open Go.Result renaming andThen_ok->ji,ok->a7
open Go.RowKit renaming Hid->aE,intOf->cw
open Go.Sem renaming run_bind->gj,run_pure->jR
open Go.Target renaming collected->Dl
open Go.TypeDesc renaming array->wz,slice->hT
open Go.Value renaming agg->av,bool->ak,func->dJ,int->J,pointer->ay,slice->ad,tuple->bg
open Int renaming ediv_le_self->ajK,ediv_nonneg->ajL
open List.Perm renaming swap->DJ
open List renaming eq_nil_of_length_eq_zero->jH,getElem?_append_left->tD,getElem?_append_right->oe,getElem?_cons_succ->x8,getElem?_eq_getElem->cj,getElem?_eq_some_iff->eQ,getElem?_map->kB,getElem?_toArray->zG,map_append->gx,map_cons->jx,map_nil->kC,map_toArray->og,mem_append->jf,mem_map->gV,mem_of_getElem?->cL,mem_singleton->vi,not_mem_nil->ga,perm_append_comm->vk,perm_append_singleton->GN,perm_middle->XF,range->dF,replicate->fq,setIfInBounds_toArray->aj2,set_append_right->XG,take_add_one->fu,take_append_drop->oV,take_length->ik
open Nat renaming eq_zero_or_pos->lJ,le_mul_of_pos_right->zI,le_refl->cm,lt_succ_self->XN,zero_add->kV,zero_le->cQ
open Option renaming getD_some->pG,map_some->oW,none->af,some->ab,toList_some->yb
open Option.some renaming injEq->wQ
open Or renaming inl->bH,inr->b1
open Prod.mk renaming injEq->oh
namespace Go.Proofs.YtcmhplknoglbkaaGreat
section
open Go.RowKit Go.MapKept
abbrev Fr(r:Option Nat):Fence:={mr with round:=r}
def s5(o:cR):Bool:=match o.op with|.defer _=>au|_=>aB
def ata{o}(h:s5 o=aB):∀c,o.op≠.defer c:=by grind[s5]
section
variable {P:eu} {ops:Array cR} {rest:List cR} {Q:iy->bT->aM->Prop} {K0:bT->aM->Prop} {o:cR} {a bw:bT} {w:aM} {v:aO} {r:Option Nat} {n:Nat}
def alj{f args ck}(h:aD P f args w ck):CallsIn (Fr r) n P f args w ck:=
 have h2:CallsIn mr n P f args w ck:=sn.2 h
 h2
def auc{row args ck}(h:Rows P row args w ck):RowsIn (Fr r) n P row args w ck:=λc cs _=>by obtain⟨v,w',h1,h2⟩:=h c cs;have h3:=stepsIn_wide.2 h2;exact⟨v,w',h1,h3⟩
def zL:iy->bT->aM->Prop:=λ_ _ _=>False
def MP{next next0}(hn:∀a w,next0 a w->next a w)(hp:s5 o=aB)(h:o.wp P a w next0 (Exit.then K0 zL)):o.wpIn (Fr r) n P a w next Q:=by
 refine⟨λ_ _=>trivial,?_⟩;rw[Oper.semAt_eq _ _ _ (ata hp)];unfold hB at h;generalize (bt a.eval o).run P w=x at*;cases x with
 |ok nx w'=>
  cases nx with
  |value u=>exact hn _ _ h
  |skip=>exact hn _ _ h
  |defer d=>exact hn _ _ h
  |enter f args=>exact⟨λh=>(by cases h),(alj h).mono λe aR h2=>by
   cases e with
   |returned v=>grind
   |panicked c=>exact h2.elim
   |outgrown=>obtain⟨_,_,h3⟩:=h2;exact h3.elim⟩
  |row row args=>exact⟨λh=>(by cases h),(auc h).mono λv aR h2=>hn _ _ h2⟩
  |_=>exact h.elim
 |halt hh w'=>cases hh<;>exact h.elim
theorem Mq{C post}(j':∀a w,C a w->tv (Fr r) n P ops Q post a w):∀(l) a w,l.all s5=aB->cG P ops (Exit.then C zL) l a w->tv (Fr r) n P ops Q (l++post) a w
 |[],_,_,_,h=>j' _ _ h
 |o::l,a,w,hp,h=>by
  simp only[List.all_cons,Bool.and_eq_true]at hp;unfold cG at h;show tv (Fr r) n P ops Q (o::(l++post)) a w;unfold tv;by_cases hw:c4 o (cY ops a.tmps)=aB
  .rw[if_pos hw]at h⊢;rcases h with h|⟨_,a2,aR,h⟩;·exact MP (λbw w' h=>Mq j' l bw w' hp.2 h) hp.1 h
   .exact h.elim
  .rw[if_neg hw]at h⊢;exact⟨λ_ _=>trivial,Mq j' l _ _ hp.2 h⟩
def are(k:Nat)(h:cG P ops (Exit.then (tv (Fr r) n P ops Q (rest.drop k)) zL) (rest.take k) a w)(hp:(rest.take k).all s5=true:=by kernel_rfl):tv (Fr r) n P ops Q rest a w:=by grind[Mq,oV]
def vS(h:cG P ops (Exit.then (Q sk) zL) rest a w)(hp:rest.all s5=true:=by kernel_rfl):tv (Fr r) n P ops Q rest a w:=by have h2:=Mq (r:=r) (n:=n) (Q:=Q) (post:=[]) (λ_ _ h=>wpListIn_nil h) _ a w hp h;rwa [List.append_nil]at h2
def KQ{md}(hp:ops.all s5=aB):∀(fuel) eE a w,wpAny P md ops (Exit.then (Q sk) zL) fuel eE a w->wpAnyIn (Fr r) n P md ops Q fuel eE a w
 |0,_,_,_,h=>h
 |fuel+1,eE,a,w,h=>by
  refine⟨h.1,λi hi=>?_⟩;have h2:=h.2 i hi;unfold wpOp at h2;unfold wpOpIn;cases ho:ops[i]? with
  |none=>
   rw[ho]at h2;exact KQ hp fuel _ _ _ h2
  |some o=>
   rw[ho]at h2
   have EJ:s5 o=true:=by obtain⟨hi,rfl⟩:=Array.getElem?_eq_some_iff.1 ho;exact Array.all_eq_true.1 hp i hi
   simp only at h2⊢;by_cases hw:c4 o (cY ops a.tmps)=aB
   .rw[if_pos hw]at h2⊢;rcases h2 with h|⟨_,a2,aR,h⟩;·exact MP (λbw w' h=>KQ hp fuel _ bw w' h) EJ h
    .exact h.elim
   .rw[if_neg hw]at h2⊢;exact⟨λ_ _=>trivial,KQ hp fuel _ _ _ h2⟩
def ke{id:Nat}{l:List cR}{q:Nat}(h:cG P l.toArray (Exit.then (Q sk) zL) l a w)(hp:l.all s5=true:=by kernel_rfl):(xP id l.toArray au).wpIn (Fr (ab q)) n P Q a w:=
 aiv (vS h hp)
def NB{id:Nat}{l:List cR}(k:Nat)(h:cG P l.toArray (Exit.then (tv (Fr af) 0 P l.toArray Q (l.drop k)) zL) (l.take k) a w)(hp:(l.take k).all s5=true:=by kernel_rfl):(xP id l.toArray au).wp P Q a w:=
 (xW (n:=0)).1 (aiv (F:=Fr af) (are k h hp))
def Uu {ao:aM} {FX:Nat->Prop} {bk:List br} {IQ q:Nat} {a0:bT} (I:aj ao FX w bk) (LE:List Nat) (bS:Nat->e3->aO) (out:(Nat->e3)->Nat->br) (ins rd look:Nat->List Nat) (fin:List Nat)
 (j':∀us,c9 P ops (Exit.then (Q sk) zL) (ou ops) LE bS ao FX bk out ins rd fin (λ_ _=>False) us 0 ops.toList a0)
 (hloc:Bt look out LE:=by(repeat' (first|exact trivial|refine And.intro (λus kr h=>?_) ?_|rfl|(simp(disch:=decide) only[h];done))))
 (hm:P.follows .mixedOrders=true:=by kernel_rfl) (hk:Ed ops (ou ops) (yq ops)=true:=by kernel_rfl) (hsz:((dF ops.size).all λi=>match ou ops i with|some d=>decide (d<a0.tmps.size)|none=>LE.contains i)=true:=by kernel_rfl) (hs:Fx bk.length ops.size (yq ops) LE ins rd look fin=true:=by kernel_rfl)
 (hp:ops.all s5=true:=by kernel_rfl):
 (xP IQ ops aB).wpIn (Fr (ab q)) n P Q a0 w:=wpIn_region_any hm (KQ hp _ _ _ _ (Ut I (yq ops) (ou ops) LE bS out ins rd look fin _ hk hsz hs (λ_ _ _ _ h=>h.elim) (hloc.spec) j'))
end
def obj(l:Nat)(o:Obj):br:=⟨λb=>b=l,λw=>w.heap[l]?=ab o,λw w' h hl hp=>(h l aa (hl l aa)).trans hp⟩
def bO:List br->br
 |[]=>emp
 |t::l=>both t (bO l)
section
variable {ao w w':aM} {FX:Nat->Prop} {l l':List br} {s t:br}
def aj.bO(h:aj ao FX w (l++l')):aj ao FX w (bO l::l'):=by
 induction l with
 |nil=>exact h.dS
 |cons t l bW=>
  have h1:=h.perm (by simpa using(XF (l₁:=l) (a:=t) (l₂:=l')).symm);clear bW
  have key:∀(l) l',aj ao FX w (l++l')->aj ao FX w (Go.Proofs.YtcmhplknoglbkaaGreat.bO l::l'):=by
   intro l;induction l with
   |nil=>intro l' h;exact h.dS
   |cons t l bW=>
    intro l' h;have h2:=bW _ (h.perm (by simpa using(XF (l₁:=l) (a:=t) (l₂:=l')).symm));exact(h2.perm (DJ _ _ _)).star
  exact key _ l' h
def aj.kq(h:aj ao FX w (Go.Proofs.YtcmhplknoglbkaaGreat.bO l::l')):aj ao FX w (l++l'):=by
 induction l generalizing l' with
 |nil=>exact h.drop 0
 |cons t l bW=>
  have h1:=h.fh;have h2:=bW (h1.perm (DJ _ _ _));exact h2.perm aT
def aj.G0(h:aj ao FX w (t::l)):aj ao FX w [t,Go.Proofs.YtcmhplknoglbkaaGreat.bO l]:=by have h1:=h.perm (by simpa using(XF (l₁:=l) (a:=t) (l₂:=[])).symm);exact h1.bO.perm (DJ _ _ _)
def aj.xz(h:aj ao FX w [t,Go.Proofs.YtcmhplknoglbkaaGreat.bO l]):aj ao FX w (t::l):=by have h1:=(h.perm (DJ _ _ _)).kq;exact h1.perm aT
def ar6{q o}o'(h:q<w.heap.size):Turned w (w.putObj q o') (obj q o) (obj q o'):=
 ⟨⟨rfl,rfl,rfl,aT,λk _ hk=>World.putObj_heap_other (λe=>hk e)⟩,World.putObj_heap_same h,λb hb=>⟨by have e:b=q:=hb;rw[e];simpa using h,bH hb⟩⟩
def aj.putObj{q o}(h:aj ao FX w l)i o'(hi:l[i]?=ab (obj q o)):aj ao FX (w.putObj q o') (l.set i (obj q o')):=
 h.CT i hi (ar6 o' ((h.has i hi).2 q aa))
def aj.obj{q:Nat}{o:Obj}(h:aj ao FX w l)(i:Nat)(hi:l[i]?=ab (obj q o):=by rfl):w.heap[q]?=ab o:=h.at i hi
def aj.newObj o(h:aj ao FX w l):aj ao FX (w.alloc o) (Go.Proofs.YtcmhplknoglbkaaGreat.obj w.heap.size o::l):=
 h.new _ ⟨ar.alloc _ _,World.alloc_heap_new _ _,λb hb=>⟨by have e:b=w.heap.size:=hb;omega,by have e:b=w.heap.size:=hb;rw[e,World.size_alloc];omega⟩⟩
end
section
variable {α:Type} {P:eu} {g:Nat} {lb:Array aO} {encs:α->Array aO} {ao:aM} {FX:Nat->Prop}
def akb(P:eu)(l:Nat)(encs:α->Array aO)(ao:aM)(FX:Nat->Prop)(S gM:List α->br->Prop)(xs:List α):Prop:=
 ∀pre x W F t,pre++[x]<+:xs->S pre t->aj ao FX W [t,F]->YieldAt (Fr af) 0 P l (encs x) W λe cK=>(e=aA (ak aB)/\∃b2,S (pre++[x]) b2/\aj ao FX cK [b2,F])\/(e=aA (ak au)/\∃b2,gM (pre++[x]) b2/\aj ao FX cK [b2,F])
def vo(ao:aM)(FX:Nat->Prop)(S gM:List α->br->Prop)(kD:br->Prop)(xs:List α)(F:br)(e:xQ)(cK:aM):Prop:=
 (∃v,e=aA v)/\((∃b2 u,S xs b2/\kD u/\aj ao FX cK [b2,u,F])\/∃pre b2 u,pre<+:xs/\gM pre b2/\aj ao FX cK [b2,u,F])
def vo.all{S gM kD}{xs:List α}{F t u v cK}(hS:S xs t)(bF:kD u)(I:aj ao FX cK [t,u,F]):vo ao FX S gM kD xs F (aA v) cK:=⟨⟨_,aa⟩,bH ⟨_,_,hS,bF,I⟩⟩
theorem vo.cut{S gM kD}{xs pre:List α}{F t u v cK}(hp:pre<+:xs)(hS:gM pre t)(I:aj ao FX cK [t,u,F]):vo ao FX S gM kD xs F (aA v) cK:=⟨⟨_,aa⟩,b1 ⟨_,_,_,hp,hS,I⟩⟩
def yd(P:eu)(g:Nat)(lb:Array aO)(encs:α->Array aO)(ao:aM)(FX:Nat->Prop)(T:br)(kD:br->Prop)(xs:List α):Prop:=
 ∀(l:Nat) (S gM:List α->br->Prop) (W:aM) (F t:br),akb P l encs ao FX S gM xs->S [] t->aj ao FX W [T,t,F]->
  aD P g (#[dJ (wi l) #[] #[]]++lb) W (vo ao FX S gM kD xs F)
def aei(ao:aM)(FX:Nat->Prop)(S:List α->br->Prop)(gM:Code->List α->br->Prop)(xs:List α)(b F:br):iy->bT->aM->Prop
 |.normal,_,W=>∃t,S xs t/\aj ao FX W [t,b,F]
 |.ret,_,W=>∃t,gM .ret xs t/\aj ao FX W [t,b,F]
 |.exit id,_,W=>∃t,gM (.exit id) xs t/\aj ao FX W [t,b,F]
 |.goto q,_,W=>∃t,gM (.goto q) xs t/\aj ao FX W [t,b,F]
 |.panic _,_,_=>False
 |.outgrown,_,_=>False
def BB{w:aM}{L:List br}{q:Nat}{rd:Loop}{C:aM->Prop}(I:aj ao FX w L)(i:Nat)(hr:rd.state=kh)(h:∀w',aj ao FX w' (L.set i (obj q (fS {rd with state:=.busy})))->C w')(hi:L[i]?=ab (obj q (fS rd)):=by rfl):∃w',(Va q).run P w=a7 () w'/\C w':=
 ⟨_,run_beginRound (I.obj i hi) hr,h _ (I.putObj i _ hi)⟩
def Jc {Hj:iz} {ps:Array Tmp} {assign body:Code} {Q:iy->bT->aM->Prop} {ta:Array aO} {ds:List Deferred} {w:aM} {xs:List α} {T:br} {kD:br->Prop} {t F:br} {h9:α->Array aO}
 (hg:(Act.mk ta ds).eval Hj=dJ (ej g) #[] lb) (gp:∀args w,(kj g args).run P w=a7 (.enter g args) w) (nk:∀x,(encs x).size=ps.size) (hseq:yd P g lb encs ao FX T kD xs)
 (S:List α->br->Prop) (gM:Code->List α->br->Prop) (h0:S [] t) (I:aj ao FX w [T,t,F])
 (SJ:∀(l:Nat) (rd:Loop) (pre:List α) (x:α) (W:aM) (t F:br),pre++[x]<+:xs->rd.state=kh->S pre t->aj ao FX W [t,obj l (fS rd),F]->
   assign.wpIn (Fr (ab l)) 0 P (Exit.then (λgn w1=>∃aR,(Va l).run P w1=a7 () aR/\body.wpIn (Fr (ab l)) 0 P (aei ao FX S gM (pre++[x]) (obj l (fS {rd with state:=.busy})) F) gn aR) (λ_ _ _=>False))
    {tmps:=h9 x,defers:=[]} W)
 (hdone:∀D t u W,S xs t->kD u->aj ao FX W [t,u,obj D (ki (ab [])),F]->Q sk {tmps:=ta,defers:={target:=Dl D,args:=#[]}::ds} W)
 (SM:∀D c pre t u W,pre<+:xs->gM c pre t->aj ao FX W [t,u,obj D (ki (ab [])),F]->c.wp P Q {tmps:=ta,defers:={target:=Dl D,args:=#[]}::ds} W)
 (hat:∀x,(ps.zip (encs x)).foldl (λt (p,v)=>t.setIfInBounds p v) ta=h9 x:=by(intro _;simp only[List.zip_toArray,List.zip_cons_cons,List.zip_nil_right,List.foldl_toArray',List.size_toArray,List.foldl_cons,List.foldl_nil,List.setIfInBounds_toArray,List.set_cons_succ,List.set_cons_zero];rfl)):
 (Code.rangeFunc Hj ps assign body).wp P Q {tmps:=ta,defers:=ds} w:=by
 refine(xW (n:=0)).1 (wpIn_rangeFunc ?_);intro fn hfn;obtain⟨rec,nn⟩:∃rec:LoopState->Option Code->Loop,rec=λst aI=>{state:=st,pending:=aI,fn,tmps:=ta,params:=ps,assign,body,defers:=w.heap.size}:=⟨_,aa⟩;obtain⟨D,eT⟩:=ex w.heap.size;obtain⟨l,hl⟩:=ex ((w.alloc (ki (ab []))).heap.size);have GA:=I.newObj (ki (ab []));have kT:=GA.newObj (fS (rec kh af));have Si:l=w.heap.size+1:=by rw[<-hl];simp
 rw[hl,eT]at kT;obtain⟨hY,Hv⟩:=ex ((w.alloc (ki (ab []))).alloc (fS (rec kh af)));rw[Hv]at kT
 refine⟨l,[{target:=Dl D,args:=#[]}],hY,{target:=.fn (ej g) lb,args:=#[dJ (wi l) #[] #[]]},hY,g,
  #[dJ (wi l) #[] #[]]++lb,hY,?_,?_,?_,?_,λh=>(by cases h),?_⟩;·rw[<-Hv,nn,Si,<-eT];exact run_enterLoop_outer _ _ _ _ _
 .simp only[mX,hg];simp[go_sem]
 .intro _ _;trivial
 .grind[mW]
 .refine sn.2 ((hseq l (λpre t=>∃t2,S pre t2/\t=both t2 (obj l (fS (rec kh af)))) (λpre t=>∃t2 c,gM c pre t2/\t=both t2 (obj l (fS (rec .done (ab c))))) hY (both (obj D (ki (ab []))) F) _ ?_ ⟨t,h0,aa⟩ ?_).mono ?_)
  .rintro pre x W AZ _ e4 ⟨t2,hs,rfl⟩ hst;have h1:=hst.fh;have Cd:=h1.obj 1;have hy:=run_yield (P:=P) (args:=encs x) Cd aF;rw[nn]at hy;refine⟨fn,_,assign,body,hy,roundIn_of_wpIn hfn (wpIn_mono ((hat x).symm▸SJ l (rec kh af) pre x W t2 AZ e4 aF hs h1) ?_)⟩;rintro e gn w1 he;cases e with
   |normal=>
    obtain⟨aR,hb,RW⟩:=he;refine⟨aR,hb,wpIn_mono RW ?_⟩
    have fin:∀(jump) hZ t3,aj ao FX hZ [t3,obj l (fS {rec kh af with state:=.busy}),AZ]->(Instr.endRound l _).run P hZ=a7 _ (hZ.putObj l (fS (rec _ _)))/\
     aj ao FX _ _:=λjump hZ t3 h3=>by
     have hr:=run_endRound (P:=P) jump (h3.obj 1);have h4:aj ao FX _ [t3,obj l _,AZ]:=h3.putObj 1 (fS (rec (if jump.isNone then kh else .done) jump)) aa;refine⟨?_,h4.star⟩;rw[hr,nn]
    rintro e a3 hZ hp;cases e with
    |normal=>
     obtain⟨t3,hs3,h3⟩:=hp;obtain⟨hr,h4⟩:=fin af hZ t3 h3;exact⟨_,_,hr,bH ⟨aa,_,⟨t3,hs3,aa⟩,h4⟩⟩
    |ret=>
     obtain⟨t3,hs3,h3⟩:=hp;obtain⟨hr,h4⟩:=fin (ab .ret) hZ t3 h3;exact⟨_,_,hr,b1 ⟨aa,_,⟨t3,_,hs3,aa⟩,h4⟩⟩
    |exit id=>
     obtain⟨t3,hs3,h3⟩:=hp;obtain⟨hr,h4⟩:=fin (ab (.exit id)) hZ t3 h3;exact⟨_,_,hr,b1 ⟨aa,_,⟨t3,_,hs3,aa⟩,h4⟩⟩
    |goto q=>
     obtain⟨t3,hs3,h3⟩:=hp;obtain⟨hr,h4⟩:=fin (ab (.goto q)) hZ t3 h3;exact⟨_,_,hr,b1 ⟨aa,_,⟨t3,_,hs3,aa⟩,h4⟩⟩
    |panic ch=>exact hp.elim
    |outgrown=>exact hp.elim
   |_=>exact he.elim
  .have h2:=kT;have h3:aj ao FX hY [t,obj l _,obj D _,F,T]:=h2.pick [3,0,1,4,2];have h4:aj ao FX hY [obj D _,F,T,both t _]:=h3.star.pick [1,2,3,0];exact h4.star.pick [1,2,0]
  .rintro e fv ⟨⟨v,rfl⟩,(⟨_,u,⟨t2,hs,rfl⟩,bF,hst⟩|⟨pre,_,u,e4,⟨t2,c,hs,rfl⟩,hst⟩)⟩;·have h1:=hst.fh;have h2:=(h1.pick (l':=[both _ F,t2,obj l _,u]) [3,0,1,2]).fh;have h3:=h2.putObj 3 (fS {rec kh af with state:=FY}) aa;refine⟨af,_,by have:=Pm (P:=P) (h2.obj 3) aF;rw[nn]at this;exact this,?_⟩;have h4:=hdone D t2 u _ hs bF ((aj.pick (l:=_) h3 [2,4,0,1]));rw[nn]at h4;exact h4
   .have h1:=hst.fh;have h2:=(h1.pick (l':=[both _ F,t2,obj l _,u]) [3,0,1,2]).fh;have h3:=h2.putObj 3 (fS {rec .done (ab c)with state:=FY}) aa;refine⟨ab c,_,by have:=Pm (P:=P) (h2.obj 3) aF;rw[nn]at this;exact this,?_⟩;have h4:=SM D c _ t2 u _ e4 hs ((aj.pick (l:=_) h3 [2,4,0,1]));grind[xW]
def at_region{F n id ops d Q a w}(h:(xP id ops d).wpIn F n P Q a w):(xP id ops d).wpIn F n P Q a w:=h
def aj.Ym{w a b c}(h:aj ao FX w (a++(b++c))):aj ao FX w [Go.Proofs.YtcmhplknoglbkaaGreat.bO a,Go.Proofs.YtcmhplknoglbkaaGreat.bO b,Go.Proofs.YtcmhplknoglbkaaGreat.bO c]:=by
 have h1:=h.bO.perm (by simpa using(GN (Go.Proofs.YtcmhplknoglbkaaGreat.bO a) (b++c)).symm)
 have h2:=h1.bO.perm (by have:=(GN (Go.Proofs.YtcmhplknoglbkaaGreat.bO b) (c++[Go.Proofs.YtcmhplknoglbkaaGreat.bO a])).symm;simpa using this);exact h2.bO.pick [1,2,0]
def aj.D0{w t b c}(h:aj ao FX w (t::(b++c))):aj ao FX w [t,Go.Proofs.YtcmhplknoglbkaaGreat.bO b,Go.Proofs.YtcmhplknoglbkaaGreat.bO c]:=
 (aj.Ym (a:=[t]) h).kq
def aj.fB{w l}k(h:aj ao FX w l):aj ao FX w (Go.Proofs.YtcmhplknoglbkaaGreat.bO (l.take k)::l.drop k):=aj.bO (by grind[oV])
def I4{A B b}(h:(aA b=aA (ak aB)/\A)\/(aA b=aA (ak au)/\B)):(b=ak aB/\A)\/(b=ak au/\B):=aF
def Hf{o}{a:bT}{w l x xs ty encs}(ho:o.op=mU {callee:=.value x,args:=xs,argTypes:=ty})(hx:a.eval x=dJ (wi l) #[] #[])(has:xs.map a.eval=encs):(bt a.eval o).run P w=(agq l encs).run P w:=by grind[bt,mX,Deferred.ofValue,mW]
def Jd {o:cR} {a:bT} {w:aM} {l:Nat} {encs:Array aO} {Q:iy->bT->aM->Prop} {ops:Array cR} {rest:List cR} {ck:xQ->aM->Prop} (hy:YieldAt (Fr af) 0 P l encs w ck)
 (hK:∀b w',ck (aA b) w'->tv (Fr af) 0 P ops Q rest (a.put o.dst b) w') (iT:∀e w',ck e w'->∃v,e=aA v) (hx:(bt a.eval o).run P w=(agq l encs).run P w) (hw:c4 o (cY ops a.tmps)=true:=by kernel_rfl):tv (Fr af) 0 P ops Q (o::rest) a w:=by
 obtain⟨fn,tmps,assign,body,h1,h2⟩:=hy;unfold tv;rw[if_pos hw];refine⟨λ_ _=>trivial,?_⟩;show Oper.uponIn _ _ _ _ _ _ _ ((Oper.semAt af a.eval o).run P w);rw[Oper.semAt_none,hx,h1];refine⟨λh=>(by cases h),h2.1,λc cs hr=>?_⟩;obtain⟨e,w',hr2,hs⟩:=h2.2 c cs hr;obtain⟨v,rfl⟩:=iT e w' hr2;exact⟨aA v,w',hK v w' hr2,hs⟩
def BH {f fn c args w ck} (hf:P.funcs[f]?=ab fn) (hb:fn.body=ab c)
 (h:c.wp P (WA (Fr af) 0 P fn ck) {tmps:=args++Array.replicate (fn.ntmps -args.size) aY,defers:=[]} w):aD P f args w ck:=
 (sn (n:=0)).1 (callsIn_of_wp_marks hf hb trivial (xW.2 h) aa)
def yU {fn:Func} {ck:xQ->aM->Prop} {a:bT} {w:aM} {L:List br} {D:Nat} {v:aO} (I:aj ao FX w L) (i:Nat) (h:∀w',aj ao FX w' (L.set i (obj D (ki af)))->(results fn a.tmps).run P w'=a7 v w'/\ck (aA v) w')
 (hd:a.defers=[{target:=Dl D,args:=#[]}]:=by rfl) (hi:L[i]?=ab (obj D (ki (ab []))):=by rfl):WA (Fr af) 0 P fn ck .ret a w:=by
 show LeavesInM _ _ _ _ _ _ a.defers _ _;rw[hd];obtain⟨h1,h2⟩:=h _ (I.putObj i (ki af) hi);exact⟨aT,bH ⟨D,_,aa,run_takeDeferred (I.obj i hi),⟨v,h1,h2⟩⟩⟩
def arx{fn:Func}{ck:xQ->aM->Prop}{a:bT}{w:aM}{v:aO}(h1:(results fn a.tmps).run P w=a7 v w)(h2:ck (aA v) w)(hd:a.defers=[]:=by rfl):WA (Fr af) 0 P fn ck .ret a w:=by show LeavesInM _ _ _ _ _ _ a.defers _ _;rw[hd];exact⟨v,h1,h2⟩
end
end
section
open Go.RowKit Go.MapKept
abbrev b'(x:Int):Value:=J wj x
def j8(x:Int):Int:=wj.wrap x
def a32(x y:Int):Int:=wj.wrap (x+y)
def kt(x y:Int):Int:=wj.wrap ((nw 32 x^^^nw 32 y).toNat:Int)
def n32(x y:Int):Int:=wj.wrap ((nw 32 x&&& nw 32 y).toNat:Int)
def xr(x y:Int):Int:=wj.wrap ((nw 32 x|||BitVec.ofInt 32 y).toNat:Int)
def vP(x:Int)(n:Nat):Int:=wj.wrap (x*2^n)
def kb(x:Int)(n:Nat):Int:=x.fdiv (2^n)
def kO(x:Int)(n:Nat):Int:=xr (vP x n) (kb x (32 -n))
section
variable {U:Int->aO} {L:List Int} {tail:List aO}
def aX(U:Int->aO)(L:List Int)(tail:List aO):Array Value:=(L.map U++tail).toArray
def KK{i}(h:i<L.length):(aX U L tail)[i]?=ab (U (L[i]?.getD 0)):=by grind[aX,tD]
def sA{k v n}(hn:L.length=n)(h:tail[k]?=ab v):(aX U L tail)[n+k]?=ab v:=by grind[aX]
def aki{i}(h:i<L.length)v:(aX U L tail).setIfInBounds i (U v)=aX U (L.set i v) tail:=by grind[aX]
def akj{k n}(hn:L.length=n)v:(aX U L tail).setIfInBounds (n+k) v=aX U L (tail.set k v):=by grind[aX]
theorem j7:(aX U L tail).size=L.length+tail.length:=by simp[aX]
def QH(sO:∀x,(U x).oneCell'=aB)(ht:∀v∈tail,v.oneCell'=aB):(aX U L tail).all (·.oneCell')=true:=by rw[UU];intro v hv;have hv':=List.mem_toArray.1 hv;grind
end
section
variable {P:eu} {o:cR} {a:bT} {w:aM}
def lK t(x y)b2(ho:o.op=nz .add t x y b2)(p q z)(hx:a.eval x=J R p)(hy:a.eval y=J R q)(hz:p+q=z)(h1:-9223372036854775808<=z)(h2:z<=9223372036854775807):
 (bt a.eval o).run P w=a7 (c8 (J R z)) w:=by
 have hw:R.wrap (p+q)=z:=by grind[wk]
 unfold bt;simp[ho,hx,hy,zp,wD,Vi,hw]
def pK t(x y)b2(ho:o.op=nz .sub t x y b2)(p q z)(hx:a.eval x=J R p)(hy:a.eval y=J R q)(hz:p -q=z)(h1:-9223372036854775808<=z)(h2:z<=9223372036854775807):
 (bt a.eval o).run P w=a7 (c8 (J R z)) w:=by
 have hw:R.wrap (p -q)=z:=by grind[wk]
 unfold bt;simp[ho,hx,hy,zp,wD,Vi,hw]
def nH t(x y)b2(ho:o.op=nz .mul t x y b2)(p q z)(hx:a.eval x=J R p)(hy:a.eval y=J R q)(hz:p*q=z)(h1:-9223372036854775808<=z)(h2:z<=9223372036854775807):
 (bt a.eval o).run P w=a7 (c8 (J R z)) w:=by
 have hw:R.wrap (p*q)=z:=by grind[wk]
 unfold bt;simp[ho,hx,hy,zp,wD,Vi,hw]
def akr:∀n:Nat,n<128->R.wrap ((nw 64 (n:Int)&&& nw 64 15).toNat:Int)=((n%16:Nat):Int):=by decide+kernel
def DX t(x y)b2(ho:o.op=nz .and t x y b2)(n:Nat)(hx:a.eval x=J R (n:Int))(hy:a.eval y=J R 15)(hn:n<128)k(hk:n%16=k):
 (bt a.eval o).run P w=a7 (c8 (J R (k:Int))) w:=by
 have hw:=akr n hn;rw[hk]at hw;unfold bt;simp only[ho,hx,hy,zp,wD];show a7 (c8 (J R (R.wrap ((nw 64 (n:Int)&&& nw 64 15).toNat:Int)))) w=_;rw[hw]
def aqA(t e sz m:Nat)(x k4)(ho:o.op=Dk t x k4)(ht:P.underlying t=ab (wz m e))(hs:(P.info? e).map (·.size)=ab sz)(b off i k:Nat)(hx:a.eval x=ay (ab ⟨b,off,af⟩))(hi:a.eval k4=J R (i:Int))(h:i<m)(hk:off+i*sz=k):
 (bt a.eval o).run P w=a7 (c8 (ay (ab ⟨b,k,af⟩))) w:=by
 cases hq:P.info? e with
 |none=>grind
 |some s'=>
  have hsz:s'.size=sz:=aF;subst hk;have nL:(⟨b,off,_⟩:bU).add (i*sz)=⟨b,_,_⟩:=OB _ _ _;unfold bt;simp[ho,hx,hi,Vc,A2,zo,gj,gF ht,mu,mY,hq,hsz,nL];intro h2;omega
def S7 (t e m:Nat) (x k4) (ho:o.op=.index t x k4) (ht:P.underlying t=ab (wz m e)) (he:(P.underlying e).map (λ|.struct _|.array _ _=>aB|_=>au)=ab au) (hs:(P.info? e).map (·.size)=ab 1)
 U L (i:Nat) (hx:a.eval x=av (aX U L [])) (hi:a.eval k4=J R (i:Int)) (h:i<m) (cf:L.length=m):
 (bt a.eval o).run P w=a7 (c8 (U (L[i]?.getD 0))) w:=by
 cases hq:P.info? e with
 |none=>grind
 |some s'=>
  have hsz:s'.size=1:=aF;cases hd:P.underlying e with
  |none=>grind
  |some d=>
   rw[hd]at he;have hg:(aX U L [])[i]?=ab _:=KK ae;have hb:¬(m:Int)<=(i:Int):=ae;have h1:(i:Int)<(m:Int):=ae;unfold bt;simp only[ho,hx,hi,Instr.index,zo,gj,gF ht,jR,ji];rw[if_pos ⟨ae,h1⟩];simp only[mu,mY,gj,jR,ji,part,isAgg,gF hd];cases d<;>simp_all
def ara (ty e) n x (ho:o.op=n3 ty x) B (hx:a.eval x=ay (ab ⟨B,0,af⟩)) {t U L tail} (hg:aW w B (aX U L tail) t) (cf:L.length=n)
 (hu:P.underlying ty=ab (wz n e)) (hi:(P.info? ty).map (·.size)=ab n):(bt a.eval o).run P w=a7 (c8 (av (aX U L []))) w:=by
 have h:=e6 (P:=P) (o:=o) (a:=a) (w:=w) ty x ho B 0 hx _ (d:=_) (λj v hv=>by rw[kV];refine aW.cell hg j ?_;simp only[aX,zG];rw[tD (eQ.1 hv).1];exact hv) hu aa (by rw[hi];simp[cf]);rw[h];simp[aX]
variable {K:bT->aM->Prop} {Q:iy->bT->aM->Prop}
end
end
section
open Go.RowKit Go.MapKept
def nth:List br->Nat->(Nat->br)->br
 |[],n,f=>f n
 |t::_,0,_=>t
 |_::l,n+1,f=>nth l n f
def ac2 t l f:nth (t::l) 0 f=t:=rfl
theorem Tu t l n f:nth (t::l) (n+1) f=nth l n f:=rfl
def ac4 n f:nth [] n f=f n:=rfl
def uD(f:Nat->br):List Nat->List br
 |[]=>[]
 |n::l=>f n::uD f l
def aeD f:uD f []=[]:=rfl
theorem Ua f n l:uD f (n::l)=f n::uD f l:=rfl
def ar1 bk out us:∀n,dk bk out us n=nth bk n (out us):=by
 intro n;unfold dk
 have key:∀(l) n f,(match l[n]? with|some t=>t|none=>f (n -l.length))=nth l n f:=by
  intro l;induction l with
  |nil=>intro n f;rfl
  |cons t l bW=>
   intro n f;cases n with
   |zero=>rfl
   |succ n=>grind[Tu]
 exact key bk n _
theorem auQ bk out us fin:fin.map (dk bk out us)=uD (λn=>nth bk n (out us)) fin:=by
 induction fin with
 |nil=>rfl
 |cons n l bW=>rw[jx,bW,ar1];rfl
section
variable {P:eu} {ops:Array cR} {Q:iy->bT->aM->Prop} {ao:aM} {FX:Nat->Prop} {dst:Nat->Option Tmp} {LE:List Nat} {bS:Nat->e3->aO} {bk l':List br} {out:(Nat->e3)->Nat->br} {ins rd:Nat->List Nat} {fin:List Nat} {QP:List re->aM->Prop} {us:Nat->e3} {i:Nat} {a:bT}
def bQ(h:∀w',aj ao FX w' l'->Q sk a w')(hl:uD (λn=>nth bk n (out us)) fin=l':=by(simp only[aeD,Ua,ac2,Tu,ac4];rfl)):c9 P ops Q dst LE bS ao FX bk out ins rd fin QP us i [] a:=
 pc (λw' I=>h w' (by grind[auQ]))
end
section
variable {ao w:aM} {FX:Nat->Prop} {l l' L r:List br} {a b c d:br}
def MH(l:List br)(n:Nat):br:=nth l n λ_=>emp
theorem ac3:∀{l} {n},n<l.length->l[n]?=ab (MH l n)
 |_::_,0,_=>aa
 |_::l,n+1,h=>by rw[x8];exact ac3 (l:=l) (by simpa using h)
def as5(h:aj ao FX w l)idx(h1:(idx.all λn=>decide (n<l.length))=aB)(h2:decide idx.Nodup=aB):aj ao FX w (uD (MH l) idx):=by
 refine h.pick _ ?_ h2;clear h2;induction idx with
 |nil=>rfl
 |cons n idx bW=>grind[Ua,ac3]
def aj.pk(h:aj ao FX w l)(idx:List Nat)(hl:uD (MH l) idx=L:=by(simp only[aeD,Ua,MH,ac2,Tu,ac4];rfl))(h1:(idx.all λn=>decide (n<l.length))=true:=by kernel_rfl)(h2:decide idx.Nodup=true:=by kernel_rfl):aj ao FX w L:=hl▸as5 h idx h1 h2
def aj.Nn(l l')(h:aj ao FX w (l++l')):aj ao FX w (l++[Go.Proofs.YtcmhplknoglbkaaGreat.bO l']):=by have h1:=h.perm vk;exact h1.bO.perm (by simpa using(GN (Go.Proofs.YtcmhplknoglbkaaGreat.bO l') l).symm)
def aj.Nt(l l')(h:aj ao FX w (l++[Go.Proofs.YtcmhplknoglbkaaGreat.bO l'])):aj ao FX w (l++l'):=by have h1:=h.perm (GN _ _);exact h1.kq.perm vk
def aj.t1(h:aj ao FX w (a::r)):aj ao FX w [a,Go.Proofs.YtcmhplknoglbkaaGreat.bO r]:=h.Nn [a] r
def aj.t2(h:aj ao FX w (a::b::r)):aj ao FX w [a,b,Go.Proofs.YtcmhplknoglbkaaGreat.bO r]:=h.Nn [a,b] r
def aj.t3(h:aj ao FX w (a::b::c::r)):aj ao FX w [a,b,c,Go.Proofs.YtcmhplknoglbkaaGreat.bO r]:=h.Nn [a,b,c] r
def aj.t4(h:aj ao FX w (a::b::c::d::r)):aj ao FX w [a,b,c,d,Go.Proofs.YtcmhplknoglbkaaGreat.bO r]:=h.Nn [a,b,c,d] r
def aj.dc(h:aj ao FX w [a,Go.Proofs.YtcmhplknoglbkaaGreat.bO r]):aj ao FX w (a::r):=h.Nt [a] r
def aj.bm(h:aj ao FX w [a,b,Go.Proofs.YtcmhplknoglbkaaGreat.bO r]):aj ao FX w (a::b::r):=h.Nt [a,b] r
def aj.lg(h:aj ao FX w [a,b,c,Go.Proofs.YtcmhplknoglbkaaGreat.bO r]):aj ao FX w (a::b::c::r):=h.Nt [a,b,c] r
def aj.oK(h:aj ao FX w [a,b,c,d,Go.Proofs.YtcmhplknoglbkaaGreat.bO r]):aj ao FX w (a::b::c::d::r):=h.Nt [a,b,c,d] r
def aj.lE(h:aj ao FX w (Go.Proofs.YtcmhplknoglbkaaGreat.bO l::l'))(hl:l++l'=L:=by(simp only[List.cons_append,List.nil_append];rfl)):aj ao FX w L:=hl▸h.kq
end
section
variable {P:eu} {ops:Array cR} {rest:List cR} {Q:iy->bT->aM->Prop} {o:cR} {a bw:bT} {w:aM}
def pk (v:aO) (h:cG P ops Q rest bw w) (hr:(bt a.eval o).run P w=a7 (c8 v) w:=by(show _=_;kernel_rfl)) (hw:c4 o (cY ops a.tmps)=true:=by kernel_rfl)
 (ha:a.put o.dst v=bw:=by((try simp only[Act.put,List.setIfInBounds_toArray,List.set_cons_zero,List.set_cons_succ]);rfl)):cG P ops Q (o::rest) a w:=ah h hw hr ha
def cb (v:aO) (h:cG P ops Q rest bw w) (hr:(bt a.eval o).run P w=a7 (c8 v) w:=by(go_simp;try omega)) (hw:c4 o (cY ops a.tmps)=true:=by kernel_rfl)
 (ha:a.put o.dst v=bw:=by((try simp only[Act.put,List.setIfInBounds_toArray,List.set_cons_zero,List.set_cons_succ]);rfl)):cG P ops Q (o::rest) a w:=ah h hw hr ha
def dr {p:Prop} (H:aE p) (v:aO) (h:cG P ops Q rest bw w) (hr:p->(bt a.eval o).run P w=a7 (c8 v) w:=by(intro h;go_simp;try simp[h])) (hw:c4 o (cY ops a.tmps)=true:=by kernel_rfl)
 (ha:a.put o.dst v=bw:=by((try simp only[Act.put,List.setIfInBounds_toArray,List.set_cons_zero,List.set_cons_succ]);rfl)):cG P ops Q (o::rest) a w:=ah h hw (hr H.out) ha
def pad (p q z:Int) (h:cG P ops Q rest bw w) {t b2:gl} {x y:iz} (ho:o.op=nz .add t x y b2:=by rfl) (hx:a.eval x=J R p:=by rfl) (hy:a.eval y=J R q:=by rfl) (hz:p+q=z:=by omega) (h1:-9223372036854775808<=z:=by omega) (h2:z<=9223372036854775807:=by omega) (hw:c4 o (cY ops a.tmps)=true:=by kernel_rfl)
 (ha:a.put o.dst (J R z)=bw:=by((try simp only[Act.put,List.setIfInBounds_toArray,List.set_cons_zero,List.set_cons_succ]);rfl)):cG P ops Q (o::rest) a w:=ah h hw (lK t x y b2 ho p q z hx hy hz h1 h2) ha
def mN (p q z:Int) (h:cG P ops Q rest bw w) {t b2:gl} {x y:iz} (ho:o.op=nz .sub t x y b2:=by rfl) (hx:a.eval x=J R p:=by rfl) (hy:a.eval y=J R q:=by rfl) (hz:p -q=z:=by omega) (h1:-9223372036854775808<=z:=by omega) (h2:z<=9223372036854775807:=by omega) (hw:c4 o (cY ops a.tmps)=true:=by kernel_rfl)
 (ha:a.put o.dst (J R z)=bw:=by((try simp only[Act.put,List.setIfInBounds_toArray,List.set_cons_zero,List.set_cons_succ]);rfl)):cG P ops Q (o::rest) a w:=ah h hw (pK t x y b2 ho p q z hx hy hz h1 h2) ha
def iK {ao:aM} {B k t:Nat} {cs:Array aO} {v:aO} {ty:gl} {x:iz} (hb:aW ao B cs t) (g:ar (λ_=>False) ao w) (h:cG P ops Q rest bw w) (ho:o.op=n3 ty x:=by rfl) (hx:a.eval x=ay (ab ⟨B,k,af⟩):=by rfl)
 (hv:cs[k]?=ab v:=by((try simp only[List.getElem?_toArray,List.getElem?_cons_succ,List.getElem?_cons_zero])<;>rfl)) (hu:(P.underlying ty).map (λd=>d.isRow)=ab false:=by kernel_rfl) (hw:c4 o (cY ops a.tmps)=true:=by kernel_rfl)
 (ha:a.put o.dst v=bw:=by((try simp only[Act.put,List.setIfInBounds_toArray,List.set_cons_zero,List.set_cons_succ]);rfl)):cG P ops Q (o::rest) a w:=ah h hw (fy ho hx (ar.heap g hb (λh=>h)) hv hu) ha
end
section
variable {P:eu} {ops:Array cR} {rest:List cR} {Q:iy->bT->aM->Prop} {o:cR} {a bw:bT} {ao:aM} {FX:Nat->Prop} {dst:Nat->Option Tmp} {LE:List Nat} {bS:Nat->e3->aO} {bk:List br} {out:(Nat->e3)->Nat->br} {ins rd:Nat->List Nat} {fin:List Nat} {QP:List re->aM->Prop} {us:Nat->e3} {i:Nat}
def gB (v:aO) (h:c9 P ops Q dst LE bS ao FX bk out ins rd fin QP us (i+1) rest bw) (hr:∀w,(bt a.eval o).run P w=a7 (c8 v) w:=by(intro _;show _=_;kernel_rfl)) (hi:decide (i∈LE)=false:=by kernel_rfl) (hw:c4 o (cY ops a.tmps)=true:=by kernel_rfl)
 (ha:a.put o.dst v=bw:=by((try simp only[Act.put,List.setIfInBounds_toArray,List.set_cons_zero,List.set_cons_succ]);rfl)):c9 P ops Q dst LE bS ao FX bk out ins rd fin QP us i (o::rest) a:=aK h hi hw hr ha
end
def Y{P Q:Prop}(k:Q)(h:aE Q->P):P:=h (hid k)
def Yc{P n ops d Q a w}(h:(xP n ops d).wp P Q a w):(xP n ops d).wp P Q a w:=h
def ag{P:Prop}{ck:(bT->aM->Prop)->Prop}{e':∀x,ck x->(bT->aM->Prop)->Prop}{Q:∀x y bm,e' x y bm->Prop}(k:∀{x} {y:ck x} {bm} {bp:e' x y bm},Q x y bm bp)(h:aE (∀x y bm bp,Q x y bm bp)->P:=by(intro k;(try refine wpList_nil ?_);(repeat((fail_if_success (with_reducible refine Yc ?_));(first|go_values|go_skip|go_guarded|go_step|go_upon|go_back)));(refine wp_region_lit ?_);(first|(rename_i dK h1;(have dH:Act->World->Prop:=λ_ _=>True);(have t1:True:=trivial);with_reducible exact k.out dH t1 dK h1)|(rename_i dK h1 hW h2;with_reducible exact k.out dK h1 hW h2)|((have dH:Act->World->Prop:=λ_ _=>True);(have t1:True:=trivial);(have fp:Act->World->Prop:=λ_ _=>True);(have t2:True:=trivial);exact k.out dH t1 fp t2)))):P:=by grind[hid]
def ct{P:Prop}{ck:(bT->aM->Prop)->Prop}{e':∀x,ck x->(bT->aM->Prop)->Prop}{Q:∀x y bm,e' x y bm->Prop}(k:∀{x} {y:ck x} {bm} {bp:e' x y bm},Q x y bm bp)(h:aE (∀x y bm bp,Q x y bm bp)->P:=by(intro k;(try refine wpList_nil ?_);(repeat((fail_if_success (with_reducible refine Yc ?_));(first|go_values|go_skip|go_guarded|go_step|go_upon|go_back)));(first|(rename_i dK h1;(have dH:Act->World->Prop:=λ_ _=>True);(have t1:True:=trivial);with_reducible exact k.out dH t1 dK h1)|(rename_i dK h1 hW h2;with_reducible exact k.out dK h1 hW h2)|((have dH:Act->World->Prop:=λ_ _=>True);(have t1:True:=trivial);(have fp:Act->World->Prop:=λ_ _=>True);(have t2:True:=trivial);exact k.out dH t1 fp t2)))):P:=by grind[hid]
def v2{P Q:Prop}(k:Q)(h:aE Q->P:=by(intro k;(iterate 2 refine ah ?_);exact k.out)):P:=h (hid k)
def v3{P Q:Prop}(k:Q)(h:aE Q->P:=by(intro k;(iterate 3 refine ah ?_);exact k.out)):P:=h (hid k)
def v4{P Q:Prop}(k:Q)(h:aE Q->P:=by(intro k;(iterate 4 refine ah ?_);exact k.out)):P:=h (hid k)
def v5{P Q:Prop}(k:Q)(h:aE Q->P:=by(intro k;(iterate 5 refine ah ?_);exact k.out)):P:=h (hid k)
def v6{P Q:Prop}(k:Q)(h:aE Q->P:=by(intro k;(iterate 6 refine ah ?_);exact k.out)):P:=h (hid k)
def xA{P Q:Prop}(k:Q)(h:aE Q->P:=by(intro k;(iterate 8 refine ah ?_);exact k.out)):P:=h (hid k)
def v9{P Q:Prop}(k:Q)(h:aE Q->P:=by(intro k;(iterate 9 refine ah ?_);exact k.out)):P:=h (hid k)
def bp{P Q:Prop}(k:Q)(h:aE Q->P:=by(intro k;(iterate 2 refine aK ?_);exact k.out)):P:=h (hid k)
def c7{P Q:Prop}(k:Q)(h:aE Q->P:=by(intro k;(iterate 3 refine aK ?_);exact k.out)):P:=h (hid k)
def iw{P Q:Prop}(k:Q)(h:aE Q->P:=by(intro k;(iterate 4 refine aK ?_);exact k.out)):P:=h (hid k)
def oL{P Q:Prop}(k:Q)(h:aE Q->P:=by(intro k;(iterate 5 refine aK ?_);exact k.out)):P:=h (hid k)
def N4{P Q:Prop}(k:Q)(h:aE Q->P:=by(intro k;(iterate 6 refine aK ?_);exact k.out)):P:=h (hid k)
def N5{P Q:Prop}(k:Q)(h:aE Q->P:=by(intro k;(iterate 7 refine aK ?_);exact k.out)):P:=h (hid k)
def C3{P Q:Prop}(k:Q)(h:aE Q->P:=by(intro k;(iterate 8 refine aK ?_);exact k.out)):P:=h (hid k)
def N6{P Q:Prop}(k:Q)(h:aE Q->P:=by(intro k;(iterate 9 refine aK ?_);exact k.out)):P:=h (hid k)
def dS{P Q:Prop}(k:Q)(h:aE Q->P:=by(intro k;(try refine wpList_nil ?_);(go_wp2_with fail);(first|go_end0|refine bodyPost_ret (results_none rfl _ _ _) rfl ?_);exact k.out)):P:=h (hid k)
def bB{P Q:Prop}(k:Q)(h:aE Q->P:=by(intro k;(try refine wpList_nil ?_);(go_wp2_with fail);(go_ret);exact k.out)):P:=h (hid k)
def b7{P Q:Prop}(k:Q)(h:aE Q->P:=by(intro k;(try refine wpList_nil ?_);(go_wp2_with fail);(go_ret2);exact k.out)):P:=h (hid k)
def Lh{P Q:Prop}(k:Q)(h:aE Q->P:=by(intro k;(try refine wpList_nil ?_);(go_wp2_with fail);exact k.out)):P:=h (hid k)
end
open Go.RowKit Go.MapKept
def cJ{P:Prop}{ck:(Act->World->Prop)->Prop}{e':∀x,ck x->(Act->World->Prop)->Prop}{Q:∀x y bm,e' x y bm->Prop}(k:∀{x} {y:ck x} {bm} {bp:e' x y bm},Q x y bm bp)(h:Hid (∀x y bm bp,Q x y bm bp)->P:=by (intro k;refine ah ?_;refine ag ?_;refine ah ?_;(first|(rename_i dK h1;(have dH:Act->World->Prop:=λ_ _=>True);(have t1:True:=trivial);with_reducible exact k.out dH t1 dK h1)|(rename_i dK h1 hW h2;with_reducible exact k.out dK h1 hW h2)|((have dH:Act->World->Prop:=λ_ _=>True);(have t1:True:=trivial);(have fp:Act->World->Prop:=λ_ _=>True);(have t2:True:=trivial);exact k.out dH t1 fp t2)))):P:=h (hid λ_ _ _ _=>k)
def b4{P:Prop}{ck:(Act->World->Prop)->Prop}{e':∀x,ck x->(Act->World->Prop)->Prop}{Q:∀x y bm,e' x y bm->Prop}(k:∀{x} {y:ck x} {bm} {bp:e' x y bm},Q x y bm bp)(h:Hid (∀x y bm bp,Q x y bm bp)->P:=by (intro k;refine ag ?_;refine ah ?_;(first|(rename_i dK h1;(have dH:Act->World->Prop:=λ_ _=>True);(have t1:True:=trivial);with_reducible exact k.out dH t1 dK h1)|(rename_i dK h1 hW h2;with_reducible exact k.out dK h1 hW h2)|((have dH:Act->World->Prop:=λ_ _=>True);(have t1:True:=trivial);(have fp:Act->World->Prop:=λ_ _=>True);(have t2:True:=trivial);exact k.out dH t1 fp t2)))):P:=h (hid λ_ _ _ _=>k)
def bP{P Q:Prop}(k:Q)(h:Hid Q->P:=by (intro k;refine ah ?_;refine wpList_nil ?_;exact k.out)):P:=h (hid k)
def ja{P:Prop}{ck:(Act->World->Prop)->Prop}{e':∀x,ck x->(Act->World->Prop)->Prop}{Q:∀x y bm,e' x y bm->Prop}(k:∀{x} {y:ck x} {bm} {bp:e' x y bm},Q x y bm bp)(h:Hid (∀x y bm bp,Q x y bm bp)->P:=by (intro k;refine ag ?_;refine v2 ?_;(first|(rename_i dK h1;(have dH:Act->World->Prop:=λ_ _=>True);(have t1:True:=trivial);with_reducible exact k.out dH t1 dK h1)|(rename_i dK h1 hW h2;with_reducible exact k.out dK h1 hW h2)|((have dH:Act->World->Prop:=λ_ _=>True);(have t1:True:=trivial);(have fp:Act->World->Prop:=λ_ _=>True);(have t2:True:=trivial);exact k.out dH t1 fp t2)))):P:=h (hid λ_ _ _ _=>k)
def dQ{P:Prop}{ck:(Act->World->Prop)->Prop}{e':∀x,ck x->(Act->World->Prop)->Prop}{Q:∀x y bm,e' x y bm->Prop}(k:∀{x} {y:ck x} {bm} {bp:e' x y bm},Q x y bm bp)(h:Hid (∀x y bm bp,Q x y bm bp)->P:=by (intro k;refine ah ?_;refine ag ?_;(first|(rename_i dK h1;(have dH:Act->World->Prop:=λ_ _=>True);(have t1:True:=trivial);with_reducible exact k.out dH t1 dK h1)|(rename_i dK h1 hW h2;with_reducible exact k.out dK h1 hW h2)|((have dH:Act->World->Prop:=λ_ _=>True);(have t1:True:=trivial);(have fp:Act->World->Prop:=λ_ _=>True);(have t2:True:=trivial);exact k.out dH t1 fp t2)))):P:=h (hid λ_ _ _ _=>k)
def jt{P:Prop}{ck:(Act->World->Prop)->Prop}{e':∀x,ck x->(Act->World->Prop)->Prop}{Q:∀x y bm,e' x y bm->Prop}(k:∀{x} {y:ck x} {bm} {bp:e' x y bm},Q x y bm bp)(h:Hid (∀x y bm bp,Q x y bm bp)->P:=by (intro k;refine ag ?_;refine v3 ?_;(first|(rename_i dK h1;(have dH:Act->World->Prop:=λ_ _=>True);(have t1:True:=trivial);with_reducible exact k.out dH t1 dK h1)|(rename_i dK h1 hW h2;with_reducible exact k.out dK h1 hW h2)|((have dH:Act->World->Prop:=λ_ _=>True);(have t1:True:=trivial);(have fp:Act->World->Prop:=λ_ _=>True);(have t2:True:=trivial);exact k.out dH t1 fp t2)))):P:=h (hid λ_ _ _ _=>k)
def ig{P:Prop}{ck:(Act->World->Prop)->Prop}{e':∀x,ck x->(Act->World->Prop)->Prop}{Q:∀x y bm,e' x y bm->Prop}(k:∀{x} {y:ck x} {bm} {bp:e' x y bm},Q x y bm bp)(h:Hid (∀x y bm bp,Q x y bm bp)->P:=by (intro k;refine ah ?_;refine ct ?_;(first|(rename_i dK h1;(have dH:Act->World->Prop:=λ_ _=>True);(have t1:True:=trivial);with_reducible exact k.out dH t1 dK h1)|(rename_i dK h1 hW h2;with_reducible exact k.out dK h1 hW h2)|((have dH:Act->World->Prop:=λ_ _=>True);(have t1:True:=trivial);(have fp:Act->World->Prop:=λ_ _=>True);(have t2:True:=trivial);exact k.out dH t1 fp t2)))):P:=h (hid λ_ _ _ _=>k)
def Ji{P Q:Prop}(k:Q)(h:Hid Q->P:=by (intro k;refine ah ?_;refine bB ?_;exact k.out)):P:=h (hid k)
def ku{P:Prop}{ck:(Act->World->Prop)->Prop}{e':∀x,ck x->(Act->World->Prop)->Prop}{Q:∀x y bm,e' x y bm->Prop}(k:∀{x} {y:ck x} {bm} {bp:e' x y bm},Q x y bm bp)(h:Hid (∀x y bm bp,Q x y bm bp)->P:=by (intro k;refine ah ?_;refine ag ?_;refine v2 ?_;(first|(rename_i dK h1;(have dH:Act->World->Prop:=λ_ _=>True);(have t1:True:=trivial);with_reducible exact k.out dH t1 dK h1)|(rename_i dK h1 hW h2;with_reducible exact k.out dK h1 hW h2)|((have dH:Act->World->Prop:=λ_ _=>True);(have t1:True:=trivial);(have fp:Act->World->Prop:=λ_ _=>True);(have t2:True:=trivial);exact k.out dH t1 fp t2)))):P:=h (hid λ_ _ _ _=>k)
def awU{P:Prop}{ck:(Act->World->Prop)->Prop}{e':∀x,ck x->(Act->World->Prop)->Prop}{Q:∀x y bm,e' x y bm->Prop}(k:∀{x} {y:ck x} {bm} {bp:e' x y bm},Q x y bm bp)(h:Hid (∀x y bm bp,Q x y bm bp)->P:=by (intro k;refine ag ?_;refine v2 ?_;refine bB ?_;(first|(rename_i dK h1;(have dH:Act->World->Prop:=λ_ _=>True);(have t1:True:=trivial);with_reducible exact k.out dH t1 dK h1)|(rename_i dK h1 hW h2;with_reducible exact k.out dK h1 hW h2)|((have dH:Act->World->Prop:=λ_ _=>True);(have t1:True:=trivial);(have fp:Act->World->Prop:=λ_ _=>True);(have t2:True:=trivial);exact k.out dH t1 fp t2)))):P:=h (hid λ_ _ _ _=>k)
def dP{P Q:Prop}(k:Q)(h:Hid Q->P:=by (intro k;refine v2 ?_;refine wpList_nil ?_;exact k.out)):P:=h (hid k)
def awV{P:Prop}{ck:(Act->World->Prop)->Prop}{e':∀x,ck x->(Act->World->Prop)->Prop}{Q:∀x y bm,e' x y bm->Prop}(k:∀{x} {y:ck x} {bm} {bp:e' x y bm},Q x y bm bp)(h:Hid (∀x y bm bp,Q x y bm bp)->P:=by (intro k;refine ah ?_;refine ag ?_;refine ah ?_;refine wpList_nil ?_;(first|(rename_i dK h1;(have dH:Act->World->Prop:=λ_ _=>True);(have t1:True:=trivial);with_reducible exact k.out dH t1 dK h1)|(rename_i dK h1 hW h2;with_reducible exact k.out dK h1 hW h2)|((have dH:Act->World->Prop:=λ_ _=>True);(have t1:True:=trivial);(have fp:Act->World->Prop:=λ_ _=>True);(have t2:True:=trivial);exact k.out dH t1 fp t2)))):P:=h (hid λ_ _ _ _=>k)
def oM{P:Prop}{ck:(Act->World->Prop)->Prop}{e':∀x,ck x->(Act->World->Prop)->Prop}{Q:∀x y bm,e' x y bm->Prop}(k:∀{x} {y:ck x} {bm} {bp:e' x y bm},Q x y bm bp)(h:Hid (∀x y bm bp,Q x y bm bp)->P:=by (intro k;refine ag ?_;refine v4 ?_;(first|(rename_i dK h1;(have dH:Act->World->Prop:=λ_ _=>True);(have t1:True:=trivial);with_reducible exact k.out dH t1 dK h1)|(rename_i dK h1 hW h2;with_reducible exact k.out dK h1 hW h2)|((have dH:Act->World->Prop:=λ_ _=>True);(have t1:True:=trivial);(have fp:Act->World->Prop:=λ_ _=>True);(have t2:True:=trivial);exact k.out dH t1 fp t2)))):P:=h (hid λ_ _ _ _=>k)
def C4{P:Prop}{ck:(Act->World->Prop)->Prop}{e':∀x,ck x->(Act->World->Prop)->Prop}{Q:∀x y bm,e' x y bm->Prop}(k:∀{x} {y:ck x} {bm} {bp:e' x y bm},Q x y bm bp)(h:Hid (∀x y bm bp,Q x y bm bp)->P:=by (intro k;refine v2 ?_;refine ag ?_;refine ah ?_;(first|(rename_i dK h1;(have dH:Act->World->Prop:=λ_ _=>True);(have t1:True:=trivial);with_reducible exact k.out dH t1 dK h1)|(rename_i dK h1 hW h2;with_reducible exact k.out dK h1 hW h2)|((have dH:Act->World->Prop:=λ_ _=>True);(have t1:True:=trivial);(have fp:Act->World->Prop:=λ_ _=>True);(have t2:True:=trivial);exact k.out dH t1 fp t2)))):P:=h (hid λ_ _ _ _=>k)
def afR{P:Prop}{ck:(Act->World->Prop)->Prop}{e':∀x,ck x->(Act->World->Prop)->Prop}{Q:∀x y bm,e' x y bm->Prop}(k:∀{x} {y:ck x} {bm} {bp:e' x y bm},Q x y bm bp)(h:Hid (∀x y bm bp,Q x y bm bp)->P:=by (intro k;refine ag ?_;refine ah ?_;refine ag ?_;(first|(rename_i dK h1;(have dH:Act->World->Prop:=λ_ _=>True);(have t1:True:=trivial);with_reducible exact k.out dH t1 dK h1)|(rename_i dK h1 hW h2;with_reducible exact k.out dK h1 hW h2)|((have dH:Act->World->Prop:=λ_ _=>True);(have t1:True:=trivial);(have fp:Act->World->Prop:=λ_ _=>True);(have t2:True:=trivial);exact k.out dH t1 fp t2)))):P:=h (hid λ_ _ _ _=>k)
def FM{P Q:Prop}(k:Q)(h:Hid Q->P:=by (intro k;refine ba ?_;refine ah ?_;refine wpList_nil ?_;exact k.out)):P:=h (hid k)
def UI{P:Prop}{ck:(Act->World->Prop)->Prop}{e':∀x,ck x->(Act->World->Prop)->Prop}{Q:∀x y bm,e' x y bm->Prop}(k:∀{x} {y:ck x} {bm} {bp:e' x y bm},Q x y bm bp)(h:Hid (∀x y bm bp,Q x y bm bp)->P:=by (intro k;refine ag ?_;refine ah ?_;refine ag ?_;refine ah ?_;(first|(rename_i dK h1;(have dH:Act->World->Prop:=λ_ _=>True);(have t1:True:=trivial);with_reducible exact k.out dH t1 dK h1)|(rename_i dK h1 hW h2;with_reducible exact k.out dK h1 hW h2)|((have dH:Act->World->Prop:=λ_ _=>True);(have t1:True:=trivial);(have fp:Act->World->Prop:=λ_ _=>True);(have t2:True:=trivial);exact k.out dH t1 fp t2)))):P:=h (hid λ_ _ _ _=>k)
def AU{P Q:Prop}(k:Q)(h:Hid Q->P:=by (intro k;refine ba ?_;refine wpList_nil ?_;exact k.out)):P:=h (hid k)
def UJ{P:Prop}{ck:(Act->World->Prop)->Prop}{e':∀x,ck x->(Act->World->Prop)->Prop}{Q:∀x y bm,e' x y bm->Prop}(k:∀{x} {y:ck x} {bm} {bp:e' x y bm},Q x y bm bp)(h:Hid (∀x y bm bp,Q x y bm bp)->P:=by (intro k;refine ah ?_;refine ag ?_;refine v3 ?_;(first|(rename_i dK h1;(have dH:Act->World->Prop:=λ_ _=>True);(have t1:True:=trivial);with_reducible exact k.out dH t1 dK h1)|(rename_i dK h1 hW h2;with_reducible exact k.out dK h1 hW h2)|((have dH:Act->World->Prop:=λ_ _=>True);(have t1:True:=trivial);(have fp:Act->World->Prop:=λ_ _=>True);(have t2:True:=trivial);exact k.out dH t1 fp t2)))):P:=h (hid λ_ _ _ _=>k)
def UK{P:Prop}{ck:(Act->World->Prop)->Prop}{e':∀x,ck x->(Act->World->Prop)->Prop}{Q:∀x y bm,e' x y bm->Prop}(k:∀{x} {y:ck x} {bm} {bp:e' x y bm},Q x y bm bp)(h:Hid (∀x y bm bp,Q x y bm bp)->P:=by (intro k;refine ba ?_;refine v5 ?_;refine ag ?_;refine ah ?_;(first|(rename_i dK h1;(have dH:Act->World->Prop:=λ_ _=>True);(have t1:True:=trivial);with_reducible exact k.out dH t1 dK h1)|(rename_i dK h1 hW h2;with_reducible exact k.out dK h1 hW h2)|((have dH:Act->World->Prop:=λ_ _=>True);(have t1:True:=trivial);(have fp:Act->World->Prop:=λ_ _=>True);(have t2:True:=trivial);exact k.out dH t1 fp t2)))):P:=h (hid λ_ _ _ _=>k)
def AV{P:Prop}{ck:(Act->World->Prop)->Prop}{e':∀x,ck x->(Act->World->Prop)->Prop}{Q:∀x y bm,e' x y bm->Prop}(k:∀{x} {y:ck x} {bm} {bp:e' x y bm},Q x y bm bp)(h:Hid (∀x y bm bp,Q x y bm bp)->P:=by (intro k;refine ah ?_;refine ag ?_;refine v4 ?_;(first|(rename_i dK h1;(have dH:Act->World->Prop:=λ_ _=>True);(have t1:True:=trivial);with_reducible exact k.out dH t1 dK h1)|(rename_i dK h1 hW h2;with_reducible exact k.out dK h1 hW h2)|((have dH:Act->World->Prop:=λ_ _=>True);(have t1:True:=trivial);(have fp:Act->World->Prop:=λ_ _=>True);(have t2:True:=trivial);exact k.out dH t1 fp t2)))):P:=h (hid λ_ _ _ _=>k)
section
theorem aW.cellsOf{w}{B m sz t:Nat}{cs}(h:aW w B cs.toArray t)(a:cs.length=m*sz):Cells w sz (ab ⟨B,0,af⟩) m cs:=
 ⟨a,λ_=>⟨_,rfl,λj u b=>by grind[nG,aW.cell]⟩⟩
section
variable {P:eu} {o:cR} {a:bT} {w:aM} {K:bT->aM->Prop} {Q:iy->bT->aM->Prop}
def cH(t e sz:Nat)(x d)(g:o.op=Dk t x d)(j:P.underlying t=ab (hT e))(p:(P.info? e).map (·.size)=ab sz)(b off n c i k:Nat)(hx:a.eval x=ad (ab ⟨b,off,af⟩) n c)(hi:a.eval d=J R (i:Int))(h:i<n)(hk:off+i*sz=k):
 (bt a.eval o).run P w=a7 (c8 (ay (ab ⟨b,k,af⟩))) w:=by
 cases hq:P.info? e with
 |none=>grind
 |some l=>
  have hsz:l.size=sz:=aF;have h1:(i:Int)<(n:Int):=ae;subst hk;have f:(⟨b,off,_⟩:bU).add (i*sz)=⟨b,_,_⟩:=OB _ _ _;unfold bt;simp[g,hx,hi,Vc,zo,gj,gF j,mu,mY,hq,hsz,f];intro m;omega
end
end
section
section
variable {P:eu} {o:cR} {a:bT} {w:aM}
def nr{B k v ty x}(b:o.op=n3 ty x)(hx:a.eval x=ay (ab ⟨B,k,af⟩))(hc:w.cell? ⟨B,k,af⟩=ab v)(e:(P.underlying ty).map (λd=>d.isRow)=ab au):
 (bt a.eval o).run P w=a7 (c8 v) w:=by
 cases hq:P.underlying ty with
 |none=>grind
 |some d=>
  have c:d.isRow=false:=aF
  have hagg:(isAgg ty).run P w=a7 au w:=by unfold isAgg;rw[gj,gF hq w];cases d<;>simp_all
  unfold bt;simp[b,hx,Instr.loadAt,A2,loadVar,hagg,hc]
def aft{t d x y p q}(b:o.op=nz .xor t x y d)(hx:a.eval x=b' p)(c:a.eval y=b' q):(bt a.eval o).run P w=a7 (c8 (b' (kt p q))) w:=by unfold bt;rw[b];simp only[hx,c];rfl
def afr{t d x y p q}(b:o.op=nz .and t x y d)(hx:a.eval x=b' p)(c:a.eval y=b' q):(bt a.eval o).run P w=a7 (c8 (b' (n32 p q))) w:=by unfold bt;rw[b];simp only[hx,c];rfl
def afs{t d x y p q}(b:o.op=nz .or t x y d)(hx:a.eval x=b' p)(c:a.eval y=b' q):(bt a.eval o).run P w=a7 (c8 (b' (xr p q))) w:=by unfold bt;rw[b];simp only[hx,c];rfl
def afq{t d x y p q}(b:o.op=nz .add t x y d)(hx:a.eval x=b' p)(c:a.eval y=b' q):(bt a.eval o).run P w=a7 (c8 (b' (a32 p q))) w:=by unfold bt;rw[b];simp only[hx,c];rfl
def ab9{t e m:Nat}{x c}{b i:Nat}(d:o.op=Dk t x c)(g:P.underlying t=ab (wz m e))(f:(P.info? e).map (·.size)=ab 1)(hx:a.eval x=ay (ab ⟨b,0,af⟩))(hi:a.eval c=J R (i:Int))(h:i<m):
 (bt a.eval o).run P w=a7 (c8 (ay (ab ⟨b,i,af⟩))) w:=aqA t e 1 m x c d g f b 0 i i hx hi h ae
end
section
variable {U:Int->aO} {L:List Int} {tail:List aO} {i k n:Nat} {v:Int} {x:aO}
def XU(h:i<L.length)(a:(U v).cells=#[U v]:=by rfl):i+(U v).cells.size<=(aX U L tail).size:=by grind[j7]
def KJ(a:L.length=n)(hk:k<tail.length)(hx:x.cells=#[x]:=by rfl):n+k+x.cells.size<=(aX U L tail).size:=by grind[j7]
def XV(h:i<L.length)(a:(U v).cells=#[U v]:=by rfl):lay (aX U L tail) i (U v).cells.toList=aX U (L.set i v) tail:=by rw[a];exact aki h v
def KL(a:L.length=n)(hx:x.cells=#[x]:=by rfl):lay (aX U L tail) (n+k) x.cells.toList=aX U L (tail.set k x):=by rw[hx];exact akj a x
end
section
variable {P:eu} {o:cR} {a:bT} {w:aM}
def acz{B k v u}ty{x d}(c:o.op=n3 ty x)(hx:a.eval x=ay (ab ⟨B,k,af⟩))(f:w.cell? ⟨B,k,af⟩=ab v)(h1:w.cell? ⟨B,k+1,af⟩=ab u)(e:P.underlying ty=ab d)(b:d.isRow=aB)(hi:(P.info? ty).map (·.size)=ab 2):
 (bt a.eval o).run P w=a7 (c8 (av #[v,u])) w:=e6 ty x c B k hx [v,u] (λj z hz=>aF) e b hi
end
def ee{a:Type}(cs:Array a):cs.extract 0 (0+cs.size)=cs:=aT
def aW.aH{w w'}{B t:Nat}{cs}(h:aW w B cs t)(g:aq w w'):aW w' B cs t:=by grind[ar.heap]
def Ct:∀(b P a),b.length<=a.length->lay (P++a).toArray P.length b=(P++(b++a.drop b.length)).toArray
 |[],P,a,_=>by rfl
 |v::b,P,[],h=>by grind
 |v::b,P,r::a,h=>by have c:=Ct b (P++[v]) a (by simpa using h);rw[lay,aj2,show(P++r::a).set P.length v=(P++[v])++a by simp,show P.length+1=(P++[v]).length by simp,c];simp
theorem lay_all{cs cs'}(h:cs'.size=cs.size):lay cs 0 cs'.toList=cs':=by have e:=Ct cs'.toList [] cs.toList aF;simp at e;grind
section
variable {U:Int->aO} {L:List Int} {tail:List aO} {n:Nat}
def akf{a}(c:L.length=n)(b:a.length=n):lay (aX U L tail) 0 (aX U a []).toList=aX U a tail:=by have e:=Ct (a.map U) [] (L.map U++tail) aF;grind[aX]
end
section
variable {P:eu} {ops:Array cR} {rest:List cR} {Q:iy->bT->aM->Prop} {o:cR} {a bw:bT} {w:aM} {v:aO} {ao:aM} {FX:Nat->Prop} {l l':List br}
def M1 {F:Nat->Prop} {B k:Nat} {ty:gl} {x:iz} (hc:ao.cell? ⟨B,k,af⟩=ab v) (b:ar F ao w) (h:cG P ops Q rest bw w) (c:¬F B:=by first|exact(λh=>h)|assumption) (e:o.op=n3 ty x:=by rfl) (hx:a.eval x=ay (ab ⟨B,k,af⟩):=by rfl) (f:(P.underlying ty).map (λd=>d.isRow)=ab false:=by kernel_rfl) (g:c4 o (cY ops a.tmps)=true:=by kernel_rfl)
 (ha:a.put o.dst v=bw:=by((try simp only[Act.put,List.setIfInBounds_toArray,List.set_cons_zero,List.set_cons_succ]);rfl)):cG P ops Q (o::rest) a w:=ah h g (nr e hx (b.cell hc c) f) ha
def II (p q z:Int) (h:cG P ops Q rest bw w) {t b:gl} {x y:iz} (d:o.op=nz .mul t x y b:=by rfl) (hx:a.eval x=J R p:=by rfl) (f:a.eval y=J R q:=by rfl) (hz:p*q=z:=by omega) (h1:-9223372036854775808<=z:=by omega) (c:z<=9223372036854775807:=by omega) (e:c4 o (cY ops a.tmps)=true:=by kernel_rfl)
 (ha:a.put o.dst (J R z)=bw:=by((try simp only[Act.put,List.setIfInBounds_toArray,List.set_cons_zero,List.set_cons_succ]);rfl)):cG P ops Q (o::rest) a w:=ah h e (nH t x y b d p q z hx f hz h1 c) ha
def pu (h:cG P ops Q rest bw w) (hr:(bt a.eval o).run P w=a7 (c8 v) w:=by first|exact aft rfl rfl rfl|exact afr rfl rfl rfl|exact afs rfl rfl rfl|exact afq rfl rfl rfl) (b:c4 o (cY ops a.tmps)=true:=by kernel_rfl)
 (ha:a.put o.dst v=bw:=by((try simp only[Act.put,List.setIfInBounds_toArray,List.set_cons_zero,List.set_cons_succ]);rfl)):cG P ops Q (o::rest) a w:=ah h b hr ha
def mM (h:cG P ops Q rest bw w) {t e m b i:Nat} {x c:iz} (f:o.op=Dk t x c:=by rfl) (j:P.underlying t=ab (wz m e):=by rfl) (g:(P.info? e).map (·.size)=ab 1:=by kernel_rfl) (hx:a.eval x=ay (ab ⟨b,0,af⟩):=by rfl) (hi:a.eval c=J R (i:Int):=by rfl) (d:i<m:=by first|exact(of_decide_eq_true rfl)|omega) (k:c4 o (cY ops a.tmps)=true:=by kernel_rfl)
 (ha:a.put o.dst (ay (ab ⟨b,i,af⟩))=bw:=by((try simp only[Act.put,List.setIfInBounds_toArray,List.set_cons_zero,List.set_cons_succ]);rfl)):cG P ops Q (o::rest) a w:=ah h k (ab9 f j g hx hi d) ha
def pa {B k t n:Nat} {U:Int->aO} {L:List Int} {tail:List aO} {ty:gl} {x:iz} (b:aj ao FX w l) (j:Nat) (c:L.length=n) (h:cG P ops Q rest bw w) (e:l[j]?=ab (ai B (aX U L tail) t):=by rfl) (f:o.op=n3 ty x:=by rfl) (hx:a.eval x=ay (ab ⟨B,k,af⟩):=by rfl) (hk:k<n:=by first|exact(of_decide_eq_true rfl)|omega) (g:(P.underlying ty).map (λd=>d.isRow)=ab false:=by kernel_rfl) (i:c4 o (cY ops a.tmps)=true:=by kernel_rfl)
 (ha:a.put o.dst (U (L[k]?.getD 0))=bw:=by((try simp only[Act.put,List.setIfInBounds_toArray,List.set_cons_zero,List.set_cons_succ]);rfl)):cG P ops Q (o::rest) a w:=ah h i (fy f hx (b.aZ j e) (KK (c▸hk)) g) ha
def Fk {B k t n:Nat} {U:Int->aO} {L:List Int} {tail:List aO} {ty:gl} {x y:iz} {z:Int} (c:aj ao FX w l) (j:Nat) (b:L.length=n) (h:∀w',aj ao FX w' l'->cG P ops Q rest bw w') (d:l[j]?=ab (ai B (aX U L tail) t):=by rfl) (e:o.op=zk ty x y:=by rfl) (hx:a.eval x=ay (ab ⟨B,k,af⟩):=by rfl) (f:a.eval y=U z:=by rfl) (hk:k<n:=by first|exact(of_decide_eq_true rfl)|omega)
 (sO:(U z).cells=#[U z]:=by rfl) (h1:∀x,(U x).oneCell'=true:=by(intro _;rfl)) (hz:(P.info? ty).map (·.size)=ab (U z).cells.size:=by kernel_rfl) (hl:l.set j (ai B (aX U (L.set k z) tail) t)=l':=by((try simp only[List.set_cons_zero,List.set_cons_succ]);rfl)) (hw:c4 o (cY ops a.tmps)=true:=by kernel_rfl)
 (ha:a.put o.dst aY=bw:=by((try simp only[Act.put,List.setIfInBounds_toArray,List.set_cons_zero,List.set_cons_succ]);rfl)):cG P ops Q (o::rest) a w:=a' c j (U z) h d e hx f (XU (b▸hk) sO) hz aF (XV (b▸hk) sO) hl hw ha
def CH {B t n:Nat} {U:Int->aO} {L b:List Int} {tail:List aO} {ty:gl} {x y:iz} (e:aj ao FX w l) (j:Nat) (d:L.length=n) (c:b.length=n) (h:∀w',aj ao FX w' l'->cG P ops Q rest bw w') (f:l[j]?=ab (ai B (aX U L tail) t):=by rfl) (g:o.op=zk ty x y:=by rfl) (hx:a.eval x=ay (ab ⟨B,0,af⟩):=by rfl) (i:a.eval y=av (aX U b []):=by rfl)
 (sO:∀x,(U x).oneCell'=true:=by(intro _;rfl)) (hz:(P.info? ty).map (·.size)=ab n:=by kernel_rfl) (hl:l.set j (ai B (aX U b tail) t)=l':=by((try simp only[List.set_cons_zero,List.set_cons_succ]);rfl)) (hw:c4 o (cY ops a.tmps)=true:=by kernel_rfl)
 (ha:a.put o.dst aY=bw:=by((try simp only[Act.put,List.setIfInBounds_toArray,List.set_cons_zero,List.set_cons_succ]);rfl)):cG P ops Q (o::rest) a w:=a' e j (av (aX U b [])) h f g hx i (by show 0+(aX U b []).size<=_;rw[j7,j7,d,c];simp) (by show _=ab (aX U b []).size;rw[j7,c,hz];rfl) (QH sO aT) (akf d c) hl hw ha
def MW {B t n:Nat} {U:Int->aO} {L c:List Int} {fb b:List aO} {ty:gl} {x y:iz} (g:aj ao FX w l) (j:Nat) (e:L.length=n) (d:c.length=n) (h:∀w',aj ao FX w' l'->cG P ops Q rest bw w') (i:l[j]?=ab (ai B (aX U L fb) t):=by rfl) (k:o.op=zk ty x y:=by rfl) (hx:a.eval x=ay (ab ⟨B,0,af⟩):=by rfl) (m:a.eval y=av (aX U c b):=by rfl) (f:b.length=fb.length:=by rfl)
 (sO:∀x,(U x).oneCell'=true:=by(intro _;rfl)) (bF:∀v∈b,v.oneCell'=true:=by simp[Value.oneCell']) (hz:(P.info? ty).map (·.size)=ab (n+b.length):=by kernel_rfl) (hl:l.set j (ai B (aX U c b) t)=l':=by((try simp only[List.set_cons_zero,List.set_cons_succ]);rfl)) (hw:c4 o (cY ops a.tmps)=true:=by kernel_rfl)
 (ha:a.put o.dst aY=bw:=by((try simp only[Act.put,List.setIfInBounds_toArray,List.set_cons_zero,List.set_cons_succ]);rfl)):cG P ops Q (o::rest) a w:=a' g j (av (aX U c b)) h i k hx m (by show 0+(aX U c b).size<=_;rw[j7,j7,e,d,f];simp) (by show _=ab (aX U c b).size;rw[j7,d,hz]) (QH sO bF) (lay_all (by show(aX U c b).size=_;rw[j7,j7,e,d,f])) hl hw ha
def MZ {B t n:Nat} {U:Int->aO} {L:List Int} {tail:List aO} {ty e:gl} {x:iz} (b:aj ao FX w l) (j:Nat) (c:L.length=n) (h:cG P ops Q rest bw w) (d:l[j]?=ab (ai B (aX U L tail) t):=by rfl) (f:o.op=n3 ty x:=by rfl) (hx:a.eval x=ay (ab ⟨B,0,af⟩):=by rfl) (g:P.underlying ty=ab (wz n e):=by rfl) (hz:(P.info? ty).map (·.size)=ab n:=by kernel_rfl) (i:c4 o (cY ops a.tmps)=true:=by kernel_rfl)
 (ha:a.put o.dst (av (aX U L []))=bw:=by((try simp only[Act.put,List.setIfInBounds_toArray,List.set_cons_zero,List.set_cons_succ]);rfl)):cG P ops Q (o::rest) a w:=ah h i (ara ty e n x f B hx (b.aZ j d) c g hz) ha
def bA{f:A1}{args:Array aO}(hc:aD P f args w λe w'=>e=aA v/\aq w w')(b:aj ao FX w l)(h:∀w',aj ao FX w' l->cG P ops Q rest bw w')(hr:(bt a.eval o).run P w=a7 (.enter f args) w:=by(go_simp;try with_reducible rfl))(i:c4 o (cY ops a.tmps)=true:=by kernel_rfl)(c:a.put o.dst v=bw:=by((try simp only[Act.put,List.setIfInBounds_toArray,List.set_cons_zero,List.set_cons_succ]);rfl)):cG P ops Q (o::rest) a w:=
 a6 hc (λe w' ⟨d,g⟩=>d▸ba (h w' (b.aH g)) c) hr i
def dB{f:A1}{args:Array aO}{b:Option bU->Nat->aO}{bs:List Int}{bw:Option bU->Nat->bT}(hc:aD P f args w λe w'=>∃A c,e=aA (b A c)/\e2 w.heap.size w' A c bs/\aq w w')(d:aj ao FX w l)(h:∀A c w',aj ao FX w' (cc A c bs::l)->cG P ops Q rest (bw A c) w')(hr:(bt a.eval o).run P w=a7 (.enter f args) w:=by(go_simp;try with_reducible rfl))(k:c4 o (cY ops a.tmps)=true:=by kernel_rfl)(i:∀A c,a.put o.dst (b A c)=bw A c:=by(intro _ _;(try simp only[Act.put,List.setIfInBounds_toArray,List.set_cons_zero,List.set_cons_succ]);rfl)):cG P ops Q (o::rest) a w:=
 a6 hc (λe w' ⟨A,c,j,hb,g⟩=>j▸ba (h A c w' (d.js g hb)) (i A c)) hr k
end
section
variable {P:eu} {ops:Array cR} {rest:List cR} {Q:iy->bT->aM->Prop} {o:cR} {a bw:bT} {v:aO} {ao:aM} {FX:Nat->Prop} {dst:Nat->Option Tmp} {LE:List Nat} {bS:Nat->e3->aO} {bk:List br} {out:(Nat->e3)->Nat->br} {ins rd:Nat->List Nat} {fin:List Nat} {QP:List re->aM->Prop} {us:Nat->e3} {i:Nat}
def l8 {B k:Nat} {ty:gl} {x:iz} (hc:ao.cell? ⟨B,k,af⟩=ab v) (h:c9 P ops Q dst LE bS ao FX bk out ins rd fin QP us (i+1) rest bw) (c:¬FX B:=by first|exact(λh=>h)|assumption) (e:o.op=n3 ty x:=by rfl) (hx:a.eval x=ay (ab ⟨B,k,af⟩):=by rfl) (f:(P.underlying ty).map (λd=>d.isRow)=ab false:=by kernel_rfl) (hi:decide (i∈LE)=false:=by kernel_rfl) (g:c4 o (cY ops a.tmps)=true:=by kernel_rfl)
 (ha:a.put o.dst v=bw:=by((try simp only[Act.put,List.setIfInBounds_toArray,List.set_cons_zero,List.set_cons_succ]);rfl)):c9 P ops Q dst LE bS ao FX bk out ins rd fin QP us i (o::rest) a:=aL v (λ_ _ b=>nr e hx (b.only.cell hc c) f) h hi g ha
def pP (h:c9 P ops Q dst LE bS ao FX bk out ins rd fin QP us (i+1) rest bw) (hr:∀w,(bt a.eval o).run P w=a7 (c8 v) w:=by(intro _;first|exact aft rfl rfl rfl|exact afr rfl rfl rfl|exact afs rfl rfl rfl|exact afq rfl rfl rfl)) (hi:decide (i∈LE)=false:=by kernel_rfl) (b:c4 o (cY ops a.tmps)=true:=by kernel_rfl)
 (ha:a.put o.dst v=bw:=by((try simp only[Act.put,List.setIfInBounds_toArray,List.set_cons_zero,List.set_cons_succ]);rfl)):c9 P ops Q dst LE bS ao FX bk out ins rd fin QP us i (o::rest) a:=aK h hi b hr ha
def pN (h:c9 P ops Q dst LE bS ao FX bk out ins rd fin QP us (i+1) rest bw) {t e m b k:Nat} {x c:iz} (f:o.op=Dk t x c:=by rfl) (j:P.underlying t=ab (wz m e):=by rfl) (g:(P.info? e).map (·.size)=ab 1:=by kernel_rfl) (hx:a.eval x=ay (ab ⟨b,0,af⟩):=by rfl) (hk:a.eval c=J R (k:Int):=by rfl) (d:k<m:=by first|exact(of_decide_eq_true rfl)|omega) (hi:decide (i∈LE)=false:=by kernel_rfl) (l:c4 o (cY ops a.tmps)=true:=by kernel_rfl)
 (ha:a.put o.dst (ay (ab ⟨b,k,af⟩))=bw:=by((try simp only[Act.put,List.setIfInBounds_toArray,List.set_cons_zero,List.set_cons_succ]);rfl)):c9 P ops Q dst LE bS ao FX bk out ins rd fin QP us i (o::rest) a:=aK h hi l (λ_=>ab9 f j g hx hk d) ha
def sJ {B k t n:Nat} {U:Int->aO} {L:List Int} {tail:List aO} {ty:gl} {x:iz} (j:Nat) (c:L.length=n) (h:c9 P ops Q dst LE bS ao FX bk out ins rd fin QP us (i+1) rest bw) (f:o.op=n3 ty x:=by rfl) (hx:a.eval x=ay (ab ⟨B,k,af⟩):=by rfl) (e:∀Fr,((rd i).map (dk bk out us)++Fr)[j]?=ab (ai B (aX U L tail) t):=by(intro _;rfl)) (hk:k<n:=by first|exact(of_decide_eq_true rfl)|omega) (g:(P.underlying ty).map (λd=>d.isRow)=ab false:=by kernel_rfl) (hi:decide (i∈LE)=false:=by kernel_rfl) (l:c4 o (cY ops a.tmps)=true:=by kernel_rfl)
 (ha:a.put o.dst (U (L[k]?.getD 0))=bw:=by((try simp only[Act.put,List.setIfInBounds_toArray,List.set_cons_zero,List.set_cons_succ]);rfl)):c9 P ops Q dst LE bS ao FX bk out ins rd fin QP us i (o::rest) a:=aL _ (λ_ Fr b=>fy f hx (b.aZ j (e Fr)) (KK (c▸hk)) g) h hi l ha
def Rj {B k t m n:Nat} {U:Int->aO} {L:List Int} {tail:List aO} {ty:gl} {x y:iz} {z:Int} (b:L.length=n) (h:c9 P ops Q dst LE bS ao FX bk out ins rd fin QP us (i+1) rest bw) (d:ins i=[m]:=by rfl) (c:dk bk out us m=ai B (aX U L tail) t:=by rfl) (e:o.op=zk ty x y:=by rfl) (hx:a.eval x=ay (ab ⟨B,k,af⟩):=by rfl) (f:a.eval y=U z:=by rfl) (hk:k<n:=by first|exact(of_decide_eq_true rfl)|omega)
 (sO:(U z).cells=#[U z]:=by rfl) (h1:∀x,(U x).oneCell'=true:=by(intro _;rfl)) (hz:(P.info? ty).map (·.size)=ab (U z).cells.size:=by kernel_rfl) (hl:∀u,bS i u=undef:=by(intro _;rfl)) (nO:∀u,out (dz us i u) i=ai B (aX U (L.set k z) tail) t:=by(intro _;rfl)) (hd:dst i=none:=by rfl) (jV:o.dst=none:=by rfl)
 (hi:decide (i∈LE)=true:=by kernel_rfl) (hw:c4 o (cY ops a.tmps)=true:=by kernel_rfl) (ha:a.put o.dst (bS i (us i))=bw:=by((try simp only[Act.put,List.setIfInBounds_toArray,List.set_cons_zero,List.set_cons_succ]);rfl)):c9 P ops Q dst LE bS ao FX bk out ins rd fin QP us i (o::rest) a:=fY (U z) h d c e hx f (XU (b▸hk) sO) hz aF (XV (b▸hk) sO) hl nO hd jV hi hw ha
def tR (p q z:Int) (h:c9 P ops Q dst LE bS ao FX bk out ins rd fin QP us (i+1) rest bw) {t b:gl} {x y:iz} (d:o.op=nz .add t x y b:=by rfl) (hx:a.eval x=J R p:=by rfl) (f:a.eval y=J R q:=by rfl) (hz:p+q=z:=by omega) (h1:-9223372036854775808<=z:=by omega) (c:z<=9223372036854775807:=by omega) (hi:decide (i∈LE)=false:=by kernel_rfl) (e:c4 o (cY ops a.tmps)=true:=by kernel_rfl)
 (ha:a.put o.dst (J R z)=bw:=by((try simp only[Act.put,List.setIfInBounds_toArray,List.set_cons_zero,List.set_cons_succ]);rfl)):c9 P ops Q dst LE bS ao FX bk out ins rd fin QP us i (o::rest) a:=aK h hi e (λ_=>lK t x y b d p q z hx f hz h1 c) ha
def Hc (p q z:Int) (h:c9 P ops Q dst LE bS ao FX bk out ins rd fin QP us (i+1) rest bw) {t b:gl} {x y:iz} (d:o.op=nz .sub t x y b:=by rfl) (hx:a.eval x=J R p:=by rfl) (f:a.eval y=J R q:=by rfl) (hz:p -q=z:=by omega) (h1:-9223372036854775808<=z:=by omega) (c:z<=9223372036854775807:=by omega) (hi:decide (i∈LE)=false:=by kernel_rfl) (e:c4 o (cY ops a.tmps)=true:=by kernel_rfl)
 (ha:a.put o.dst (J R z)=bw:=by((try simp only[Act.put,List.setIfInBounds_toArray,List.set_cons_zero,List.set_cons_succ]);rfl)):c9 P ops Q dst LE bS ao FX bk out ins rd fin QP us i (o::rest) a:=aK h hi e (λ_=>pK t x y b d p q z hx f hz h1 c) ha
def Lb (p q z:Int) (h:c9 P ops Q dst LE bS ao FX bk out ins rd fin QP us (i+1) rest bw) {t b:gl} {x y:iz} (d:o.op=nz .mul t x y b:=by rfl) (hx:a.eval x=J R p:=by rfl) (f:a.eval y=J R q:=by rfl) (hz:p*q=z:=by omega) (h1:-9223372036854775808<=z:=by omega) (c:z<=9223372036854775807:=by omega) (hi:decide (i∈LE)=false:=by kernel_rfl) (e:c4 o (cY ops a.tmps)=true:=by kernel_rfl)
 (ha:a.put o.dst (J R z)=bw:=by((try simp only[Act.put,List.setIfInBounds_toArray,List.set_cons_zero,List.set_cons_succ]);rfl)):c9 P ops Q dst LE bS ao FX bk out ins rd fin QP us i (o::rest) a:=aK h hi e (λ_=>nH t x y b d p q z hx f hz h1 c) ha
def dD {f:A1} {args:Array aO} (hc:∀w (Fr:List br),aj ao FX w ((ins i).map (dk bk out us)++((rd i).map (dk bk out us)++Fr))->aD P f args w λe w'=>e=aA v/\aq w w') (h:c9 P ops Q dst LE bS ao FX bk out ins rd fin QP us (i+1) rest bw) (c:ins i=[]:=by rfl) (l:∀u,bS i u=v:=by(intro _;rfl)) (j:∀u,out (dz us i u) i=emp:=by(intro _;rfl))
 (hr:∀w,(bt a.eval o).run P w=a7 (.enter f args) w:=by(intro _;go_simp;try with_reducible rfl)) (hd:dst i=o.dst:=by rfl) (hlt:(match o.dst with|some d=>decide (d<a.tmps.size)|none=>au)=true:=by kernel_rfl) (hi:decide (i∈LE)=true:=by kernel_rfl) (hw:c4 o (cY ops a.tmps)=true:=by kernel_rfl) (ha:a.put o.dst (bS i (us i))=bw:=by((try simp only[Act.put,List.setIfInBounds_toArray,List.set_cons_zero,List.set_cons_succ]);rfl)):c9 P ops Q dst LE bS ao FX bk out ins rd fin QP us i (o::rest) a:=
 df (λw Fr b=>(hc w Fr b).mono (λe w' ⟨k,g⟩=>⟨{},aF,by rw[j];rw[c]at b;exact(b.aH g).dS⟩)) h hr hd hlt hi hw ha
def Ea {f:A1} {args:Array aO} {j:Option bU->Nat->aO} {bs:List Int} (hc:∀w (Fr:List br),aj ao FX w ((ins i).map (dk bk out us)++((rd i).map (dk bk out us)++Fr))->aD P f args w λe w'=>∃A c,e=aA (j A c)/\e2 w.heap.size w' A c bs/\aq w w') (h:c9 P ops Q dst LE bS ao FX bk out ins rd fin QP us (i+1) rest bw) (k:ins i=[]:=by rfl) (n:∀u,bS i u=j u.A u.c:=by(intro _;rfl)) (l:∀u,out (dz us i u) i=cc u.A u.c bs:=by(intro _;rfl))
 (hr:∀w,(bt a.eval o).run P w=a7 (.enter f args) w:=by(intro _;go_simp;try with_reducible rfl)) (hd:dst i=o.dst:=by rfl) (hlt:(match o.dst with|some d=>decide (d<a.tmps.size)|none=>au)=true:=by kernel_rfl) (hi:decide (i∈LE)=true:=by kernel_rfl) (hw:c4 o (cY ops a.tmps)=true:=by kernel_rfl) (ha:a.put o.dst (bS i (us i))=bw:=by((try simp only[Act.put,List.setIfInBounds_toArray,List.set_cons_zero,List.set_cons_succ]);rfl)):c9 P ops Q dst LE bS ao FX bk out ins rd fin QP us i (o::rest) a:=
 df (λw Fr b=>(hc w Fr b).mono (λe w' ⟨A,c,m,hb,g⟩=>⟨{A:=A,c:=c},aF,by rw[l];rw[k]at b;exact b.js g hb⟩)) h hr hd hlt hi hw ha
end
section
variable {P:eu} {o:cR} {a:bT} {w:aM}
def Row.blk{w A}{n c e sz:Nat}{xs}(h:Row 0 w A n c e sz xs)(j:0<n):∃g cur,A=ab ⟨g,0,af⟩/\aW w g cur e/\n<=c/\c<=dN/\cur.size=c*sz/\cur.toList.take (n*sz)=xs:=by
 rcases h.2 with⟨_,a⟩|⟨g,cap,cur,hv,_,i,h1,b,d,f⟩;·omega
 grind
def IS{w}{g n c e sz:Nat}{cur}(d:aW w g cur e)(h1:n<=c)(a:c<=dN)(b:cur.size=c*sz):Row 0 w (ab ⟨g,0,af⟩) n c e sz (cur.toList.take (n*sz)):=
 ⟨by grind[Nat.mul_le_mul_right],b1 ⟨g,c,cur,aa,cQ _,d,h1,a,b,aa⟩⟩
def aj.AQ{ao w:aM}{FX:Nat->Prop}{l:List br}{g e:Nat}{cur:Array aO}(h:aj ao FX w l)(i n c sz:Nat)(xs:List aO)(hx:cur.toList.take (n*sz)=xs)(h1:n<=c)(a:c<=dN)(d:cur.size=c*sz)(hi:l[i]?=ab (ai g cur e):=by rfl):aj ao FX w (l.set i (bn (ab ⟨g,0,af⟩) n c e sz xs)):=
 h.as i hi _ (λhb=>hx▸IS hb h1 a d) (λb ⟨off,f,e⟩=>by injection e with e;injection e with bB b7;exact bB.symm)
def aer{x}{t e B off n c ty sz:Nat}{z cs}(f:o.op=mU {callee:=n2 .clear,args:=#[x],argTypes:=#[t]})(hx:a.eval x=ad (ab ⟨B,off,af⟩) n c)(g:P.underlying t=ab (hT e))(hz:(P.info? e).bind (·.zero)=ab z)(hzs:z.cells.size=sz)(hz1:z.cells.all (·.oneCell')=aB)(j:0<n)(hb:aW w B cs ty)(i:off+n*sz<=cs.size):
 ∃w' cs',(bt a.eval o).run P w=a7 (c8 (bg #[])) w'/\Turned w w' (ai B cs ty) (ai B cs' ty)/\cs'.size=cs.size/\cs'.toList.take off=cs.toList.take off:=by
 have hzl:((mT z.cells n).toList).length=n*sz:=by grind[mT]
 have hz2:(mT z.cells n).toList.all (·.oneCell')=true:=by grind[mT,Nat.mod_lt]
 obtain⟨w',hr,b,d,h⟩:=T8 (P:=P) B ty (mT z.cells n).toList w cs off 0 hb ae hz2;refine⟨w',lay cs (off+0) (mT z.cells n).toList,?_,vq d b,lay_size _ _ _,?_⟩;·obtain⟨m,rfl⟩:∃m,n=m+1:=⟨n -1,ae⟩;have hv:(zeroValue e).run P w=a7 z w:=T9 hz w;unfold bt;simp[f,mX,mW,pv,gj,hx,Builtin.clear_,gF g,hv,hr]
 .rw[Nat.add_zero]
  have key:∀(l:List aO) (cs:Array aO) (k:Nat),off<=k->(lay cs k l).toList.take off=cs.toList.take off:=by
   intro l;induction l with
   |nil=>intro cs k _;rfl
   |cons v l p=>grind[lay,List.take_set_of_le]
  exact key _ _ _ (cm _)
end
def adx {P:eu} {ops:Array cR} {rest:List cR} {Q:iy->bT->aM->Prop} {o:cR} {a bw:bT} {w:aM} {v:aO} {ao:aM} {FX:Nat->Prop} {l:List br} {G ty:Nat} {cs:Array aO} {C:Array aO->Prop} (b:aj ao FX w l) (i:Nat) (hr:∃w' cs',(bt a.eval o).run P w=a7 (c8 v) w'/\Turned w w' (ai G cs ty) (ai G cs' ty)/\C cs') (h:∀w' cs',C cs'->aj ao FX w' (l.set i (ai G cs' ty))->cG P ops Q rest bw w') (hi:l[i]?=ab (ai G cs ty):=by rfl) (f:c4 o (cY ops a.tmps)=true:=by kernel_rfl)
 (ha:a.put o.dst v=bw:=by((try simp only[Act.put,List.setIfInBounds_toArray,List.set_cons_zero,List.set_cons_succ]);rfl)):cG P ops Q (o::rest) a w:=by
 obtain⟨w',cs',h1,c,d⟩:=hr;refine rh λK e=>?_;rw[if_pos f];unfold hB;rw[h1];show K _ _;rw[ha];exact e _ _ (h w' _ d (b.CT i hi c))
def FC{P o}{a:bT}{w}{B k t:Nat}{cs cs' ty x y}v(b:o.op=zk ty x y)(hx:a.eval x=ay (ab ⟨B,k,af⟩))(c:a.eval y=v)(hb:aW w B cs t)(hk:k+v.cells.size<=cs.size)(hi:(P.info? ty).map (·.size)=ab v.cells.size)(h1:v.cells.all (·.oneCell')=aB)(hc:lay cs k v.cells.toList=cs'):
 ∃w',(bt a.eval o).run P w=a7 .skip w'/\Turned w w' (ai B cs t) (ai B cs' t):=by grind[Nc,vq]
def awh{B c i sz}(h:i<c):fE (ab ⟨B,0,af⟩) c i sz=ab ⟨B,i*sz,af⟩:=by grind[fE,nG]
def aeT {P o} {a:bT} {w} (t e sz:Nat) (x lo) (b:o.op=.slice t x (ab lo) af af) (f:P.underlying t=ab (hT e)) (d:(P.info? e).map (·.size)=ab sz) (B n c i m:Nat)
 (hx:a.eval x=ad (ab ⟨B,0,af⟩) n c) (ka:a.eval lo=J R (i:Int)) (hm:i+m=n) (h2:n<=c) (hi:i<c):(bt a.eval o).run P w=a7 (c8 (ad (ab ⟨B,i*sz,af⟩) m (c -i))) w:=by
 have h:=AL (w:=w) t e sz x lo b f d _ n c i m hx ka hm h2;rw[awh hi]at h;exact h
def IF{w W A}{n c e sz:Nat}{xs}(h:Row 0 w A n c e sz xs)(g:aq w W):Row 0 W A n c e sz xs:=
 br.only (bn A n c e sz xs) h (λ_ hb=>(Row.lt h hb).2) g (λ_ _ h=>h)
def ady {P:eu} {ops:Array cR} {rest:List cR} {Q:iy->bT->aM->Prop} {o:cR} {a:bT} {w ao:aM} {FX:Nat->Prop} {l:List br} {s:br} {bw:Option bU->Nat->bT} {b:Option bU->Nat->aO} {t:Option bU->Nat->br} {l':Option bU->Nat->List br} (d:aj ao FX w l) (i:Nat) (hr:∃A c w',(bt a.eval o).run P w=a7 (c8 (b A c)) w'/\Turned w w' s (t A c)) (h:∀A c w',aj ao FX w' (l' A c)->cG P ops Q rest (bw A c) w') (hi:l[i]?=ab s:=by rfl)
 (hl:∀A c,l.set i (t A c)=l' A c:=by(intro _ _;(try simp only[List.set_cons_zero,List.set_cons_succ]);rfl)) (hw:c4 o (cY ops a.tmps)=true:=by kernel_rfl) (ha:∀A c,a.put o.dst (b A c)=bw A c:=by(intro _ _;(try simp only[Act.put,List.setIfInBounds_toArray,List.set_cons_zero,List.set_cons_succ]);rfl)):cG P ops Q (o::rest) a w:=by
 obtain⟨A,c,w',h1,e⟩:=hr;refine rh λK f=>?_;rw[if_pos hw];unfold hB;rw[h1];show K _ _;rw[ha];exact f _ _ (h A c w' (hl A c▸d.CT i hi e))
end
def Tg cE p A c bs w(i:w.cell? ⟨p,0,af⟩=ab (ad A bs.length c))(hx:bR w A bs)(h1:bs.length<=140737488355328):
 aD ax 100 #[J R cE,ad (ab ⟨p,0,af⟩) 1 1] w λe w'=>∃b d,e=aA (av #[J R 2,J R cE,J R 0,J R 0,ad b bs.length d])/\e2 w.heap.size w' b d bs/\aq w w':=by
 go_enter func100,ntmps100;have a:=bf w;go_step;refine ag ?_;refine bx a #[J _ 0,J _ 0,J _ 0,J _ 0,ad _ 0 0] (λj w1 a=>?_);refine ja ?_;refine a6 (G6 p A c bs _ (a.only.cell i (λh=>h)) (hx.aH a.only) h1) ?_;rintro e k ⟨f,c1,rfl,hr,g⟩;replace a:=a.js g (e2.lW hr);refine ba ?_;refine ah ?_;refine a' a 1 (av _) (λl a=>?_);refine an ?_;go_wp2_with fail;refine dn (v:=_) (jd aa _ _ _ _ _ _ _ aa (a.aZ 1) fW aa aw) aa (⟨f,c1,aa,(a.fresh 0).CO,a.only⟩)
def Q5(k cE fr n)A c bs w(hx:bR w A bs)(h1:bs.length<=140737488355328):
 aD ax 102 #[av #[J R k,J R cE,J R fr,J R n,ad A bs.length c]] w λe w'=>∃d f,e=aA (av #[J R k,J R cE,J R fr,J R n,ad d bs.length f])/\e2 w.heap.size w' d f bs/\aq w w':=by
 go_enter func102,ntmps102;have a:=bf w;go_step;refine ag ?_;refine bM a (av _) (λh w1 a=>?_);refine bx a #[J _ 0,J _ 0,J _ 0,J _ 0,ad _ 0 0] (λi j a=>?_);refine b4 ?_;refine pl a 1 4 ?_;refine a6 (wW A c bs _ (hx.aH a.only) h1) ?_;rintro e l ⟨b,c1,rfl,hr,g⟩;replace a:=a.js g (e2.lW hr);refine ba ?_;refine ah ?_;refine a' a 2 (ad b _ c1) (λm a=>?_);refine ag ?_;refine bq a 2 #[J R k,J R cE,J R fr,J R n,ad b bs.length c1] ?_;refine a' a 1 (av _) (λo a=>?_);refine an ?_;go_wp2_with fail;refine dn (v:=_) (jd aa _ _ _ _ _ _ _ aa (a.aZ 1) fW aa aw) aa (⟨b,c1,aa,(a.fresh 0).CO,a.only⟩)
def asY(cE fr n a b)A(m c)w(h1:eD (cE,n))(y:eD (fr,n))(z:eD (a,b))(hb:0<b)(l:cE<=a)(o:a+b<=cE+n):
 aD ax 237 #[av #[J R 1,J R cE,J R fr,J R n,ad A m c],av #[J R a,J R b]] w λe w'=>e=aA (bg #[av #[J R 1,J R a,J R (fr+(a -cE)),J R b,ad af 0 0],ak aB])/\aq w w':=by
 obtain⟨dc,bm,lg⟩:=z;obtain⟨k,bp,c7⟩:=h1;obtain⟨p,q,r⟩:=y;simp only at dc bm lg k bp c7 p q r;obtain⟨f,hr1⟩:=ex (a -cE);obtain⟨j,hr2⟩:=ex (fr+f);have t:=hid (show R.wrap (a -cE)=f by grind[wk]);have x:=hid (show R.wrap (fr+f)=j by grind[wk]);have s:=hid (λW=>aaj cE n a b W ⟨k,bp,c7⟩ ⟨dc,bm,lg⟩ hb l o);rw[hr1,hr2];clear hr1 hr2 dc bm lg k bp c7 p q r hb l o;go_enter Tryz.func237,Tryz.ntmps237;have d:=bf w;go_step;refine ag ?_;refine bM d (av _) (λB w1 d=>?_);refine bM d (av _) (λC F d=>?_);refine bx d #[J _ 0,J _ 0,J _ 0,J _ 0,ad _ 0 0] (λD G d=>?_);refine ig ?_;refine bN d [1,4,5] (λi u=>match i with|1=>av #[J R cE,J R n]|4=>ay (ab ⟨u.b,0,af⟩)|_=>aY) (λg=>λ|4=>ai ((g 4).b) #[J R 0,J R 0,J R 0,J R 0,J R 0,J R 0,ad af 0 0] 400|5=>ai ((g 4).b) #[J R cE,J R n,J R 1,J R cE,J R fr,J R n,ad A m c] 400|_=>emp) (λ|5=>[7]|_=>[]) (λ|0=>[2]|2=>[2]|_=>[]) (λ|4=>[4]|5=>[4]|_=>[]) [0,1,2,4,8] (λg=>?_);refine ea 0 #[J R 1,J R cE,J R fr,J R n,ad A m c] ?_;refine dD (λ_ _ _=>MK 1 cE fr n A m c _) ?_;refine ea 0 #[J R 1,J R cE,J R fr,J R n,ad A m c] ?_;refine aK ?_;refine qB _ ?_;refine fY _ ?_;refine bQ λH d=>?_;generalize (g 4).b=E at d⊢;replace d:=d.drop 3;refine b4 ?_;refine bq d 3 #[J R cE,J R n] ?_;refine bq d 1 #[J R a,J R b] ?_;refine bA (s _) d (λI d=>?_);refine cJ ?_;refine pl d 1 0 ?_;refine ah ?_;refine pl d 2 1 ?_;refine aI (J R f) (by(have h:=t.out;go_simp;try rw[h])) ?_;refine cJ ?_;refine pl d 2 0 ?_;refine cJ ?_;refine pl d 1 0 ?_;refine ah ?_;refine pl d 2 2 ?_;refine ah ?_;refine aI (J R j) (by(have h:=x.out;go_simp;try rw[h])) ?_;refine ah ?_;refine pl d 1 1 ?_;refine bA (YI a j b _) d (λK d=>?_);refine a' d 0 (av _) (λL d=>?_);refine bP ?_;go_wp2_with fail;refine dn (v:=_) (mP aa aa aa (d.aZ 0) aw aw) aa (⟨aa,d.only⟩)
def asZ(cE fr n a b)A(c f j:Nat)bs w(hx:bR w A bs)(hc:bs.length<=c)(C:bs.length<=140737488355328)(h1:eD (cE,(bs.length:Int)))(hai:a=cE+(f:Int))(B:b=(j:Int))(hb:0<j)(o:f+j<=bs.length):
 aD ax 237 #[av #[J R 2,J R cE,J R fr,J R n,ad A bs.length c],av #[J R a,J R b]] w λe w'=>∃l m,e=aA (bg #[av #[J R 2,J R a,J R 0,J R 0,ad l j m],ak aB])/\e2 w.heap.size w' l m ((bs.drop f).take j)/\aq w w':=by
 have y:=hid (show R.wrap (a -cE)=(f:Int) by grind[wk]);have r:eD (a,b):=by obtain⟨U,bp,c7⟩:=h1;simp only at*;exact⟨ae,ae,ae⟩
 have k:bR w (fE A c f 1) ((bs.drop f).take j):=by have:=hx.win (i:=f) (q:=_) hc o;rwa [show f+j -f=j by omega]at this
 have s:((bs.drop f).take j).length=j:=aF;obtain⟨ds,p⟩:=ex ((bs.drop f).take j);rw[p]at k s⊢;have x:=hid (λW=>aaj cE _ a b W h1 r ae ae ae);have L:f+j<=c:=ae;have hjb:j<=140737488355328:=ae;subst B s;have z:=hid k;have M:f<=f+ds.length:=ae;have N:f+ds.length -f=ds.length:=ae;have K:(f:Int)+(ds.length:Int)<=140737488355328:=ae;clear r h1 hx hai hb o hc C p k;go_enter Tryz.func237,Tryz.ntmps237;have d:=bf w;go_step;refine ag ?_;refine bM d (av _) (λF w1 d=>?_);refine bM d (av _) (λG O d=>?_);refine bx d #[J _ 0,J _ 0,J _ 0,J _ 0,ad _ 0 0] (λt P d=>?_);refine ig ?_;refine bN d [1,4,5] (λi u=>match i with|1=>av #[J R cE,J R (bs.length:Int)]|4=>ay (ab ⟨u.b,0,af⟩)|_=>aY) (λg=>λ|4=>ai ((g 4).b) #[J R 0,J R 0,J R 0,J R 0,J R 0,J R 0,ad af 0 0] 400|5=>ai ((g 4).b) #[J R cE,J R (bs.length:Int),J R 2,J R cE,J R fr,J R n,ad A bs.length c] 400|_=>emp) (λ|5=>[7]|_=>[]) (λ|0=>[2]|2=>[2]|_=>[]) (λ|4=>[4]|5=>[4]|_=>[]) [0,1,2,4,8] (λg=>?_);refine ea 0 #[J R 2,J R cE,J R fr,J R n,ad A bs.length c] ?_;refine dD (λ_ _ _=>MK 2 cE fr n A _ c _) ?_;refine ea 0 #[J R 2,J R cE,J R fr,J R n,ad A bs.length c] ?_;refine aK ?_;refine qB _ ?_;refine fY _ ?_;refine bQ λQ d=>?_;generalize (g 4).b=H at d⊢;replace d:=d.drop 3;refine b4 ?_;refine bq d 3 #[J R cE,J R (bs.length:Int)] ?_;refine bq d 1 #[J R a,J R (ds.length:Int)] ?_;refine bA (x _) d (λS d=>?_);refine cJ ?_;refine pl d 1 0 ?_;refine ah ?_;refine pl d 2 1 ?_;refine aI (J R (f:Int)) (by(have h:=y.out;go_simp;try rw[h])) ?_;refine cJ ?_;refine pl d 2 0 ?_;refine ig ?_;refine bN d [10,11,12] (λi u=>match i with|10=>ad (ab ⟨u.b,0,af⟩) 1 1|11=>av #[J R 2,J R a,J R 0,J R 0,ad u.A ds.length u.c]|_=>aY) (λg=>λ|10=>ai ((g 10).b) #[ad (fE A c f 1) ((f+ds.length) -f) (c -f)] 22|11=>cc ((g 11).A) ((g 11).c) ds|12=>ai t #[J R 2,J R a,J R 0,J R 0,ad (g 11).A ds.length (g 11).c] 73|_=>emp) (λ|12=>[0]|_=>[]) (λ|1=>[1]|3=>[2]|7=>[1]|11=>[14]|_=>[]) (λ|10=>[10]|11=>[11]|12=>[11]|_=>[]) [1,2,3,14,15,16] (λg=>?_);refine aK ?_;refine dl 0 0 ?_;refine aK ?_;refine dl 0 4 ?_;refine c7 ?_;refine dl 0 1 ?_;refine tR _ _ ((f+ds.length:Nat):Int) ?_;refine aL _ (λ_ _ _=>aeQ 22 5 1 _ _ _ aa dI aw A _ c f _ aa aa aa ae ae) ?_;refine lM _ 22 ?_;refine Ea (λ_ _ d=>Tg a _ (fE A c f 1) (c -f) ds _ ((d.aZ 0).cell 0 aT) (z.out.aH d.only) hjb) ?_;refine fY _ ?_;refine aK ?_;refine bQ λT d=>?_;generalize (g 10).b=E at d⊢;generalize (g 11).A=D at d⊢;generalize (g 11).c=I at d⊢;go_wp2_with fail;refine dn (v:=_) (mP aa aa aa (d.aZ 5) aw aw) aa (⟨_,_,aa,(d.fresh 4).CO,d.only⟩)
def cnt(r s:Int):Int:=(r -1)/s+1
def G8(m:bG)(a b:Int):bG:=if m.k=1 then⟨1,a,m.fr+(a -m.to),b,[]⟩else⟨2,a,0,0,(m.data.drop (a -m.to).toNat).take b.toNat⟩
def K2(m:bG):Bool:=decide (m.k=1)&&(meets (m.fr,m.n) (m.to,m.n)&&decide (m.fr<m.to))
def nI(m:bG)(s:Int):Int:=cnt (cS m) s
def tP(m:bG)(s k:Int):Int:=if K2 m then nI m s -1 -k else k
def yn(m:bG)(s k:Int):bG:=G8 m (m.to+tP m s k*s) (min s (cS m -tP m s k*s))
def hX(m:bG):Prop:=wS m.k m.to m.fr m.n m.data.length
def qi(w:aM)(m:bG)(A:Option bU)(c:Nat):Prop:=bR w A m.data/\m.data.length<=c
def qi.aH{w w' m A c}(h:qi w m A c)(g:aq w w'):qi w' m A c:=⟨h.1.aH g,h.2⟩
def e2.cmd{w N m A c}(h:e2 N w A c m.data):qi w m A c:=⟨h.1,h.2.2⟩
def avF m:fb m.k m.n m.data.length=cS m:=rfl
theorem hX.b8{m}(h:hX m):0<=m.to/\0<cS m/\m.to+cS m<=4611686018427387903:=by have:=wS.b8 h;rw[avF]at this;obtain⟨⟨h1,_,a⟩,b⟩:=this;exact⟨h1,b,a⟩
def asX m(a b)A c w(hv:hX m)(l:qi w m A c)(q:m.data.length<=140737488355328)(h1:m.to<=a)(o:0<b)(f:a+b<=m.to+cS m):
 aD ax 237 #[mz m A c,av #[J R a,J R b]] w λe w'=>∃i j,e=aA (bg #[mz (G8 m a b) i j,ak aB])/\e2 w.heap.size w' i j (G8 m a b).data/\aq w w':=by
 obtain⟨k,cE,fr,n,data⟩:=m;rcases hv with⟨rfl,d,v2,v3,v4⟩|⟨rfl,d,v2,v3,v4⟩;·simp only at d v2 v3 v4 h1 f;obtain rfl:=jH v4;have p:a+b<=cE+n:=f;refine(asY cE fr n a b A 0 c w d v2 ⟨by have:=d.1;simp only at*;omega,ae,by have:=d.2.2;simp only at*;omega⟩ o ae ae).mono ?_;rintro e w' ⟨rfl,g⟩;exact⟨_,0,aa,e2.nil,g⟩
 .simp only at d v2 v3 v4 h1 f;subst v2;subst v3;have p:a+b<=cE+(data.length:Int):=f;have h:=asZ cE 0 0 a b A c (a -cE).toNat b.toNat data w l.1 l.2 q d ae ae ae ae;grind[G8]
def al7{m s k}(hv:hX m)(g:1<=s)(h1:0<=k)(d:k<nI m s):0<=tP m s k/\tP m s k<nI m s/\0<=tP m s k*s/\tP m s k*s<cS m:=by
 have a:0<=tP m s k/\tP m s k<nI m s:=by grind[tP]
 refine⟨a.1,a.2,Int.mul_nonneg a.1 ae,?_⟩;have c:tP m s k<=(cS m -1)/s:=by grind[nI,cnt]
 have e:tP m s k*s<=(cS m -1)/s*s:=Int.mul_le_mul_of_nonneg_right c ae;have f:=Int.ediv_mul_le (cS m -1) (b:=s) ae;omega
def Q1{m s}(hv:hX m)(c:1<=s):1<=nI m s/\nI m s<=cS m:=by have h:=hv.b8;unfold nI cnt;have h1:0<=(cS m -1)/s:=ajL ae ae;have b:=ajK (a:=cS m -1) s ae;omega
def auA{P o}{a:bT}{w t g x y p s q}(c:o.op=nz .quo t x y g)(hx:a.eval x=J R p)(f:a.eval y=J R s)(b:¬s=0)(d:Int.tdiv p s=q)(e:R.wrap q=q):(bt a.eval o).run P w=a7 (c8 (J R q)) w:=by unfold bt;simp[c,hx,f,zp,wD,OL,b,d,e]
def Rc m A c s w(h1:0<cS m)(i:cS m<=4611686018427387903)(o:1<=s):
 aD ax 138 #[mz m A c,J R s] w λe w'=>e=aA (J R (nI m s))/\aq w w':=by
 obtain⟨r,hr⟩:=ex (cS m);have b:=hid (λW=>uE m.k m.to m.fr m.n A m.data.length c W);rw[show fb _ _ _=r from hr]at b;rw[nI,cnt,hr];rw[hr]at h1 i;clear hr;have d:0<=(r -1)/s/\(r -1)/s<=r -1:=⟨ajL ae ae,ajK _ ae⟩;obtain⟨q,f⟩:=ex ((r -1)/s);have h:=hid (show Int.tdiv (r -1) s=q by grind);rw[f]at d⊢;obtain⟨p,t⟩:=d;have hs0:¬s<1:=ae;have j:¬s=0:=ae;have g:=hid (show R.wrap q=q from wk _ ae);clear f;go_enter func138,ntmps138;have a:=bf w;go_step;refine ag ?_;refine bM a (av _) (λl w1 a=>?_);refine ah ?_;refine an ?_;go_step;refine ag ?_;refine v2 ?_;refine an ?_;go_step;refine ag ?_;refine bq a 0 #[J R m.k,J R m.to,J R m.fr,J R m.n,ad A m.data.length c] ?_;refine bA (b _) a (λu a=>?_);refine pk (J R r) ?_;refine mN r 1 (r -1) ?_;refine ah ?_;refine aI _ (auA aa aa aa j h g) ?_;refine pad q 1 (q+1) ?_;refine ah ?_;refine an ?_;go_wp2_with fail;go_ret;exact⟨aa,a.only⟩
def amO m A c w(hv:hX m):
 aD ax 235 #[mz m A c] w λe w'=>e=aA (ak (K2 m))/\aq w w':=by
 obtain⟨k,cE,fr,n,data⟩:=m;rcases hv with⟨rfl,d,v2,v3,v4⟩|⟨rfl,d,v2,v3,v4⟩
 .have b:=hid (λW=>asG cE fr n A data.length c W d v2);clear d v2 v3 v4;show aD _ _ _ _ λe w'=>e=aA (ak (meets (fr,n) (cE,n)&&decide (fr<cE)))/\aq w w';cases hm:meets (fr,n) (cE,n)
  .rw[hm]at b;clear hm;go_enter Vs,VW;have a:=bf w;go_step;refine ag ?_;refine bM a (av #[J _ 1,J _ cE,J _ fr,J _ n,ad A data.length c]) (λf w1 a=>?_);refine dQ ?_;refine bq a 0 #[J R 1,J R cE,J R fr,J R n,ad A data.length c] ?_;refine bA (b _) a (λg a=>?_);refine ah ?_;iterate 5 refine ps ?_
   refine v2 ?_;refine bB ?_;exact⟨aa,a.only⟩
  .rw[hm]at b;clear hm;go_enter Vs,VW;have a:=bf w;go_step;refine ag ?_;refine bM a (av #[J _ 1,J _ cE,J _ fr,J _ n,ad A data.length c]) (λf h a=>?_);refine dQ ?_;refine bq a 0 #[J R 1,J R cE,J R fr,J R n,ad A data.length c] ?_;refine bA (b _) a (λi a=>?_);refine v2 ?_;refine pl a 0 1 ?_;refine ah ?_;refine pl a 0 2 ?_;refine v3 ?_;refine bB ?_;exact⟨aa,a.only⟩
 .have b:=hid (λW=>asH 2 cE fr n A data.length c W bh);clear d v2 v3 v4;show aD _ _ _ _ λe w'=>e=aA (ak au)/\aq w w';go_enter Vs,VW;have a:=bf w;go_step;refine ag ?_;refine bM a (av #[J _ 2,J _ cE,J _ fr,J _ n,ad A data.length c]) (λf j a=>?_);refine dQ ?_;refine bq a 0 #[J R 2,J R cE,J R fr,J R n,ad A data.length c] ?_;refine bA (b _) a (λl a=>?_);refine ah ?_;iterate 5 refine ps ?_
  refine v2 ?_;refine bB ?_;exact⟨aa,a.only⟩
structure XQ (w:aM) (cB tj ti sf bX:Nat) (m:bG) (A:Option bU) (c:Nat) (s:Int):Prop where
 d:aW w cB #[ak (K2 m)] 4
 n:aW w tj #[J R (nI m s)] 3
 c:aW w ti #[J R m.k,J R m.to,J R m.fr,J R m.n,ad A m.data.length c] 73
 t:aW w sf #[J R m.to,J R (cS m)] 35
 s:aW w bX #[J R s] 3
def as7 m A c s w(hv:hX m)(d:1<=s):
 aD ax 160 #[mz m A c,J R s] w λe w'=>∃cB tj ti sf bX,e=aA (dJ (ej 236) #[] #[ay (ab ⟨cB,0,af⟩),ay (ab ⟨tj,0,af⟩),ay (ab ⟨ti,0,af⟩),ay (ab ⟨sf,0,af⟩),ay (ab ⟨bX,0,af⟩)])/\XQ w' cB tj ti sf bX m A c s/\aq w w':=by
 have b:=hv.b8;have h:aE (∀W,aD _ _ #[mz m A c] W λe w'=>e=aA (av #[J _ _,J _ (cS m)])/\aq W w'):=hid (λW=>uE _ _ _ _ A _ c W);have g:=hid (λW=>Rc m A c s W b.2.1 ae d);have f:=hid (λW=>amO m A c W hv);clear b hv d;go_enter func160,ntmps160;have a:=bf w;go_step;refine ag ?_;refine bM a (av _) (λti w1 a=>?_);refine bM a (J _ s) (λbX l a=>?_);refine dQ ?_;refine bq a 1 #[J R m.k,J R m.to,J R m.fr,J R m.n,ad A m.data.length c] ?_;refine bA (h _) a (λo a=>?_);refine bx a #[J _ 0,J _ 0] (λsf p a=>?_);refine a' a 0 (av _) (λq a=>?_);refine ag ?_;refine bq a 2 #[J R m.k,J R m.to,J R m.fr,J R m.n,ad A m.data.length c] ?_;refine pl a 1 0 ?_;refine bA (g _) a (λr a=>?_);refine bx a #[J _ 0] (λtj t a=>?_);refine a' a 0 (J _ _) (λu a=>?_);refine ag ?_;refine bq a 3 #[J R m.k,J R m.to,J R m.fr,J R m.n,ad A m.data.length c] ?_;refine bA (f _) a (λv a=>?_);refine bx a #[ak _] (λcB i a=>?_);refine a' a 0 (ak _) (λj a=>?_);refine awU ?_;exact⟨cB,tj,ti,sf,bX,aa,⟨a.aZ 0,a.aZ 1,a.aZ 4,a.aZ 2,a.aZ 3⟩,a.only⟩
set_option maxHeartbeats 4000000 in
def as6 m A(c cB tj ti sf bX)(s o)w(dx:XQ w cB tj ti sf bX m A c s)(E:qi w m A c)(hv:hX m)(T:m.data.length<=140737488355328)(U:1<=s)(hk:0<=o/\o<nI m s):
 aD ax 236 #[J R o,ay (ab ⟨cB,0,af⟩),ay (ab ⟨tj,0,af⟩),ay (ab ⟨ti,0,af⟩),ay (ab ⟨sf,0,af⟩),ay (ab ⟨bX,0,af⟩)] w λe w'=>∃O S,e=aA (mz (yn m s o) O S)/\e2 w.heap.size w' O S (yn m s o).data/\aq w w':=by
 obtain⟨vU,V,X,N⟩:=al7 hv U hk.1 hk.2;obtain⟨t1,t2,t3⟩:=hv.b8;obtain⟨F,I,hc,M,hsz⟩:=dx;obtain⟨r,hr⟩:=ex (cS m);obtain⟨q,L⟩:=ex (nI m s);have y:=Q1 hv U;obtain⟨p,x⟩:=ex (tP m s o);obtain⟨f,K⟩:=ex (yn m s o);obtain⟨d,hdd⟩:=ex (K2 m);have apf:(if d then q -1 -o else o)=p:=by rw[<-hdd,<-L,<-x];rfl
 rw[x]at vU V X N;rw[hr]at N t2 t3 y M;rw[L]at V hk y I;rw[hdd]at F;obtain⟨j,G⟩:=ex (p*s);rw[G]at X N;obtain⟨z,H⟩:=ex (min s (r -j));have Gx:=hid (show G8 m (m.to+j) z=f by rw[<-K,<-H,<-G,<-hr,<-x];rfl);rw[K];have Q:=hid H;have t:=hid G;have b5:=hid E;have P:=hid (λW=>lN _ r W t1 ae t3);have C:=hid (λW c3=>asX m (m.to+j) z A c W hv (E.aH c3) T ae ae ae);rw[Gx]at C;have l:=hid (And.intro F (And.intro I (And.intro hc (And.intro M hsz))));obtain⟨y,mI⟩:=y;clear hr L x K hdd H F I hc M hsz E hv T;cases d;·obtain rfl:o=p:=aF;go_enter Tryz.func236,Tryz.ntmps236;have a:=bf w;go_step;refine ag ?_;refine bx a #[J _ 0,J _ 0,J _ 0,J _ 0,ad _ 0 0] (λY w1 a=>?_);refine ag ?_;refine iK l.out.1 a.only ?_;refine ct ?_;refine bN a [9,19,23,24] (λi u=>match i with|9=>J R (m.to+r)|19=>bg #[av #[J R f.k,J R f.to,J R f.fr,J R f.n,ad u.A f.data.length u.c],ak aB]|23=>ay (ab ⟨u.b,0,af⟩)|_=>aY) (λg=>λ|19=>cc ((g 19).A) ((g 19).c) f.data|23=>ai ((g 23).b) #[J R 0,J R 0,J R 0,J R 0,ad af 0 0] 73|24=>ai ((g 23).b) #[J R f.k,J R f.to,J R f.fr,J R f.n,ad (g 19).A f.data.length (g 19).c] 73|_=>emp) (λ|24=>[24]|_=>[]) (λ_=>[]) (λ|19=>[19]|23=>[23]|24=>[19,23]|_=>[]) [0,10,20,25] (λg=>?_);refine aL _ (λ_ _ a=>mg (cs':=#[J R m.k,J R m.to,J R m.fr,J R m.n,ad A m.data.length c]) aa aa (aW.aH l.2.2.1 a.only) aw (of_decide_eq_true aw) aw aw) ?_;refine aK ?_;refine aL (J _ _) (λ_ _ a=>fy aa aa (aW.aH l.2.2.2.1 a.only) aa aw) ?_;refine aK ?_;refine aL (J _ s) (λ_ _ a=>fy aa aa (aW.aH l.2.2.2.2 a.only) aa aw) ?_;refine aL _ (λ_ _ _=>nH _ _ _ _ aa _ _ j aa aa t ae ae) ?_;refine tR _ j (m.to+j) ?_;refine aL (J _ s) (λ_ _ a=>fy aa aa (aW.aH l.2.2.2.2 a.only) aa aw) ?_;refine aL _ (λ_ _ a=>mg (cs':=#[J R m.to,J R r]) aa aa (aW.aH l.2.2.2.1 a.only) aw (of_decide_eq_true aw) aw aw) ?_;refine dD (λ_ _ _=>P _) ?_;refine aK ?_;refine aL (J _ _) (λ_ _ a=>fy aa aa (aW.aH l.2.2.2.1 a.only) aa aw) ?_;refine Hc _ _ r ?_;refine aK ?_;refine aL (J _ s) (λ_ _ a=>fy aa aa (aW.aH l.2.2.2.2 a.only) aa aw) ?_;refine aL _ (λ_ _ _=>nH _ _ _ _ aa _ _ j aa aa t ae ae) ?_;refine Hc r j (r -j) ?_;refine aL (J R z) (λ_ _ _=>by(have h:=Q.out;go_simp;try rw[h])) ?_;refine aK ?_;refine Ea (λ_ _ a=>C _ a.only) ?_;refine c7 ?_;refine qB _ ?_;refine fY _ ?_;refine aK ?_;refine bQ λaR a=>?_;generalize (g 19).A=B at a⊢;generalize (g 19).c=D at a⊢;generalize (g 23).b=Z at a⊢;replace a:=a.drop 1;refine ag ?_;refine bq a 2 #[J R f.k,J R f.to,J R f.fr,J R f.n,ad B f.data.length D] ?_;refine a' a 0 (av _) (λbL a=>?_);refine an ?_;go_wp2_with fail;refine dn (v:=_) (jd aa _ _ _ _ _ _ _ aa (a.aZ 0) fW aa aw) aa (⟨_,_,aa,(a.fresh 1).CO,a.only⟩)
 .have apf:q -1 -o=p:=aF;go_enter Tryz.func236,Tryz.ntmps236;have a:=bf w;go_step;refine ag ?_;refine bx a #[J _ 0,J _ 0,J _ 0,J _ 0,ad _ 0 0] (λY ca a=>?_);refine ag ?_;refine iK l.out.1 a.only ?_;refine ag ?_;refine iK l.out.2.1 a.only ?_;refine mN q 1 (q -1) ?_;refine ah ?_;refine mN _ o p ?_;refine ig ?_;refine bN a [9,19,23,24] (λi u=>match i with|9=>J R (m.to+r)|19=>bg #[av #[J R f.k,J R f.to,J R f.fr,J R f.n,ad u.A f.data.length u.c],ak aB]|23=>ay (ab ⟨u.b,0,af⟩)|_=>aY) (λg=>λ|19=>cc ((g 19).A) ((g 19).c) f.data|23=>ai ((g 23).b) #[J R 0,J R 0,J R 0,J R 0,ad af 0 0] 73|24=>ai ((g 23).b) #[J R f.k,J R f.to,J R f.fr,J R f.n,ad (g 19).A f.data.length (g 19).c] 73|_=>emp) (λ|24=>[24]|_=>[]) (λ_=>[]) (λ|19=>[19]|23=>[23]|24=>[19,23]|_=>[]) [0,10,20,25] (λg=>?_);refine aL _ (λ_ _ a=>mg (cs':=#[J R m.k,J R m.to,J R m.fr,J R m.n,ad A m.data.length c]) aa aa (aW.aH l.2.2.1 a.only) aw (of_decide_eq_true aw) aw aw) ?_;refine aK ?_;refine aL (J _ _) (λ_ _ a=>fy aa aa (aW.aH l.2.2.2.1 a.only) aa aw) ?_;refine aK ?_;refine aL (J _ s) (λ_ _ a=>fy aa aa (aW.aH l.2.2.2.2 a.only) aa aw) ?_;refine aL _ (λ_ _ _=>nH _ _ _ _ aa _ _ j aa aa t ae ae) ?_;refine tR _ j (m.to+j) ?_;refine aL (J _ s) (λ_ _ a=>fy aa aa (aW.aH l.2.2.2.2 a.only) aa aw) ?_;refine aL _ (λ_ _ a=>mg (cs':=#[J R m.to,J R r]) aa aa (aW.aH l.2.2.2.1 a.only) aw (of_decide_eq_true aw) aw aw) ?_;refine dD (λ_ _ _=>P _) ?_;refine aK ?_;refine aL (J _ _) (λ_ _ a=>fy aa aa (aW.aH l.2.2.2.1 a.only) aa aw) ?_;refine Hc _ _ r ?_;refine aK ?_;refine aL (J _ s) (λ_ _ a=>fy aa aa (aW.aH l.2.2.2.2 a.only) aa aw) ?_;refine aL _ (λ_ _ _=>nH _ _ _ _ aa _ _ j aa aa t ae ae) ?_;refine Hc r j (r -j) ?_;refine aL (J R z) (λ_ _ _=>by(have h:=Q.out;go_simp;try rw[h])) ?_;refine aK ?_;refine Ea (λ_ _ a=>C _ a.only) ?_;refine c7 ?_;refine qB _ ?_;refine fY _ ?_;refine aK ?_;refine bQ λcF a=>?_;generalize (g 19).A=B at a⊢;generalize (g 19).c=D at a⊢;generalize (g 23).b=Z at a⊢;replace a:=a.drop 1;refine ag ?_;refine bq a 2 #[J R f.k,J R f.to,J R f.fr,J R f.n,ad B f.data.length D] ?_;refine a' a 0 (av _) (λc6 a=>?_);refine an ?_;go_wp2_with fail;refine dn (v:=_) (jd aa _ _ _ _ _ _ _ aa (a.aZ 0) fW aa aw) aa (⟨_,_,aa,(a.fresh 1).CO,a.only⟩)
def alD m A c(s b)w(l:qi w m A c)(hv:hX m)(p:m.data.length<=140737488355328)(d:1<=s)(hk:0<=b/\b<nI m s):
 aD ax 222 #[mz m A c,J R s,J R b] w λe w'=>∃f j,e=aA (bg #[mz (yn m s b) f j,ak aB])/\e2 w.heap.size w' f j (yn m s b).data/\aq w w':=by
 have o:=hv.b8;have h:=hid (λW=>Rc m A c s W o.2.1 ae d);have u:=hid (λW=>as7 m A c s W hv d);have i:=hid (λW cB tj ti sf bX h1 g=>as6 m A c cB tj ti sf bX s b W h1 (l.aH g) hv p d hk);obtain⟨q,t⟩:=ex (nI m s);obtain⟨E,r⟩:=ex (yn m s b);rw[r]at i⊢;rw[t]at hk h;obtain⟨D,hk2⟩:=hk;have hk3:¬b<0:=ae;have hk4:¬b>=q:=ae;clear t r o hv d p l;go_enter func222,ntmps222;have a:=bf w;go_step;refine ag ?_;refine bM a (av _) (λz w1 a=>?_);refine bx a #[J _ 0,J _ 0,J _ 0,J _ 0,ad _ 0 0] (λB F a=>?_);refine AV ?_;refine bq a 1 #[J R m.k,J R m.to,J R m.fr,J R m.n,ad A m.data.length c] ?_;refine ah ?_;refine bA (h _) a (λG a=>?_);refine v2 ?_;refine ag ?_;refine bq a 1 #[J R m.k,J R m.to,J R m.fr,J R m.n,ad A m.data.length c] ?_;refine ah ?_;refine a6 (u _) ?_;rintro e H ⟨cB,tj,ti,sf,bX,rfl,x,g⟩;replace a:=a.aH g;refine ba ?_;refine ah ?_;refine dB (i.out _ _ _ _ _ _ x a.only) a (λy C I a=>?_);refine a' a 1 (av _) (λK a=>?_);refine bP ?_;go_wp2_with fail;refine dn (v:=_) (mP aa aa aa (a.aZ 1) aw aw) aa (⟨_,_,aa,(a.fresh 0).CO,a.only⟩)
abbrev jQ:=(Int×Int)×Int
def yp:jQ:=((0,0),0)
def nf(w:aM)(A:Option bU)(S:List jQ):Prop:=
 0<S.length->∃b off,A=ab ⟨b,off,af⟩/\∀j,j<S.length->w.cell? ⟨b,off+j*3,af⟩=ab (J R (S[j]?.getD yp).1.1)/\w.cell? ⟨b,off+j*3+1,af⟩=ab (J R (S[j]?.getD yp).1.2)/\w.cell? ⟨b,off+j*3+2,af⟩=ab (J R (S[j]?.getD yp).2)
def nf.only{F w w' A S}(h:nf w A S)(k:ar F w w')(c:∀b off,A=ab ⟨b,off,af⟩->¬F b):nf w' A S:=λd=>by obtain⟨b,off,rfl,hc⟩:=h d;exact⟨b,_,rfl,λj a=>⟨k.cell (hc j a).1 (c b _ aa),k.cell (hc j a).2.1 (c b _ aa),k.cell (hc j a).2.2 (c b _ aa)⟩⟩
def nf.aH{w w' A S}(h:nf w A S)(k:aq w w'):nf w' A S:=h.only k (λ_ _ _ a=>a)
def oc(w:aM)(p:Nat)(S:List jQ):Prop:=∃A c,w.heap[p]?=ab (bc #[ad A S.length c] 411 (0,0))/\nf w A S/\S.length<=1048576
def oc.aH{w w' p S}(h:oc w p S)(k:aq w w'):oc w' p S:=by obtain⟨A,c,h1,a,b⟩:=h;exact⟨A,c,k.heap h1 (λh=>h),a.aH k,b⟩
def jS(S:List jQ):Prop:=S.Pairwise (λx y=>x.1.1+x.1.2<=y.1.1)/\∀x∈S,eD x.1/\0<x.1.2
def xk p S w(h:oc w p S):aD ax 311 #[ay (ab ⟨p,0,af⟩)] w λe w'=>e=aA (J R S.length)/\w=w':=by obtain⟨A,c,h1,a,d⟩:=h;have f:=cell_of_one h1;have b:=hid a;clear h1 a;go_enter func311,ntmps311;go_wp2;go_ret;exact⟨aa,aa⟩
def IsCut(n:Nat)(p:Nat->Bool)(k:Nat):Prop:=k<=n/\(∀t,t<k->p t=au)/\(∀t,k<=t->t<n->p t=aB)
def Nd (g:Nat) dB n p w (G:n<=1048576) (A:∀args w,(kj g args).run ax w=a7 (.enter g args) w)
 (s:∀(W) (i:Nat),i<n->aq w W->aD ax g (#[J R i]++dB) W λe w'=>e=aA (ak (p i))/\aq W w')
 (c:∀a b,a<=b->b<n->p a=aB->p b=aB):
 aD ax 287 #[J R n,dJ (ej g) #[] dB] w λe w'=>∃k:Nat,e=aA (J R k)/\IsCut n p k/\aq w w':=by
 have l:=hid (And.intro s c);clear s c;go_enter func287,ntmps287;go_wp2_with fail;go_loopg [5,6] (n+1) (λu y hv wr=>∃lo hi:Nat,y=J R lo/\hv=J R hi/\lo<=hi/\hi<=n/\hi -lo<u/\aE ((∀t,t<lo->p t=au)/\(∀t,hi<=t->t<n->p t=aB))/\aq w wr);case atStart=>exact⟨0,n,aa,aa,cQ _,cm _,ae,hid ⟨λt h=>ae,λt h1 q=>ae⟩,ar.refl _ _⟩
 case round=>
  obtain⟨lo,hi,rfl,rfl,h1,q,B,d,r⟩:=hrel;have f:=hid r;clear r;by_cases hlt:lo<hi
  .have C:(lo:Int)<(hi:Int):=ae;obtain⟨m,c⟩:∃m,m=(lo+hi)/2:=⟨_,aa⟩;have F:((lo:Int)+(hi:Int))/2=(m:Int):=ae;have D:lo<=m:=ae;have E:m<hi:=ae;have z:=hid c;have hc:=l.out.1 wr m ae f.out;clear c;cases hp:p m with
   |false=>
    rw[hp]at hc;have o:=hid hp;clear hp;go_wp2_with (go_at_fn g;refine hc.mono ?_;clear hc;rintro e w1 ⟨rfl,hg1⟩);have j:=hid (aq.trans f.out hg1);clear hg1;go_roundg (hi -(m+1)+1);case measure=>omega
    case rel=>exact⟨m+1,hi,aS,aa,ae,q,ae,hid ⟨λt H=>(by
     cases h:p t with
     |false=>rfl
     |true=>have:=l.out.2 t m ae ae h;rw[o.out]at this;cases this),d.out.2⟩,j.out⟩
   |true=>
    rw[hp]at hc;have o:=hid hp;clear hp;go_wp2_with (go_at_fn g;refine hc.mono ?_;clear hc;rintro e w1 ⟨rfl,hg1⟩);have j:=hid (aq.trans f.out hg1);clear hg1;go_roundg (m -lo+1);case measure=>omega
    case rel=>exact⟨lo,m,aa,aS,ae,ae,ae,hid ⟨d.out.1,λt v x=>l.out.2 m t v x o.out⟩,j.out⟩
  .obtain rfl:lo=hi:=ae;go_wp2;go_ret;exact⟨lo,aa,⟨q,d.out.1,d.out.2⟩,f.out⟩
def kF(E:List (Int×Int)):Int:=E.foldr (λe n=>e.2+n) 0
def Zj{E}(h:∀e∈E,0<=e.2):0<=kF E:=by
 induction E with
 |nil=>exact Int.le_refl _
 |cons e r a=>grind[kF]
def Rv(E F):kF (E++F)=kF E+kF F:=by
 induction E with
 |nil=>simp[kF]
 |cons e r a=>grind[kF]
def Zl{E}(h:∀e∈E,0<=e.2)k:0<=kF (E.take k)/\kF (E.take k)<=kF E:=by have h1:=Rv (E.take k) (E.drop k);rw[oV]at h1;have b:=Zj (E:=E.take k) (λe a=>h e (List.mem_of_mem_take a));have c:=Zj (E:=E.drop k) (λe a=>h e (List.mem_of_mem_drop a));omega
def Zk{E:List (Int×Int)}{k x}(hx:E[k]?=ab x):kF (E.take (k+1))=kF (E.take k)+x.2:=by rw[fu,hx,yb,Rv];simp[kF]
def avJ A c E w(m:jy w A E)(hle:E.length<=1048576)(hv:∀e∈E,0<=e.2)(n:kF E<=4611686018427387903):
 aD ax 137 #[ad A E.length c] w λe w'=>e=aA (bg #[J R (kF E),ak aB])/\aq w w':=by
 have p:=hid m;have t:=hid hv;have r:=hid n;clear m hv n;go_enter func137,ntmps137;have a:=bf w;go_upto_region 0 with fail;refine cM ?_;refine v2 ?_;refine an ?_;go_upto_region 1 with fail;refine cM ?_;refine ah ?_;refine an ?_;go_upto_region 2 with fail;refine cM ?_;refine v3 ?_;refine Lh ?_;go_loopw [4,9] (λo i wr=>∃q:Nat,q<=E.length/\i=J R q/\o=J R (kF (E.take q))/\aj w (λ_=>False) wr []) (λo i wr=>E.length -(cw i).toNat);case atStart=>grind[kF]
 case round=>
  clear a;obtain⟨q,B,rfl,rfl,a⟩:=hrel;obtain⟨s,b⟩:=ex (kF (E.take q));rw[b];have j:=hid b;by_cases hlt:q<E.length
  .have z:(q:Int)<(E.length:Int):=ae;obtain⟨x,hx⟩:∃x,E[q]?=ab x:=⟨_,cj hlt⟩;have k:=hid hx;obtain⟨fT,of,rfl,hcell⟩:=p ae;obtain⟨d,f⟩:=hcell q hlt;simp only[hx,pG]at d f;obtain⟨dc,bm⟩:=x;simp only at d f;have g:=Zl t (q+1);rw[Zk k,j]at g;have u:=r.out;simp only at g;have y:¬s+bm>4611686018427387903:=ae;have hg1:-9223372036854775808<=s+bm:=ae;have l:=hid (And.intro d f);clear b hx hcell g u d f;go_upto_region 4 with fail;refine cM ?_;refine aI (ay (ab ⟨fT,(of+q*2),af⟩)) (cH 176 35 2 (bb 7) (bb 9) aa underlying176 aS _ _ _ _ _ _ aa aa hlt aa) ?_;refine aI (av #[J R dc,J R bm]) (acz 35 aa aa (a.only.cell l.1 (λh=>h)) (a.only.cell l.2 (λh=>h)) Tryz.underlying35 aa aS) ?_;refine bx a #[J _ 0,J _ 0] (λv w1 a=>?_);refine a' a 0 (av _) (λC a=>?_);refine an ?_;go_upto_region 5 with fail;refine cM ?_;refine v2 ?_;refine pl a 0 1 ?_;refine pad s bm (s+bm) ?_;refine ah ?_;refine an ?_;go_upto_region 6 with fail;refine cM ?_;refine v2 ?_;refine an ?_;go_wp2_with fail;go_roundw;case rel=>exact⟨q+1,ae,by go_num,by rw[Zk k,j],a.drop 0⟩
   case measure=>grind[cw]
  .obtain rfl:q=E.length:=ae;rw[ik]at b;go_upto_region 9 with fail;refine cM ?_;refine v3 ?_;refine an ?_;go_wp2_with fail;go_ret2;exact⟨by rw[b];rfl,a.only⟩
def cC(w:aM)(A:Option bU)(ms:List bG):Prop:=0<ms.length->∃b off,A=ab ⟨b,off,af⟩/\∀(j:Nat) (m:bG),ms[j]?=ab m->∃a c,(w.cell? ⟨b,off+j*5,af⟩=ab (J R m.k)/\w.cell? ⟨b,off+j*5+1,af⟩=ab (J R m.to)/\w.cell? ⟨b,off+j*5+2,af⟩=ab (J R m.fr)/\w.cell? ⟨b,off+j*5+3,af⟩=ab (J R m.n)/\w.cell? ⟨b,off+j*5+4,af⟩=ab (ad a m.data.length c))/\qi w m a c
def cC.aH{w w' A ms}(h:cC w A ms)(g:aq w w'):cC w' A ms:=λo=>by obtain⟨b,off,e,hc⟩:=h o;refine⟨b,_,e,λj m n=>?_⟩;obtain⟨a,c,⟨d,h1,f,i,k⟩,l⟩:=hc j m n;exact⟨a,c,⟨g.cell d (λh=>h),g.cell h1 (λh=>h),g.cell f (λh=>h),g.cell i (λh=>h),g.cell k (λh=>h)⟩,l.aH g⟩
theorem cC.h9{w A ms}(h:cC w A ms){j m}(f:ms[j]?=ab m):∃d l a c,A=ab ⟨d,l,af⟩/\(∀W,aq w W->qi W m a c)/\∀W,aq w W->W.rangeAt d (l+j*5) [J R m.k,J R m.to,J R m.fr,J R m.n,ad a m.data.length c]:=by
 have u:=(eQ.1 f).1;obtain⟨b,off,e,hc⟩:=h ae;obtain⟨a,c,⟨o,h1,p,q,r⟩,s⟩:=hc j m f;refine⟨b,_,a,c,e,λW g=>s.aH g,λW g i v hi=>?_⟩;have t:i<5:=(eQ.1 hi).1;obtain rfl|rfl|rfl|rfl|rfl:i=0\/i=1\/i=2\/i=3\/i=4:=ae;·cases hi;exact g.cell o (λh=>h)
 .cases hi;exact g.cell h1 (λh=>h)
 .cases hi;exact g.cell p (λh=>h)
 .cases hi;exact g.cell q (λh=>h)
 .cases hi;exact g.cell r (λh=>h)
def G9(s:Int)(m:bG):List bG:=(dF (nI m s).toNat).map (λ(k:Nat)=>yn m s (k:Int))
def ew(s:Int)(ms:List bG):List bG:=ms.flatMap (G9 s)
def lL(s:Int)(ms:List bG)(i:Nat):Nat:=(ew s (ms.take i)).length
theorem al6 s m:(G9 s m).length=(nI m s).toNat:=by simp[G9]
theorem YT s(a b):ew s (a++b)=ew s a++ew s b:=by simp[ew]
theorem Q4{s ms i m}(h:ms[i]?=ab m):lL s ms (i+1)=lL s ms i+(nI m s).toNat:=by grind[lL,fu,ew,al6]
theorem Q3 s ms:lL s ms ms.length=(ew s ms).length:=by grind[lL]
def YC{s ms i j}(h:i<=j):lL s ms i<=lL s ms j:=by grind[lL,YT,oV]
def amf{s ms k i m}(a:ms[k]?=ab m)(h1:lL s ms k<=i)(b:i<lL s ms (k+1)):(ew s ms)[i]?=ab (yn m s ((i -lL s ms k:Nat):Int)):=by
 have hk:=(eQ.1 a).1;have dS:ms=ms.take k++(m::ms.drop (k+1)):=by grind[oV,List.drop_eq_getElem_cons]
 have e:ew s ms=ew s (ms.take k)++(G9 s m++ew s (ms.drop (k+1))):=by
  conv=>lhs;rw[dS]
  rw[YT];rfl
 grind[Q4,lL,G9]
structure Bw (w:aM) (p:Nat) (s:Int) (ms:List bG):Prop where
 ex:∃F gY G qz A c,(w.cell? ⟨p,0,af⟩=ab (J R s)/\w.cell? ⟨p,1,af⟩=ab (ad F (ms.length+1) gY)/\w.cell? ⟨p,2,af⟩=ab (ad G (ms.length+1) qz)/\w.cell? ⟨p,3,af⟩=ab (ad A ms.length c))/\
  cX w F ((dF (ms.length+1)).map (λi=>(lL s ms i:Int)))/\cC w A ms
 ek:(ew s ms).length<=1048576/\ms.length<=1048576
 size:1<=s
 valid:∀m∈ms,hX m/\m.data.length<=140737488355328
def Bw.aH{w w' p s ms}(h:Bw w p s ms)(g:aq w w'):Bw w' p s ms:=by obtain⟨F,gY,G,qz,A,c,⟨a,h1,b,d⟩,e,f⟩:=h.ex;exact⟨⟨F,gY,G,qz,A,c,⟨g.cell a (λh=>h),g.cell h1 (λh=>h),g.cell b (λh=>h),g.cell d (λh=>h)⟩,e.aH g,f.aH g⟩,h.ek,h.size,h.valid⟩
def avm s(F G)(n gY qz)f w(h:n<=1048576)(c:cX w F ((dF (n+1)).map f)):
 aD ax 140 #[av #[J R s,ad F (n+1) gY,ad G (n+1) qz]] w λe w'=>e=aA (J R (f n))/\aq w w':=by
 obtain⟨b,o,rfl,hcell⟩:=c aT;have z:=by have:=hcell n aT;simpa using this
 clear hcell c;have d:n<n+1:=XN n;go_enter func140,ntmps140;have a:=bf w;go_step;refine ag ?_;refine bM a (av _) (λg w1 a=>?_);refine cJ ?_;refine pl a 0 1 ?_;refine ah ?_;refine pl a 0 1 ?_;refine ah ?_;refine mN _ 1 (n:Int) ?_;refine aI _ (cH 82 3 1 _ _ aa ij aw _ _ _ _ _ ((o+n)) aa aa d ae) ?_;refine M1 z a.only ?_;refine Ji ?_;exact⟨aa,a.only⟩
def anY F(n gY da jN q)g f w(l:n<=1048576)(d:cX w F ((dF (n+1)).map f))(j:w.cell? ⟨da,1,af⟩=ab (ad F (n+1) gY))(k:w.cell? ⟨jN,0,af⟩=ab (J R g))(m:q<n):
 aD ax 288 #[J R (q:Int),ay (ab ⟨da,0,af⟩),ay (ab ⟨jN,0,af⟩)] w λe w'=>e=aA (ak (decide (g<f (q+1))))/\aq w w':=by
 obtain⟨b,o,rfl,hcell⟩:=d aT;have h:w.cell? ⟨b,o+(q+1),af⟩=ab (J R (f (q+1))):=by have:=hcell (q+1) aF;simpa [show q+1<n+1 by omega]using this
 clear hcell d;obtain⟨c,i⟩:=ex (q+1);rw[i]at h⊢;have hb2:c<n+1:=ae;go_enter func288,ntmps288;have a:=bf w;go_step;refine ag ?_;refine ig ?_;refine bN a [] (λ_ _=>aY) (λ_ _=>emp) (λ_=>[]) (λ_=>[]) (λ_=>[]) [] (λp=>?_);refine aK ?_;refine l8 j ?_;refine aK ?_;refine tR _ 1 (c:Int) ?_;refine aL _ (λ_ _ _=>cH 82 3 1 _ _ aa ij aw _ _ _ _ _ ((o+c)) aa aa hb2 ae) ?_;refine l8 h ?_;refine l8 k ?_;refine bp ?_;refine bQ λw1 a=>?_;refine bB ?_;exact⟨aa,a.only⟩
def ang args w:(kj 288 args).run ax w=a7 (.enter 288 args) w:=aS
def IsCut.place{n}{f:Nat->Int}{i q}(h:IsCut n (λq=>decide (i<f (q+1))) q)(h1:f 0<=i)(g:i<f n):q<n/\f q<=i/\i<f (q+1):=by
 obtain⟨a,b,c⟩:=h;simp only[decide_eq_true_eq,decide_eq_false_iff_not]at b c
 have e:q<n:=by
  rcases Nat.lt_or_ge q n with h|h;·omega
  .exfalso;obtain rfl:q=n:=ae;rcases lJ q with d|d;·grind
   .have:=b (q -1) ae;grind
 refine⟨e,?_,c q (cm _) e⟩;rcases lJ q with d|d;·grind
 .have:=b (q -1) ae;grind
def anV(s d)(F G)(n gY qz)f w(j:n<=1048575)(p:cX w F ((dF (n+1)).map f))(r:∀a b,a<=b->b<=n->f a<=f b)(h1:f 0<=d)(o:d<f n):
 aD ax 221 #[av #[J R s,ad F (n+1) gY,ad G (n+1) qz],J R d] w λe w'=>∃q:Nat,e=aA (J R (q:Int))/\(q<n/\f q<=d/\d<f (q+1))/\aq w w':=by
 have t:=hid p;have y:=hid j;have u:=hid r;have m:=hid (And.intro h1 o);have z:=j;clear p j r h1 o;go_enter func221,ntmps221;have c:=bf w;go_step;refine ag ?_;refine bM c (av _) (λk w1 c=>?_);refine bM c (J _ d) (λl A c=>?_);refine cJ ?_;refine pl c 1 1 ?_;refine ah ?_;refine mN _ 1 (n:Int) ?_;refine ah ?_;refine a6 (Nd 288 #[ay (ab ⟨k,0,af⟩),ay (ab ⟨l,0,af⟩)] n (λq=>decide (d<f (q+1))) _ ae ang (λW q x i=>anY F n gY k l q d f W ae (t.out.aH (c.only.trans i (λ_ _ h=>h))) (ar.cell i ((c.aZ 1).cell 1 aa) (λh=>h)) (ar.cell i ((c.aZ 0).cell 0 aa) (λh=>h)) x) (λa b hab hb v=>by simp at v⊢;have:=u (a+1) (b+1) ae ae;omega)) ?_;rintro e B ⟨q,rfl,hcut,g⟩;replace c:=c.aH g;refine ba ?_;refine Ji ?_;exact⟨q,aa,IsCut.place hcut m.1 m.2,c.only⟩
def Fo p s ms w(f:Bw w p s ms):
 aD ax 60 #[ay (ab ⟨p,0,af⟩)] w λe w'=>e=aA (J R ((ew s ms).length:Int))/\aq w w':=by
 obtain⟨F,gY,G,qz,A,c,⟨k,l,m,u⟩,n,x⟩:=f.ex;have t:=f.ek;have d:=hid (λW r=>avm s F G ms.length gY qz (λi=>(lL s ms i:Int)) W ae r);rw[Q3]at d;have o:=hid n
 have q:aE (∀W,aq w W->W.rangeAt p 0 [J R s,ad F (ms.length+1) gY,ad G (ms.length+1) qz]):=hid (λW g j v b=>by
  match j,b with
  |0,b=>simpa using(g.cell k (λh=>h)).trans aF
  |1,b=>simpa using(g.cell l (λh=>h)).trans aF
  |2,b=>simpa using(g.cell m (λh=>h)).trans aF);clear t k l m u n x;go_enter func60,ntmps60;have a:=bf w;go_step;refine ag ?_;refine ah ?_;refine ag ?_;refine v2 ?_;refine jt ?_;refine aI (av #[J R s,ad F (ms.length+1) gY,ad G (ms.length+1) qz]) (by(refine e6 _ _ aa p 0 aa _ (q _ a.only) Tryz.underlying246 aa aw)) ?_;refine bA (d _ (o.out.aH a.only)) a (λw1 a=>?_);refine Ji ?_;exact⟨aa,a.only⟩
def adM(p x)s ms w(t:Bw w p s ms)(qK:ms.length<=1048575)(hi:x<(ew s ms).length):
 aD ax 139 #[ay (ab ⟨p,0,af⟩),J R (x:Int)] w λe w'=>∃(q:Nat) (S:Option bU) (Y:Nat) (m:bG),e=aA (bg #[av #[J R (x:Int),J R (q:Int),J R m.k,J R m.to,J R m.fr,J R m.n,ad S m.data.length Y],ak aB])/\(ew s ms)[x]?=ab m/\e2 w.heap.size w' S Y m.data/\aq w w':=by
 obtain⟨F,gY,G,qz,A,c,⟨O,P,z2,z3⟩,Q,N7⟩:=t.ex;obtain⟨ek,Zq⟩:=t.ek;have L:=t.size;have ai3:=hid (λW E=>Fo p s ms W (t.aH E));have fl:0<ms.length:=by grind[ew]
 obtain⟨X,bK,rfl,aas⟩:=N7 fl;obtain⟨B,z,rfl,aat⟩:=Q aT;have cp:=hid (λW E=>anV s (x:Int) (ab ⟨B,z,af⟩) G ms.length gY qz (λi=>(lL s ms i:Int)) W qK (Q.aH E) (λa b hab _=>by have:=YC (s:=s) (ms:=ms) hab;omega) (by simp[lL,ew]) (by grind[Q3]))
 have P5:aE (∀W,aq w W->W.rangeAt p 0 [J R s,ad (ab ⟨B,z,af⟩) (ms.length+1) gY,ad G (ms.length+1) qz]):=hid (λW g j v o=>by
  match j,o with
  |0,o=>simpa using(g.cell O (λh=>h)).trans aF
  |1,o=>simpa using(g.cell P (λh=>h)).trans aF
  |2,o=>simpa using(g.cell z2 (λh=>h)).trans aF);have fk:(x:Int)<((ew s ms).length:Int):=ae;have cP:=hid (And.intro hi (And.intro ek Zq));have vb:=hid t.valid;have gR:=hid aas;have rm:=hid aat;clear ek Zq hi aas aat N7 Q t z2;go_enter Tryz.func139,Tryz.ntmps139;have f:=bf w;go_step;refine ag ?_;refine bx f #[J _ 0,J _ 0,J _ 0,J _ 0,J _ 0,J _ 0,ad _ 0 0] (λed w1 f=>?_);refine ah ?_;refine ag ?_;refine v5 ?_;refine bA (ai3 _ f.only) f (λaR f=>?_);refine v2 ?_;refine jt ?_;refine aI (av #[J R s,ad (ab ⟨B,z,af⟩) (ms.length+1) gY,ad G (ms.length+1) qz]) (by(refine e6 _ _ aa p 0 aa _ (P5 _ f.only) Tryz.underlying246 aa aw)) ?_;refine ah ?_;refine a6 (cp _ f.only) ?_;rintro e bL ⟨q,rfl,hq,g⟩;replace f:=f.aH g;refine FM ?_;obtain⟨nP,I,K⟩:=hq;try simp only at I K
 obtain⟨m,y⟩:∃m,ms[q]?=ab m:=⟨_,cj nP⟩;obtain⟨U,aQ,⟨gK,dc,bm,lg,oK⟩,C2⟩:=gR q m y;have N:w.cell? ⟨B,z+q,af⟩=ab (J R (lL s ms q:Int)):=by have:=rm q aF;grind
 have hst:=amf (s:=s) y (i:=x) ae ae;have M:=Q4 (s:=s) y;have hv:=vb m (cL y);have cU:=(Q1 hv.1 L).1;obtain⟨D,Ac⟩:=ex (lL s ms q);rw[Ac]at I M hst N;rw[M]at K;obtain⟨d,hd⟩:=ex (x -D);rw[hd]at hst;obtain⟨l,H⟩:=ex (yn m s (d:Int));rw[H]at hst;have eJ:=hid hst;have V:=hid (λW g=>alD m U aQ s (d:Int) W (C2.aH g) hv.1 hv.2 L ae);rw[H]at V;have azV:(x:Int) -(D:Int)=(d:Int):=ae;have aze:D<=x:=ae;have azU:x<=1048576:=by have:=cP.out;omega
 have ajj:aE (∀W,aq w W->W.rangeAt X _ [J R m.k,J R m.to,J R m.fr,J R m.n,ad U m.data.length aQ]):=hid (λW g j v o=>by
  match j,o with
  |0,o=>simpa using(g.cell gK (λh=>h)).trans aF
  |1,o=>simpa using(g.cell dc (λh=>h)).trans aF
  |2,o=>simpa using(g.cell bm (λh=>h)).trans aF
  |3,o=>simpa using(g.cell lg (λh=>h)).trans aF
  |4,o=>simpa using(g.cell oK (λh=>h)).trans aF);have abq:q<ms.length+1:=ae;have ajD:=hid N;have C:=hid (And.intro O (And.intro P z3));clear y hst M hv cU Ac H hd I K L gK dc bm lg oK C2 N O P z3;refine ct ?_;refine bN f [22,26,27] (λi u=>match i with|22=>bg #[av #[J R l.k,J R l.to,J R l.fr,J R l.n,ad u.A l.data.length u.c],ak aB]|26=>ay (ab ⟨u.b,0,af⟩)|_=>aY) (λr=>λ|22=>cc ((r 22).A) ((r 22).c) l.data|26=>ai ((r 26).b) #[J R 0,J R 0,J R 0,J R 0,ad af 0 0] 73|27=>ai ((r 26).b) #[J R l.k,J R l.to,J R l.fr,J R l.n,ad (r 22).A l.data.length (r 22).c] 73|_=>emp) (λ|27=>[27]|_=>[]) (λ_=>[]) (λ|22=>[22]|26=>[26]|27=>[22,26]|_=>[]) [0,23,28] (λr=>?_);refine c7 ?_;refine l8 C.2.2 ?_;refine aK ?_;refine aL _ (λ_ _ _=>cH 24 73 5 _ _ aa eA aw _ _ _ _ _ _ aa aa nP aa) ?_;refine aL _ (λ_ _ f=>e6 73 _ aa X _ aa _ (ajj _ f.only) fW aa aw) ?_;refine iw ?_;refine l8 C.1 ?_;refine oL ?_;refine l8 C.2.1 ?_;refine aK ?_;refine aL _ (λ_ _ _=>cH 82 3 1 _ _ aa ij aw _ _ _ _ _ ((z+q)) aa aa abq ae) ?_;refine l8 ajD ?_;refine Hc _ _ _ ?_;refine Ea (λ_ _ f=>V _ f.only) ?_;refine c7 ?_;refine qB _ ?_;refine fY _ ?_;refine aK ?_;refine bQ λca f=>?_;generalize (r 22).A=T at f⊢;generalize (r 22).c=Z at f⊢;generalize (r 26).b=axj at f⊢;refine ja ?_;refine bq f 2 #[J R l.k,J R l.to,J R l.fr,J R l.n,ad T l.data.length Z] ?_;refine v2 ?_;refine a' f 0 (av _) (λcF f=>?_);refine bP ?_;go_wp2_with fail;refine dn (v:=_) (mP aa aa aa (f.aZ 0) aw aw) aa (⟨q,T,Z,l,aa,eJ,(f.fresh 1).CO,f.only⟩)
section
structure dX where
 l:List Int
 len:l.length=32
def dX.zero:dX:=⟨fq 32 0,aa⟩
def a1(o n:Int)(g h:dX)(S:aO):Array Value:=(J R o::J R n::(g.l.map a8++(h.l.map a8++[S]))).toArray
abbrev dC(o n:Int)(g h:dX)(S:aO):Value:=av (a1 o n g h S)
section
variable {o n:Int} {g h:dX} {S:aO}
theorem cN:(a1 o n g h S).size=67:=by simp[a1,g.len,h.len]
def mA:(a1 o n g h S)[0]?=ab (J R o):=aS
def jh:(a1 o n g h S)[1]?=ab (J R n):=aS
def eS:(a1 o n g h S)[66]?=ab S:=by simp only[a1,zG,x8];rw[oe (by simp[g.len]),oe (by simp[g.len,h.len])];simp[g.len,h.len]
def amw{a}:(a1 o n g h S).setIfInBounds 66 a=a1 o n g h a:=by simp only[a1,aj2,List.set_cons_succ];congr 3;rw[XG _ _ (by simp[g.len]),XG _ _ (by simp[g.len,h.len])];simp[g.len,h.len]
def vt(b:S.oneCell'=aB):(a1 o n g h S).all (·.oneCell')=true:=by
 rw[UU];intro v hv;have hv':v∈(J R o::J R n::(g.l.map a8++(h.l.map a8++[S]))):=by grind[a1]
 simp at hv';rcases hv' with rfl|rfl|⟨a,_,rfl⟩|⟨a,_,rfl⟩|rfl;all_goals first|rfl|omega
end
def jk(m:bG)(A:Option bU)(c:Nat):List Value:=[J R m.k,J R m.to,J R m.fr,J R m.n,ad A m.data.length c]
def cz(l:List (bG×Option bU×Nat)):List Value:=l.flatMap (λx=>jk x.1 x.2.1 x.2.2)
def BL(a b):cz (a++b)=cz a++cz b:=by simp[cz]
def D9 m A c:cz [(m,A,c)]=jk m A c:=aS
theorem YR l:(cz l).length=l.length*5:=by
 unfold cz;induction l with
 |nil=>rfl
 |cons a r b=>grind[jk]
def D8{l j x}(hx:l[j]?=ab x):∀i v,(jk x.1 x.2.1 x.2.2)[i]?=ab v->(cz l)[j*5+i]?=ab v:=by
 induction l generalizing j with
 |nil=>grind
 |cons a r c=>
  intro i v hv;have b:(jk a.1 a.2.1 a.2.2).length=5:=rfl;unfold cz;rw[List.flatMap_cons];cases j with
  |zero=>grind
  |succ j=>
   simp at hx;rw[oe ae,b,show(j+1)*5+i -5=j*5+i by omega];exact c hx i v hv
def QD(N:Nat)(w:aM)(A:Option bU)(c:Nat)(ms:List bG):Prop:=
 ∃l:List (bG×Option bU×Nat),l.map (·.1)=ms/\Row N w A ms.length c 73 5 (cz l)/\∀x∈l,e2 N w x.2.1 x.2.2 x.1.data
def QD.s8{N w A c ms}(h:QD N w A c ms):cC w A ms:=λo=>by
 obtain⟨l,h1,b,e⟩:=h;rcases b.cases with⟨_,n,_,_⟩|⟨g,cur,d,_⟩;·omega
 .refine⟨g,0,d,λj m a=>?_⟩;subst h1;rw[kB]at a;cases hx:l[j]? with
  |none=>rw[hx]at a;cases a
  |some x=>
   rw[hx]at a;simp at a;subst a;have f:=D8 hx
   have hc:∀i v,(jk _ _ _)[i]?=ab v->w.cell? ⟨g,0+j*5+i,_⟩=ab v:=λi v hv=>by obtain⟨k,bB,b7⟩:=b.cell (f i v hv);rw[d]at bB;injection bB with bB;injection bB with bB;subst bB;rw[kV];exact b7
   exact⟨_,_,⟨hc 0 _ aa,hc 1 _ aa,hc 2 _ aa,hc 3 _ aa,hc 4 _ aa⟩,(e x (cL hx)).cmd⟩
end
section
def BM(A:Option bU)(n c:Nat)(l:List (bG×Option bU×Nat)):br:=⟨λb=>dU A b\/∃x∈l,dU x.2.1 b,λw=>Row 0 w A n c 73 5 (cz l)/\∀x∈l,e2 0 w x.2.1 x.2.2 x.1.data,λw w' h a d=>
 ⟨(bn A n c 73 5 (cz l)).oA w w' (λb hb=>h b (bH hb)) (λb hb=>a b (bH hb)) d.1,λx hx=>(cc x.2.1 x.2.2 x.1.data).oA w w' (λb hb=>h b (b1 ⟨x,hx,hb⟩)) (λb hb=>a b (b1 ⟨x,hx,hb⟩)) (d.2 x hx)⟩⟩
def hD(t:br)(A:Option bU)(c:Nat)(ms:List bG):Prop:=∃l:List (bG×Option bU×Nat),l.map (·.1)=ms/\t=BM A ms.length c l
def hD.at9{t A c ms W}(h:hD t A c ms)(a:t.p W):QD 0 W A c ms:=by obtain⟨l,h1,rfl⟩:=h;exact⟨l,h1,a⟩
def hD.s8{t A c ms W}(h:hD t A c ms)(a:t.p W):cC W A ms:=(h.at9 a).s8
def hD.cmd{t A c ms}(h:hD t A c ms){j m}(a:ms[j]?=ab m):∃d f,(∀b,dU d b->t.c5 b)/\∀W,t.p W->qi W m d f/\∃g,A=ab ⟨g,0,af⟩/\W.rangeAt g (0+j*5) (jk m d f):=by
 obtain⟨l,h1,rfl⟩:=h;subst h1;rw[kB]at a;cases hx:l[j]? with
 |none=>grind
 |some x=>
  rw[hx]at a;simp at a;subst a;have n:=cL hx;refine⟨_,_,λb hb=>b1 ⟨x,n,hb⟩,λW e=>⟨(e.2 x n).cmd,?_⟩⟩;obtain⟨g,k,_⟩:=e.1.cell (D8 hx 0 _ aa);refine⟨g,k,λi v hi=>?_⟩;obtain⟨o,bB,b7⟩:=e.1.cell (D8 hx i _ hi);rw[k]at bB;injection bB with bB;injection bB with bB;subst bB;rw[kV];exact b7
def vQ{o n d c g h g2 b S a}:lay (a1 o n g h S) 0 (a1 d c g2 b a).toList=a1 d c g2 b a:=by grind[lay_all,cN]
section
variable {ao w:aM} {FX:Nat->Prop}
def gC(l:List (bG×Option bU×Nat)):br:=⟨λb=>∃x∈l,dU x.2.1 b,λw=>∀x∈l,e2 0 w x.2.1 x.2.2 x.1.data,λw w' h a c x hx=>
 (cc x.2.1 x.2.2 x.1.data).oA w w' (λb hb=>h b ⟨x,hx,hb⟩) (λb hb=>a b ⟨x,hx,hb⟩) (c x hx)⟩
def aj.Le{L}(h:aj ao FX w L):aj ao FX w (gC []::L):=h.new _ ⟨ar.refl _ _,λ_ h=>(ga h).elim,λ_ ⟨_,h,_⟩=>(ga h).elim⟩
def aj.Ld{L l m A c}(h:aj ao FX w (gC l::cc A c m.data::L)):aj ao FX w (gC (l++[(m,A,c)])::L):=by
 refine h.star.as 0 aa _ (λa x hx=>?_) (λb hb=>?_)
 .rcases jf.1 hx with hx|hx;·exact a.1 x hx
  .obtain rfl:x=(m,A,c):=aF;exact a.2.1
 .obtain⟨x,hx,hb⟩:=hb;rcases jf.1 hx with hx|hx;·exact bH ⟨x,hx,hb⟩
  .obtain rfl:x=(m,A,c):=aF;exact b1 hb
def aj.amR{L l m}(c:m.data=[])(h:aj ao FX w (gC l::L)):aj ao FX w (gC (l++[(m,af,0)])::L):=by
 refine h.as 0 aa _ (λa x hx=>?_) (λb hb=>?_)
 .rcases jf.1 hx with hx|hx;·exact a x hx
  grind[e2.nil]
 .obtain⟨x,hx,hb⟩:=hb;rcases jf.1 hx with hx|hx;·exact⟨x,hx,hb⟩
  .obtain rfl:x=(m,af,0):=aF;obtain⟨_,_,hb⟩:=hb;cases hb
def aj.BM{r l A n c}(h:aj ao FX w (bn A n c 73 5 (cz l)::gC l::r)):aj ao FX w (Go.Proofs.YtcmhplknoglbkaaGreat.BM A n c l::r):=h.star.as 0 aa _ (λh=>⟨h.1,h.2.1⟩) (λ_ hb=>hb)
variable {o n:Int} {g h:dX} {S gG:aO}
def YU(a:gG.cells=#[gG]:=by rfl):66+gG.cells.size<=(a1 o n g h S).size:=by grind[cN]
def YW(a:gG.cells=#[gG]:=by rfl):lay (a1 o n g h S) 66 gG.cells.toList=a1 o n g h gG:=by rw[a];exact amw
end
def Ja(o n)(g h)S A c ms w(hS:S.oneCell'=aB)(H:cC w A ms)(hle:ms.length<=1048576)(hv:∀m∈ms,m.data.length<=140737488355328):
 aD ax 56 #[dC o n g h S,ad A ms.length c] w λe w'=>∃s B t,e=aA (dC o n g h (ad s ms.length B))/\b3 w w' t/\hD t s B ms:=by
 have P:=hid H;have T:=hid hv;clear H hv;have azr:=hle;go_enter func56,ntmps56;have a:=bf w;go_upto_region 0 with fail;refine cM ?_;refine bM a (av _) (λcB w1 a=>?_);refine bx a (a1 0 0 dX.zero dX.zero _) (λL aR a=>?_);refine b4 ?_;refine a' a 1 (ad af 0 0) (λbL a=>?_) (hk:=YU) (hc:=YW);refine ag ?_;refine v3 ?_;refine an ?_;replace a:=a.pk [1,0];replace a:=a.Le.k8 (ar.refl _ _) (Row.nil _ _ 73 5);go_wp2_with fail;go_loopw [10] (λr wr=>∃(q:Nat) (f:Option bU) (j:Nat) (l:List (bG×Option bU×Nat)),q<=ms.length/\r=J R q/\aE (l.map (·.1)=ms.take q)/\aj w (λ_=>False) wr [bn f q j 73 5 (cz l),gC l,ai cB (a1 o n g h (ad f q j)) 26,ai L (a1 0 0 dX.zero dX.zero (ad af 0 0)) 26]) (λr wr=>ms.length -(cw r).toNat);case atStart=>exact⟨0,_,0,[],cQ _,aa,hid aa,a⟩
 case round=>
  clear a;obtain⟨q,f,j,l,hq,rfl,z,a⟩:=hrel;by_cases hlt:q<ms.length
  .have cI:(q:Int)<(ms.length:Int):=ae;obtain⟨m,p⟩:∃m,ms[q]?=ab m:=⟨_,cj hlt⟩;obtain⟨U,bK,y,D,E,F,G⟩:=cC.h9 P p;have M:=hid E;have N:=hid F;have O:=hid G;have Q:=hid p;have V:=T m (cL p);clear E F G p;go_upto_region 4 with fail;refine cM ?_;refine aI _ (cH 24 73 5 _ _ aa eA aw _ _ _ _ _ _ (by show ad A _ _=_;rw[M]) aa hlt aa) ?_;refine aI _ (by(refine e6 73 _ aa U _ aa _ (O _ a.only) fW aa aw)) ?_;refine bx a #[J _ 0,J _ 0,J _ 0,J _ 0,ad _ 0 0] (λX ca a=>?_);refine a' a 0 (av _) (λcF a=>?_);refine ct ?_;refine bN a [3,4,5,7] (λi u=>match i with|3=>av #[J R m.k,J R m.to,J R m.fr,J R m.n,ad u.A m.data.length u.c]|4=>ad (ab ⟨u.b,0,af⟩) 1 1|5=>ad u.A (q+1) u.c|_=>aY) (λd=>λ|3=>cc ((d 3).A) ((d 3).c) m.data|4=>ai ((d 4).b) #[J R m.k,J R m.to,J R m.fr,J R m.n,ad (d 3).A m.data.length (d 3).c] 73|5=>bn ((d 5).A) (q+1) ((d 5).c) 73 5 (cz l++([J R m.k,J R m.to,J R m.fr,J R m.n,ad (d 3).A m.data.length (d 3).c]))|7=>ai cB (a1 o n g h (ad (d 5).A (q+1) (d 5).c)) 26|_=>emp) (λ|5=>[1]|7=>[3]|_=>[]) (λ|1=>[3]|2=>[0]|5=>[9]|_=>[]) (λ|3=>[3]|4=>[3,4]|5=>[3,5]|7=>[5]|_=>[]) [0,2,4,8,9,10,12] (λd=>?_);refine aK ?_;refine dl 0 66 ?_ (hv:=eS);refine ea 0 #[J R m.k,J R m.to,J R m.fr,J R m.n,ad y m.data.length D] ?_;refine Ea (λ_ _ a=>Q5 _ _ _ _ y D _ _ (N _ a.only).1 V) ?_;refine lM #[J _ _,J _ _,J _ _,J _ _,ad (d 3).A _ (d 3).c] 73 ?_;refine tQ (m:=1) 56 (λ_ _ a=>aW.cellsOf (m:=1) (a.aZ 1) aa) (by intro u K;simp at K;rcases K with rfl|rfl|rfl|rfl|rfl<;>rfl) ?_;refine aK ?_;refine fY _ ?_ (hk:=YU) (hc:=YW);refine bQ λc6 a=>?_;generalize (d 3).A=x at a⊢;generalize (d 3).c=C at a⊢;generalize (d 4).b=Y at a⊢;generalize (d 5).A=W at a⊢;generalize (d 5).c=Z at a⊢;replace a:=a.pk [1,3,5,6,2];replace a:=a.Ld.pk [1,0,2,3];go_wp2_with fail;go_roundw
   case rel=>
    have e:(cz l++([J R m.k,J R m.to,J R m.fr,J R m.n,ad x m.data.length C]))=cz (l++[(m,x,C)]):=by rw[BL,D9];rfl
    rw[e]at a;exact⟨_,_,_,_,ae,by go_num,hid (by rw[gx,z,fu,Q];rfl),a⟩
   case measure=>grind[cw]
  .obtain rfl:q=ms.length:=ae;have I:=z.out;rw[ik]at I;go_upto_region 7 with fail;refine cM ?_;refine bq a 2 (a1 o n g h (ad f ms.length j)) ?_ (hv:=(ee _)) (hk:=by omega) (hz:=(by rw[cN];rfl));refine a' a 3 (av _) (λdW a=>?_) (hk:=by show 0+jD (a1 _ _ _ _ _)<=_;simp only[cN];decide) (hz:=by show _=ab (jD (a1 _ _ _ _ _));rw[cN];rfl) (h1:=(vt aa)) (hc:=vQ);refine an ?_;replace a:=a.BM;go_wp2_with fail;refine dn (v:=_) (jd aa _ _ _ _ _ _ _ aa (a.aZ 2) Tryz.underlying26 aa (by rw[cN];rfl)) aa (⟨f,j,_,aa,a.fresh 0,l,I,aa⟩)
end
def Row.Ng{N n c w A xs}(h:Row N w A n c 3 1 (xs.map (J R))):cX w A xs:=cX.lW h
def alp E x:il (E++[x])=il E++[J R x.1,J R x.2]:=by simp[il]
def Row.Uc{N c w A E n}(h:Row N w A n c 35 2 (il E)):n=E.length/\jy w A E:=by
 have a:n=E.length:=by have:=h.1;rw[Yy]at this;omega
 grind[jy.lW]
def Row.at{N n c e sz:Nat}{w A xs}(h:Row N w A n c e sz xs)(b:0<n):∃g,A=ab ⟨g,0,af⟩:=by
 rcases h.cases with⟨_,a,_⟩|⟨g,_,h1,_⟩;·omega
 .grind
def Row.cellAt{N n c e sz g:Nat}{w xs}(h:Row N w (ab ⟨g,0,af⟩) n c e sz xs){j v}(a:xs[j]?=ab v):w.cell? ⟨g,j,af⟩=ab v:=by obtain⟨b,bB,b7⟩:=h.cell a;grind
def vp(ms:List bG)(i:Nat):Int:=kF ((ms.take i).map b8)
def akW{ms q m}(h:ms[q]?=ab m):vp ms (q+1)=vp ms q+cS m:=by unfold vp;rw[fu,h,yb,gx,Rv];simp[kF,b8]
def Yj{ms}(h:∀m∈ms,hX m){q}:0<=vp ms q/\vp ms q<=kF (ms.map b8):=by unfold vp;rw[List.map_take];exact Zl (E:=_) (λe a=>by obtain⟨m,b,rfl⟩:=gV.1 a;have:=(h m b).b8;show 0<=cS m;omega) q
def sw(t:br)(p:Nat)(s:Int)(ms:List bG):Prop:=∀W,t.p W->Bw W p s ms
set_option maxHeartbeats 2000000 in
def atc s A c ms w(hl:cC w A ms)(hf2:ms.length<=1048575)(hf:(ew s ms).length<=1048576)(hs:1<=s)(hv:∀m∈ms,hX m/\m.data.length<=140737488355328)(ht:kF (ms.map b8)<=4611686018427387903):
 aD ax 57 #[J R s,ad A ms.length c] w λe w'=>∃p t,e=aA (ay (ab ⟨p,0,af⟩))/\b3 w w' t/\sw t p s ms:=by
 have cv:=hid hl;have v:=hid hv;have cp:=hid (And.intro hf hf2);have eM:=hid ht;have hs1:¬s<1:=ae;have V:=hid hs;clear hl hv hf ht;go_enter func57,ntmps57;have a:=bf w;go_upto_region 0 with fail;refine cM ?_;refine ah ?_;refine an ?_;go_upto_region 1 with fail;refine cM ?_;refine v2 ?_;refine an ?_;go_upto_region 3 with fail;refine cM ?_;refine ah ?_;refine f' a #[J R 0] 3 (λQ w1 a=>?_);refine f' a #[J R 0] 3 (λS aR a=>?_);refine v2 ?_;refine bM a (av _) (λy bL a=>?_);refine ah ?_;refine an ?_;go_upto_region 4 with fail;refine cM ?_;refine ah ?_;refine an ?_;go_upto_region 5 with fail;refine cM ?_;refine v3 ?_;refine an ?_;replace a:=a.pk [0,2,1];replace a:=a.k8 (ar.refl _ _) (Row.nil _ _ 35 2);go_wp2_with fail;go_loopw [6,23] (λev z wr=>∃(q:Nat) (L:Option bU) (M:Nat),q<=ms.length/\z=J R q/\ev=ad L q M/\aj w (λ_=>False) wr [bn L q M 35 2 (il ((ms.take q).map b8)),ai y #[J R s,ad (ab ⟨Q,0,af⟩) 1 1,ad (ab ⟨S,0,af⟩) 1 1,ad af 0 0] 248,ai Q #[J R 0] 3,ai S #[J R 0] 3]) (λev z wr=>ms.length -(cw z).toNat);case atStart=>exact⟨0,_,0,cQ _,aa,aa,a⟩
 case round=>
  clear a;obtain⟨q,L,M,hq,rfl,rfl,a⟩:=hrel;by_cases hlt:q<ms.length
  .have cI:(q:Int)<(ms.length:Int):=ae;obtain⟨m,j⟩:∃m,ms[q]?=ab m:=⟨_,cj hlt⟩;obtain⟨F,I,f,g,G,H,x⟩:=cC.h9 cv j;have T:=hid G;have gR:=hid H;have U:=hid x;have o:=hid j;clear G H x j;have HZ:=(v m (cL o)).1;have fl:=(v m (cL o)).2;go_upto_region 7 with fail;refine cM ?_;refine aI (ay (ab ⟨F,(I+q*5),af⟩)) (cH 24 73 5 (bb 21) (bb 23) aa eA aS _ _ _ _ _ _ (by show ad A _ _=_;rw[T]) aa hlt aa) ?_;refine aI (av #[J R m.k,J R m.to,J R m.fr,J R m.n,ad f m.data.length g]) (by(refine e6 73 (bb 25) aa F (I+q*5) aa ([J R m.k,J R m.to,J R m.fr,J R m.n,ad f m.data.length g]:List aO) (U _ a.only) fW aa aS)) ?_;refine bx a #[J _ 0,J _ 0,J _ 0,J _ 0,ad _ 0 0] (λix ca a=>?_);refine a' a 0 (av _) (λcF a=>?_);refine an ?_;go_upto_region 8 with fail;refine cM ?_;refine ah ?_;refine bq a 0 #[J R m.k,J R m.to,J R m.fr,J R m.n,ad f m.data.length g] ?_;refine bA ((show aD _ _ _ _ λe w'=>e=aA (av #[J _ _,J _ (cS m)])/\aq _ w' from uE _ _ m.fr _ f _ g _)) a (λc6 a=>?_);refine f' a #[J R m.to,J R (cS m)] 35 (λU3 dW a=>?_);refine nt (m:=1) a 2 16 (aW.cellsOf (m:=1) (a.aZ 0) aa) (by intro u r;simp at r;rcases r with rfl|rfl<;>rfl) (λaw2 ayj dG a=>?_);refine ah ?_;refine an ?_;go_wp2_with fail;go_roundw;case rel=>exact⟨_,_,_,ae,by go_num,aa,by rw[fu,o,yb,gx,jx,kC,alp];exact a.pick [2,3,4,5]⟩
   case measure=>grind[cw]
  .obtain rfl:q=ms.length:=ae;rw[ik]at a
   have Xq:=hid (λW h=>by have h2:=avJ L M (ms.map b8) W h aF (λe he=>by obtain⟨m,j,rfl⟩:=gV.1 he;have:=((v m j).1).b8;show 0<=cS m;omega) eM.out;rw[List.length_map]at h2;exact h2);go_upto_region 10 with fail;refine cM ?_;refine ah ?_;refine bA (Xq _ (Row.Uc (a.atR 0)).2) a (λe8 a=>?_);refine v5 ?_;refine an ?_;go_upto_region 11 with fail;refine cM ?_;refine v2 ?_;refine an ?_;go_upto_region 13 with fail;refine cM ?_;refine v3 ?_;refine an ?_;replace a:=a.pk [1,2,3];replace a:=a.AQ 1 1 1 1 [J _ 0] aa (cm _) bh aa;replace a:=a.AQ 2 1 1 1 [J _ 0] aa (cm _) bh aa;replace a:=(a.Le.k8 (ar.refl _ _) (Row.nil _ _ 73 5)).pick (l':=[ai y _ _,bn _ 1 1 3 1 _,bn _ 1 1 3 1 _,bn _ 0 0 73 5 [],gC []]) [2,3,4,0,1];go_wp2_with fail;go_loopw [42] (λz wr=>∃(q:Nat) (E:Option bU) (D B:Nat) (c1 c2 fF:Nat) (l:List (bG×Option bU×Nat)),q<=ms.length/\z=J R q/\aE (l.map (·.1)=ms.take q)/\aj w (λ_=>False) wr [ai y #[J R s,ad (ab ⟨D,0,af⟩) (q+1) c2,ad (ab ⟨B,0,af⟩) (q+1) fF,ad E q c1] 248,bn (ab ⟨D,0,af⟩) (q+1) c2 3 1 ((dF (q+1)).map (λi=>J R (lL s ms i:Int))),bn (ab ⟨B,0,af⟩) (q+1) fF 3 1 ((dF (q+1)).map (λi=>J R (vp ms i))),bn E q c1 73 5 (cz l),gC l]) (λz wr=>ms.length -(cw z).toNat);case atStart=>exact⟨0,af,Q,S,0,1,1,[],cQ _,aa,hid aa,by grind[lL,ew,vp,kF,cz]⟩
   case round=>
    clear a Xq;obtain⟨q,E,D,B,c1,c2,fF,l,hq,rfl,Gs,a⟩:=hrel;by_cases hlt:q<ms.length
    .have cI:(q:Int)<(ms.length:Int):=ae;obtain⟨m,j⟩:∃m,ms[q]?=ab m:=⟨_,cj hlt⟩;obtain⟨F,I,f,g,G,H,x⟩:=cC.h9 cv j;have T:=hid G;have gR:=hid H;have U:=hid x;have o:=hid j;clear G H x j;have HZ:=(v m (cL o)).1;have fl:=(v m (cL o)).2;obtain⟨Y,hcc⟩:=ex (nI m s);have x:=Q1 HZ V;have abH:=HZ.b8;rw[hcc]at x;have WS:=hid (λW=>Rc m f g s W abH.2.1 ae V);rw[hcc]at WS;have EO:=Q4 (s:=s) o;rw[hcc]at EO;have hall:=YC (s:=s) (ms:=ms) (show q+1<=ms.length by omega);rw[Q3]at hall;have ao2:=cp.1;obtain⟨O,Ac⟩:=ex ((lL s ms q:Int));obtain⟨C,aaE⟩:=ex ((lL s ms (q+1):Int));have R9:O+Y=C:=ae;have yD:0<=O/\0<=C/\C<=1048576:=ae;obtain⟨eR,hb1⟩:=ex (vp ms q);obtain⟨eY,hb2⟩:=ex (vp ms (q+1));obtain⟨FD,SP⟩:=ex (cS m);have Z:=akW o;have hbr:=Yj (λm j=>(v m j).1) (q:=q);have aar:=Yj (λm j=>(v m j).1) (q:=q+1);have Am:=eM.out;rw[hb1,hb2,SP]at Z;rw[hb1]at hbr;rw[hb2]at aar;have BY:=Z.symm;have hbl:0<=eR/\0<=eY/\eY<=4611686018427387903:=ae;have DG:aE (∀W,aD _ _ #[mz m f g] W λe w'=>e=aA (av #[J _ _,J _ FD])/\aq W w'):=hid (λW=>by rw[<-SP];exact uE _ _ _ _ f _ g W);have K:=hid (And.intro Ac (And.intro aaE (And.intro hb1 hb2)));have Ak:q<q+1:=XN q;clear hcc x abH EO hall ao2 Ac aaE hb1 hb2 SP Z hbr aar Am;go_upto_region 15 with fail;refine cM ?_;refine ah ?_;refine aI (ay (ab ⟨F,(I+q*5),af⟩)) (cH 24 73 5 (bb 40) (bb 42) aa eA aS _ _ _ _ _ _ (by show ad A _ _=_;rw[T]) aa hlt aa) ?_;refine aI (av #[J R m.k,J R m.to,J R m.fr,J R m.n,ad f m.data.length g]) (by(refine e6 73 (bb 45) aa F (I+q*5) aa ([J R m.k,J R m.to,J R m.fr,J R m.n,ad f m.data.length g]:List aO) (U _ a.only) fW aa aS)) ?_;refine bx a #[J _ 0,J _ 0,J _ 0,J _ 0,ad _ 0 0] (λix hR a=>?_);refine ah ?_;refine a' a 0 (av _) (λiZ a=>?_);refine an ?_;go_upto_region 16 with fail;refine bN a [6,7,8,11] (λi u=>match i with|6=>av #[J R m.k,J R m.to,J R m.fr,J R m.n,ad u.A m.data.length u.c]|7=>ad (ab ⟨u.b,0,af⟩) 1 1|8=>ad u.A (q+1) u.c|_=>aY) (λd=>λ|6=>cc ((d 6).A) ((d 6).c) m.data|7=>ai ((d 7).b) #[J R m.k,J R m.to,J R m.fr,J R m.n,ad (d 6).A m.data.length (d 6).c] 73|8=>bn ((d 8).A) (q+1) ((d 8).c) 73 5 (cz l++([J R m.k,J R m.to,J R m.fr,J R m.n,ad (d 6).A m.data.length (d 6).c]))|11=>ai y #[J R s,ad (ab ⟨D,0,af⟩) (q+1) c2,ad (ab ⟨B,0,af⟩) (q+1) fF,ad (d 8).A (q+1) (d 8).c] 248|_=>emp) (λ|8=>[4]|11=>[1]|_=>[]) (λ|4=>[1]|5=>[0]|8=>[13]|_=>[]) (λ|6=>[6]|7=>[6,7]|8=>[6,8]|11=>[8]|_=>[]) [0,2,3,5,12,13,14,17] (λd=>?_);refine iw ?_;refine dl 0 3 ?_;refine ea 0 #[J R m.k,J R m.to,J R m.fr,J R m.n,ad f m.data.length g] ?_;refine Ea (λ_ _ a=>Q5 _ _ _ _ f g _ _ (gR _ a.only).1 fl) ?_;refine lM #[J _ _,J _ _,J _ _,J _ _,ad (d 6).A _ (d 6).c] 73 ?_;refine tQ (m:=1) 56 (λ_ _ a=>aW.cellsOf (m:=1) (a.aZ 1) aa) (by intro u r;simp at r;rcases r with rfl|rfl|rfl|rfl|rfl<;>rfl) ?_;refine bp ?_;refine fY _ ?_;refine bQ λks a=>?_;generalize (d 6).A=UR at a⊢;generalize (d 6).c=Yu at a⊢;generalize (d 7).b=U3 at a⊢;generalize (d 8).A=P at a⊢;generalize (d 8).c=X at a⊢;go_upto_region 17 with fail;refine bN a [16,18,19,23] (λi u=>match i with|16=>J R Y|18=>ad (ab ⟨u.b,0,af⟩) 1 1|19=>ad u.A ((q+1)+1) u.c|_=>aY) (λd i=>match i with|18=>ai ((d 18).b) #[J R C] 3|19=>bn ((d 19).A) ((q+1)+1) ((d 19).c) 3 1 ((dF (q+1)).map (λi=>J R (lL s ms i:Int))++([J R C]))|23=>ai y #[J R s,ad (d 19).A ((q+1)+1) (d 19).c,ad (ab ⟨B,0,af⟩) (q+1) fF,ad P (q+1) X] 248|_=>emp) (λ|19=>[1]|23=>[7]|_=>[]) (λ|5=>[7]|10=>[7]|13=>[1]|14=>[0]|19=>[26]|_=>[]) (λ|18=>[18]|19=>[19]|23=>[19]|_=>[]) [0,2,3,4,5,6,24,26,27,31] (λd=>?_);refine oL ?_;refine dl 0 1 ?_;refine iw ?_;refine dl 0 1 ?_;refine aK ?_;refine aL (ay (ab ⟨D,q,af⟩)) (λ_ _ _=>cH 82 3 1 (bb 68) (bb 69) aa ij aS _ _ _ _ _ q aa aa Ak ae) ?_;refine aL (J R O) (λ_ _ a=>nr aa aa (Row.cellAt (a.atR 0) (by rw[<-K.1];simp)) aS) ?_;refine ea 0 #[J R m.k,J R m.to,J R m.fr,J R m.n,ad f m.data.length g] ?_;refine aK ?_;refine dD (λ_ _ _=>WS _) ?_;refine tR O Y C ?_;refine lM _ 3 ?_;refine tQ (m:=1) 8 (λ_ _ a=>aW.cellsOf (m:=1) (a.aZ 1) aa) (by intro u r;rw[vi.1 r];rfl) ?_;refine c7 ?_;refine fY _ ?_;refine bQ λlf a=>?_;generalize (d 18).b=axz at a⊢;generalize (d 19).A=US at a⊢;generalize (d 19).c=QY at a⊢;replace a:=a.drop 6;go_upto_region 18 with fail;refine bN a [15,18,19,23] (λi u=>match i with|15=>av #[J R m.to,J R FD]|18=>ad (ab ⟨u.b,0,af⟩) 1 1|19=>ad u.A ((q+1)+1) u.c|_=>aY) (λd i=>match i with|18=>ai ((d 18).b) #[J R eY] 3|19=>bn ((d 19).A) ((q+1)+1) ((d 19).c) 3 1 ((dF (q+1)).map (λi=>J R (vp ms i))++([J R eY]))|23=>ai y #[J R s,ad US ((q+1)+1) QY,ad (d 19).A ((q+1)+1) (d 19).c,ad P (q+1) X] 248|_=>emp) (λ|19=>[1]|23=>[8]|_=>[]) (λ|5=>[8]|10=>[8]|13=>[1]|14=>[0]|19=>[27]|_=>[]) (λ|18=>[18]|19=>[19]|23=>[19]|_=>[]) [0,2,3,4,5,6,7,24,27,28,32] (λd=>?_);refine oL ?_;refine dl 0 2 ?_;refine iw ?_;refine dl 0 2 ?_;refine aK ?_;refine aL (ay (ab ⟨B,q,af⟩)) (λ_ _ _=>cH 82 3 1 (bb 91) (bb 92) aa ij aS _ _ _ _ _ q aa aa Ak ae) ?_;refine aL (J R eR) (λ_ _ a=>nr aa aa (Row.cellAt (a.atR 0) (by rw[<-K.2.2.1];simp)) aS) ?_;refine ea 0 #[J R m.k,J R m.to,J R m.fr,J R m.n,ad f m.data.length g] ?_;refine dD (λ_ _ _=>DG _) ?_;refine gB (J R FD) ?_;refine tR eR FD eY ?_;refine lM _ 3 ?_;refine tQ (m:=1) 8 (λ_ _ a=>aW.cellsOf (m:=1) (a.aZ 1) aa) (by intro u r;rw[vi.1 r];rfl) ?_;refine c7 ?_;refine fY _ ?_;refine bQ λmm a=>?_;generalize (d 18).b=axA at a⊢;generalize (d 19).A=awW at a⊢;generalize (d 19).c=alc at a⊢;replace a:=a.drop 7;replace a:=a.pk [1,2,9,6,8,4];replace a:=a.Ld.pk [1,2,3,4,0];go_wp2_with fail;obtain⟨g2,rfl⟩:=Row.at (a.atR 1) ae;obtain⟨g3,rfl⟩:=Row.at (a.atR 2) ae;go_roundw
     case rel=>
      refine⟨q+1,P,g2,g3,X,QY,alc,l++[(m,UR,Yu)],ae,by go_num,hid (by rw[gx,Gs,fu,o];rfl),?_⟩;rw[List.range_succ,gx,gx,jx,kC,jx,kC,K.2.1,K.2.2.2,BL,D9];exact a
     case measure=>grind[cw]
    .obtain rfl:q=ms.length:=ae;have fO:=Gs.out;rw[ik]at fO;go_upto_region 20 with fail;refine cM ?_;refine v2 ?_;refine an ?_;replace a:=(a.pk [3,4,1,0]).BM;replace a:=(a.star.pk [1,0]).star;go_wp2_with fail;go_ret;refine⟨y,_,aa,a.fresh 0,λW h=>?_⟩;have hc:hD _ E c1 ms:=⟨l,fO,aa⟩;exact⟨⟨_,c2,_,fF,E,c1,⟨h.1.cell 0 aa,h.1.cell 1 aa,h.1.cell 2 aa,h.1.cell 3 aa⟩,Row.Ng (N:=0) (n:=_) (c:=c2) (by rw[List.map_map];exact h.2.1.2.1),hc.s8 h.2.1.1⟩,⟨cp.1,ae⟩,V,v⟩

section
section
variable {P:eu} {o:cR} {a:bT} {w:aM}
def BD t(x y)f(d:o.op=nz .shr t x y f)(k g)v(n:Nat)(hx:a.eval x=J k v)(e:a.eval y=J g (n:Int))(c:n<=k.bits):
 (bt a.eval o).run P w=a7 (c8 (J k (v.fdiv (2^n)))) w:=by
 have h1:¬((n:Int)<0):=ae;have b:=Nat.min_eq_left c;unfold bt;simp[d,hx,e,zp,wD,Op.shift,h1,b]
def BC t(x y)f(c:o.op=nz .quo t x y f)(p q z:Nat)(hx:a.eval x=J R (p:Int))(e:a.eval y=J R (q:Int))(h:0<q)(hz:p/q=z)(g:(z:Int)<=9223372036854775807):
 (bt a.eval o).run P w=a7 (c8 (J R (z:Int))) w:=by
 have d:R.wrap ((p:Int)/(q:Int))=(z:Int):=by grind[wk]
 have b:¬(q=0):=ae;unfold bt;simp[c,hx,e,zp,wD,OL,d,b]
def QS t(x y)f(c:o.op=nz .rem t x y f)(p q z:Nat)(hx:a.eval x=J R (p:Int))(e:a.eval y=J R (q:Int))(h:0<q)(hz:p%q=z)(g:(z:Int)<=9223372036854775807):
 (bt a.eval o).run P w=a7 (c8 (J R (z:Int))) w:=by
 have d:(p:Int).tmod (q:Int)=(z:Int):=aF;have b:¬(q=0):=ae;unfold bt;simp[c,hx,e,zp,wD,OL,d,b]
end
theorem awT v k:(mT #[v] k).toList=fq k v:=by
 unfold mT;simp;apply List.ext_getElem;·simp
 .grind
section
variable {P:eu} (w:aM)
def aup N (t eF ty e) i z h (d:P.underlying t=ab (hT e)) (f:P.underlying eF=ab (.int h)) (hi:P.info? e=ab i) (hz:i.zero=ab z) (o:z.cells=#[z]) (hsize:i.size=1)
 (g n) xs (hown:Row N w (ab ⟨g,0,af⟩) n n e 1 xs) k (h63:n+k<=dN) (hbytes:(n+k)*i.bytes<=140737488355328) (fk:N<=w.heap.size):
 ∃a c w',(oN #[t,eF] ty #[ad (ab ⟨g,0,af⟩) n n,J R (k:Int)]).run P w=a7 (ad a (n+k) c) w'/\Row N w' a (n+k) c e 1 (xs++fq k z)/\aq w w'/\(∀b,dU a b->dU (ab ⟨g,0,af⟩) b\/w.heap.size<=b):=by
 have hlen:xs.length=n:=by have:=hown.1;omega
 rcases lJ k with hk|hk;·subst hk;refine⟨_,n,w,?_,aF,ar.refl _ w,λb hb=>bH hb⟩;have hw0:R.wrap 0=0:=bh;simp[oN,gF d,gF f,mu,mY,hi,wh,ra,Bb,asInt,zo,hw0]
 .have holds:=hown.cells (g:=g) aa
  have j:(ra i.size n (ad (ab ⟨g,0,af⟩) n n)).run P w.drew=a7 xs.toArray w.drew:=by rw[hsize];exact JY _ 1 n _ n n xs ae holds
  have hrun:=Lib.run_append_grow_zeros (P:=P) w t eF ty e i z R h d f hi hz (ab ⟨g,0,af⟩) n n xs j k hk ae ae (by grind[dN]) aF (JU ae hbytes);have l:=zq w (n+k) n e;have hcm:=zr w _ n e h63;refine⟨_,_,_,hrun,⟨aF,b1 ⟨w.heap.size,_,_,aa,fk,fe w.drew _,l,hcm,?_,?_⟩⟩,aq.trans (ar.drew _) (ar.alloc _ _),λb ⟨_,_,m⟩=>aF⟩;·grind[size_zeroCells]
  .grind[awT]
end
def akT {P o} {a:bT} {w s x} {t eF e g n k:Nat} {xs} bytes f z (q:o.op=mU {callee:=n2 .append,args:=#[s,x],argTypes:=#[t,eF]}) (r:a.eval s=ad (ab ⟨g,0,af⟩) n n) (hx:a.eval x=J R (k:Int)) (hown:Row 0 w (ab ⟨g,0,af⟩) n n e 1 xs) (hbytes:(n+k)*bytes<=140737488355328) (hb0:0<bytes) (u:P.underlying t=ab (hT e)) (v:P.underlying eF=ab (.int f))
 (kZ:(P.info? e).map (λi=>(i.zero,i.size,i.bytes))=ab (ab z,1,bytes)) (abZ:z.cells=#[z]):
 ∃c d w',(bt a.eval o).run P w=a7 (c8 (ad c (n+k) d)) w'/\Turned w w' (bn (ab ⟨g,0,af⟩) n n e 1 xs) (bn c (n+k) d e 1 (xs++fq k z)):=by
 cases hq:P.info? e with
 |none=>grind
 |some i=>
  rw[hq]at kZ;simp only[oW,wQ,oh]at kZ;obtain⟨bB,j,l⟩:=kZ;subst l;have hle:(n+k)<=(n+k)*i.bytes:=zI _ hb0;obtain⟨c,d,w',hrun,h1,m,p⟩:=aup (P:=P) w 0 t eF o.type e i z f u v hq bB abZ j g n xs hown k (by grind[dN]) hbytes (cQ _);refine⟨c,d,w',?_,m.mono (λ_ _ h=>h.elim),h1,λb hb=>⟨(Row.lt h1 hb).2,p b hb⟩⟩;unfold bt;simp only[q,mX,mW,pv,gj,jR,ji,og,jx,kC,r,hx,hrun]
end
def p8(x a)s w(h:(a,s)∈[(-7,25),(-18,14),(-17,15),(-19,13),(-6,26),(-11,21),(-25,7),(-2,30),(-13,19),(-22,10)]):
 aD ax 332 #[b' x,J R a] w λe w'=>e=aA (b' (kO x s))/\aq w w':=by
 have hk:=by simpa using h
 go_enter func332,ntmps332;have b:=bf w;go_step;refine ag ?_;refine ku ?_;refine aI (J .u64 (s:Int)) (by(rcases hk with⟨rfl,rfl⟩|⟨rfl,rfl⟩|⟨rfl,rfl⟩|⟨rfl,rfl⟩|⟨rfl,rfl⟩|⟨rfl,rfl⟩|⟨rfl,rfl⟩|⟨rfl,rfl⟩|⟨rfl,rfl⟩|⟨rfl,rfl⟩<;>(show _=_;kernel_rfl))) ?_;refine ku ?_;refine aI (b' (vP x s)) (by(rcases hk with⟨rfl,rfl⟩|⟨rfl,rfl⟩|⟨rfl,rfl⟩|⟨rfl,rfl⟩|⟨rfl,rfl⟩|⟨rfl,rfl⟩|⟨rfl,rfl⟩|⟨rfl,rfl⟩|⟨rfl,rfl⟩|⟨rfl,rfl⟩<;>(show _=_;kernel_rfl))) ?_;refine v2 ?_;refine aI (J .u64 ((32 -s:Nat):Int)) (by(rcases hk with⟨rfl,rfl⟩|⟨rfl,rfl⟩|⟨rfl,rfl⟩|⟨rfl,rfl⟩|⟨rfl,rfl⟩|⟨rfl,rfl⟩|⟨rfl,rfl⟩|⟨rfl,rfl⟩|⟨rfl,rfl⟩|⟨rfl,rfl⟩<;>(show _=_;kernel_rfl))) ?_;refine aI (b' (kb x (32 -s))) (by(rcases hk with⟨rfl,rfl⟩|⟨rfl,rfl⟩|⟨rfl,rfl⟩|⟨rfl,rfl⟩|⟨rfl,rfl⟩|⟨rfl,rfl⟩|⟨rfl,rfl⟩|⟨rfl,rfl⟩|⟨rfl,rfl⟩|⟨rfl,rfl⟩<;>(show _=_;kernel_rfl))) ?_;refine pk (b' (kO x s)) ?_;refine Ji ?_;exact⟨aa,b.only⟩
def yT:List Int:=[1116352408,1899447441,3049323471,3921009573,961987163,1508970993,2453635748,2870763221,3624381080,310598401,607225278,1426881987,1925078388,2162078206,2614888103,3248222580,3835390401,4022224774,264347078,604807628,770255983,1249150122,1555081692,1996064986,2554220882,2821834349,2952996808,3210313671,3336571891,3584528711,113926993,338241895,666307205,773529912,1294757372,1396182291,1695183700,1986661051,2177026350,2456956037,2730485921,2820302411,3259730800,3345764771,3516065817,3600352804,4094571909,275423344,430227734,506948616,659060556,883997877,958139571,1322822218,1537002063,1747873779,1955562222,2024104815,2227730452,2361852424,2428436474,2756734187,3204031479,3329325298]
def S9:yT.length=64:=rfl
def S' w:
 aD ax 331 #[] w λe w'=>e=aA (av (aX b' yT []))/\aq w w':=by
 go_enter func331,ntmps331;have a:=bf w;go_step;refine ag ?_;refine bx a (aX b' (fq 64 0) []) (λb w1 a=>?_);refine ag ?_;refine pk (av (aX b' yT [])) ?_;refine CH a 0 (List.length_replicate ..) S9 (λc a=>?_);refine an ?_;go_wp2_with fail;refine dn (v:=av (aX b' yT [])) (jd aa _ _ _ _ _ _ _ aa (a.aZ 0) Tryz.underlying435 aa aS) aa (⟨aa,a.only⟩)
section
def aeG{t fr}g:∀(b) o (w:aM) cur,w.heap[g]?=ab (bc cur t fr)->
 ∃a,(w.setCells g o b).heap[g]?=ab (bc a t fr)/\a.size=cur.size/\∀j,a[j]?=if o<=j/\j<o+b.length/\j<cur.size then b[j -o]? else cur[j]?
 |[],o,w,cur,h=>⟨cur,h,rfl,λj=>aF⟩
 |v::r,o,w,cur,h=>by
  have h1:(w.setCell ⟨g,o,af⟩ v).heap[g]?=ab (bc (cur.setIfInBounds o v) t fr):=by grind[World.setCell]
  obtain⟨a,c,d,e⟩:=aeG g r (o+1) _ _ h1;refine⟨a,c,aF,λj=>?_⟩;grind
def ar.auS w(g o)a:ar (λk=>k=g) w (w.setCells g o a):=by
 induction a generalizing o w with
 |nil=>exact ar.refl _ _
 |cons v r b=>exact(ar.setCell (F:=λk=>k=g) w (p:=_) aa v).trans (b _ _) (λ_ _ h=>h)
def eX(N:Nat)(w:aM)(A:Option bU)(n c:Nat)(e:gl)(xs:List aO):Prop:=xs.length=n/\((A=af/\n=0/\c=0)\/
 ∃g off cur,A=ab ⟨g,off,af⟩/\N<=g/\aW w g cur e/\n<=c/\c<=dN/\off+c<=cur.size/\∀j,j<n->cur[off+j]?=xs[j]?)
section
variable {F:Nat->Prop} {w w':aM} {N n c e b2 B m:Nat} {A:Option bU} {xs:List aO}
theorem eX.nil N w e:eX N w af 0 0 e []:=⟨aa,bH ⟨aa,aa,aa⟩⟩
def eX.only(h:eX N w A n c e xs)(k:ar F w w')(a:∀b,dU A b->¬F b):eX N w' A n c e xs:=by
 refine⟨h.1,?_⟩;rcases h.2 with h2|⟨g,off,cur,rfl,hb,hg,r⟩;·grind
 .exact b1 ⟨g,_,_,aa,hb,k.heap hg (a g ⟨_,_,aa⟩),r⟩
def eX.mem(h:eX N w A n c e xs):Mem N w A e:=λb off f a=>by
 rcases h.2 with⟨rfl,_⟩|⟨g,o,cur,rfl,hb,d,_⟩;·grind
 grind
def eX.lt(h:eX N w A n c e xs){b}(hb:dU A b):N<=b/\b<w.heap.size:=by obtain⟨off,d,e⟩:=hb;obtain⟨h1,cs,a⟩:=h.mem b off d e;exact⟨h1,aW.lt a⟩
def eX.cap(h:eX N w A n c e xs):n<=c:=by
 rcases h.2 with⟨_,a,b⟩|⟨_,_,_,_,_,_,d,_⟩;·omega
 .omega
def eX.arZ{cs}(h:eX N w A n c e xs)(hb:aW w B cs b2)(g:b2≠e):¬dU A B:=λ⟨off,b,a⟩=>by obtain⟨_,d,f⟩:=h.mem B off b a;grind
def eX.ofRow(h:Row N w A n c e 1 xs):eX N w A n c e xs:=by
 refine⟨by simpa using h.1,?_⟩;rcases h.2 with⟨hv,f⟩|⟨g,cap,cur,hv,hb,a,d,b,k,l⟩;·grind
 .injection hv with h1 h2 h3;subst h3;refine b1 ⟨g,0,_,h1,hb,a,d,b,ae,λj i=>?_⟩;grind
def eX.drop(h:eX N w A n c e xs){i}(hi:i<=n):eX N w (fE A c i 1) (n -i) (c -i) e (xs.drop i):=by
 refine⟨by rw[List.length_drop,h.1],?_⟩;rcases h.2 with⟨rfl,a,b⟩|⟨g,off,cur,rfl,h1,a,b,f,k,l⟩;·grind[fE]
 .right;by_cases hc:c=i;·exact⟨g,off,cur,by grind[fE],h1,a,ae,ae,ae,λj d=>ae⟩
  .refine⟨g,off+i,cur,by grind[fE,nG],h1,a,ae,ae,ae,λj d=>?_⟩;grind
def eX.nV{bs}(h:eX N w A bs.length c 5 (bs.map a8)):e2 N w A c bs:=by
 refine⟨λi=>?_,h.mem,h.cap⟩;rcases h.2 with⟨_,a,_⟩|⟨g,off,cur,rfl,h1,a,b,d,e,f⟩;·omega
 grind[aW.cell]
end
section
variable {P:eu} (w:aM)
def auo N (t ty e) i z (d:P.underlying t=ab (hT e)) (hi:P.info? e=ab i) (hz:i.zero=ab z) (hsize:i.size=1) (hzs:z.cells.size=1)
 A (n c) xs (c3:eX N w A n c e xs) aJ (m c2) news (hr:Cells w 1 aJ m news) (h1:∀u∈news,u.oneCell'=aB)
 (h63:n+m<=dN) (hbytes:(n+m)*i.bytes<=140737488355328) (fk:N<=w.heap.size):
 ∃a f w',(oN #[t,t] ty #[ad A n c,ad aJ m c2]).run P w=a7 (ad a (n+m) f) w'/\eX N w' a (n+m) f e (xs++news)/\ve (dU A) w w'/\(∀b,dU a b->dU A b\/w.heap.size<=b):=by
 have hlen:(xs++news).length=n+m:=by rw[List.length_append,c3.1,hr.1];omega
 rcases lJ m with p|p
 .subst p;have D:=jH (by simpa using hr.1);subst D;refine⟨A,c,w,?_,aF,aq.keep (ar.refl _ w),λb hb=>bH hb⟩;have hc:=c3.cap;rcases aJ with _|o
  .rcases c3.2 with⟨rfl,rfl,rfl⟩|⟨g,off,cur,rfl,_⟩;·simp[oN,gF d,mu,mY,hi,wh,ra]
   .simp[oN,gF d,mu,mY,hi,wh,ra,hc,Bb]
  .rcases c3.2 with⟨rfl,rfl,rfl⟩|⟨g,off,cur,rfl,_⟩;·simp[oN,gF d,mu,mY,hi,wh,ra,loadCells,Pj]
   .simp[oN,gF d,mu,mY,hi,wh,ra,loadCells,Pj,hc,Bb]
 .obtain⟨o,rfl,hnews⟩:=hr.2 p;have r:Src P i.size t _ m _ w:=Src.ofSlice w d o m c2 _ (by rw[hr.1,hsize]) hnews h1
  have grow:c<n+m->(ra i.size n (ad A n c)).run P w.drew=a7 xs.toArray w.drew->
   ∃a f w',(oN #[t,t] ty #[ad A n c,ad (ab o) m c2]).run P w=a7 (ad a (n+m) f) w'/\eX N w' a (n+m) f e (xs++news)/\ve (dU A) w w'/\(∀b,dU a b->dU A b\/w.heap.size<=b):=by
   intro hc hold;have hrun:=run_append_grow_src (P:=P) w t t ty e i z d hi hz A n c xs hold _ m news r hc (by grind[dN]) (JU hc hbytes);have B:=zq w (n+m) c e;have C:=zr w _ c e h63;have y:∀E,aq w (w.drew.alloc E):=λ_=>aq.trans (ar.drew _) (ar.alloc _ _);refine⟨_,_,_,hrun,⟨hlen,b1 ⟨w.heap.size,0,_,aa,fk,fe w.drew _,B,C,?_,λj q=>?_⟩⟩,(y _).keep.ac9,λb ⟨_,_,G⟩=>aF⟩;·grind[mT]
   .grind
  rcases c3.2 with⟨rfl,rfl,rfl⟩|⟨g,off,cur,rfl,s,h,H,v,I,x⟩;·obtain rfl:=jH c3.1;grind[run_firstCells_none]
  .have hcell:∀(j) u,xs[j]?=ab u->w.cell? _=ab u:=λj u l=>by rw[eB w g _ _ _ _ h,x j (by rw[<-c3.1];exact(eQ.1 l).1),l]
   by_cases hroom:n+m<=c
   .have hrun:=run_append_room_src (P:=P) w t t ty e i d hi g off n c _ m _ r hroom (λj q=>by rw[eB w g _ _ _ _ h,hsize];have:=hr.1;simp;omega) (λj _=>by grind[World.frozen?]);rw[hsize,Nat.mul_one]at hrun;obtain⟨F,eR,eY,sC⟩:=aeG g news (off+n) w cur h;refine⟨_,_,_,hrun,⟨hlen,b1 ⟨g,_,_,rfl,s,eR,hroom,v,ae,λj q=>?_⟩⟩,?_,λb hb=>bH hb⟩;·have hx:=c3.1;grind
    .have k:=ve.ac8 (ar.auS w g _ _) h eR eY;exact⟨k.only.mono (λb _ e=>⟨off,af,by rw[e]⟩),k.shape⟩
   .refine grow ae ?_;rw[hsize];exact JY _ 1 n _ n c xs (by have:=c3.1;omega) (λj u l=>by rw[nG];exact hcell j u l)
end
def ww(A:Option bU)(n c:Nat)(e:gl)(xs:List aO):br:=⟨dU A,λw=>eX 0 w A n c e xs,λw w' h _ d=>
 ⟨d.1,d.2.elim bH (λ⟨g,off,cur,a,f,b,r⟩=>b1 ⟨g,off,cur,a,f,(h g (a▸⟨off,af,aa⟩) (aW.lt b)).trans b,r⟩)⟩⟩
def awd {P o} {a:bT} {w s x} {t e n c m c2:Nat} {A aJ xs news} bytes (l:o.op=mU {callee:=n2 .append,args:=#[s,x],argTypes:=#[t,t]}) (q:a.eval s=ad A n c) (hx:a.eval x=ad aJ m c2) (hown:(ww A n c e xs).p w) (hr:Cells w 1 aJ m news) (h1:∀u∈news,u.oneCell'=aB) (hbytes:(n+m)*bytes<=140737488355328) (hb0:0<bytes) (r:P.underlying t=ab (hT e))
 (kZ:(P.info? e).map (λi=>(i.zero.isSome,(i.zero.map (·.cells.size)).getD 0,i.size,i.bytes))=ab (aB,1,1,bytes)):
 ∃d f w',(bt a.eval o).run P w=a7 (c8 (ad d (n+m) f)) w'/\Turned w w' (ww A n c e xs) (ww d (n+m) f e (xs++news)):=by
 cases hq:P.info? e with
 |none=>grind
 |some i=>
  rw[hq]at kZ;simp only[oW,wQ,oh]at kZ;obtain⟨bB,b7,g,h⟩:=kZ;obtain⟨z,hz⟩:=Option.isSome_iff_exists.1 bB;rw[hz]at b7;simp only[oW,pG]at b7;subst h;have hle:(n+m)<=(n+m)*i.bytes:=zI _ hb0;obtain⟨d,f,w',hrun,h1,j,k⟩:=auo (P:=P) w 0 t o.type e i z r hq hz g b7 A n c xs hown aJ m c2 news hr h1 (by grind[dN]) hbytes (cQ _);refine⟨d,f,w',?_,j.only,h1,λb hb=>⟨(h1.lt hb).2,k b hb⟩⟩;unfold bt;simp only[l,mX,mW,pv,gj,jR,ji,og,jx,kC,q,hx,hrun]
def Yh{bs:List Int}:∀u∈bs.map a8,u.oneCell'=true:=λu a=>by obtain⟨x,_,rfl⟩:=gV.1 a;rfl
end
open Go.Shelf
def Tryz.aq7:Go.Shelf.Ren:=⟨λ|116=>282|115=>258|n=>n,λ|37=>22|4=>4|3=>3|9=>9|5=>5|n=>n,λ|n=>n⟩
def Tryz.Td:axN ax Tryz.aq7:={
 mixed:=aS
 f115:=func258.trans (congrArg ab aS)
 f116:=func282.trans (congrArg ab aS)
 t3:=Tryz.underlying3
 a3:=Tryz.isAgg3
 z3:=Tryz.sizeOf3
 v3:=Tryz.zeroValue3
 t4:=Tryz.underlying4
 a4:=Tryz.isAgg4
 z4:=Tryz.sizeOf4
 v4:=Tryz.zeroValue4
 t9:=Tryz.underlying9
 a9:=Tryz.isAgg9
 z9:=Tryz.sizeOf9
 v9:=Tryz.zeroValue9
 t37:=dI
 a37:=isAgg22
 z37:=sizeOf22
 v37:=zeroValue22
 t5:=Tryz.underlying5
 a5:=Tryz.isAgg5
 z5:=Tryz.sizeOf5
 v5:=Tryz.zeroValue5}
end Go.Proofs.YtcmhplknoglbkaaGreat
