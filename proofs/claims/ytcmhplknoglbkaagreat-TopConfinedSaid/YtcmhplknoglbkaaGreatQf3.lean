/- Part 3 of the proof of TopConfinedSaid. -/
import Derived.RangeFuncWrites
import Derived.OrdersIn
import Derived.TacticsIn
import Derived.RangeFuncLeaves
import Derived.Deep.Cut
import Derived.Deep.LoopGhost
import Derived.Shelf.Abstract
import Derived.Lib.AppendZerosOnto
import Derived.Shelf.Bytes.SlEqualAll
import Derived.Shelf.Bytes.SlSmallAll
import Derived.Test.YtcmhplknoglbkaaGreatProg
import Derived.Shelf.Bytes.SlIndexWhole
import Derived.Test.YtcmhplknoglbkaaGreatQf0
import Derived.Test.YtcmhplknoglbkaaGreatQf1
import Derived.Test.YtcmhplknoglbkaaGreatQf2
set_option linter.all false
set_option maxRecDepth 100000
set_option maxHeartbeats 4000000
open Go.Proofs.Tryz
open Array renaming all_eq_true_iff_forall_mem->Vw,size->gB
open BitVec renaming ofInt->mM
open Bool renaming false->ao,true->az
open Go renaming Act->b3,Addr->bT,Calls->aC,Ending->wy,Exit->iD,FuncId->BL,Oper->cT,Operand->ia,PanicEntry->rX,Program->ew,TypeId->gj,Value->aO,World->aP,asIntOf->zY,binOp->wM,bodyPostM->Xi,bodyPost_ret->c8,callFunc->kB,callsIn_wide->sY,eqGuard->yl,execOp->bz,invoke->n1,maxLen->eG,resolve->n2,results_cell_row->gH,run_endLoop->PO,run_underlying->gO,sizeOf->mQ,typeInfo->nv,undef->a1,wpIn_region_lit->akl,wpIn_wide->yn,wpList->cQ,wpListIn->tS,wpList_nil->an,wpList_step->rY,wp_region_lit->cy,yielded->c3
open Go.Addr renaming add_mid->O5
open Go.Builtin renaming append_->pa,firstCells->rV,zeroCells->ns
open Go.Code renaming region->yd
open Go.Ending renaming returned->aB
open Go.Exit renaming normal->sU
open Go.Fence renaming wide->mP
open Go.Fn renaming func->eu,yield->wz
open Go.Instr renaming beginRound->VM,indexAt->VO,sureAddr->BM,yield->ah8
open Go.IntKind renaming i64->R,u32->wA
open Go.IntWalk renaming i64_in->wB
open Go.LoopState renaming exhausted->GG,ready->kz
open Go.Next renaming value->da
open Go.Obj renaming deferred->kA,loop->gh
open Go.Op renaming binOp->nt,indexAddr->D2,intArith->VU,intDiv->KJ,load->nZ,store->ye
open Go.Oper renaming wp->iy
open Go.Operand renaming tmp->bj
open Go.Proofs.Lays renaming n185->azM,nb116->azN
open Go.Proofs.Tryz renaming func235->V4,ntmps235->Wx,prog->ax,underlying22->dK,underlying24->ey,underlying3->jH,underlying4->tP,underlying5->mr,underlying73->gi,underlying82->jo,underlying9->D3,zeroValue22->W2
open Go.Region renaming wanted->c7
open Go.Result renaming andThen_ok->jI,ok->bf
open Go.RowKit renaming Hid->aE,intOf->bR
open Go.Sem renaming run_bind->gC,run_pure->kg
open Go.Target renaming collected->D4
open Go.TypeDesc renaming array->vd,slice->iE
open Go.Value renaming agg->ar,bool->ai,func->dS,int->J,pointer->ay,slice->ae,tuple->bo
open Int renaming ediv_le_self->alK,ediv_nonneg->alL
open List.Perm renaming swap->Cd
open List renaming getElem?_append_left->tZ,getElem?_append_right->oI,getElem?_cons_succ->vu,getElem?_eq_getElem->cF,getElem?_eq_some_iff->eM,getElem?_map->jU,getElem?_toArray->Ak,map_append->fR,map_cons->kj,map_nil->lJ,mem_append->iX,mem_map->gQ,mem_of_getElem?->cW,mem_singleton->ua,not_mem_nil->fS,perm_append_comm->vw,perm_append_singleton->Hn,perm_middle->Yy,range->dU,replicate->ea,setIfInBounds_toArray->al3,set_append_right->Yz,take_add_one->gx,take_append_drop->oJ,take_length->ll
open Nat renaming eq_zero_or_pos->l1,le_refl->b7,lt_succ_self->YD,zero_add->js,zero_le->cB
open Option renaming none->af,some->ab,toList_some->Ck
open Option.some renaming injEq->wZ
open Or renaming inl->bZ,inr->cc
namespace Go.Proofs.YtcmhplknoglbkaaGreat
section
open Go.RowKit Go.MapKept
abbrev Fr(r:Option Nat):Fence:={mP with round:=r}
def tx(o:cT):Bool:=match o.op with|.defer _=>ao|_=>az
def au6{o}(h:tx o=az):∀c,o.op≠.defer c:=by grind[tx]
section
variable {P:ew} {ops:Array cT} {rest:List cT} {Q:iD->b3->aP->Prop} {K0:b3->aP->Prop} {o:cT} {a bC:b3} {w:aP} {v:aO} {r:Option Nat} {n:Nat}
def anr{f args cC}(h:aC P f args w cC):CallsIn (Fr r) n P f args w cC:=
 have h2:CallsIn mP n P f args w cC:=sY.2 h
 h2
def av7{row args cC}(h:Rows P row args w cC):RowsIn (Fr r) n P row args w cC:=λc cs _=>by obtain⟨v,w',h1,h2⟩:=h c cs;have h3:=stepsIn_wide.2 h2;exact⟨v,w',h1,h3⟩
def Aq:iD->b3->aP->Prop:=λ_ _ _=>False
def NL{next next0}(hn:∀a w,next0 a w->next a w)(hp:tx o=az)(h:o.wp P a w next0 (Exit.then K0 Aq)):o.wpIn (Fr r) n P a w next Q:=by
 refine⟨λ_ _=>trivial,?_⟩;rw[Oper.semAt_eq _ _ _ (au6 hp)];unfold iy at h;generalize (bz a.eval o).run P w=x at*;cases x with
 |ok nx w'=>
  cases nx with
  |value u=>exact hn _ _ h
  |skip=>exact hn _ _ h
  |defer d=>exact hn _ _ h
  |enter f args=>exact⟨λh=>(by cases h),(anr h).mono λe aU h2=>by
   cases e with
   |returned v=>grind
   |panicked c=>exact h2.elim
   |outgrown=>obtain⟨_,_,h3⟩:=h2;exact h3.elim⟩
  |row row args=>exact⟨λh=>(by cases h),(av7 h).mono λv aU h2=>hn _ _ h2⟩
  |_=>exact h.elim
 |halt hh w'=>cases hh<;>exact h.elim
theorem Nn{C post}(ko:∀a w,C a w->tS (Fr r) n P ops Q post a w):∀(l) a w,l.all tx=az->cQ P ops (Exit.then C Aq) l a w->tS (Fr r) n P ops Q (l++post) a w
 |[],_,_,_,h=>ko _ _ h
 |o::l,a,w,hp,h=>by
  simp only[List.all_cons,Bool.and_eq_true]at hp;unfold cQ at h;show tS (Fr r) n P ops Q (o::(l++post)) a w;unfold tS;by_cases hw:c7 o (c3 ops a.tmps)=az
  .rw[if_pos hw]at h⊢;rcases h with h|⟨_,a2,aU,h⟩;·exact NL (λbC w' h=>Nn ko l bC w' hp.2 h) hp.1 h
   .exact h.elim
  .rw[if_neg hw]at h⊢;exact⟨λ_ _=>trivial,Nn ko l _ _ hp.2 h⟩
def ate(k:Nat)(h:cQ P ops (Exit.then (tS (Fr r) n P ops Q (rest.drop k)) Aq) (rest.take k) a w)(hp:(rest.take k).all tx=true:=by kernel_rfl):tS (Fr r) n P ops Q rest a w:=by grind[Nn,oJ]
def wg(h:cQ P ops (Exit.then (Q sU) Aq) rest a w)(hp:rest.all tx=true:=by kernel_rfl):tS (Fr r) n P ops Q rest a w:=by have h2:=Nn (r:=r) (n:=n) (Q:=Q) (post:=[]) (λ_ _ h=>wpListIn_nil h) _ a w hp h;rwa [List.append_nil]at h2
def LP{md}(hp:ops.all tx=az):∀(fuel) eP a w,wpAny P md ops (Exit.then (Q sU) Aq) fuel eP a w->wpAnyIn (Fr r) n P md ops Q fuel eP a w
 |0,_,_,_,h=>h
 |fuel+1,eP,a,w,h=>by
  refine⟨h.1,λi hi=>?_⟩;have h2:=h.2 i hi;unfold wpOp at h2;unfold wpOpIn;cases ho:ops[i]? with
  |none=>
   rw[ho]at h2;exact LP hp fuel _ _ _ h2
  |some o=>
   rw[ho]at h2
   have Fv:tx o=true:=by obtain⟨hi,rfl⟩:=Array.getElem?_eq_some_iff.1 ho;exact Array.all_eq_true.1 hp i hi
   simp only at h2⊢;by_cases hw:c7 o (c3 ops a.tmps)=az
   .rw[if_pos hw]at h2⊢;rcases h2 with h|⟨_,a2,aU,h⟩;·exact NL (λbC w' h=>LP hp fuel _ bC w' h) Fv h
    .exact h.elim
   .rw[if_neg hw]at h2⊢;exact⟨λ_ _=>trivial,LP hp fuel _ _ _ h2⟩
def kv{id:Nat}{l:List cT}{q:Nat}(h:cQ P l.toArray (Exit.then (Q sU) Aq) l a w)(hp:l.all tx=true:=by kernel_rfl):(yd id l.toArray ao).wpIn (Fr (ab q)) n P Q a w:=
 akl (wg h hp)
def Ox{id:Nat}{l:List cT}(k:Nat)(h:cQ P l.toArray (Exit.then (tS (Fr af) 0 P l.toArray Q (l.drop k)) Aq) (l.take k) a w)(hp:(l.take k).all tx=true:=by kernel_rfl):(yd id l.toArray ao).wp P Q a w:=
 (yn (n:=0)).1 (akl (F:=Fr af) (ate k h hp))
def U7 {aq:aP} {FX:Nat->Prop} {bm:List bu} {Jr q:Nat} {a0:b3} (I:ak aq FX w bm) (LE:List Nat) (bS:Nat->fg->aO) (out:(Nat->fg)->Nat->bu) (ins rd look:Nat->List Nat) (fin:List Nat)
 (ko:∀us,cM P ops (Exit.then (Q sU) Aq) (oR ops) LE bS aq FX bm out ins rd fin (λ_ _=>False) us 0 ops.toList a0)
 (hloc:Ci look out LE:=by(repeat' (first|exact trivial|refine And.intro (λus kJ h=>?_) ?_|rfl|(simp(disch:=decide) only[h];done))))
 (hm:P.follows .mixedOrders=true:=by kernel_rfl) (hk:EW ops (oR ops) (y1 ops)=true:=by kernel_rfl) (hsz:((dU ops.size).all λi=>match oR ops i with|some d=>decide (d<a0.tmps.size)|none=>LE.contains i)=true:=by kernel_rfl) (hs:Gd bm.length ops.size (y1 ops) LE ins rd look fin=true:=by kernel_rfl)
 (hp:ops.all tx=true:=by kernel_rfl):
 (yd Jr ops az).wpIn (Fr (ab q)) n P Q a0 w:=wpIn_region_any hm (LP hp _ _ _ _ (U6 I (y1 ops) (oR ops) LE bS out ins rd look fin _ hk hsz hs (λ_ _ _ _ h=>h.elim) (hloc.spec) ko))
end
def obj(l:Nat)(o:Obj):bu:=⟨λb=>b=l,λw=>w.heap[l]?=ab o,λw w' h hl hp=>(h l aa (hl l aa)).trans hp⟩
def bY:List bu->bu
 |[]=>emp
 |t::l=>both t (bY l)
section
variable {aq w w':aP} {FX:Nat->Prop} {l l':List bu} {s t:bu}
def ak.bY(h:ak aq FX w (l++l')):ak aq FX w (bY l::l'):=by
 induction l with
 |nil=>exact h.dM
 |cons t l ck=>
  have h1:=h.perm (by simpa using(Yy (l₁:=l) (a:=t) (l₂:=l')).symm);clear ck
  have key:∀(l) l',ak aq FX w (l++l')->ak aq FX w (Go.Proofs.YtcmhplknoglbkaaGreat.bY l::l'):=by
   intro l;induction l with
   |nil=>intro l' h;exact h.dM
   |cons t l ck=>
    intro l' h;have h2:=ck _ (h.perm (by simpa using(Yy (l₁:=l) (a:=t) (l₂:=l')).symm));exact(h2.perm (Cd _ _ _)).star
  exact key _ l' h
def ak.kI(h:ak aq FX w (Go.Proofs.YtcmhplknoglbkaaGreat.bY l::l')):ak aq FX w (l++l'):=by
 induction l generalizing l' with
 |nil=>exact h.drop 0
 |cons t l ck=>
  have h1:=h.fw;have h2:=ck (h1.perm (Cd _ _ _));exact h2.perm bc
def ak.Hy(h:ak aq FX w (t::l)):ak aq FX w [t,Go.Proofs.YtcmhplknoglbkaaGreat.bY l]:=by have h1:=h.perm (by simpa using(Yy (l₁:=l) (a:=t) (l₂:=[])).symm);exact h1.bY.perm (Cd _ _ _)
def ak.xW(h:ak aq FX w [t,Go.Proofs.YtcmhplknoglbkaaGreat.bY l]):ak aq FX w (t::l):=by have h1:=(h.perm (Cd _ _ _)).kI;exact h1.perm bc
def at4{q o}o'(h:q<w.heap.size):Turned w (w.putObj q o') (obj q o) (obj q o'):=
 ⟨⟨rfl,rfl,rfl,bc,λk _ hk=>World.putObj_heap_other (λe=>hk e)⟩,World.putObj_heap_same h,λb hb=>⟨by have e:b=q:=hb;rw[e];simpa using h,bZ hb⟩⟩
def ak.putObj{q o}(h:ak aq FX w l)i o'(hi:l[i]?=ab (obj q o)):ak aq FX (w.putObj q o') (l.set i (obj q o')):=
 h.DH i hi (at4 o' ((h.has i hi).2 q aa))
def ak.obj{q:Nat}{o:Obj}(h:ak aq FX w l)(i:Nat)(hi:l[i]?=ab (obj q o):=by rfl):w.heap[q]?=ab o:=h.at i hi
def ak.newObj o(h:ak aq FX w l):ak aq FX (w.alloc o) (Go.Proofs.YtcmhplknoglbkaaGreat.obj w.heap.size o::l):=
 h.new _ ⟨av.alloc _ _,World.alloc_heap_new _ _,λb hb=>⟨by have e:b=w.heap.size:=hb;omega,by have e:b=w.heap.size:=hb;rw[e,World.size_alloc];omega⟩⟩
end
section
variable {α:Type} {P:ew} {g:Nat} {lb:Array aO} {encs:α->Array aO} {aq:aP} {FX:Nat->Prop}
def amh(P:ew)(l:Nat)(encs:α->Array aO)(aq:aP)(FX:Nat->Prop)(S hB:List α->bu->Prop)(xs:List α):Prop:=
 ∀pre x W F t,pre++[x]<+:xs->S pre t->ak aq FX W [t,F]->YieldAt (Fr af) 0 P l (encs x) W λe cR=>(e=aB (ai az)/\∃b8,S (pre++[x]) b8/\ak aq FX cR [b8,F])\/(e=aB (ai ao)/\∃b8,hB (pre++[x]) b8/\ak aq FX cR [b8,F])
def vC(aq:aP)(FX:Nat->Prop)(S hB:List α->bu->Prop)(kT:bu->Prop)(xs:List α)(F:bu)(e:wy)(cR:aP):Prop:=
 (∃v,e=aB v)/\((∃b8 u,S xs b8/\kT u/\ak aq FX cR [b8,u,F])\/∃pre b8 u,pre<+:xs/\hB pre b8/\ak aq FX cR [b8,u,F])
def vC.all{S hB kT}{xs:List α}{F t u v cR}(hS:S xs t)(bP:kT u)(I:ak aq FX cR [t,u,F]):vC aq FX S hB kT xs F (aB v) cR:=⟨⟨_,aa⟩,bZ ⟨_,_,hS,bP,I⟩⟩
theorem vC.cut{S hB kT}{xs pre:List α}{F t u v cR}(hp:pre<+:xs)(hS:hB pre t)(I:ak aq FX cR [t,u,F]):vC aq FX S hB kT xs F (aB v) cR:=⟨⟨_,aa⟩,cc ⟨_,_,_,hp,hS,I⟩⟩
def yM(P:ew)(g:Nat)(lb:Array aO)(encs:α->Array aO)(aq:aP)(FX:Nat->Prop)(T:bu)(kT:bu->Prop)(xs:List α):Prop:=
 ∀(l:Nat) (S hB:List α->bu->Prop) (W:aP) (F t:bu),amh P l encs aq FX S hB xs->S [] t->ak aq FX W [T,t,F]->
  aC P g (#[dS (wz l) #[] #[]]++lb) W (vC aq FX S hB kT xs F)
def afJ(aq:aP)(FX:Nat->Prop)(S:List α->bu->Prop)(hB:Code->List α->bu->Prop)(xs:List α)(b F:bu):iD->b3->aP->Prop
 |.normal,_,W=>∃t,S xs t/\ak aq FX W [t,b,F]
 |.ret,_,W=>∃t,hB .ret xs t/\ak aq FX W [t,b,F]
 |.exit id,_,W=>∃t,hB (.exit id) xs t/\ak aq FX W [t,b,F]
 |.goto q,_,W=>∃t,hB (.goto q) xs t/\ak aq FX W [t,b,F]
 |.panic _,_,_=>False
 |.outgrown,_,_=>False
def Cs{w:aP}{L:List bu}{q:Nat}{rd:Loop}{C:aP->Prop}(I:ak aq FX w L)(i:Nat)(hr:rd.state=kz)(h:∀w',ak aq FX w' (L.set i (obj q (gh {rd with state:=.busy})))->C w')(hi:L[i]?=ab (obj q (gh rd)):=by rfl):∃w',(VM q).run P w=bf () w'/\C w':=
 ⟨_,run_beginRound (I.obj i hi) hr,h _ (I.putObj i _ hi)⟩
def JQ {HT:ia} {ps:Array Tmp} {assign body:Code} {Q:iD->b3->aP->Prop} {sI:Array aO} {ds:List Deferred} {w:aP} {xs:List α} {T:bu} {kT:bu->Prop} {t F:bu} {jt:α->Array aO}
 (hg:(Act.mk sI ds).eval HT=dS (eu g) #[] lb) (gE:∀args w,(kB g args).run P w=bf (.enter g args) w) (ss:∀x,(encs x).size=ps.size) (hseq:yM P g lb encs aq FX T kT xs)
 (S:List α->bu->Prop) (hB:Code->List α->bu->Prop) (h0:S [] t) (I:ak aq FX w [T,t,F])
 (Tb:∀(l:Nat) (rd:Loop) (pre:List α) (x:α) (W:aP) (t F:bu),pre++[x]<+:xs->rd.state=kz->S pre t->ak aq FX W [t,obj l (gh rd),F]->
   assign.wpIn (Fr (ab l)) 0 P (Exit.then (λfy w1=>∃aU,(VM l).run P w1=bf () aU/\body.wpIn (Fr (ab l)) 0 P (afJ aq FX S hB (pre++[x]) (obj l (gh {rd with state:=.busy})) F) fy aU) (λ_ _ _=>False))
    {tmps:=jt x,defers:=[]} W)
 (hdone:∀D t u W,S xs t->kT u->ak aq FX W [t,u,obj D (kA (ab [])),F]->Q sU {tmps:=sI,defers:={target:=D4 D,args:=#[]}::ds} W)
 (Td:∀D c pre t u W,pre<+:xs->hB c pre t->ak aq FX W [t,u,obj D (kA (ab [])),F]->c.wp P Q {tmps:=sI,defers:={target:=D4 D,args:=#[]}::ds} W)
 (hat:∀x,(ps.zip (encs x)).foldl (λt (p,v)=>t.setIfInBounds p v) sI=jt x:=by(intro _;simp only[List.zip_toArray,List.zip_cons_cons,List.zip_nil_right,List.foldl_toArray',List.size_toArray,List.foldl_cons,List.foldl_nil,List.setIfInBounds_toArray,List.set_cons_succ,List.set_cons_zero];rfl)):
 (Code.rangeFunc HT ps assign body).wp P Q {tmps:=sI,defers:=ds} w:=by
 refine(yn (n:=0)).1 (wpIn_rangeFunc ?_);intro fn hfn;obtain⟨rec,nM⟩:∃rec:LoopState->Option Code->Loop,rec=λst aI=>{state:=st,pending:=aI,fn,tmps:=sI,params:=ps,assign,body,defers:=w.heap.size}:=⟨_,aa⟩;obtain⟨D,ec⟩:=ex w.heap.size;obtain⟨l,hl⟩:=ex ((w.alloc (kA (ab []))).heap.size);have Hd:=I.newObj (kA (ab []));have lh:=Hd.newObj (gh (rec kz af));have SO:l=w.heap.size+1:=by rw[<-hl];simp
 rw[hl,ec]at lh;obtain⟨ih,H6⟩:=ex ((w.alloc (kA (ab []))).alloc (gh (rec kz af)));rw[H6]at lh
 refine⟨l,[{target:=D4 D,args:=#[]}],ih,{target:=.fn (eu g) lb,args:=#[dS (wz l) #[] #[]]},ih,g,
  #[dS (wz l) #[] #[]]++lb,ih,?_,?_,?_,?_,λh=>(by cases h),?_⟩;·rw[<-H6,nM,SO,<-ec];exact run_enterLoop_outer _ _ _ _ _
 .simp only[n2,hg];simp[go_sem]
 .intro _ _;trivial
 .grind[n1]
 .refine sY.2 ((hseq l (λpre t=>∃t2,S pre t2/\t=both t2 (obj l (gh (rec kz af)))) (λpre t=>∃t2 c,hB c pre t2/\t=both t2 (obj l (gh (rec .done (ab c))))) ih (both (obj D (kA (ab []))) F) _ ?_ ⟨t,h0,aa⟩ ?_).mono ?_)
  .rintro pre x W BJ _ eY ⟨t2,hs,rfl⟩ hst;have h1:=hst.fw;have C4:=h1.obj 1;have hy:=run_yield (P:=P) (args:=encs x) C4 aG;rw[nM]at hy;refine⟨fn,_,assign,body,hy,roundIn_of_wpIn hfn (wpIn_mono ((hat x).symm▸Tb l (rec kz af) pre x W t2 BJ eY aG hs h1) ?_)⟩;rintro e fy w1 he;cases e with
   |normal=>
    obtain⟨aU,hb,Su⟩:=he;refine⟨aU,hb,wpIn_mono Su ?_⟩
    have fin:∀(jump) ij t3,ak aq FX ij [t3,obj l (gh {rec kz af with state:=.busy}),BJ]->(Instr.endRound l _).run P ij=bf _ (ij.putObj l (gh (rec _ _)))/\
     ak aq FX _ _:=λjump ij t3 h3=>by
     have hr:=run_endRound (P:=P) jump (h3.obj 1);have h4:ak aq FX _ [t3,obj l _,BJ]:=h3.putObj 1 (gh (rec (if jump.isNone then kz else .done) jump)) aa;refine⟨?_,h4.star⟩;rw[hr,nM]
    rintro e a3 ij hp;cases e with
    |normal=>
     obtain⟨t3,hs3,h3⟩:=hp;obtain⟨hr,h4⟩:=fin af ij t3 h3;exact⟨_,_,hr,bZ ⟨aa,_,⟨t3,hs3,aa⟩,h4⟩⟩
    |ret=>
     obtain⟨t3,hs3,h3⟩:=hp;obtain⟨hr,h4⟩:=fin (ab .ret) ij t3 h3;exact⟨_,_,hr,cc ⟨aa,_,⟨t3,_,hs3,aa⟩,h4⟩⟩
    |exit id=>
     obtain⟨t3,hs3,h3⟩:=hp;obtain⟨hr,h4⟩:=fin (ab (.exit id)) ij t3 h3;exact⟨_,_,hr,cc ⟨aa,_,⟨t3,_,hs3,aa⟩,h4⟩⟩
    |goto q=>
     obtain⟨t3,hs3,h3⟩:=hp;obtain⟨hr,h4⟩:=fin (ab (.goto q)) ij t3 h3;exact⟨_,_,hr,cc ⟨aa,_,⟨t3,_,hs3,aa⟩,h4⟩⟩
    |panic ch=>exact hp.elim
    |outgrown=>exact hp.elim
   |_=>exact he.elim
  .have h2:=lh;have h3:ak aq FX ih [t,obj l _,obj D _,F,T]:=h2.pick [3,0,1,4,2];have h4:ak aq FX ih [obj D _,F,T,both t _]:=h3.star.pick [1,2,3,0];exact h4.star.pick [1,2,0]
  .rintro e fh ⟨⟨v,rfl⟩,(⟨_,u,⟨t2,hs,rfl⟩,bP,hst⟩|⟨pre,_,u,eY,⟨t2,c,hs,rfl⟩,hst⟩)⟩;·have h1:=hst.fw;have h2:=(h1.pick (l':=[both _ F,t2,obj l _,u]) [3,0,1,2]).fw;have h3:=h2.putObj 3 (gh {rec kz af with state:=GG}) aa;refine⟨af,_,by have:=PO (P:=P) (h2.obj 3) aG;rw[nM]at this;exact this,?_⟩;have h4:=hdone D t2 u _ hs bP ((ak.pick (l:=_) h3 [2,4,0,1]));rw[nM]at h4;exact h4
   .have h1:=hst.fw;have h2:=(h1.pick (l':=[both _ F,t2,obj l _,u]) [3,0,1,2]).fw;have h3:=h2.putObj 3 (gh {rec .done (ab c)with state:=GG}) aa;refine⟨ab c,_,by have:=PO (P:=P) (h2.obj 3) aG;rw[nM]at this;exact this,?_⟩;have h4:=Td D c _ t2 u _ eY hs ((ak.pick (l:=_) h3 [2,4,0,1]));grind[yn]
def at_region{F n id ops d Q a w}(h:(yd id ops d).wpIn F n P Q a w):(yd id ops d).wpIn F n P Q a w:=h
def ak.Zf{w a b c}(h:ak aq FX w (a++(b++c))):ak aq FX w [Go.Proofs.YtcmhplknoglbkaaGreat.bY a,Go.Proofs.YtcmhplknoglbkaaGreat.bY b,Go.Proofs.YtcmhplknoglbkaaGreat.bY c]:=by
 have h1:=h.bY.perm (by simpa using(Hn (Go.Proofs.YtcmhplknoglbkaaGreat.bY a) (b++c)).symm)
 have h2:=h1.bY.perm (by have:=(Hn (Go.Proofs.YtcmhplknoglbkaaGreat.bY b) (c++[Go.Proofs.YtcmhplknoglbkaaGreat.bY a])).symm;simpa using this);exact h2.bY.pick [1,2,0]
def ak.EJ{w t b c}(h:ak aq FX w (t::(b++c))):ak aq FX w [t,Go.Proofs.YtcmhplknoglbkaaGreat.bY b,Go.Proofs.YtcmhplknoglbkaaGreat.bY c]:=
 (ak.Zf (a:=[t]) h).kI
def ak.fP{w l}k(h:ak aq FX w l):ak aq FX w (Go.Proofs.YtcmhplknoglbkaaGreat.bY (l.take k)::l.drop k):=ak.bY (by grind[oJ])
def JG{A B b}(h:(aB b=aB (ai az)/\A)\/(aB b=aB (ai ao)/\B)):(b=ai az/\A)\/(b=ai ao/\B):=aG
def HP{o}{a:b3}{w l x xs ty encs}(ho:o.op=.call {callee:=.value x,args:=xs,argTypes:=ty})(hx:a.eval x=dS (wz l) #[] #[])(has:xs.map a.eval=encs):(bz a.eval o).run P w=(ah8 l encs).run P w:=by grind[bz,n2,Deferred.ofValue,n1]
def JR {o:cT} {a:b3} {w:aP} {l:Nat} {encs:Array aO} {Q:iD->b3->aP->Prop} {ops:Array cT} {rest:List cT} {cC:wy->aP->Prop} (hy:YieldAt (Fr af) 0 P l encs w cC)
 (hK:∀b w',cC (aB b) w'->tS (Fr af) 0 P ops Q rest (a.put o.dst b) w') (fj:∀e w',cC e w'->∃v,e=aB v) (hx:(bz a.eval o).run P w=(ah8 l encs).run P w) (hw:c7 o (c3 ops a.tmps)=true:=by kernel_rfl):tS (Fr af) 0 P ops Q (o::rest) a w:=by
 obtain⟨fn,tmps,assign,body,h1,h2⟩:=hy;unfold tS;rw[if_pos hw];refine⟨λ_ _=>trivial,?_⟩;show Oper.uponIn _ _ _ _ _ _ _ ((Oper.semAt af a.eval o).run P w);rw[Oper.semAt_none,hx,h1];refine⟨λh=>(by cases h),h2.1,λc cs hr=>?_⟩;obtain⟨e,w',hr2,hs⟩:=h2.2 c cs hr;obtain⟨v,rfl⟩:=fj e w' hr2;exact⟨aB v,w',hK v w' hr2,hs⟩
def Cy {f fn c args w cC} (hf:P.funcs[f]?=ab fn) (hb:fn.body=ab c)
 (h:c.wp P (Xi (Fr af) 0 P fn cC) {tmps:=args++Array.replicate (fn.ntmps -args.size) a1,defers:=[]} w):aC P f args w cC:=
 (sY (n:=0)).1 (callsIn_of_wp_marks hf hb trivial (yn.2 h) aa)
def zq {fn:Func} {cC:wy->aP->Prop} {a:b3} {w:aP} {L:List bu} {D:Nat} {v:aO} (I:ak aq FX w L) (i:Nat) (h:∀w',ak aq FX w' (L.set i (obj D (kA af)))->(results fn a.tmps).run P w'=bf v w'/\cC (aB v) w')
 (hd:a.defers=[{target:=D4 D,args:=#[]}]:=by rfl) (hi:L[i]?=ab (obj D (kA (ab []))):=by rfl):Xi (Fr af) 0 P fn cC .ret a w:=by
 show LeavesInM _ _ _ _ _ _ a.defers _ _;rw[hd];obtain⟨h1,h2⟩:=h _ (I.putObj i (kA af) hi);exact⟨bc,bZ ⟨D,_,aa,run_takeDeferred (I.obj i hi),⟨v,h1,h2⟩⟩⟩
def att{fn:Func}{cC:wy->aP->Prop}{a:b3}{w:aP}{v:aO}(h1:(results fn a.tmps).run P w=bf v w)(h2:cC (aB v) w)(hd:a.defers=[]:=by rfl):Xi (Fr af) 0 P fn cC .ret a w:=by show LeavesInM _ _ _ _ _ _ a.defers _ _;rw[hd];exact⟨v,h1,h2⟩
end
end
section
open Go.RowKit Go.MapKept
abbrev bw(x:Int):Value:=J wA x
def gy(x:Int):Int:=wA.wrap x
def a32(x y:Int):Int:=wA.wrap (x+y)
def h9(x y:Int):Int:=wA.wrap ((mM 32 x^^^mM 32 y).toNat:Int)
def n32(x y:Int):Int:=wA.wrap ((mM 32 x&&& mM 32 y).toNat:Int)
def pE(x y:Int):Int:=wA.wrap ((mM 32 x|||BitVec.ofInt 32 y).toNat:Int)
def mE(x:Int)(n:Nat):Int:=wA.wrap (x*2^n)
def jg(x:Int)(n:Nat):Int:=x.fdiv (2^n)
def k7(x:Int)(n:Nat):Int:=pE (mE x n) (jg x (32 -n))
section
variable {U:Int->aO} {L:List Int} {tail:List aO}
def aM(U:Int->aO)(L:List Int)(tail:List aO):Array Value:=(L.map U++tail).toArray
def LJ{i}(h:i<L.length):(aM U L tail)[i]?=ab (U (L[i]?.getD 0)):=by grind[aM,tZ]
def td{k v n}(hn:L.length=n)(h:tail[k]?=ab v):(aM U L tail)[n+k]?=ab v:=by grind[aM]
def amm{i}(h:i<L.length)v:(aM U L tail).setIfInBounds i (U v)=aM U (L.set i v) tail:=by grind[aM]
def amn{k n}(hn:L.length=n)v:(aM U L tail).setIfInBounds (n+k) v=aM U L (tail.set k v):=by grind[aM]
theorem i':(aM U L tail).size=L.length+tail.length:=by simp[aM]
def LH(rp:∀x,(U x).oneCell'=az)(ht:∀v∈tail,v.oneCell'=az):(aM U L tail).all (·.oneCell')=true:=by rw[Vw];intro v hv;have hv':=List.mem_toArray.1 hv;grind
end
section
variable {P:ew} {o:cT} {a:b3} {w:aP}
def mw t(x y)b8(ho:o.op=nt .add t x y b8)(p q z)(hx:a.eval x=J R p)(hy:a.eval y=J R q)(hz:p+q=z)(h1:-9223372036854775808<=z)(h2:z<=9223372036854775807):
 (bz a.eval o).run P w=bf (da (J R z)) w:=by
 have hw:R.wrap (p+q)=z:=by grind[wB]
 unfold bz;simp[ho,hx,hy,yl,wM,VU,hw]
def ra t(x y)b8(ho:o.op=nt .sub t x y b8)(p q z)(hx:a.eval x=J R p)(hy:a.eval y=J R q)(hz:p -q=z)(h1:-9223372036854775808<=z)(h2:z<=9223372036854775807):
 (bz a.eval o).run P w=bf (da (J R z)) w:=by
 have hw:R.wrap (p -q)=z:=by grind[wB]
 unfold bz;simp[ho,hx,hy,yl,wM,VU,hw]
def ln t(x y)b8(ho:o.op=nt .mul t x y b8)(p q z)(hx:a.eval x=J R p)(hy:a.eval y=J R q)(hz:p*q=z)(h1:-9223372036854775808<=z)(h2:z<=9223372036854775807):
 (bz a.eval o).run P w=bf (da (J R z)) w:=by
 have hw:R.wrap (p*q)=z:=by grind[wB]
 unfold bz;simp[ho,hx,hy,yl,wM,VU,hw]
def amv:∀n:Nat,n<128->R.wrap ((mM 64 (n:Int)&&& mM 64 15).toNat:Int)=((n%16:Nat):Int):=by decide+kernel
def EG t(x y)b8(ho:o.op=nt .and t x y b8)(n:Nat)(hx:a.eval x=J R (n:Int))(hy:a.eval y=J R 15)(hn:n<128)k(hk:n%16=k):
 (bz a.eval o).run P w=bf (da (J R (k:Int))) w:=by
 have hw:=amv n hn;rw[hk]at hw;unfold bz;simp only[ho,hx,hy,yl,wM];show bf (da (J R (R.wrap ((mM 64 (n:Int)&&& mM 64 15).toNat:Int)))) w=_;rw[hw]
def asz(t e sz m:Nat)(x lx)(ho:o.op=D2 t x lx)(ht:P.underlying t=ab (vd m e))(hs:(P.info? e).map (·.size)=ab sz)(b off i k:Nat)(hx:a.eval x=ay (ab ⟨b,off,af⟩))(hi:a.eval lx=J R (i:Int))(h:i<m)(hk:off+i*sz=k):
 (bz a.eval o).run P w=bf (da (ay (ab ⟨b,k,af⟩))) w:=by
 cases hq:P.info? e with
 |none=>grind
 |some tE=>
  have hsz:tE.size=sz:=aG;subst hk;have oj:(⟨b,off,_⟩:bT).add (i*sz)=⟨b,_,_⟩:=O5 _ _ _;unfold bz;simp[ho,hx,hi,VO,BM,zY,gC,gO ht,mQ,nv,hq,hsz,oj];intro h2;omega
def Tx (t e m:Nat) (x lx) (ho:o.op=.index t x lx) (ht:P.underlying t=ab (vd m e)) (he:(P.underlying e).map (λ|.struct _|.array _ _=>az|_=>ao)=ab ao) (hs:(P.info? e).map (·.size)=ab 1)
 U L (i:Nat) (hx:a.eval x=ar (aM U L [])) (hi:a.eval lx=J R (i:Int)) (h:i<m) (cd:L.length=m):
 (bz a.eval o).run P w=bf (da (U (L[i]?.getD 0))) w:=by
 cases hq:P.info? e with
 |none=>grind
 |some tE=>
  have hsz:tE.size=1:=aG;cases hd:P.underlying e with
  |none=>grind
  |some d=>
   rw[hd]at he;have hg:(aM U L [])[i]?=ab _:=LJ ad;have hb:¬(m:Int)<=(i:Int):=ad;have h1:(i:Int)<(m:Int):=ad;unfold bz;simp only[ho,hx,hi,Instr.index,zY,gC,gO ht,kg,jI];rw[if_pos ⟨ad,h1⟩];simp only[mQ,nv,gC,kg,jI,part,isAgg,gO hd];cases d<;>simp_all
def adY (ty e) n x (ho:o.op=nZ ty x) B (hx:a.eval x=ay (ab ⟨B,0,af⟩)) {t U L tail} (hg:aX w B (aM U L tail) t) (cd:L.length=n)
 (hu:P.underlying ty=ab (vd n e)) (hi:(P.info? ty).map (·.size)=ab n):(bz a.eval o).run P w=bf (da (ar (aM U L []))) w:=by
 have h:=e5 (P:=P) (o:=o) (a:=a) (w:=w) ty x ho B 0 hx _ (d:=_) (λj v hv=>by rw[js];refine aX.cell hg j ?_;simp only[aM,Ak];rw[tZ (eM.1 hv).1];exact hv) hu aa (by rw[hi];simp[cd]);rw[h];simp[aM]
variable {K:b3->aP->Prop} {Q:iD->b3->aP->Prop}
end
end
section
open Go.RowKit Go.MapKept
def nth:List bu->Nat->(Nat->bu)->bu
 |[],n,f=>f n
 |t::_,0,_=>t
 |_::l,n+1,f=>nth l n f
def aet t l f:nth (t::l) 0 f=t:=rfl
theorem T0 t l n f:nth (t::l) (n+1) f=nth l n f:=rfl
def aev n f:nth [] n f=f n:=rfl
def uY(f:Nat->bu):List Nat->List bu
 |[]=>[]
 |n::l=>f n::uY f l
def af6 f:uY f []=[]:=rfl
theorem UH f n l:uY f (n::l)=f n::uY f l:=rfl
def atZ bm out us:∀n,dk bm out us n=nth bm n (out us):=by
 intro n;unfold dk
 have key:∀(l) n f,(match l[n]? with|some t=>t|none=>f (n -l.length))=nth l n f:=by
  intro l;induction l with
  |nil=>intro n f;rfl
  |cons t l ck=>
   intro n f;cases n with
   |zero=>rfl
   |succ n=>grind[T0]
 exact key bm n _
theorem awZ bm out us fin:fin.map (dk bm out us)=uY (λn=>nth bm n (out us)) fin:=by
 induction fin with
 |nil=>rfl
 |cons n l ck=>rw[kj,ck,atZ];rfl
section
variable {P:ew} {ops:Array cT} {Q:iD->b3->aP->Prop} {aq:aP} {FX:Nat->Prop} {dst:Nat->Option Tmp} {LE:List Nat} {bS:Nat->fg->aO} {bm l':List bu} {out:(Nat->fg)->Nat->bu} {ins rd:Nat->List Nat} {fin:List Nat} {QP:List rX->aP->Prop} {us:Nat->fg} {i:Nat} {a:b3}
def bQ(h:∀w',ak aq FX w' l'->Q sU a w')(hl:uY (λn=>nth bm n (out us)) fin=l':=by(simp only[af6,UH,aet,T0,aev];rfl)):cM P ops Q dst LE bS aq FX bm out ins rd fin QP us i [] a:=
 pN (λw' I=>h w' (by grind[awZ]))
end
section
variable {aq w:aP} {FX:Nat->Prop} {l l' L r:List bu} {a b c d:bu}
def NF(l:List bu)(n:Nat):bu:=nth l n λ_=>emp
theorem aeu:∀{l} {n},n<l.length->l[n]?=ab (NF l n)
 |_::_,0,_=>aa
 |_::l,n+1,h=>by rw[vu];exact aeu (l:=l) (by simpa using h)
def au1(h:ak aq FX w l)idx(h1:(idx.all λn=>decide (n<l.length))=az)(h2:decide idx.Nodup=az):ak aq FX w (uY (NF l) idx):=by
 refine h.pick _ ?_ h2;clear h2;induction idx with
 |nil=>rfl
 |cons n idx ck=>grind[UH,aeu]
def ak.pk(h:ak aq FX w l)(idx:List Nat)(hl:uY (NF l) idx=L:=by(simp only[af6,UH,NF,aet,T0,aev];rfl))(h1:(idx.all λn=>decide (n<l.length))=true:=by kernel_rfl)(h2:decide idx.Nodup=true:=by kernel_rfl):ak aq FX w L:=hl▸au1 h idx h1 h2
def ak.Oh(l l')(h:ak aq FX w (l++l')):ak aq FX w (l++[Go.Proofs.YtcmhplknoglbkaaGreat.bY l']):=by have h1:=h.perm vw;exact h1.bY.perm (by simpa using(Hn (Go.Proofs.YtcmhplknoglbkaaGreat.bY l') l).symm)
def ak.Oo(l l')(h:ak aq FX w (l++[Go.Proofs.YtcmhplknoglbkaaGreat.bY l'])):ak aq FX w (l++l'):=by have h1:=h.perm (Hn _ _);exact h1.kI.perm vw
def ak.t1(h:ak aq FX w (a::r)):ak aq FX w [a,Go.Proofs.YtcmhplknoglbkaaGreat.bY r]:=h.Oh [a] r
def ak.t2(h:ak aq FX w (a::b::r)):ak aq FX w [a,b,Go.Proofs.YtcmhplknoglbkaaGreat.bY r]:=h.Oh [a,b] r
def ak.t3(h:ak aq FX w (a::b::c::r)):ak aq FX w [a,b,c,Go.Proofs.YtcmhplknoglbkaaGreat.bY r]:=h.Oh [a,b,c] r
def ak.t4(h:ak aq FX w (a::b::c::d::r)):ak aq FX w [a,b,c,d,Go.Proofs.YtcmhplknoglbkaaGreat.bY r]:=h.Oh [a,b,c,d] r
def ak.cX(h:ak aq FX w [a,Go.Proofs.YtcmhplknoglbkaaGreat.bY r]):ak aq FX w (a::r):=h.Oo [a] r
def ak.bk(h:ak aq FX w [a,b,Go.Proofs.YtcmhplknoglbkaaGreat.bY r]):ak aq FX w (a::b::r):=h.Oo [a,b] r
def ak.iw(h:ak aq FX w [a,b,c,Go.Proofs.YtcmhplknoglbkaaGreat.bY r]):ak aq FX w (a::b::c::r):=h.Oo [a,b,c] r
def ak.hR(h:ak aq FX w [a,b,c,d,Go.Proofs.YtcmhplknoglbkaaGreat.bY r]):ak aq FX w (a::b::c::d::r):=h.Oo [a,b,c,d] r
def ak.lX(h:ak aq FX w (Go.Proofs.YtcmhplknoglbkaaGreat.bY l::l'))(hl:l++l'=L:=by(simp only[List.cons_append,List.nil_append];rfl)):ak aq FX w L:=hl▸h.kI
end
section
variable {P:ew} {ops:Array cT} {rest:List cT} {Q:iD->b3->aP->Prop} {o:cT} {a bC:b3} {w:aP}
def pk (v:aO) (h:cQ P ops Q rest bC w) (hr:(bz a.eval o).run P w=bf (da v) w:=by(show _=_;kernel_rfl)) (hw:c7 o (c3 ops a.tmps)=true:=by kernel_rfl)
 (ha:a.put o.dst v=bC:=by((try simp only[Act.put,List.setIfInBounds_toArray,List.set_cons_zero,List.set_cons_succ]);rfl)):cQ P ops Q (o::rest) a w:=ag h hw hr ha
def a7 (v:aO) (h:cQ P ops Q rest bC w) (hr:(bz a.eval o).run P w=bf (da v) w:=by(go_simp;try omega)) (hw:c7 o (c3 ops a.tmps)=true:=by kernel_rfl)
 (ha:a.put o.dst v=bC:=by((try simp only[Act.put,List.setIfInBounds_toArray,List.set_cons_zero,List.set_cons_succ]);rfl)):cQ P ops Q (o::rest) a w:=ag h hw hr ha
def dp {p:Prop} (H:aE p) (v:aO) (h:cQ P ops Q rest bC w) (hr:p->(bz a.eval o).run P w=bf (da v) w:=by(intro h;go_simp;try simp[h])) (hw:c7 o (c3 ops a.tmps)=true:=by kernel_rfl)
 (ha:a.put o.dst v=bC:=by((try simp only[Act.put,List.setIfInBounds_toArray,List.set_cons_zero,List.set_cons_succ]);rfl)):cQ P ops Q (o::rest) a w:=ag h hw (hr H.out) ha
def pad (p q z:Int) (h:cQ P ops Q rest bC w) {t b8:gj} {x y:ia} (ho:o.op=nt .add t x y b8:=by rfl) (hx:a.eval x=J R p:=by rfl) (hy:a.eval y=J R q:=by rfl) (hz:p+q=z:=by omega) (h1:-9223372036854775808<=z:=by omega) (h2:z<=9223372036854775807:=by omega) (hw:c7 o (c3 ops a.tmps)=true:=by kernel_rfl)
 (ha:a.put o.dst (J R z)=bC:=by((try simp only[Act.put,List.setIfInBounds_toArray,List.set_cons_zero,List.set_cons_succ]);rfl)):cQ P ops Q (o::rest) a w:=ag h hw (mw t x y b8 ho p q z hx hy hz h1 h2) ha
def j0 (p q z:Int) (h:cQ P ops Q rest bC w) {t b8:gj} {x y:ia} (ho:o.op=nt .sub t x y b8:=by rfl) (hx:a.eval x=J R p:=by rfl) (hy:a.eval y=J R q:=by rfl) (hz:p -q=z:=by omega) (h1:-9223372036854775808<=z:=by omega) (h2:z<=9223372036854775807:=by omega) (hw:c7 o (c3 ops a.tmps)=true:=by kernel_rfl)
 (ha:a.put o.dst (J R z)=bC:=by((try simp only[Act.put,List.setIfInBounds_toArray,List.set_cons_zero,List.set_cons_succ]);rfl)):cQ P ops Q (o::rest) a w:=ag h hw (ra t x y b8 ho p q z hx hy hz h1 h2) ha
def jf {aq:aP} {B k t:Nat} {cs:Array aO} {v:aO} {ty:gj} {x:ia} (hb:aX aq B cs t) (g:av (λ_=>False) aq w) (h:cQ P ops Q rest bC w) (ho:o.op=nZ ty x:=by rfl) (hx:a.eval x=ay (ab ⟨B,k,af⟩):=by rfl)
 (hv:cs[k]?=ab v:=by((try simp only[List.getElem?_toArray,List.getElem?_cons_succ,List.getElem?_cons_zero])<;>rfl)) (hu:(P.underlying ty).map (λd=>d.isRow)=ab false:=by kernel_rfl) (hw:c7 o (c3 ops a.tmps)=true:=by kernel_rfl)
 (ha:a.put o.dst v=bC:=by((try simp only[Act.put,List.setIfInBounds_toArray,List.set_cons_zero,List.set_cons_succ]);rfl)):cQ P ops Q (o::rest) a w:=ag h hw (fM ho hx (av.heap g hb (λh=>h)) hv hu) ha
end
section
variable {P:ew} {ops:Array cT} {rest:List cT} {Q:iD->b3->aP->Prop} {o:cT} {a bC:b3} {aq:aP} {FX:Nat->Prop} {dst:Nat->Option Tmp} {LE:List Nat} {bS:Nat->fg->aO} {bm:List bu} {out:(Nat->fg)->Nat->bu} {ins rd:Nat->List Nat} {fin:List Nat} {QP:List rX->aP->Prop} {us:Nat->fg} {i:Nat}
def fJ (v:aO) (h:cM P ops Q dst LE bS aq FX bm out ins rd fin QP us (i+1) rest bC) (hr:∀w,(bz a.eval o).run P w=bf (da v) w:=by(intro _;show _=_;kernel_rfl)) (hi:decide (i∈LE)=false:=by kernel_rfl) (hw:c7 o (c3 ops a.tmps)=true:=by kernel_rfl)
 (ha:a.put o.dst v=bC:=by((try simp only[Act.put,List.setIfInBounds_toArray,List.set_cons_zero,List.set_cons_succ]);rfl)):cM P ops Q dst LE bS aq FX bm out ins rd fin QP us i (o::rest) a:=aJ h hi hw hr ha
end
def Y{P Q:Prop}(k:Q)(h:aE Q->P):P:=h (hid k)
def Y2{P n ops d Q a w}(h:(yd n ops d).wp P Q a w):(yd n ops d).wp P Q a w:=h
def ah{P:Prop}{cC:(b3->aP->Prop)->Prop}{fo:∀x,cC x->(b3->aP->Prop)->Prop}{Q:∀x y bk,fo x y bk->Prop}(k:∀{x} {y:cC x} {bk} {bx:fo x y bk},Q x y bk bx)(h:aE (∀x y bk bx,Q x y bk bx)->P:=by(intro k;(try refine wpList_nil ?_);(repeat((fail_if_success (with_reducible refine Y2 ?_));(first|go_values|go_skip|go_guarded|go_step|go_upon|go_back)));(refine wp_region_lit ?_);(first|(rename_i dT h1;(have dQ:Act->World->Prop:=λ_ _=>True);(have t1:True:=trivial);with_reducible exact k.out dQ t1 dT h1)|(rename_i dT h1 ig h2;with_reducible exact k.out dT h1 ig h2)|((have dQ:Act->World->Prop:=λ_ _=>True);(have t1:True:=trivial);(have e8:Act->World->Prop:=λ_ _=>True);(have t2:True:=trivial);exact k.out dQ t1 e8 t2)))):P:=by grind[hid]
def cx{P:Prop}{cC:(b3->aP->Prop)->Prop}{fo:∀x,cC x->(b3->aP->Prop)->Prop}{Q:∀x y bk,fo x y bk->Prop}(k:∀{x} {y:cC x} {bk} {bx:fo x y bk},Q x y bk bx)(h:aE (∀x y bk bx,Q x y bk bx)->P:=by(intro k;(try refine wpList_nil ?_);(repeat((fail_if_success (with_reducible refine Y2 ?_));(first|go_values|go_skip|go_guarded|go_step|go_upon|go_back)));(first|(rename_i dT h1;(have dQ:Act->World->Prop:=λ_ _=>True);(have t1:True:=trivial);with_reducible exact k.out dQ t1 dT h1)|(rename_i dT h1 ig h2;with_reducible exact k.out dT h1 ig h2)|((have dQ:Act->World->Prop:=λ_ _=>True);(have t1:True:=trivial);(have e8:Act->World->Prop:=λ_ _=>True);(have t2:True:=trivial);exact k.out dQ t1 e8 t2)))):P:=by grind[hid]
def v2{P Q:Prop}(k:Q)(h:aE Q->P:=by(intro k;(iterate 2 refine ag ?_);exact k.out)):P:=h (hid k)
def v3{P Q:Prop}(k:Q)(h:aE Q->P:=by(intro k;(iterate 3 refine ag ?_);exact k.out)):P:=h (hid k)
def v4{P Q:Prop}(k:Q)(h:aE Q->P:=by(intro k;(iterate 4 refine ag ?_);exact k.out)):P:=h (hid k)
def v5{P Q:Prop}(k:Q)(h:aE Q->P:=by(intro k;(iterate 5 refine ag ?_);exact k.out)):P:=h (hid k)
def v6{P Q:Prop}(k:Q)(h:aE Q->P:=by(intro k;(iterate 6 refine ag ?_);exact k.out)):P:=h (hid k)
def xX{P Q:Prop}(k:Q)(h:aE Q->P:=by(intro k;(iterate 8 refine ag ?_);exact k.out)):P:=h (hid k)
def v9{P Q:Prop}(k:Q)(h:aE Q->P:=by(intro k;(iterate 9 refine ag ?_);exact k.out)):P:=h (hid k)
def bx{P Q:Prop}(k:Q)(h:aE Q->P:=by(intro k;(iterate 2 refine aJ ?_);exact k.out)):P:=h (hid k)
def c5{P Q:Prop}(k:Q)(h:aE Q->P:=by(intro k;(iterate 3 refine aJ ?_);exact k.out)):P:=h (hid k)
def hG{P Q:Prop}(k:Q)(h:aE Q->P:=by(intro k;(iterate 4 refine aJ ?_);exact k.out)):P:=h (hid k)
def np{P Q:Prop}(k:Q)(h:aE Q->P:=by(intro k;(iterate 5 refine aJ ?_);exact k.out)):P:=h (hid k)
def Kf{P Q:Prop}(k:Q)(h:aE Q->P:=by(intro k;(iterate 6 refine aJ ?_);exact k.out)):P:=h (hid k)
def Kg{P Q:Prop}(k:Q)(h:aE Q->P:=by(intro k;(iterate 7 refine aJ ?_);exact k.out)):P:=h (hid k)
def BB{P Q:Prop}(k:Q)(h:aE Q->P:=by(intro k;(iterate 8 refine aJ ?_);exact k.out)):P:=h (hid k)
def Kh{P Q:Prop}(k:Q)(h:aE Q->P:=by(intro k;(iterate 9 refine aJ ?_);exact k.out)):P:=h (hid k)
def dM{P Q:Prop}(k:Q)(h:aE Q->P:=by(intro k;(try refine wpList_nil ?_);(go_wp2_with fail);(first|go_end0|refine bodyPost_ret (results_none rfl _ _ _) rfl ?_);exact k.out)):P:=h (hid k)
def bF{P Q:Prop}(k:Q)(h:aE Q->P:=by(intro k;(try refine wpList_nil ?_);(go_wp2_with fail);(go_ret);exact k.out)):P:=h (hid k)
def cq{P Q:Prop}(k:Q)(h:aE Q->P:=by(intro k;(try refine wpList_nil ?_);(go_wp2_with fail);(go_ret2);exact k.out)):P:=h (hid k)
def Mh{P Q:Prop}(k:Q)(h:aE Q->P:=by(intro k;(try refine wpList_nil ?_);(go_wp2_with fail);exact k.out)):P:=h (hid k)
end
open Go.RowKit Go.MapKept
def cA{P:Prop}{cC:(Act->World->Prop)->Prop}{fo:∀x,cC x->(Act->World->Prop)->Prop}{Q:∀x y bk,fo x y bk->Prop}(k:∀{x} {y:cC x} {bk} {bx:fo x y bk},Q x y bk bx)(h:Hid (∀x y bk bx,Q x y bk bx)->P:=by (intro k;refine ag ?_;refine ah ?_;refine ag ?_;(first|(rename_i dT h1;(have dQ:Act->World->Prop:=λ_ _=>True);(have t1:True:=trivial);with_reducible exact k.out dQ t1 dT h1)|(rename_i dT h1 ig h2;with_reducible exact k.out dT h1 ig h2)|((have dQ:Act->World->Prop:=λ_ _=>True);(have t1:True:=trivial);(have e8:Act->World->Prop:=λ_ _=>True);(have t2:True:=trivial);exact k.out dQ t1 e8 t2)))):P:=h (hid λ_ _ _ _=>k)
def b5{P:Prop}{cC:(Act->World->Prop)->Prop}{fo:∀x,cC x->(Act->World->Prop)->Prop}{Q:∀x y bk,fo x y bk->Prop}(k:∀{x} {y:cC x} {bk} {bx:fo x y bk},Q x y bk bx)(h:Hid (∀x y bk bx,Q x y bk bx)->P:=by (intro k;refine ah ?_;refine ag ?_;(first|(rename_i dT h1;(have dQ:Act->World->Prop:=λ_ _=>True);(have t1:True:=trivial);with_reducible exact k.out dQ t1 dT h1)|(rename_i dT h1 ig h2;with_reducible exact k.out dT h1 ig h2)|((have dQ:Act->World->Prop:=λ_ _=>True);(have t1:True:=trivial);(have e8:Act->World->Prop:=λ_ _=>True);(have t2:True:=trivial);exact k.out dQ t1 e8 t2)))):P:=h (hid λ_ _ _ _=>k)
def bU{P Q:Prop}(k:Q)(h:Hid Q->P:=by (intro k;refine ag ?_;refine wpList_nil ?_;exact k.out)):P:=h (hid k)
def gW{P:Prop}{cC:(Act->World->Prop)->Prop}{fo:∀x,cC x->(Act->World->Prop)->Prop}{Q:∀x y bk,fo x y bk->Prop}(k:∀{x} {y:cC x} {bk} {bx:fo x y bk},Q x y bk bx)(h:Hid (∀x y bk bx,Q x y bk bx)->P:=by (intro k;refine ah ?_;refine v2 ?_;(first|(rename_i dT h1;(have dQ:Act->World->Prop:=λ_ _=>True);(have t1:True:=trivial);with_reducible exact k.out dQ t1 dT h1)|(rename_i dT h1 ig h2;with_reducible exact k.out dT h1 ig h2)|((have dQ:Act->World->Prop:=λ_ _=>True);(have t1:True:=trivial);(have e8:Act->World->Prop:=λ_ _=>True);(have t2:True:=trivial);exact k.out dQ t1 e8 t2)))):P:=h (hid λ_ _ _ _=>k)
def ed{P:Prop}{cC:(Act->World->Prop)->Prop}{fo:∀x,cC x->(Act->World->Prop)->Prop}{Q:∀x y bk,fo x y bk->Prop}(k:∀{x} {y:cC x} {bk} {bx:fo x y bk},Q x y bk bx)(h:Hid (∀x y bk bx,Q x y bk bx)->P:=by (intro k;refine ag ?_;refine ah ?_;(first|(rename_i dT h1;(have dQ:Act->World->Prop:=λ_ _=>True);(have t1:True:=trivial);with_reducible exact k.out dQ t1 dT h1)|(rename_i dT h1 ig h2;with_reducible exact k.out dT h1 ig h2)|((have dQ:Act->World->Prop:=λ_ _=>True);(have t1:True:=trivial);(have e8:Act->World->Prop:=λ_ _=>True);(have t2:True:=trivial);exact k.out dQ t1 e8 t2)))):P:=h (hid λ_ _ _ _=>k)
def jk{P:Prop}{cC:(Act->World->Prop)->Prop}{fo:∀x,cC x->(Act->World->Prop)->Prop}{Q:∀x y bk,fo x y bk->Prop}(k:∀{x} {y:cC x} {bk} {bx:fo x y bk},Q x y bk bx)(h:Hid (∀x y bk bx,Q x y bk bx)->P:=by (intro k;refine ah ?_;refine v3 ?_;(first|(rename_i dT h1;(have dQ:Act->World->Prop:=λ_ _=>True);(have t1:True:=trivial);with_reducible exact k.out dQ t1 dT h1)|(rename_i dT h1 ig h2;with_reducible exact k.out dT h1 ig h2)|((have dQ:Act->World->Prop:=λ_ _=>True);(have t1:True:=trivial);(have e8:Act->World->Prop:=λ_ _=>True);(have t2:True:=trivial);exact k.out dQ t1 e8 t2)))):P:=h (hid λ_ _ _ _=>k)
def hI{P:Prop}{cC:(Act->World->Prop)->Prop}{fo:∀x,cC x->(Act->World->Prop)->Prop}{Q:∀x y bk,fo x y bk->Prop}(k:∀{x} {y:cC x} {bk} {bx:fo x y bk},Q x y bk bx)(h:Hid (∀x y bk bx,Q x y bk bx)->P:=by (intro k;refine ag ?_;refine cx ?_;(first|(rename_i dT h1;(have dQ:Act->World->Prop:=λ_ _=>True);(have t1:True:=trivial);with_reducible exact k.out dQ t1 dT h1)|(rename_i dT h1 ig h2;with_reducible exact k.out dT h1 ig h2)|((have dQ:Act->World->Prop:=λ_ _=>True);(have t1:True:=trivial);(have e8:Act->World->Prop:=λ_ _=>True);(have t2:True:=trivial);exact k.out dQ t1 e8 t2)))):P:=h (hid λ_ _ _ _=>k)
def Kk{P Q:Prop}(k:Q)(h:Hid Q->P:=by (intro k;refine ag ?_;refine bF ?_;exact k.out)):P:=h (hid k)
def kf{P:Prop}{cC:(Act->World->Prop)->Prop}{fo:∀x,cC x->(Act->World->Prop)->Prop}{Q:∀x y bk,fo x y bk->Prop}(k:∀{x} {y:cC x} {bk} {bx:fo x y bk},Q x y bk bx)(h:Hid (∀x y bk bx,Q x y bk bx)->P:=by (intro k;refine ag ?_;refine ah ?_;refine v2 ?_;(first|(rename_i dT h1;(have dQ:Act->World->Prop:=λ_ _=>True);(have t1:True:=trivial);with_reducible exact k.out dQ t1 dT h1)|(rename_i dT h1 ig h2;with_reducible exact k.out dT h1 ig h2)|((have dQ:Act->World->Prop:=λ_ _=>True);(have t1:True:=trivial);(have e8:Act->World->Prop:=λ_ _=>True);(have t2:True:=trivial);exact k.out dQ t1 e8 t2)))):P:=h (hid λ_ _ _ _=>k)
def ayN{P:Prop}{cC:(Act->World->Prop)->Prop}{fo:∀x,cC x->(Act->World->Prop)->Prop}{Q:∀x y bk,fo x y bk->Prop}(k:∀{x} {y:cC x} {bk} {bx:fo x y bk},Q x y bk bx)(h:Hid (∀x y bk bx,Q x y bk bx)->P:=by (intro k;refine ah ?_;refine v2 ?_;refine bF ?_;(first|(rename_i dT h1;(have dQ:Act->World->Prop:=λ_ _=>True);(have t1:True:=trivial);with_reducible exact k.out dQ t1 dT h1)|(rename_i dT h1 ig h2;with_reducible exact k.out dT h1 ig h2)|((have dQ:Act->World->Prop:=λ_ _=>True);(have t1:True:=trivial);(have e8:Act->World->Prop:=λ_ _=>True);(have t2:True:=trivial);exact k.out dQ t1 e8 t2)))):P:=h (hid λ_ _ _ _=>k)
def eg{P Q:Prop}(k:Q)(h:Hid Q->P:=by (intro k;refine v2 ?_;refine wpList_nil ?_;exact k.out)):P:=h (hid k)
def ayO{P:Prop}{cC:(Act->World->Prop)->Prop}{fo:∀x,cC x->(Act->World->Prop)->Prop}{Q:∀x y bk,fo x y bk->Prop}(k:∀{x} {y:cC x} {bk} {bx:fo x y bk},Q x y bk bx)(h:Hid (∀x y bk bx,Q x y bk bx)->P:=by (intro k;refine ag ?_;refine ah ?_;refine ag ?_;refine wpList_nil ?_;(first|(rename_i dT h1;(have dQ:Act->World->Prop:=λ_ _=>True);(have t1:True:=trivial);with_reducible exact k.out dQ t1 dT h1)|(rename_i dT h1 ig h2;with_reducible exact k.out dT h1 ig h2)|((have dQ:Act->World->Prop:=λ_ _=>True);(have t1:True:=trivial);(have e8:Act->World->Prop:=λ_ _=>True);(have t2:True:=trivial);exact k.out dQ t1 e8 t2)))):P:=h (hid λ_ _ _ _=>k)
def o8{P:Prop}{cC:(Act->World->Prop)->Prop}{fo:∀x,cC x->(Act->World->Prop)->Prop}{Q:∀x y bk,fo x y bk->Prop}(k:∀{x} {y:cC x} {bk} {bx:fo x y bk},Q x y bk bx)(h:Hid (∀x y bk bx,Q x y bk bx)->P:=by (intro k;refine ah ?_;refine v4 ?_;(first|(rename_i dT h1;(have dQ:Act->World->Prop:=λ_ _=>True);(have t1:True:=trivial);with_reducible exact k.out dQ t1 dT h1)|(rename_i dT h1 ig h2;with_reducible exact k.out dT h1 ig h2)|((have dQ:Act->World->Prop:=λ_ _=>True);(have t1:True:=trivial);(have e8:Act->World->Prop:=λ_ _=>True);(have t2:True:=trivial);exact k.out dQ t1 e8 t2)))):P:=h (hid λ_ _ _ _=>k)
def DN{P:Prop}{cC:(Act->World->Prop)->Prop}{fo:∀x,cC x->(Act->World->Prop)->Prop}{Q:∀x y bk,fo x y bk->Prop}(k:∀{x} {y:cC x} {bk} {bx:fo x y bk},Q x y bk bx)(h:Hid (∀x y bk bx,Q x y bk bx)->P:=by (intro k;refine v2 ?_;refine ah ?_;refine ag ?_;(first|(rename_i dT h1;(have dQ:Act->World->Prop:=λ_ _=>True);(have t1:True:=trivial);with_reducible exact k.out dQ t1 dT h1)|(rename_i dT h1 ig h2;with_reducible exact k.out dT h1 ig h2)|((have dQ:Act->World->Prop:=λ_ _=>True);(have t1:True:=trivial);(have e8:Act->World->Prop:=λ_ _=>True);(have t2:True:=trivial);exact k.out dQ t1 e8 t2)))):P:=h (hid λ_ _ _ _=>k)
def OC{P:Prop}{cC:(Act->World->Prop)->Prop}{fo:∀x,cC x->(Act->World->Prop)->Prop}{Q:∀x y bk,fo x y bk->Prop}(k:∀{x} {y:cC x} {bk} {bx:fo x y bk},Q x y bk bx)(h:Hid (∀x y bk bx,Q x y bk bx)->P:=by (intro k;refine ah ?_;refine ag ?_;refine ah ?_;(first|(rename_i dT h1;(have dQ:Act->World->Prop:=λ_ _=>True);(have t1:True:=trivial);with_reducible exact k.out dQ t1 dT h1)|(rename_i dT h1 ig h2;with_reducible exact k.out dT h1 ig h2)|((have dQ:Act->World->Prop:=λ_ _=>True);(have t1:True:=trivial);(have e8:Act->World->Prop:=λ_ _=>True);(have t2:True:=trivial);exact k.out dQ t1 e8 t2)))):P:=h (hid λ_ _ _ _=>k)
def Gr{P Q:Prop}(k:Q)(h:Hid Q->P:=by (intro k;refine aT ?_;refine ag ?_;refine wpList_nil ?_;exact k.out)):P:=h (hid k)
def ayP{P:Prop}{cC:(Act->World->Prop)->Prop}{fo:∀x,cC x->(Act->World->Prop)->Prop}{Q:∀x y bk,fo x y bk->Prop}(k:∀{x} {y:cC x} {bk} {bx:fo x y bk},Q x y bk bx)(h:Hid (∀x y bk bx,Q x y bk bx)->P:=by (intro k;refine ah ?_;refine ag ?_;refine ah ?_;refine ag ?_;(first|(rename_i dT h1;(have dQ:Act->World->Prop:=λ_ _=>True);(have t1:True:=trivial);with_reducible exact k.out dQ t1 dT h1)|(rename_i dT h1 ig h2;with_reducible exact k.out dT h1 ig h2)|((have dQ:Act->World->Prop:=λ_ _=>True);(have t1:True:=trivial);(have e8:Act->World->Prop:=λ_ _=>True);(have t2:True:=trivial);exact k.out dQ t1 e8 t2)))):P:=h (hid λ_ _ _ _=>k)
def x4{P Q:Prop}(k:Q)(h:Hid Q->P:=by (intro k;refine aT ?_;refine wpList_nil ?_;exact k.out)):P:=h (hid k)
def Kj{P:Prop}{cC:(Act->World->Prop)->Prop}{fo:∀x,cC x->(Act->World->Prop)->Prop}{Q:∀x y bk,fo x y bk->Prop}(k:∀{x} {y:cC x} {bk} {bx:fo x y bk},Q x y bk bx)(h:Hid (∀x y bk bx,Q x y bk bx)->P:=by (intro k;refine ag ?_;refine ah ?_;refine v3 ?_;(first|(rename_i dT h1;(have dQ:Act->World->Prop:=λ_ _=>True);(have t1:True:=trivial);with_reducible exact k.out dQ t1 dT h1)|(rename_i dT h1 ig h2;with_reducible exact k.out dT h1 ig h2)|((have dQ:Act->World->Prop:=λ_ _=>True);(have t1:True:=trivial);(have e8:Act->World->Prop:=λ_ _=>True);(have t2:True:=trivial);exact k.out dQ t1 e8 t2)))):P:=h (hid λ_ _ _ _=>k)
def Vm{P:Prop}{cC:(Act->World->Prop)->Prop}{fo:∀x,cC x->(Act->World->Prop)->Prop}{Q:∀x y bk,fo x y bk->Prop}(k:∀{x} {y:cC x} {bk} {bx:fo x y bk},Q x y bk bx)(h:Hid (∀x y bk bx,Q x y bk bx)->P:=by (intro k;refine aT ?_;refine v5 ?_;refine ah ?_;refine ag ?_;(first|(rename_i dT h1;(have dQ:Act->World->Prop:=λ_ _=>True);(have t1:True:=trivial);with_reducible exact k.out dQ t1 dT h1)|(rename_i dT h1 ig h2;with_reducible exact k.out dT h1 ig h2)|((have dQ:Act->World->Prop:=λ_ _=>True);(have t1:True:=trivial);(have e8:Act->World->Prop:=λ_ _=>True);(have t2:True:=trivial);exact k.out dQ t1 e8 t2)))):P:=h (hid λ_ _ _ _=>k)
def zP{P:Prop}{cC:(Act->World->Prop)->Prop}{fo:∀x,cC x->(Act->World->Prop)->Prop}{Q:∀x y bk,fo x y bk->Prop}(k:∀{x} {y:cC x} {bk} {bx:fo x y bk},Q x y bk bx)(h:Hid (∀x y bk bx,Q x y bk bx)->P:=by (intro k;refine ag ?_;refine ah ?_;refine v4 ?_;(first|(rename_i dT h1;(have dQ:Act->World->Prop:=λ_ _=>True);(have t1:True:=trivial);with_reducible exact k.out dQ t1 dT h1)|(rename_i dT h1 ig h2;with_reducible exact k.out dT h1 ig h2)|((have dQ:Act->World->Prop:=λ_ _=>True);(have t1:True:=trivial);(have e8:Act->World->Prop:=λ_ _=>True);(have t2:True:=trivial);exact k.out dQ t1 e8 t2)))):P:=h (hid λ_ _ _ _=>k)
section
theorem aX.cellsOf{w}{B m sz t:Nat}{cs}(h:aX w B cs.toArray t)(hn:cs.length=m*sz):Cells w sz (ab ⟨B,0,af⟩) m cs:=
 ⟨hn,λ_=>⟨_,rfl,λj u a=>by grind[mW,aX.cell]⟩⟩
section
variable {P:ew} {o:cT} {a:b3} {w:aP} {K:b3->aP->Prop} {Q:iD->b3->aP->Prop}
def b4(t e sz:Nat)(x d)(ho:o.op=D2 t x d)(g:P.underlying t=ab (iE e))(m:(P.info? e).map (·.size)=ab sz)(b off n c i k:Nat)(hx:a.eval x=ae (ab ⟨b,off,af⟩) n c)(hi:a.eval d=J R (i:Int))(h:i<n)(hk:off+i*sz=k):
 (bz a.eval o).run P w=bf (da (ay (ab ⟨b,k,af⟩))) w:=by
 cases hq:P.info? e with
 |none=>grind
 |some j=>
  have hsz:j.size=sz:=aG;have h1:(i:Int)<(n:Int):=ad;subst hk;have f:(⟨b,off,_⟩:bT).add (i*sz)=⟨b,_,_⟩:=O5 _ _ _;unfold bz;simp[ho,hx,hi,VO,zY,gC,gO g,mQ,nv,hq,hsz,f];intro l;omega
end
end
section
section
variable {P:ew} {o:cT} {a:b3} {w:aP}
def mc{B k v ty x}(ho:o.op=nZ ty x)(hx:a.eval x=ay (ab ⟨B,k,af⟩))(hc:w.cell? ⟨B,k,af⟩=ab v)(c:(P.underlying ty).map (λd=>d.isRow)=ab ao):
 (bz a.eval o).run P w=bf (da v) w:=by
 cases hq:P.underlying ty with
 |none=>grind
 |some d=>
  have b:d.isRow=false:=aG
  have hagg:(isAgg ty).run P w=bf ao w:=by unfold isAgg;rw[gC,gO hq w];cases d<;>simp_all
  unfold bz;simp[ho,hx,Instr.loadAt,BM,loadVar,hagg,hc]
def agR{t c x y p q}(ho:o.op=nt .xor t x y c)(hx:a.eval x=bw p)(b:a.eval y=bw q):(bz a.eval o).run P w=bf (da (bw (h9 p q))) w:=by unfold bz;rw[ho];simp only[hx,b];rfl
def agP{t c x y p q}(ho:o.op=nt .and t x y c)(hx:a.eval x=bw p)(b:a.eval y=bw q):(bz a.eval o).run P w=bf (da (bw (n32 p q))) w:=by unfold bz;rw[ho];simp only[hx,b];rfl
def agQ{t c x y p q}(ho:o.op=nt .or t x y c)(hx:a.eval x=bw p)(b:a.eval y=bw q):(bz a.eval o).run P w=bf (da (bw (pE p q))) w:=by unfold bz;rw[ho];simp only[hx,b];rfl
def agO{t c x y p q}(ho:o.op=nt .add t x y c)(hx:a.eval x=bw p)(b:a.eval y=bw q):(bz a.eval o).run P w=bf (da (bw (a32 p q))) w:=by unfold bz;rw[ho];simp only[hx,b];rfl
def adC{t e m:Nat}{x c}{b i:Nat}(ho:o.op=D2 t x c)(f:P.underlying t=ab (vd m e))(d:(P.info? e).map (·.size)=ab 1)(hx:a.eval x=ay (ab ⟨b,0,af⟩))(hi:a.eval c=J R (i:Int))(h:i<m):
 (bz a.eval o).run P w=bf (da (ay (ab ⟨b,i,af⟩))) w:=asz t e 1 m x c ho f d b 0 i i hx hi h ad
end
section
variable {U:Int->aO} {L:List Int} {tail:List aO} {i k n:Nat} {v:Int} {x:aO}
def YI(h:i<L.length)(a:(U v).cells=#[U v]:=by rfl):i+(U v).cells.size<=(aM U L tail).size:=by grind[i']
def LI(hn:L.length=n)(hk:k<tail.length)(hx:x.cells=#[x]:=by rfl):n+k+x.cells.size<=(aM U L tail).size:=by grind[i']
def YJ(h:i<L.length)(a:(U v).cells=#[U v]:=by rfl):lay (aM U L tail) i (U v).cells.toList=aM U (L.set i v) tail:=by rw[a];exact amm h v
def LK(hn:L.length=n)(hx:x.cells=#[x]:=by rfl):lay (aM U L tail) (n+k) x.cells.toList=aM U L (tail.set k x):=by rw[hx];exact amn hn x
end
section
variable {P:ew} {o:cT} {a:b3} {w:aP}
def adZ{B k v u}ty{x d}(ho:o.op=nZ ty x)(hx:a.eval x=ay (ab ⟨B,k,af⟩))(e:w.cell? ⟨B,k,af⟩=ab v)(h1:w.cell? ⟨B,k+1,af⟩=ab u)(c:P.underlying ty=ab d)(b:d.isRow=az)(hi:(P.info? ty).map (·.size)=ab 2):
 (bz a.eval o).run P w=bf (da (ar #[v,u])) w:=e5 ty x ho B k hx [v,u] (λj z hz=>aG) c b hi
end
def e4{a:Type}(cs:Array a):cs.extract 0 (0+cs.size)=cs:=bc
def aX.aH{w w'}{B t:Nat}{cs}(h:aX w B cs t)(g:au w w'):aX w' B cs t:=by grind[av.heap]
theorem zp:∀(b P a),b.length<=a.length->lay (P++a).toArray P.length b=(P++(b++a.drop b.length)).toArray
 |[],P,a,_=>by rfl
 |v::b,P,[],h=>by grind
 |v::b,P,r::a,h=>by have c:=zp b (P++[v]) a (by simpa using h);rw[lay,al3,show(P++r::a).set P.length v=(P++[v])++a by simp,show P.length+1=(P++[v]).length by simp,c];simp
theorem lay_all{cs cs'}(h:cs'.size=cs.size):lay cs 0 cs'.toList=cs':=by have e:=zp cs'.toList [] cs.toList aG;simp at e;grind
section
variable {U:Int->aO} {L:List Int} {tail:List aO} {n:Nat}
def YK{a}(cd:L.length=n)(b:a.length=n):lay (aM U L tail) 0 (aM U a []).toList=aM U a tail:=by have e:=zp (a.map U) [] (L.map U++tail) aG;grind[aM]
end
section
variable {P:ew} {ops:Array cT} {rest:List cT} {Q:iD->b3->aP->Prop} {o:cT} {a bC:b3} {w:aP} {v:aO} {aq:aP} {FX:Nat->Prop} {l l':List bu}
def NY {F:Nat->Prop} {B k:Nat} {ty:gj} {x:ia} (hc:aq.cell? ⟨B,k,af⟩=ab v) (b:av F aq w) (h:cQ P ops Q rest bC w) (c:¬F B:=by first|exact(λh=>h)|assumption) (ho:o.op=nZ ty x:=by rfl) (hx:a.eval x=ay (ab ⟨B,k,af⟩):=by rfl) (e:(P.underlying ty).map (λd=>d.isRow)=ab false:=by kernel_rfl) (f:c7 o (c3 ops a.tmps)=true:=by kernel_rfl)
 (ha:a.put o.dst v=bC:=by((try simp only[Act.put,List.setIfInBounds_toArray,List.set_cons_zero,List.set_cons_succ]);rfl)):cQ P ops Q (o::rest) a w:=ag h f (mc ho hx (b.cell hc c) e) ha
def Bd (p q z:Int) (h:cQ P ops Q rest bC w) {t b:gj} {x y:ia} (ho:o.op=nt .mul t x y b:=by rfl) (hx:a.eval x=J R p:=by rfl) (e:a.eval y=J R q:=by rfl) (hz:p*q=z:=by omega) (h1:-9223372036854775808<=z:=by omega) (c:z<=9223372036854775807:=by omega) (d:c7 o (c3 ops a.tmps)=true:=by kernel_rfl)
 (ha:a.put o.dst (J R z)=bC:=by((try simp only[Act.put,List.setIfInBounds_toArray,List.set_cons_zero,List.set_cons_succ]);rfl)):cQ P ops Q (o::rest) a w:=ag h d (ln t x y b ho p q z hx e hz h1 c) ha
def pu (h:cQ P ops Q rest bC w) (hr:(bz a.eval o).run P w=bf (da v) w:=by first|exact agR rfl rfl rfl|exact agP rfl rfl rfl|exact agQ rfl rfl rfl|exact agO rfl rfl rfl) (b:c7 o (c3 ops a.tmps)=true:=by kernel_rfl)
 (ha:a.put o.dst v=bC:=by((try simp only[Act.put,List.setIfInBounds_toArray,List.set_cons_zero,List.set_cons_succ]);rfl)):cQ P ops Q (o::rest) a w:=ag h b hr ha
def kG (h:cQ P ops Q rest bC w) {t e m b i:Nat} {x c:ia} (ho:o.op=D2 t x c:=by rfl) (g:P.underlying t=ab (vd m e):=by rfl) (f:(P.info? e).map (·.size)=ab 1:=by kernel_rfl) (hx:a.eval x=ay (ab ⟨b,0,af⟩):=by rfl) (hi:a.eval c=J R (i:Int):=by rfl) (d:i<m:=by first|exact(of_decide_eq_true rfl)|omega) (j:c7 o (c3 ops a.tmps)=true:=by kernel_rfl)
 (ha:a.put o.dst (ay (ab ⟨b,i,af⟩))=bC:=by((try simp only[Act.put,List.setIfInBounds_toArray,List.set_cons_zero,List.set_cons_succ]);rfl)):cQ P ops Q (o::rest) a w:=ag h j (adC ho g f hx hi d) ha
def ox {B k t n:Nat} {U:Int->aO} {L:List Int} {tail:List aO} {ty:gj} {x:ia} (b:ak aq FX w l) (j:Nat) (cd:L.length=n) (h:cQ P ops Q rest bC w) (c:l[j]?=ab (aj B (aM U L tail) t):=by rfl) (ho:o.op=nZ ty x:=by rfl) (hx:a.eval x=ay (ab ⟨B,k,af⟩):=by rfl) (hk:k<n:=by first|exact(of_decide_eq_true rfl)|omega) (e:(P.underlying ty).map (λd=>d.isRow)=ab false:=by kernel_rfl) (f:c7 o (c3 ops a.tmps)=true:=by kernel_rfl)
 (ha:a.put o.dst (U (L[k]?.getD 0))=bC:=by((try simp only[Act.put,List.setIfInBounds_toArray,List.set_cons_zero,List.set_cons_succ]);rfl)):cQ P ops Q (o::rest) a w:=ag h f (fM ho hx (b.aV j c) (LJ (cd▸hk)) e) ha
def xJ {B k t n:Nat} {U:Int->aO} {L:List Int} {tail:List aO} {ty:gj} {x y:ia} {z:Int} (b:ak aq FX w l) (j:Nat) (cd:L.length=n) (h:∀w',ak aq FX w' l'->cQ P ops Q rest bC w') (c:l[j]?=ab (aj B (aM U L tail) t):=by rfl) (ho:o.op=ye ty x y:=by rfl) (hx:a.eval x=ay (ab ⟨B,k,af⟩):=by rfl) (d:a.eval y=U z:=by rfl) (hk:k<n:=by first|exact(of_decide_eq_true rfl)|omega)
 (rp:(U z).cells=#[U z]:=by rfl) (h1:∀x,(U x).oneCell'=true:=by(intro _;rfl)) (hz:(P.info? ty).map (·.size)=ab (U z).cells.size:=by kernel_rfl) (hl:l.set j (aj B (aM U (L.set k z) tail) t)=l':=by((try simp only[List.set_cons_zero,List.set_cons_succ]);rfl)) (hw:c7 o (c3 ops a.tmps)=true:=by kernel_rfl)
 (ha:a.put o.dst a1=bC:=by((try simp only[Act.put,List.setIfInBounds_toArray,List.set_cons_zero,List.set_cons_succ]);rfl)):cQ P ops Q (o::rest) a w:=bb b j (U z) h c ho hx d (YI (cd▸hk) rp) hz aG (YJ (cd▸hk) rp) hl hw ha
def pH {B t n:Nat} {U:Int->aO} {L b:List Int} {tail:List aO} {ty:gj} {x y:ia} (d:ak aq FX w l) (j:Nat) (cd:L.length=n) (c:b.length=n) (h:∀w',ak aq FX w' l'->cQ P ops Q rest bC w') (e:l[j]?=ab (aj B (aM U L tail) t):=by rfl) (ho:o.op=ye ty x y:=by rfl) (hx:a.eval x=ay (ab ⟨B,0,af⟩):=by rfl) (f:a.eval y=ar (aM U b []):=by rfl)
 (rp:∀x,(U x).oneCell'=true:=by(intro _;rfl)) (hz:(P.info? ty).map (·.size)=ab n:=by kernel_rfl) (hl:l.set j (aj B (aM U b tail) t)=l':=by((try simp only[List.set_cons_zero,List.set_cons_succ]);rfl)) (hw:c7 o (c3 ops a.tmps)=true:=by kernel_rfl)
 (ha:a.put o.dst a1=bC:=by((try simp only[Act.put,List.setIfInBounds_toArray,List.set_cons_zero,List.set_cons_succ]);rfl)):cQ P ops Q (o::rest) a w:=bb d j (ar (aM U b [])) h e ho hx f (by show 0+(aM U b []).size<=_;rw[i',i',cd,c];simp) (by show _=ab (aM U b []).size;rw[i',c,hz];rfl) (LH rp bc) (YK cd c) hl hw ha
def NU {B t n:Nat} {U:Int->aO} {L c:List Int} {fG b:List aO} {ty:gj} {x y:ia} (f:ak aq FX w l) (j:Nat) (cd:L.length=n) (d:c.length=n) (h:∀w',ak aq FX w' l'->cQ P ops Q rest bC w') (g:l[j]?=ab (aj B (aM U L fG) t):=by rfl) (ho:o.op=ye ty x y:=by rfl) (hx:a.eval x=ay (ab ⟨B,0,af⟩):=by rfl) (i:a.eval y=ar (aM U c b):=by rfl) (e:b.length=fG.length:=by rfl)
 (rp:∀x,(U x).oneCell'=true:=by(intro _;rfl)) (bP:∀v∈b,v.oneCell'=true:=by simp[Value.oneCell']) (hz:(P.info? ty).map (·.size)=ab (n+b.length):=by kernel_rfl) (hl:l.set j (aj B (aM U c b) t)=l':=by((try simp only[List.set_cons_zero,List.set_cons_succ]);rfl)) (hw:c7 o (c3 ops a.tmps)=true:=by kernel_rfl)
 (ha:a.put o.dst a1=bC:=by((try simp only[Act.put,List.setIfInBounds_toArray,List.set_cons_zero,List.set_cons_succ]);rfl)):cQ P ops Q (o::rest) a w:=bb f j (ar (aM U c b)) h g ho hx i (by show 0+(aM U c b).size<=_;rw[i',i',cd,d,e];simp) (by show _=ab (aM U c b).size;rw[i',d,hz]) (LH rp bP) (lay_all (by show(aM U c b).size=_;rw[i',i',cd,d,e])) hl hw ha
def zz {B t n:Nat} {U:Int->aO} {L:List Int} {tail:List aO} {ty e:gj} {x:ia} (b:ak aq FX w l) (j:Nat) (cd:L.length=n) (h:cQ P ops Q rest bC w) (c:l[j]?=ab (aj B (aM U L tail) t):=by rfl) (ho:o.op=nZ ty x:=by rfl) (hx:a.eval x=ay (ab ⟨B,0,af⟩):=by rfl) (d:P.underlying ty=ab (vd n e):=by rfl) (hz:(P.info? ty).map (·.size)=ab n:=by kernel_rfl) (f:c7 o (c3 ops a.tmps)=true:=by kernel_rfl)
 (ha:a.put o.dst (ar (aM U L []))=bC:=by((try simp only[Act.put,List.setIfInBounds_toArray,List.set_cons_zero,List.set_cons_succ]);rfl)):cQ P ops Q (o::rest) a w:=ag h f (adY ty e n x ho B hx (b.aV j c) cd d hz) ha
def bH{f:BL}{args:Array aO}(hc:aC P f args w λe w'=>e=aB v/\au w w')(b:ak aq FX w l)(h:∀w',ak aq FX w' l->cQ P ops Q rest bC w')(hr:(bz a.eval o).run P w=bf (.enter f args) w:=by(go_simp;try with_reducible rfl))(i:c7 o (c3 ops a.tmps)=true:=by kernel_rfl)(c:a.put o.dst v=bC:=by((try simp only[Act.put,List.setIfInBounds_toArray,List.set_cons_zero,List.set_cons_succ]);rfl)):cQ P ops Q (o::rest) a w:=
 aR hc (λe w' ⟨d,g⟩=>d▸aT (h w' (b.aH g)) c) hr i
def du{f:BL}{args:Array aO}{b:Option bT->Nat->aO}{bs:List Int}{bC:Option bT->Nat->b3}(hc:aC P f args w λe w'=>∃A c,e=aB (b A c)/\eU w.heap.size w' A c bs/\au w w')(d:ak aq FX w l)(h:∀A c w',ak aq FX w' (cz A c bs::l)->cQ P ops Q rest (bC A c) w')(hr:(bz a.eval o).run P w=bf (.enter f args) w:=by(go_simp;try with_reducible rfl))(k:c7 o (c3 ops a.tmps)=true:=by kernel_rfl)(i:∀A c,a.put o.dst (b A c)=bC A c:=by(intro _ _;(try simp only[Act.put,List.setIfInBounds_toArray,List.set_cons_zero,List.set_cons_succ]);rfl)):cQ P ops Q (o::rest) a w:=
 aR hc (λe w' ⟨A,c,j,hb,g⟩=>j▸aT (h A c w' (d.lS g hb)) (i A c)) hr k
end
section
variable {P:ew} {ops:Array cT} {rest:List cT} {Q:iD->b3->aP->Prop} {o:cT} {a bC:b3} {v:aO} {aq:aP} {FX:Nat->Prop} {dst:Nat->Option Tmp} {LE:List Nat} {bS:Nat->fg->aO} {bm:List bu} {out:(Nat->fg)->Nat->bu} {ins rd:Nat->List Nat} {fin:List Nat} {QP:List rX->aP->Prop} {us:Nat->fg} {i:Nat}
def jL {B k:Nat} {ty:gj} {x:ia} (hc:aq.cell? ⟨B,k,af⟩=ab v) (h:cM P ops Q dst LE bS aq FX bm out ins rd fin QP us (i+1) rest bC) (c:¬FX B:=by first|exact(λh=>h)|assumption) (ho:o.op=nZ ty x:=by rfl) (hx:a.eval x=ay (ab ⟨B,k,af⟩):=by rfl) (e:(P.underlying ty).map (λd=>d.isRow)=ab false:=by kernel_rfl) (hi:decide (i∈LE)=false:=by kernel_rfl) (f:c7 o (c3 ops a.tmps)=true:=by kernel_rfl)
 (ha:a.put o.dst v=bC:=by((try simp only[Act.put,List.setIfInBounds_toArray,List.set_cons_zero,List.set_cons_succ]);rfl)):cM P ops Q dst LE bS aq FX bm out ins rd fin QP us i (o::rest) a:=aK v (λ_ _ b=>mc ho hx (b.only.cell hc c) e) h hi f ha
def iq (h:cM P ops Q dst LE bS aq FX bm out ins rd fin QP us (i+1) rest bC) (hr:∀w,(bz a.eval o).run P w=bf (da v) w:=by(intro _;first|exact agR rfl rfl rfl|exact agP rfl rfl rfl|exact agQ rfl rfl rfl|exact agO rfl rfl rfl)) (hi:decide (i∈LE)=false:=by kernel_rfl) (b:c7 o (c3 ops a.tmps)=true:=by kernel_rfl)
 (ha:a.put o.dst v=bC:=by((try simp only[Act.put,List.setIfInBounds_toArray,List.set_cons_zero,List.set_cons_succ]);rfl)):cM P ops Q dst LE bS aq FX bm out ins rd fin QP us i (o::rest) a:=aJ h hi b hr ha
def kW (h:cM P ops Q dst LE bS aq FX bm out ins rd fin QP us (i+1) rest bC) {t e m b k:Nat} {x c:ia} (ho:o.op=D2 t x c:=by rfl) (g:P.underlying t=ab (vd m e):=by rfl) (f:(P.info? e).map (·.size)=ab 1:=by kernel_rfl) (hx:a.eval x=ay (ab ⟨b,0,af⟩):=by rfl) (hk:a.eval c=J R (k:Int):=by rfl) (d:k<m:=by first|exact(of_decide_eq_true rfl)|omega) (hi:decide (i∈LE)=false:=by kernel_rfl) (j:c7 o (c3 ops a.tmps)=true:=by kernel_rfl)
 (ha:a.put o.dst (ay (ab ⟨b,k,af⟩))=bC:=by((try simp only[Act.put,List.setIfInBounds_toArray,List.set_cons_zero,List.set_cons_succ]);rfl)):cM P ops Q dst LE bS aq FX bm out ins rd fin QP us i (o::rest) a:=aJ h hi j (λ_=>adC ho g f hx hk d) ha
def l4 {B k t n:Nat} {U:Int->aO} {L:List Int} {tail:List aO} {ty:gj} {x:ia} (j:Nat) (cd:L.length=n) (h:cM P ops Q dst LE bS aq FX bm out ins rd fin QP us (i+1) rest bC) (ho:o.op=nZ ty x:=by rfl) (hx:a.eval x=ay (ab ⟨B,k,af⟩):=by rfl) (c:∀Fr,((rd i).map (dk bm out us)++Fr)[j]?=ab (aj B (aM U L tail) t):=by(intro _;rfl)) (hk:k<n:=by first|exact(of_decide_eq_true rfl)|omega) (e:(P.underlying ty).map (λd=>d.isRow)=ab false:=by kernel_rfl) (hi:decide (i∈LE)=false:=by kernel_rfl) (f:c7 o (c3 ops a.tmps)=true:=by kernel_rfl)
 (ha:a.put o.dst (U (L[k]?.getD 0))=bC:=by((try simp only[Act.put,List.setIfInBounds_toArray,List.set_cons_zero,List.set_cons_succ]);rfl)):cM P ops Q dst LE bS aq FX bm out ins rd fin QP us i (o::rest) a:=aK _ (λ_ Fr b=>fM ho hx (b.aV j (c Fr)) (LJ (cd▸hk)) e) h hi f ha
def RT {B k t m n:Nat} {U:Int->aO} {L:List Int} {tail:List aO} {ty:gj} {x y:ia} {z:Int} (cd:L.length=n) (h:cM P ops Q dst LE bS aq FX bm out ins rd fin QP us (i+1) rest bC) (hn:ins i=[m]:=by rfl) (b:dk bm out us m=aj B (aM U L tail) t:=by rfl) (ho:o.op=ye ty x y:=by rfl) (hx:a.eval x=ay (ab ⟨B,k,af⟩):=by rfl) (c:a.eval y=U z:=by rfl) (hk:k<n:=by first|exact(of_decide_eq_true rfl)|omega)
 (rp:(U z).cells=#[U z]:=by rfl) (h1:∀x,(U x).oneCell'=true:=by(intro _;rfl)) (hz:(P.info? ty).map (·.size)=ab (U z).cells.size:=by kernel_rfl) (hl:∀u,bS i u=undef:=by(intro _;rfl)) (nd:∀u,out (dI us i u) i=aj B (aM U (L.set k z) tail) t:=by(intro _;rfl)) (hd:dst i=none:=by rfl) (jE:o.dst=none:=by rfl)
 (hi:decide (i∈LE)=true:=by kernel_rfl) (hw:c7 o (c3 ops a.tmps)=true:=by kernel_rfl) (ha:a.put o.dst (bS i (us i))=bC:=by((try simp only[Act.put,List.setIfInBounds_toArray,List.set_cons_zero,List.set_cons_succ]);rfl)):cM P ops Q dst LE bS aq FX bm out ins rd fin QP us i (o::rest) a:=fY (U z) h hn b ho hx c (YI (cd▸hk) rp) hz aG (YJ (cd▸hk) rp) hl nd hd jE hi hw ha
def qe (p q z:Int) (h:cM P ops Q dst LE bS aq FX bm out ins rd fin QP us (i+1) rest bC) {t b:gj} {x y:ia} (ho:o.op=nt .add t x y b:=by rfl) (hx:a.eval x=J R p:=by rfl) (e:a.eval y=J R q:=by rfl) (hz:p+q=z:=by omega) (h1:-9223372036854775808<=z:=by omega) (c:z<=9223372036854775807:=by omega) (hi:decide (i∈LE)=false:=by kernel_rfl) (d:c7 o (c3 ops a.tmps)=true:=by kernel_rfl)
 (ha:a.put o.dst (J R z)=bC:=by((try simp only[Act.put,List.setIfInBounds_toArray,List.set_cons_zero,List.set_cons_succ]);rfl)):cM P ops Q dst LE bS aq FX bm out ins rd fin QP us i (o::rest) a:=aJ h hi d (λ_=>mw t x y b ho p q z hx e hz h1 c) ha
def CH (p q z:Int) (h:cM P ops Q dst LE bS aq FX bm out ins rd fin QP us (i+1) rest bC) {t b:gj} {x y:ia} (ho:o.op=nt .sub t x y b:=by rfl) (hx:a.eval x=J R p:=by rfl) (e:a.eval y=J R q:=by rfl) (hz:p -q=z:=by omega) (h1:-9223372036854775808<=z:=by omega) (c:z<=9223372036854775807:=by omega) (hi:decide (i∈LE)=false:=by kernel_rfl) (d:c7 o (c3 ops a.tmps)=true:=by kernel_rfl)
 (ha:a.put o.dst (J R z)=bC:=by((try simp only[Act.put,List.setIfInBounds_toArray,List.set_cons_zero,List.set_cons_succ]);rfl)):cM P ops Q dst LE bS aq FX bm out ins rd fin QP us i (o::rest) a:=aJ h hi d (λ_=>ra t x y b ho p q z hx e hz h1 c) ha
def AF (p q z:Int) (h:cM P ops Q dst LE bS aq FX bm out ins rd fin QP us (i+1) rest bC) {t b:gj} {x y:ia} (ho:o.op=nt .mul t x y b:=by rfl) (hx:a.eval x=J R p:=by rfl) (e:a.eval y=J R q:=by rfl) (hz:p*q=z:=by omega) (h1:-9223372036854775808<=z:=by omega) (c:z<=9223372036854775807:=by omega) (hi:decide (i∈LE)=false:=by kernel_rfl) (d:c7 o (c3 ops a.tmps)=true:=by kernel_rfl)
 (ha:a.put o.dst (J R z)=bC:=by((try simp only[Act.put,List.setIfInBounds_toArray,List.set_cons_zero,List.set_cons_succ]);rfl)):cM P ops Q dst LE bS aq FX bm out ins rd fin QP us i (o::rest) a:=aJ h hi d (λ_=>ln t x y b ho p q z hx e hz h1 c) ha
def aoI {B t m n:Nat} {U:Int->aO} {L b:List Int} {tail:List aO} {ty:gj} {x y:ia} (cd:L.length=n) (c:b.length=n) (h:cM P ops Q dst LE bS aq FX bm out ins rd fin QP us (i+1) rest bC) (hn:ins i=[m]:=by rfl) (d:dk bm out us m=aj B (aM U L tail) t:=by rfl) (ho:o.op=ye ty x y:=by rfl) (hx:a.eval x=ay (ab ⟨B,0,af⟩):=by rfl) (e:a.eval y=ar (aM U b []):=by rfl)
 (rp:∀x,(U x).oneCell'=true:=by(intro _;rfl)) (hz:(P.info? ty).map (·.size)=ab n:=by kernel_rfl) (hl:∀u,bS i u=undef:=by(intro _;rfl)) (nd:∀u,out (dI us i u) i=aj B (aM U b tail) t:=by(intro _;rfl)) (hd:dst i=none:=by rfl) (jE:o.dst=none:=by rfl)
 (hi:decide (i∈LE)=true:=by kernel_rfl) (hw:c7 o (c3 ops a.tmps)=true:=by kernel_rfl) (ha:a.put o.dst (bS i (us i))=bC:=by((try simp only[Act.put,List.setIfInBounds_toArray,List.set_cons_zero,List.set_cons_succ]);rfl)):cM P ops Q dst LE bS aq FX bm out ins rd fin QP us i (o::rest) a:=fY (ar (aM U b [])) h hn d ho hx e (by show 0+(aM U b []).size<=_;rw[i',i',cd,c];simp) (by show _=ab (aM U b []).size;rw[i',c,hz];rfl) (LH rp bc) (YK cd c) hl nd hd jE hi hw ha
def Z2 {B t n:Nat} {U:Int->aO} {L:List Int} {tail:List aO} {ty e:gj} {x:ia} (j:Nat) (cd:L.length=n) (h:cM P ops Q dst LE bS aq FX bm out ins rd fin QP us (i+1) rest bC) (ho:o.op=nZ ty x:=by rfl) (hx:a.eval x=ay (ab ⟨B,0,af⟩):=by rfl) (c:∀Fr,((rd i).map (dk bm out us)++Fr)[j]?=ab (aj B (aM U L tail) t):=by(intro _;rfl)) (d:P.underlying ty=ab (vd n e):=by rfl) (hz:(P.info? ty).map (·.size)=ab n:=by kernel_rfl) (hi:decide (i∈LE)=false:=by kernel_rfl) (f:c7 o (c3 ops a.tmps)=true:=by kernel_rfl)
 (ha:a.put o.dst (ar (aM U L []))=bC:=by((try simp only[Act.put,List.setIfInBounds_toArray,List.set_cons_zero,List.set_cons_succ]);rfl)):cM P ops Q dst LE bS aq FX bm out ins rd fin QP us i (o::rest) a:=aK _ (λ_ Fr b=>adY ty e n x ho B hx (b.aV j (c Fr)) cd d hz) h hi f ha
def dA {f:BL} {args:Array aO} (hc:∀w (Fr:List bu),ak aq FX w ((ins i).map (dk bm out us)++((rd i).map (dk bm out us)++Fr))->aC P f args w λe w'=>e=aB v/\au w w') (h:cM P ops Q dst LE bS aq FX bm out ins rd fin QP us (i+1) rest bC) (hn:ins i=[]:=by rfl) (k:∀u,bS i u=v:=by(intro _;rfl)) (c:∀u,out (dI us i u) i=emp:=by(intro _;rfl))
 (hr:∀w,(bz a.eval o).run P w=bf (.enter f args) w:=by(intro _;go_simp;try with_reducible rfl)) (hd:dst i=o.dst:=by rfl) (hlt:(match o.dst with|some d=>decide (d<a.tmps.size)|none=>ao)=true:=by kernel_rfl) (hi:decide (i∈LE)=true:=by kernel_rfl) (hw:c7 o (c3 ops a.tmps)=true:=by kernel_rfl) (ha:a.put o.dst (bS i (us i))=bC:=by((try simp only[Act.put,List.setIfInBounds_toArray,List.set_cons_zero,List.set_cons_succ]);rfl)):cM P ops Q dst LE bS aq FX bm out ins rd fin QP us i (o::rest) a:=
 dh (λw Fr b=>(hc w Fr b).mono (λe w' ⟨j,g⟩=>⟨{},aG,by rw[c];rw[hn]at b;exact(b.aH g).dM⟩)) h hr hd hlt hi hw ha
def ES {f:BL} {args:Array aO} {j:Option bT->Nat->aO} {bs:List Int} (hc:∀w (Fr:List bu),ak aq FX w ((ins i).map (dk bm out us)++((rd i).map (dk bm out us)++Fr))->aC P f args w λe w'=>∃A c,e=aB (j A c)/\eU w.heap.size w' A c bs/\au w w') (h:cM P ops Q dst LE bS aq FX bm out ins rd fin QP us (i+1) rest bC) (hn:ins i=[]:=by rfl) (m:∀u,bS i u=j u.A u.c:=by(intro _;rfl)) (k:∀u,out (dI us i u) i=cz u.A u.c bs:=by(intro _;rfl))
 (hr:∀w,(bz a.eval o).run P w=bf (.enter f args) w:=by(intro _;go_simp;try with_reducible rfl)) (hd:dst i=o.dst:=by rfl) (hlt:(match o.dst with|some d=>decide (d<a.tmps.size)|none=>ao)=true:=by kernel_rfl) (hi:decide (i∈LE)=true:=by kernel_rfl) (hw:c7 o (c3 ops a.tmps)=true:=by kernel_rfl) (ha:a.put o.dst (bS i (us i))=bC:=by((try simp only[Act.put,List.setIfInBounds_toArray,List.set_cons_zero,List.set_cons_succ]);rfl)):cM P ops Q dst LE bS aq FX bm out ins rd fin QP us i (o::rest) a:=
 dh (λw Fr b=>(hc w Fr b).mono (λe w' ⟨A,c,l,hb,g⟩=>⟨{A:=A,c:=c},aG,by rw[k];rw[hn]at b;exact b.lS g hb⟩)) h hr hd hlt hi hw ha
end
section
variable {P:ew} {o:cT} {a:b3} {w:aP}
def Row.blk{w A}{n c e sz:Nat}{xs}(h:Row 0 w A n c e sz xs)(hn:0<n):∃g cur,A=ab ⟨g,0,af⟩/\aX w g cur e/\n<=c/\c<=eG/\cur.size=c*sz/\cur.toList.take (n*sz)=xs:=by
 rcases h.2 with⟨_,a⟩|⟨g,cap,cur,hv,_,i,h1,b,d,f⟩;·omega
 grind
def Jt{w}{g n c e sz:Nat}{cur}(d:aX w g cur e)(h1:n<=c)(a:c<=eG)(b:cur.size=c*sz):Row 0 w (ab ⟨g,0,af⟩) n c e sz (cur.toList.take (n*sz)):=
 ⟨by grind[Nat.mul_le_mul_right],cc ⟨g,c,cur,aa,cB _,d,h1,a,b,aa⟩⟩
def ak.u1{aq w:aP}{FX:Nat->Prop}{l:List bu}{g e:Nat}{cur:Array aO}(h:ak aq FX w l)(i n c sz:Nat)(xs:List aO)(hx:cur.toList.take (n*sz)=xs)(h1:n<=c)(a:c<=eG)(d:cur.size=c*sz)(hi:l[i]?=ab (aj g cur e):=by rfl):ak aq FX w (l.set i (bg (ab ⟨g,0,af⟩) n c e sz xs)):=
 h.as i hi _ (λhb=>hx▸Jt hb h1 a d) (λb ⟨off,f,e⟩=>by injection e with e;injection e with bF cq;exact bF.symm)
def afT{x}{t e B off n c ty sz:Nat}{z cs}(ho:o.op=.call {callee:=.builtin .clear,args:=#[x],argTypes:=#[t]})(hx:a.eval x=ae (ab ⟨B,off,af⟩) n c)(f:P.underlying t=ab (iE e))(hz:(P.info? e).bind (·.zero)=ab z)(hzs:z.cells.size=sz)(hz1:z.cells.all (·.oneCell')=az)(hn:0<n)(hb:aX w B cs ty)(h:off+n*sz<=cs.size):
 ∃w' cs',(bz a.eval o).run P w=bf (da (bo #[])) w'/\Turned w w' (aj B cs ty) (aj B cs' ty)/\cs'.size=cs.size/\cs'.toList.take off=cs.toList.take off:=by
 have hzl:((ns z.cells n).toList).length=n*sz:=by grind[ns]
 have hz2:(ns z.cells n).toList.all (·.oneCell')=true:=by grind[ns,Nat.mod_lt]
 obtain⟨w',hr,b,d,g⟩:=UB (P:=P) B ty (ns z.cells n).toList w cs off 0 hb ad hz2;refine⟨w',lay cs (off+0) (ns z.cells n).toList,?_,vE d b,lay_size _ _ _,?_⟩;·obtain⟨m,rfl⟩:∃m,n=m+1:=⟨n -1,ad⟩;have hv:(zeroValue e).run P w=bf z w:=UC hz w;unfold bz;simp[ho,n2,n1,builtin,gC,hx,Builtin.clear_,gO f,hv,hr]
 .rw[Nat.add_zero]
  have key:∀(l:List aO) (cs:Array aO) (k:Nat),off<=k->(lay cs k l).toList.take off=cs.toList.take off:=by
   intro l;induction l with
   |nil=>intro cs k _;rfl
   |cons v l i=>grind[lay,List.take_set_of_le]
  exact key _ _ _ (b7 _)
end
def aeZ {P:ew} {ops:Array cT} {rest:List cT} {Q:iD->b3->aP->Prop} {o:cT} {a bC:b3} {w:aP} {v:aO} {aq:aP} {FX:Nat->Prop} {l:List bu} {G ty:Nat} {cs:Array aO} {C:Array aO->Prop} (b:ak aq FX w l) (i:Nat) (hr:∃w' cs',(bz a.eval o).run P w=bf (da v) w'/\Turned w w' (aj G cs ty) (aj G cs' ty)/\C cs') (h:∀w' cs',C cs'->ak aq FX w' (l.set i (aj G cs' ty))->cQ P ops Q rest bC w') (hi:l[i]?=ab (aj G cs ty):=by rfl) (f:c7 o (c3 ops a.tmps)=true:=by kernel_rfl)
 (ha:a.put o.dst v=bC:=by((try simp only[Act.put,List.setIfInBounds_toArray,List.set_cons_zero,List.set_cons_succ]);rfl)):cQ P ops Q (o::rest) a w:=by
 obtain⟨w',cs',h1,c,d⟩:=hr;refine rY λK e=>?_;rw[if_pos f];unfold iy;rw[h1];show K _ _;rw[ha];exact e _ _ (h w' _ d (b.DH i hi c))
def Gg{P o}{a:b3}{w}{B k t:Nat}{cs cs' ty x y}v(ho:o.op=ye ty x y)(hx:a.eval x=ay (ab ⟨B,k,af⟩))(b:a.eval y=v)(hb:aX w B cs t)(hk:k+v.cells.size<=cs.size)(hi:(P.info? ty).map (·.size)=ab v.cells.size)(h1:v.cells.all (·.oneCell')=az)(hc:lay cs k v.cells.toList=cs'):
 ∃w',(bz a.eval o).run P w=bf .skip w'/\Turned w w' (aj B cs t) (aj B cs' t):=by grind[N7,vE]
def ayu{B c i sz}(h:i<c):fm (ab ⟨B,0,af⟩) c i sz=ab ⟨B,i*sz,af⟩:=by grind[fm,mW]
def agl {P o} {a:b3} {w} (t e sz:Nat) (x lo) (ho:o.op=.slice t x (ab lo) af af) (d:P.underlying t=ab (iE e)) (b:(P.info? e).map (·.size)=ab sz) (B n c i m:Nat)
 (hx:a.eval x=ae (ab ⟨B,0,af⟩) n c) (kp:a.eval lo=J R (i:Int)) (hm:i+m=n) (h2:n<=c) (hi:i<c):(bz a.eval o).run P w=bf (da (ae (ab ⟨B,i*sz,af⟩) m (c -i))) w:=by
 have h:=xS (w:=w) t e sz x lo ho d b _ n c i m hx kp hm h2;rw[ayu hi]at h;exact h
def Ji{w W A}{n c e sz:Nat}{xs}(h:Row 0 w A n c e sz xs)(g:au w W):Row 0 W A n c e sz xs:=
 bu.only (bg A n c e sz xs) h (λ_ hb=>(Row.lt h hb).2) g (λ_ _ h=>h)
def ae0 {P:ew} {ops:Array cT} {rest:List cT} {Q:iD->b3->aP->Prop} {o:cT} {a:b3} {w aq:aP} {FX:Nat->Prop} {l:List bu} {s:bu} {bC:Option bT->Nat->b3} {b:Option bT->Nat->aO} {t:Option bT->Nat->bu} {l':Option bT->Nat->List bu} (d:ak aq FX w l) (i:Nat) (hr:∃A c w',(bz a.eval o).run P w=bf (da (b A c)) w'/\Turned w w' s (t A c)) (h:∀A c w',ak aq FX w' (l' A c)->cQ P ops Q rest (bC A c) w') (hi:l[i]?=ab s:=by rfl)
 (hl:∀A c,l.set i (t A c)=l' A c:=by(intro _ _;(try simp only[List.set_cons_zero,List.set_cons_succ]);rfl)) (hw:c7 o (c3 ops a.tmps)=true:=by kernel_rfl) (ha:∀A c,a.put o.dst (b A c)=bC A c:=by(intro _ _;(try simp only[Act.put,List.setIfInBounds_toArray,List.set_cons_zero,List.set_cons_succ]);rfl)):cQ P ops Q (o::rest) a w:=by
 obtain⟨A,c,w',h1,e⟩:=hr;refine rY λK f=>?_;rw[if_pos hw];unfold iy;rw[h1];show K _ _;rw[ha];exact f _ _ (h A c w' (hl A c▸d.DH i hi e))
end
def TJ cS p A c bs w(i:w.cell? ⟨p,0,af⟩=ab (ae A bs.length c))(hx:bX w A bs)(h1:bs.length<=140737488355328):
 aC ax 100 #[J R cS,ae (ab ⟨p,0,af⟩) 1 1] w λe w'=>∃b d,e=aB (ar #[J R 2,J R cS,J R 0,J R 0,ae b bs.length d])/\eU w.heap.size w' b d bs/\au w w':=by
 go_enter func100,ntmps100;have a:=a8 w;go_step;refine ah ?_;refine bn a #[J _ 0,J _ 0,J _ 0,J _ 0,ae _ 0 0] (λj w1 a=>?_);refine gW ?_;refine aR (HF p A c bs _ (a.only.cell i (λh=>h)) (hx.aH a.only) h1) ?_;rintro e k ⟨f,c1,rfl,hr,g⟩;replace a:=a.lS g (eU.ow hr);refine aT ?_;refine ag ?_;refine bb a 1 (ar _) (λl a=>?_);refine an ?_;go_wp2_with fail;refine c8 (v:=_) (gH aa _ _ _ _ _ _ _ aa (a.aV 1) gi aa aw) aa (⟨f,c1,aa,(a.fresh 0).DF,a.only⟩)
def RH(k cS fr n)A c bs w(hx:bX w A bs)(h1:bs.length<=140737488355328):
 aC ax 102 #[ar #[J R k,J R cS,J R fr,J R n,ae A bs.length c]] w λe w'=>∃d f,e=aB (ar #[J R k,J R cS,J R fr,J R n,ae d bs.length f])/\eU w.heap.size w' d f bs/\au w w':=by
 go_enter func102,ntmps102;have a:=a8 w;go_step;refine ah ?_;refine bL a (ar _) (λh w1 a=>?_);refine bn a #[J _ 0,J _ 0,J _ 0,J _ 0,ae _ 0 0] (λi j a=>?_);refine b5 ?_;refine pl a 1 4 ?_;refine aR (w6 A c bs _ (hx.aH a.only) h1) ?_;rintro e l ⟨b,c1,rfl,hr,g⟩;replace a:=a.lS g (eU.ow hr);refine aT ?_;refine ag ?_;refine bb a 2 (ae b _ c1) (λm a=>?_);refine ah ?_;refine bh a 2 #[J R k,J R cS,J R fr,J R n,ae b bs.length c1] ?_;refine bb a 1 (ar _) (λo a=>?_);refine an ?_;go_wp2_with fail;refine c8 (v:=_) (gH aa _ _ _ _ _ _ _ aa (a.aV 1) gi aa aw) aa (⟨b,c1,aa,(a.fresh 0).DF,a.only⟩)
def auU(cS fr n a b)A(m c)w(h1:eX (cS,n))(y:eX (fr,n))(z:eX (a,b))(hb:0<b)(l:cS<=a)(o:a+b<=cS+n):
 aC ax 237 #[ar #[J R 1,J R cS,J R fr,J R n,ae A m c],ar #[J R a,J R b]] w λe w'=>e=aB (bo #[ar #[J R 1,J R a,J R (fr+(a -cS)),J R b,ae af 0 0],ai az])/\au w w':=by
 obtain⟨cX,bk,iw⟩:=z;obtain⟨k,bx,c5⟩:=h1;obtain⟨p,q,r⟩:=y;simp only at cX bk iw k bx c5 p q r;obtain⟨f,hr1⟩:=ex (a -cS);obtain⟨j,hr2⟩:=ex (fr+f);have t:=hid (show R.wrap (a -cS)=f by grind[wB]);have x:=hid (show R.wrap (fr+f)=j by grind[wB]);have s:=hid (λW=>abu cS n a b W ⟨k,bx,c5⟩ ⟨cX,bk,iw⟩ hb l o);rw[hr1,hr2];clear hr1 hr2 cX bk iw k bx c5 p q r hb l o;go_enter Tryz.func237,Tryz.ntmps237;have d:=a8 w;go_step;refine ah ?_;refine bL d (ar _) (λB w1 d=>?_);refine bL d (ar _) (λC F d=>?_);refine bn d #[J _ 0,J _ 0,J _ 0,J _ 0,ae _ 0 0] (λD G d=>?_);refine hI ?_;refine bN d [1,4,5] (λi u=>match i with|1=>ar #[J R cS,J R n]|4=>ay (ab ⟨u.b,0,af⟩)|_=>a1) (λg=>λ|4=>aj ((g 4).b) #[J R 0,J R 0,J R 0,J R 0,J R 0,J R 0,ae af 0 0] 400|5=>aj ((g 4).b) #[J R cS,J R n,J R 1,J R cS,J R fr,J R n,ae A m c] 400|_=>emp) (λ|5=>[7]|_=>[]) (λ|0=>[2]|2=>[2]|_=>[]) (λ|4=>[4]|5=>[4]|_=>[]) [0,1,2,4,8] (λg=>?_);refine eO 0 #[J R 1,J R cS,J R fr,J R n,ae A m c] ?_;refine dA (λ_ _ _=>NH 1 cS fr n A m c _) ?_;refine eO 0 #[J R 1,J R cS,J R fr,J R n,ae A m c] ?_;refine aJ ?_;refine se _ ?_;refine fY _ ?_;refine bQ λH d=>?_;generalize (g 4).b=E at d⊢;replace d:=d.drop 3;refine b5 ?_;refine bh d 3 #[J R cS,J R n] ?_;refine bh d 1 #[J R a,J R b] ?_;refine bH (s _) d (λI d=>?_);refine cA ?_;refine pl d 1 0 ?_;refine ag ?_;refine pl d 2 1 ?_;refine aI (J R f) (by(have h:=t.out;go_simp;try rw[h])) ?_;refine cA ?_;refine pl d 2 0 ?_;refine cA ?_;refine pl d 1 0 ?_;refine ag ?_;refine pl d 2 2 ?_;refine ag ?_;refine aI (J R j) (by(have h:=x.out;go_simp;try rw[h])) ?_;refine ag ?_;refine pl d 1 1 ?_;refine bH (ZC a j b _) d (λK d=>?_);refine bb d 0 (ar _) (λL d=>?_);refine bU ?_;go_wp2_with fail;refine c8 (v:=_) (ml aa aa aa (d.aV 0) aw aw) aa (⟨aa,d.only⟩)
def auV(cS fr n a b)A(c f j:Nat)bs w(hx:bX w A bs)(hc:bs.length<=c)(C:bs.length<=140737488355328)(h1:eX (cS,(bs.length:Int)))(hai:a=cS+(f:Int))(B:b=(j:Int))(hb:0<j)(o:f+j<=bs.length):
 aC ax 237 #[ar #[J R 2,J R cS,J R fr,J R n,ae A bs.length c],ar #[J R a,J R b]] w λe w'=>∃l m,e=aB (bo #[ar #[J R 2,J R a,J R 0,J R 0,ae l j m],ai az])/\eU w.heap.size w' l m ((bs.drop f).take j)/\au w w':=by
 have y:=hid (show R.wrap (a -cS)=(f:Int) by grind[wB]);have r:eX (a,b):=by obtain⟨U,bx,c5⟩:=h1;simp only at*;exact⟨ad,ad,ad⟩
 have k:bX w (fm A c f 1) ((bs.drop f).take j):=by have:=hx.win (i:=f) (q:=_) hc o;rwa [show f+j -f=j by omega]at this
 have s:((bs.drop f).take j).length=j:=aG;obtain⟨ds,p⟩:=ex ((bs.drop f).take j);rw[p]at k s⊢;have x:=hid (λW=>abu cS _ a b W h1 r ad ad ad);have L:f+j<=c:=ad;have hjb:j<=140737488355328:=ad;subst B s;have z:=hid k;have M:f<=f+ds.length:=ad;have N:f+ds.length -f=ds.length:=ad;have K:(f:Int)+(ds.length:Int)<=140737488355328:=ad;clear r h1 hx hai hb o hc C p k;go_enter Tryz.func237,Tryz.ntmps237;have d:=a8 w;go_step;refine ah ?_;refine bL d (ar _) (λF w1 d=>?_);refine bL d (ar _) (λG O d=>?_);refine bn d #[J _ 0,J _ 0,J _ 0,J _ 0,ae _ 0 0] (λt P d=>?_);refine hI ?_;refine bN d [1,4,5] (λi u=>match i with|1=>ar #[J R cS,J R (bs.length:Int)]|4=>ay (ab ⟨u.b,0,af⟩)|_=>a1) (λg=>λ|4=>aj ((g 4).b) #[J R 0,J R 0,J R 0,J R 0,J R 0,J R 0,ae af 0 0] 400|5=>aj ((g 4).b) #[J R cS,J R (bs.length:Int),J R 2,J R cS,J R fr,J R n,ae A bs.length c] 400|_=>emp) (λ|5=>[7]|_=>[]) (λ|0=>[2]|2=>[2]|_=>[]) (λ|4=>[4]|5=>[4]|_=>[]) [0,1,2,4,8] (λg=>?_);refine eO 0 #[J R 2,J R cS,J R fr,J R n,ae A bs.length c] ?_;refine dA (λ_ _ _=>NH 2 cS fr n A _ c _) ?_;refine eO 0 #[J R 2,J R cS,J R fr,J R n,ae A bs.length c] ?_;refine aJ ?_;refine se _ ?_;refine fY _ ?_;refine bQ λQ d=>?_;generalize (g 4).b=H at d⊢;replace d:=d.drop 3;refine b5 ?_;refine bh d 3 #[J R cS,J R (bs.length:Int)] ?_;refine bh d 1 #[J R a,J R (ds.length:Int)] ?_;refine bH (x _) d (λS d=>?_);refine cA ?_;refine pl d 1 0 ?_;refine ag ?_;refine pl d 2 1 ?_;refine aI (J R (f:Int)) (by(have h:=y.out;go_simp;try rw[h])) ?_;refine cA ?_;refine pl d 2 0 ?_;refine hI ?_;refine bN d [10,11,12] (λi u=>match i with|10=>ae (ab ⟨u.b,0,af⟩) 1 1|11=>ar #[J R 2,J R a,J R 0,J R 0,ae u.A ds.length u.c]|_=>a1) (λg=>λ|10=>aj ((g 10).b) #[ae (fm A c f 1) ((f+ds.length) -f) (c -f)] 22|11=>cz ((g 11).A) ((g 11).c) ds|12=>aj t #[J R 2,J R a,J R 0,J R 0,ae (g 11).A ds.length (g 11).c] 73|_=>emp) (λ|12=>[0]|_=>[]) (λ|1=>[1]|3=>[2]|7=>[1]|11=>[14]|_=>[]) (λ|10=>[10]|11=>[11]|12=>[11]|_=>[]) [1,2,3,14,15,16] (λg=>?_);refine aJ ?_;refine dl 0 0 ?_;refine aJ ?_;refine dl 0 4 ?_;refine c5 ?_;refine dl 0 1 ?_;refine qe _ _ ((f+ds.length:Nat):Int) ?_;refine aK _ (λ_ _ _=>agj 22 5 1 _ _ _ aa dK aw A _ c f _ aa aa aa ad ad) ?_;refine kD _ 22 ?_;refine ES (λ_ _ d=>TJ a _ (fm A c f 1) (c -f) ds _ ((d.aV 0).cell 0 bc) (z.out.aH d.only) hjb) ?_;refine fY _ ?_;refine aJ ?_;refine bQ λT d=>?_;generalize (g 10).b=E at d⊢;generalize (g 11).A=D at d⊢;generalize (g 11).c=I at d⊢;go_wp2_with fail;refine c8 (v:=_) (ml aa aa aa (d.aV 5) aw aw) aa (⟨_,_,aa,(d.fresh 4).DF,d.only⟩)
def cnt(r s:Int):Int:=(r -1)/s+1
def w7(m:bO)(a b:Int):bO:=if m.k=1 then⟨1,a,m.fr+(a -m.to),b,[]⟩else⟨2,a,0,0,(m.data.drop (a -m.to).toNat).take b.toNat⟩
def L1(m:bO):Bool:=decide (m.k=1)&&(meets (m.fr,m.n) (m.to,m.n)&&decide (m.fr<m.to))
def mY(m:bO)(s:Int):Int:=cnt (cD m) s
def tj(m:bO)(s k:Int):Int:=if L1 m then mY m s -1 -k else k
def rf(m:bO)(s k:Int):bO:=w7 m (m.to+tj m s k*s) (min s (cD m -tj m s k*s))
def gJ(m:bO):Prop:=w2 m.k m.to m.fr m.n m.data.length
def qM(w:aP)(m:bO)(A:Option bT)(c:Nat):Prop:=bX w A m.data/\m.data.length<=c
def qM.aH{w w' m A c}(h:qM w m A c)(g:au w w'):qM w' m A c:=⟨h.1.aH g,h.2⟩
def eU.cmd{w N m A c}(h:eU N w A c m.data):qM w m A c:=⟨h.1,h.2.2⟩
def axU m:fG m.k m.n m.data.length=cD m:=rfl
theorem gJ.cm{m}(h:gJ m):0<=m.to/\0<cD m/\m.to+cD m<=4611686018427387903:=by have:=w2.cm h;rw[axU]at this;obtain⟨⟨h1,_,a⟩,b⟩:=this;exact⟨h1,b,a⟩
def gJ.len{m}(h:gJ m):(m.data.length:Int)<=4611686018427387903:=by
 rcases h with⟨_,_,_,_,h⟩|⟨_,⟨h1,a,b⟩,_⟩;·omega
 .omega
def auT m(a b)A c w(hv:gJ m)(l:qM w m A c)(q:m.data.length<=140737488355328)(h1:m.to<=a)(o:0<b)(f:a+b<=m.to+cD m):
 aC ax 237 #[nC m A c,ar #[J R a,J R b]] w λe w'=>∃i j,e=aB (bo #[nC (w7 m a b) i j,ai az])/\eU w.heap.size w' i j (w7 m a b).data/\au w w':=by
 obtain⟨k,cS,fr,n,data⟩:=m;rcases hv with⟨rfl,d,v2,v3,v4⟩|⟨rfl,d,v2,v3,v4⟩;·simp only at d v2 v3 v4 h1 f;obtain rfl:=List.eq_nil_of_length_eq_zero v4;have p:a+b<=cS+n:=f;refine(auU cS fr n a b A 0 c w d v2 ⟨by have:=d.1;simp only at*;omega,ad,by have:=d.2.2;simp only at*;omega⟩ o ad ad).mono ?_;rintro e w' ⟨rfl,g⟩;exact⟨_,0,aa,eU.nil,g⟩
 .simp only at d v2 v3 v4 h1 f;subst v2;subst v3;have p:a+b<=cS+(data.length:Int):=f;have h:=auV cS 0 0 a b A c (a -cS).toNat b.toNat data w l.1 l.2 q d ad ad ad ad;grind[w7]
def ZI{m s k}(hv:gJ m)(g:1<=s)(h1:0<=k)(d:k<mY m s):0<=tj m s k/\tj m s k<mY m s/\0<=tj m s k*s/\tj m s k*s<cD m:=by
 have a:0<=tj m s k/\tj m s k<mY m s:=by grind[tj]
 refine⟨a.1,a.2,Int.mul_nonneg a.1 ad,?_⟩;have c:tj m s k<=(cD m -1)/s:=by grind[mY,cnt]
 have e:tj m s k*s<=(cD m -1)/s*s:=Int.mul_le_mul_of_nonneg_right c ad;have f:=Int.ediv_mul_le (cD m -1) (b:=s) ad;omega
def RD{m s}(hv:gJ m)(c:1<=s):1<=mY m s/\mY m s<=cD m:=by have h:=hv.cm;unfold mY cnt;have h1:0<=(cD m -1)/s:=alL ad ad;have b:=alK (a:=cD m -1) s ad;omega
def awF{P o}{a:b3}{w t f x y p s q}(ho:o.op=nt .quo t x y f)(hx:a.eval x=J R p)(e:a.eval y=J R s)(b:¬s=0)(c:Int.tdiv p s=q)(d:R.wrap q=q):(bz a.eval o).run P w=bf (da (J R q)) w:=by unfold bz;simp[ho,hx,e,yl,wM,KJ,b,c,d]
def RO m A c s w(h1:0<cD m)(i:cD m<=4611686018427387903)(o:1<=s):
 aC ax 138 #[nC m A c,J R s] w λe w'=>e=aB (J R (mY m s))/\au w w':=by
 obtain⟨r,hr⟩:=ex (cD m);have b:=hid (λW=>uZ m.k m.to m.fr m.n A m.data.length c W);rw[show fG _ _ _=r from hr]at b;rw[mY,cnt,hr];rw[hr]at h1 i;clear hr;have d:0<=(r -1)/s/\(r -1)/s<=r -1:=⟨alL ad ad,alK _ ad⟩;obtain⟨q,f⟩:=ex ((r -1)/s);have h:=hid (show Int.tdiv (r -1) s=q by grind);rw[f]at d⊢;obtain⟨cK,cI⟩:=d;have hs0:¬s<1:=ad;have j:¬s=0:=ad;have g:=hid (show R.wrap q=q from wB _ ad);clear f;go_enter func138,ntmps138;have a:=a8 w;go_step;refine ah ?_;refine bL a (ar _) (λl w1 a=>?_);refine ag ?_;refine an ?_;go_step;refine ah ?_;refine v2 ?_;refine an ?_;go_step;refine ah ?_;refine bh a 0 #[J R m.k,J R m.to,J R m.fr,J R m.n,ae A m.data.length c] ?_;refine bH (b _) a (λp a=>?_);refine pk (J R r) ?_;refine j0 r 1 (r -1) ?_;refine ag ?_;refine aI _ (awF aa aa aa j h g) ?_;refine pad q 1 (q+1) ?_;refine ag ?_;refine an ?_;go_wp2_with fail;go_ret;exact⟨aa,a.only⟩
def aoY m A c w(hv:gJ m):
 aC ax 235 #[nC m A c] w λe w'=>e=aB (ai (L1 m))/\au w w':=by
 obtain⟨k,cS,fr,n,data⟩:=m;rcases hv with⟨rfl,d,v2,v3,v4⟩|⟨rfl,d,v2,v3,v4⟩
 .have b:=hid (λW=>auG cS fr n A data.length c W d v2);clear d v2 v3 v4;show aC _ _ _ _ λe w'=>e=aB (ai (meets (fr,n) (cS,n)&&decide (fr<cS)))/\au w w';cases hm:meets (fr,n) (cS,n)
  .rw[hm]at b;clear hm;go_enter V4,Wx;have a:=a8 w;go_step;refine ah ?_;refine bL a (ar #[J _ 1,J _ cS,J _ fr,J _ n,ae A data.length c]) (λf w1 a=>?_);refine ed ?_;refine bh a 0 #[J R 1,J R cS,J R fr,J R n,ae A data.length c] ?_;refine bH (b _) a (λg a=>?_);refine ag ?_;iterate 5 refine ps ?_
   refine v2 ?_;refine bF ?_;exact⟨aa,a.only⟩
  .rw[hm]at b;clear hm;go_enter V4,Wx;have a:=a8 w;go_step;refine ah ?_;refine bL a (ar #[J _ 1,J _ cS,J _ fr,J _ n,ae A data.length c]) (λf h a=>?_);refine ed ?_;refine bh a 0 #[J R 1,J R cS,J R fr,J R n,ae A data.length c] ?_;refine bH (b _) a (λi a=>?_);refine v2 ?_;refine pl a 0 1 ?_;refine ag ?_;refine pl a 0 2 ?_;refine v3 ?_;refine bF ?_;exact⟨aa,a.only⟩
 .have b:=hid (λW=>auH 2 cS fr n A data.length c W aS);clear d v2 v3 v4;show aC _ _ _ _ λe w'=>e=aB (ai ao)/\au w w';go_enter V4,Wx;have a:=a8 w;go_step;refine ah ?_;refine bL a (ar #[J _ 2,J _ cS,J _ fr,J _ n,ae A data.length c]) (λf j a=>?_);refine ed ?_;refine bh a 0 #[J R 2,J R cS,J R fr,J R n,ae A data.length c] ?_;refine bH (b _) a (λl a=>?_);refine ag ?_;iterate 5 refine ps ?_
  refine v2 ?_;refine bF ?_;exact⟨aa,a.only⟩
structure YF (w:aP) (cG sO tJ sQ b':Nat) (m:bO) (A:Option bT) (c:Nat) (s:Int):Prop where
 d:aX w cG #[ai (L1 m)] 4
 n:aX w sO #[J R (mY m s)] 3
 c:aX w tJ #[J R m.k,J R m.to,J R m.fr,J R m.n,ae A m.data.length c] 73
 t:aX w sQ #[J R m.to,J R (cD m)] 35
 s:aX w b' #[J R s] 3
def au3 m A c s w(hv:gJ m)(d:1<=s):
 aC ax 160 #[nC m A c,J R s] w λe w'=>∃cG sO tJ sQ b',e=aB (dS (eu 236) #[] #[ay (ab ⟨cG,0,af⟩),ay (ab ⟨sO,0,af⟩),ay (ab ⟨tJ,0,af⟩),ay (ab ⟨sQ,0,af⟩),ay (ab ⟨b',0,af⟩)])/\YF w' cG sO tJ sQ b' m A c s/\au w w':=by
 have b:=hv.cm;have h:aE (∀W,aC _ _ #[nC m A c] W λe w'=>e=aB (ar #[J _ _,J _ (cD m)])/\au W w'):=hid (λW=>uZ _ _ _ _ A _ c W);have g:=hid (λW=>RO m A c s W b.2.1 ad d);have f:=hid (λW=>aoY m A c W hv);clear b hv d;go_enter func160,ntmps160;have a:=a8 w;go_step;refine ah ?_;refine bL a (ar _) (λtJ w1 a=>?_);refine bL a (J _ s) (λb' l a=>?_);refine ed ?_;refine bh a 1 #[J R m.k,J R m.to,J R m.fr,J R m.n,ae A m.data.length c] ?_;refine bH (h _) a (λo a=>?_);refine bn a #[J _ 0,J _ 0] (λsQ p a=>?_);refine bb a 0 (ar _) (λq a=>?_);refine ah ?_;refine bh a 2 #[J R m.k,J R m.to,J R m.fr,J R m.n,ae A m.data.length c] ?_;refine pl a 1 0 ?_;refine bH (g _) a (λr a=>?_);refine bn a #[J _ 0] (λsO t a=>?_);refine bb a 0 (J _ _) (λu a=>?_);refine ah ?_;refine bh a 3 #[J R m.k,J R m.to,J R m.fr,J R m.n,ae A m.data.length c] ?_;refine bH (f _) a (λv a=>?_);refine bn a #[ai _] (λcG i a=>?_);refine bb a 0 (ai _) (λj a=>?_);refine ayN ?_;exact⟨cG,sO,tJ,sQ,b',aa,⟨a.aV 0,a.aV 1,a.aV 4,a.aV 2,a.aV 3⟩,a.only⟩
set_option maxHeartbeats 4000000 in
def au2 m A(c cG sO tJ sQ b')(s o)w(ef:YF w cG sO tJ sQ b' m A c s)(E:qM w m A c)(hv:gJ m)(S:m.data.length<=140737488355328)(T:1<=s)(hk:0<=o/\o<mY m s):
 aC ax 236 #[J R o,ay (ab ⟨cG,0,af⟩),ay (ab ⟨sO,0,af⟩),ay (ab ⟨tJ,0,af⟩),ay (ab ⟨sQ,0,af⟩),ay (ab ⟨b',0,af⟩)] w λe w'=>∃N Q,e=aB (nC (rf m s o) N Q)/\eU w.heap.size w' N Q (rf m s o).data/\au w w':=by
 obtain⟨sA,U,V,M⟩:=ZI hv T hk.1 hk.2;obtain⟨t1,t2,t3⟩:=hv.cm;obtain⟨F,hn,hc,L,hsz⟩:=ef;obtain⟨r,hr⟩:=ex (cD m);obtain⟨q,K⟩:=ex (mY m s);have y:=RD hv T;obtain⟨p,x⟩:=ex (tj m s o);obtain⟨f,I⟩:=ex (rf m s o);obtain⟨d,hdd⟩:=ex (L1 m);have ard:(if d then q -1 -o else o)=p:=by rw[<-hdd,<-K,<-x];rfl
 rw[x]at sA U V M;rw[hr]at M t2 t3 y L;rw[K]at U hk y hn;rw[hdd]at F;obtain⟨j,G⟩:=ex (p*s);rw[G]at V M;obtain⟨z,H⟩:=ex (min s (r -j));have Z:=hid (show w7 m (m.to+j) z=f by rw[<-I,<-H,<-G,<-hr,<-x];rfl);rw[I];have P:=hid H;have t:=hid G;have cv:=hid E;have O:=hid (λW=>l5 _ r W t1 ad t3);have C:=hid (λW df=>auT m (m.to+j) z A c W hv (E.aH df) S ad ad ad);rw[Z]at C;have l:=hid (And.intro F (And.intro hn (And.intro hc (And.intro L hsz))));obtain⟨y,oq⟩:=y;clear hr K x I hdd H F hn hc L hsz E hv S;cases d;·obtain rfl:o=p:=aG;go_enter Tryz.func236,Tryz.ntmps236;have a:=a8 w;go_step;refine ah ?_;refine bn a #[J _ 0,J _ 0,J _ 0,J _ 0,ae _ 0 0] (λX w1 a=>?_);refine ah ?_;refine jf l.out.1 a.only ?_;refine cx ?_;refine bN a [9,19,23,24] (λi u=>match i with|9=>J R (m.to+r)|19=>bo #[ar #[J R f.k,J R f.to,J R f.fr,J R f.n,ae u.A f.data.length u.c],ai az]|23=>ay (ab ⟨u.b,0,af⟩)|_=>a1) (λg=>λ|19=>cz ((g 19).A) ((g 19).c) f.data|23=>aj ((g 23).b) #[J R 0,J R 0,J R 0,J R 0,ae af 0 0] 73|24=>aj ((g 23).b) #[J R f.k,J R f.to,J R f.fr,J R f.n,ae (g 19).A f.data.length (g 19).c] 73|_=>emp) (λ|24=>[24]|_=>[]) (λ_=>[]) (λ|19=>[19]|23=>[23]|24=>[19,23]|_=>[]) [0,10,20,25] (λg=>?_);refine aK _ (λ_ _ a=>mG (cs':=#[J R m.k,J R m.to,J R m.fr,J R m.n,ae A m.data.length c]) aa aa (aX.aH l.2.2.1 a.only) aw (of_decide_eq_true aw) aw aw) ?_;refine aJ ?_;refine aK (J _ _) (λ_ _ a=>fM aa aa (aX.aH l.2.2.2.1 a.only) aa aw) ?_;refine aJ ?_;refine aK (J _ s) (λ_ _ a=>fM aa aa (aX.aH l.2.2.2.2 a.only) aa aw) ?_;refine aK _ (λ_ _ _=>ln _ _ _ _ aa _ _ j aa aa t ad ad) ?_;refine qe _ j (m.to+j) ?_;refine aK (J _ s) (λ_ _ a=>fM aa aa (aX.aH l.2.2.2.2 a.only) aa aw) ?_;refine aK _ (λ_ _ a=>mG (cs':=#[J R m.to,J R r]) aa aa (aX.aH l.2.2.2.1 a.only) aw (of_decide_eq_true aw) aw aw) ?_;refine dA (λ_ _ _=>O _) ?_;refine aJ ?_;refine aK (J _ _) (λ_ _ a=>fM aa aa (aX.aH l.2.2.2.1 a.only) aa aw) ?_;refine CH _ _ r ?_;refine aJ ?_;refine aK (J _ s) (λ_ _ a=>fM aa aa (aX.aH l.2.2.2.2 a.only) aa aw) ?_;refine aK _ (λ_ _ _=>ln _ _ _ _ aa _ _ j aa aa t ad ad) ?_;refine CH r j (r -j) ?_;refine aK (J R z) (λ_ _ _=>by(have h:=P.out;go_simp;try rw[h])) ?_;refine aJ ?_;refine ES (λ_ _ a=>C _ a.only) ?_;refine c5 ?_;refine se _ ?_;refine fY _ ?_;refine aJ ?_;refine bQ λaU a=>?_;generalize (g 19).A=B at a⊢;generalize (g 19).c=D at a⊢;generalize (g 23).b=Y at a⊢;replace a:=a.drop 1;refine ah ?_;refine bh a 2 #[J R f.k,J R f.to,J R f.fr,J R f.n,ae B f.data.length D] ?_;refine bb a 0 (ar _) (λbI a=>?_);refine an ?_;go_wp2_with fail;refine c8 (v:=_) (gH aa _ _ _ _ _ _ _ aa (a.aV 0) gi aa aw) aa (⟨_,_,aa,(a.fresh 1).DF,a.only⟩)
 .have ard:q -1 -o=p:=aG;go_enter Tryz.func236,Tryz.ntmps236;have a:=a8 w;go_step;refine ah ?_;refine bn a #[J _ 0,J _ 0,J _ 0,J _ 0,ae _ 0 0] (λX b9 a=>?_);refine ah ?_;refine jf l.out.1 a.only ?_;refine ah ?_;refine jf l.out.2.1 a.only ?_;refine j0 q 1 (q -1) ?_;refine ag ?_;refine j0 _ o p ?_;refine hI ?_;refine bN a [9,19,23,24] (λi u=>match i with|9=>J R (m.to+r)|19=>bo #[ar #[J R f.k,J R f.to,J R f.fr,J R f.n,ae u.A f.data.length u.c],ai az]|23=>ay (ab ⟨u.b,0,af⟩)|_=>a1) (λg=>λ|19=>cz ((g 19).A) ((g 19).c) f.data|23=>aj ((g 23).b) #[J R 0,J R 0,J R 0,J R 0,ae af 0 0] 73|24=>aj ((g 23).b) #[J R f.k,J R f.to,J R f.fr,J R f.n,ae (g 19).A f.data.length (g 19).c] 73|_=>emp) (λ|24=>[24]|_=>[]) (λ_=>[]) (λ|19=>[19]|23=>[23]|24=>[19,23]|_=>[]) [0,10,20,25] (λg=>?_);refine aK _ (λ_ _ a=>mG (cs':=#[J R m.k,J R m.to,J R m.fr,J R m.n,ae A m.data.length c]) aa aa (aX.aH l.2.2.1 a.only) aw (of_decide_eq_true aw) aw aw) ?_;refine aJ ?_;refine aK (J _ _) (λ_ _ a=>fM aa aa (aX.aH l.2.2.2.1 a.only) aa aw) ?_;refine aJ ?_;refine aK (J _ s) (λ_ _ a=>fM aa aa (aX.aH l.2.2.2.2 a.only) aa aw) ?_;refine aK _ (λ_ _ _=>ln _ _ _ _ aa _ _ j aa aa t ad ad) ?_;refine qe _ j (m.to+j) ?_;refine aK (J _ s) (λ_ _ a=>fM aa aa (aX.aH l.2.2.2.2 a.only) aa aw) ?_;refine aK _ (λ_ _ a=>mG (cs':=#[J R m.to,J R r]) aa aa (aX.aH l.2.2.2.1 a.only) aw (of_decide_eq_true aw) aw aw) ?_;refine dA (λ_ _ _=>O _) ?_;refine aJ ?_;refine aK (J _ _) (λ_ _ a=>fM aa aa (aX.aH l.2.2.2.1 a.only) aa aw) ?_;refine CH _ _ r ?_;refine aJ ?_;refine aK (J _ s) (λ_ _ a=>fM aa aa (aX.aH l.2.2.2.2 a.only) aa aw) ?_;refine aK _ (λ_ _ _=>ln _ _ _ _ aa _ _ j aa aa t ad ad) ?_;refine CH r j (r -j) ?_;refine aK (J R z) (λ_ _ _=>by(have h:=P.out;go_simp;try rw[h])) ?_;refine aJ ?_;refine ES (λ_ _ a=>C _ a.only) ?_;refine c5 ?_;refine se _ ?_;refine fY _ ?_;refine aJ ?_;refine bQ λcE a=>?_;generalize (g 19).A=B at a⊢;generalize (g 19).c=D at a⊢;generalize (g 23).b=Y at a⊢;replace a:=a.drop 1;refine ah ?_;refine bh a 2 #[J R f.k,J R f.to,J R f.fr,J R f.n,ae B f.data.length D] ?_;refine bb a 0 (ar _) (λcV a=>?_);refine an ?_;go_wp2_with fail;refine c8 (v:=_) (gH aa _ _ _ _ _ _ _ aa (a.aV 0) gi aa aw) aa (⟨_,_,aa,(a.fresh 1).DF,a.only⟩)
def anN m A c(s b)w(l:qM w m A c)(hv:gJ m)(p:m.data.length<=140737488355328)(d:1<=s)(hk:0<=b/\b<mY m s):
 aC ax 222 #[nC m A c,J R s,J R b] w λe w'=>∃f j,e=aB (bo #[nC (rf m s b) f j,ai az])/\eU w.heap.size w' f j (rf m s b).data/\au w w':=by
 have o:=hv.cm;have h:=hid (λW=>RO m A c s W o.2.1 ad d);have u:=hid (λW=>au3 m A c s W hv d);have i:=hid (λW cG sO tJ sQ b' h1 g=>au2 m A c cG sO tJ sQ b' s b W h1 (l.aH g) hv p d hk);obtain⟨q,t⟩:=ex (mY m s);obtain⟨E,r⟩:=ex (rf m s b);rw[r]at i⊢;rw[t]at hk h;obtain⟨D,hk2⟩:=hk;have hk3:¬b<0:=ad;have hk4:¬b>=q:=ad;clear t r o hv d p l;go_enter func222,ntmps222;have a:=a8 w;go_step;refine ah ?_;refine bL a (ar _) (λz w1 a=>?_);refine bn a #[J _ 0,J _ 0,J _ 0,J _ 0,ae _ 0 0] (λB F a=>?_);refine zP ?_;refine bh a 1 #[J R m.k,J R m.to,J R m.fr,J R m.n,ae A m.data.length c] ?_;refine ag ?_;refine bH (h _) a (λG a=>?_);refine v2 ?_;refine ah ?_;refine bh a 1 #[J R m.k,J R m.to,J R m.fr,J R m.n,ae A m.data.length c] ?_;refine ag ?_;refine aR (u _) ?_;rintro e H ⟨cG,sO,tJ,sQ,b',rfl,x,g⟩;replace a:=a.aH g;refine aT ?_;refine ag ?_;refine du (i.out _ _ _ _ _ _ x a.only) a (λy C I a=>?_);refine bb a 1 (ar _) (λK a=>?_);refine bU ?_;go_wp2_with fail;refine c8 (v:=_) (ml aa aa aa (a.aV 1) aw aw) aa (⟨_,_,aa,(a.fresh 0).DF,a.only⟩)
abbrev jS:=(Int×Int)×Int
def y0:jS:=((0,0),0)
def nA(w:aP)(A:Option bT)(S:List jS):Prop:=
 0<S.length->∃b off,A=ab ⟨b,off,af⟩/\∀j,j<S.length->w.cell? ⟨b,off+j*3,af⟩=ab (J R (S[j]?.getD y0).1.1)/\w.cell? ⟨b,off+j*3+1,af⟩=ab (J R (S[j]?.getD y0).1.2)/\w.cell? ⟨b,off+j*3+2,af⟩=ab (J R (S[j]?.getD y0).2)
def nA.only{F w w' A S}(h:nA w A S)(k:av F w w')(hn:∀b off,A=ab ⟨b,off,af⟩->¬F b):nA w' A S:=λc=>by obtain⟨b,off,rfl,hc⟩:=h c;exact⟨b,_,rfl,λj a=>⟨k.cell (hc j a).1 (hn b _ aa),k.cell (hc j a).2.1 (hn b _ aa),k.cell (hc j a).2.2 (hn b _ aa)⟩⟩
def nA.aH{w w' A S}(h:nA w A S)(k:au w w'):nA w' A S:=h.only k (λ_ _ _ a=>a)
def oG(w:aP)(p:Nat)(S:List jS):Prop:=∃A c,w.heap[p]?=ab (.cells #[ae A S.length c] 411 (0,0))/\nA w A S/\S.length<=1048576
def oG.aH{w w' p S}(h:oG w p S)(k:au w w'):oG w' p S:=by obtain⟨A,c,h1,a,b⟩:=h;exact⟨A,c,k.heap h1 (λh=>h),a.aH k,b⟩
def j4(S:List jS):Prop:=S.Pairwise (λx y=>x.1.1+x.1.2<=y.1.1)/\∀x∈S,eX x.1/\0<x.1.2
def xA p S w(h:oG w p S):aC ax 311 #[ay (ab ⟨p,0,af⟩)] w λe w'=>e=aB (J R S.length)/\w=w':=by obtain⟨A,c,h1,a,d⟩:=h;have f:=cell_of_one h1;have b:=hid a;clear h1 a;go_enter func311,ntmps311;go_wp2;go_ret;exact⟨aa,aa⟩
def IsCut(n:Nat)(p:Nat->Bool)(k:Nat):Prop:=k<=n/\(∀t,t<k->p t=ao)/\(∀t,k<=t->t<n->p t=az)
def N' (g:Nat) du n p w (hn:n<=1048576) (A:∀args w,(kB g args).run ax w=bf (.enter g args) w)
 (s:∀(W) (i:Nat),i<n->au w W->aC ax g (#[J R i]++du) W λe w'=>e=aB (ai (p i))/\au W w')
 (c:∀a b,a<=b->b<n->p a=az->p b=az):
 aC ax 287 #[J R n,dS (eu g) #[] du] w λe w'=>∃k:Nat,e=aB (J R k)/\IsCut n p k/\au w w':=by
 have l:=hid (And.intro s c);clear s c;go_enter func287,ntmps287;go_wp2_with fail;go_loopg [5,6] (n+1) (λu y hv wr=>∃lo hi:Nat,y=J R lo/\hv=J R hi/\lo<=hi/\hi<=n/\hi -lo<u/\aE ((∀t,t<lo->p t=ao)/\(∀t,hi<=t->t<n->p t=az))/\au w wr);case atStart=>exact⟨0,n,aa,aa,cB _,b7 _,ad,hid ⟨λt h=>ad,λt h1 q=>ad⟩,av.refl _ _⟩
 case round=>
  obtain⟨lo,hi,rfl,rfl,h1,q,B,d,r⟩:=hrel;have f:=hid r;clear r;by_cases hlt:lo<hi
  .have C:(lo:Int)<(hi:Int):=ad;obtain⟨m,c⟩:∃m,m=(lo+hi)/2:=⟨_,aa⟩;have F:((lo:Int)+(hi:Int))/2=(m:Int):=ad;have D:lo<=m:=ad;have E:m<hi:=ad;have z:=hid c;have hc:=l.out.1 wr m ad f.out;clear c;cases hp:p m with
   |false=>
    rw[hp]at hc;have o:=hid hp;clear hp;go_wp2_with (go_at_fn g;refine hc.mono ?_;clear hc;rintro e w1 ⟨rfl,hg1⟩);have j:=hid (au.trans f.out hg1);clear hg1;go_roundg (hi -(m+1)+1);case measure=>omega
    case rel=>exact⟨m+1,hi,ba,aa,ad,q,ad,hid ⟨λt G=>(by
     cases h:p t with
     |false=>rfl
     |true=>have:=l.out.2 t m ad ad h;rw[o.out]at this;cases this),d.out.2⟩,j.out⟩
   |true=>
    rw[hp]at hc;have o:=hid hp;clear hp;go_wp2_with (go_at_fn g;refine hc.mono ?_;clear hc;rintro e w1 ⟨rfl,hg1⟩);have j:=hid (au.trans f.out hg1);clear hg1;go_roundg (m -lo+1);case measure=>omega
    case rel=>exact⟨lo,m,aa,ba,ad,ad,ad,hid ⟨d.out.1,λt v x=>l.out.2 m t v x o.out⟩,j.out⟩
  .obtain rfl:lo=hi:=ad;go_wp2;go_ret;exact⟨lo,aa,⟨q,d.out.1,d.out.2⟩,f.out⟩
def kX(E:List (Int×Int)):Int:=E.foldr (λe n=>e.2+n) 0
def aah{E}(h:∀e∈E,0<=e.2):0<=kX E:=by
 induction E with
 |nil=>exact Int.le_refl _
 |cons e r a=>grind[kX]
def R5(E F):kX (E++F)=kX E+kX F:=by
 induction E with
 |nil=>simp[kX]
 |cons e r a=>grind[kX]
def aaj{E}(h:∀e∈E,0<=e.2)k:0<=kX (E.take k)/\kX (E.take k)<=kX E:=by have h1:=R5 (E.take k) (E.drop k);rw[oJ]at h1;have b:=aah (E:=E.take k) (λe a=>h e (List.mem_of_mem_take a));have c:=aah (E:=E.drop k) (λe a=>h e (List.mem_of_mem_drop a));omega
def aai{E:List (Int×Int)}{k x}(hx:E[k]?=ab x):kX (E.take (k+1))=kX (E.take k)+x.2:=by rw[gx,hx,Ck,R5];simp[kX]
def axW A c E w(m:kS w A E)(hle:E.length<=1048576)(hv:∀e∈E,0<=e.2)(n:kX E<=4611686018427387903):
 aC ax 137 #[ae A E.length c] w λe w'=>e=aB (bo #[J R (kX E),ai az])/\au w w':=by
 have p:=hid m;have t:=hid hv;have r:=hid n;clear m hv n;go_enter func137,ntmps137;have a:=a8 w;go_upto_region 0 with fail;refine cy ?_;refine v2 ?_;refine an ?_;go_upto_region 1 with fail;refine cy ?_;refine ag ?_;refine an ?_;go_upto_region 2 with fail;refine cy ?_;refine v3 ?_;refine Mh ?_;go_loopw [4,9] (λo i wr=>∃q:Nat,q<=E.length/\i=J R q/\o=J R (kX (E.take q))/\ak w (λ_=>False) wr []) (λo i wr=>E.length -(bR i).toNat);case atStart=>grind[kX]
 case round=>
  clear a;obtain⟨q,B,rfl,rfl,a⟩:=hrel;obtain⟨s,b⟩:=ex (kX (E.take q));rw[b];have j:=hid b;by_cases hlt:q<E.length
  .have z:(q:Int)<(E.length:Int):=ad;obtain⟨x,hx⟩:∃x,E[q]?=ab x:=⟨_,cF hlt⟩;have k:=hid hx;obtain⟨hC,of,rfl,hcell⟩:=p ad;obtain⟨d,f⟩:=hcell q hlt;simp only[hx,Option.getD_some]at d f;obtain⟨cX,bk⟩:=x;simp only at d f;have g:=aaj t (q+1);rw[aai k,j]at g;have u:=r.out;simp only at g;have y:¬s+bk>4611686018427387903:=ad;have hg1:-9223372036854775808<=s+bk:=ad;have l:=hid (And.intro d f);clear b hx hcell g u d f;go_upto_region 4 with fail;refine cy ?_;refine aI (ay (ab ⟨hC,(of+q*2),af⟩)) (b4 176 35 2 (bj 7) (bj 9) aa underlying176 ba _ _ _ _ _ _ aa aa hlt aa) ?_;refine aI (ar #[J R cX,J R bk]) (adZ 35 aa aa (a.only.cell l.1 (λh=>h)) (a.only.cell l.2 (λh=>h)) Tryz.underlying35 aa ba) ?_;refine bn a #[J _ 0,J _ 0] (λv w1 a=>?_);refine bb a 0 (ar _) (λC a=>?_);refine an ?_;go_upto_region 5 with fail;refine cy ?_;refine v2 ?_;refine pl a 0 1 ?_;refine pad s bk (s+bk) ?_;refine ag ?_;refine an ?_;go_upto_region 6 with fail;refine cy ?_;refine v2 ?_;refine an ?_;go_wp2_with fail;go_roundw;case rel=>exact⟨q+1,ad,by go_num,by rw[aai k,j],a.drop 0⟩
   case measure=>grind[bR]
  .obtain rfl:q=E.length:=ad;rw[ll]at b;go_upto_region 9 with fail;refine cy ?_;refine v3 ?_;refine an ?_;go_wp2_with fail;go_ret2;exact⟨by rw[b];rfl,a.only⟩
def cZ(w:aP)(A:Option bT)(ms:List bO):Prop:=0<ms.length->∃b off,A=ab ⟨b,off,af⟩/\∀(j:Nat) (m:bO),ms[j]?=ab m->∃a c,(w.cell? ⟨b,off+j*5,af⟩=ab (J R m.k)/\w.cell? ⟨b,off+j*5+1,af⟩=ab (J R m.to)/\w.cell? ⟨b,off+j*5+2,af⟩=ab (J R m.fr)/\w.cell? ⟨b,off+j*5+3,af⟩=ab (J R m.n)/\w.cell? ⟨b,off+j*5+4,af⟩=ab (ae a m.data.length c))/\qM w m a c
def cZ.aH{w w' A ms}(h:cZ w A ms)(g:au w w'):cZ w' A ms:=λo=>by obtain⟨b,off,e,hc⟩:=h o;refine⟨b,_,e,λj m n=>?_⟩;obtain⟨a,c,⟨d,h1,f,i,k⟩,l⟩:=hc j m n;exact⟨a,c,⟨g.cell d (λh=>h),g.cell h1 (λh=>h),g.cell f (λh=>h),g.cell i (λh=>h),g.cell k (λh=>h)⟩,l.aH g⟩
theorem cZ.jt{w A ms}(h:cZ w A ms){j m}(f:ms[j]?=ab m):∃d l a c,A=ab ⟨d,l,af⟩/\(∀W,au w W->qM W m a c)/\∀W,au w W->W.rangeAt d (l+j*5) [J R m.k,J R m.to,J R m.fr,J R m.n,ae a m.data.length c]:=by
 have u:=(eM.1 f).1;obtain⟨b,off,e,hc⟩:=h ad;obtain⟨a,c,⟨o,h1,p,q,r⟩,s⟩:=hc j m f;refine⟨b,_,a,c,e,λW g=>s.aH g,λW g i v hi=>?_⟩;have t:i<5:=(eM.1 hi).1;obtain rfl|rfl|rfl|rfl|rfl:i=0\/i=1\/i=2\/i=3\/i=4:=ad;·cases hi;exact g.cell o (λh=>h)
 .cases hi;exact g.cell h1 (λh=>h)
 .cases hi;exact g.cell p (λh=>h)
 .cases hi;exact g.cell q (λh=>h)
 .cases hi;exact g.cell r (λh=>h)
def CB(s:Int)(m:bO):List bO:=(dU (mY m s).toNat).map (λ(k:Nat)=>rf m s (k:Int))
def dO(s:Int)(ms:List bO):List bO:=ms.flatMap (CB s)
def l3(s:Int)(ms:List bO)(i:Nat):Nat:=(dO s (ms.take i)).length
theorem ZH s m:(CB s m).length=(mY m s).toNat:=by simp[CB]
theorem ZP s(a b):dO s (a++b)=dO s a++dO s b:=by simp[dO]
theorem RF{s ms i m}(h:ms[i]?=ab m):l3 s ms (i+1)=l3 s ms i+(mY m s).toNat:=by grind[l3,gx,dO,ZH]
theorem RE s ms:l3 s ms ms.length=(dO s ms).length:=by grind[l3]
def Zw{s ms i j}(h:i<=j):l3 s ms i<=l3 s ms j:=by grind[l3,ZP,oJ]
def aon{s ms k i m}(a:ms[k]?=ab m)(h1:l3 s ms k<=i)(b:i<l3 s ms (k+1)):(dO s ms)[i]?=ab (rf m s ((i -l3 s ms k:Nat):Int)):=by
 have hk:=(eM.1 a).1;have dM:ms=ms.take k++(m::ms.drop (k+1)):=by grind[oJ,List.drop_eq_getElem_cons]
 have e:dO s ms=dO s (ms.take k)++(CB s m++dO s (ms.drop (k+1))):=by
  conv=>lhs;rw[dM]
  rw[ZP];rfl
 grind[RF,l3,CB]
structure Cm (w:aP) (p:Nat) (s:Int) (ms:List bO):Prop where
 ex:∃F jb G rb A c,(w.cell? ⟨p,0,af⟩=ab (J R s)/\w.cell? ⟨p,1,af⟩=ab (ae F (ms.length+1) jb)/\w.cell? ⟨p,2,af⟩=ab (ae G (ms.length+1) rb)/\w.cell? ⟨p,3,af⟩=ab (ae A ms.length c))/\
  dy w F ((dU (ms.length+1)).map (λi=>(l3 s ms i:Int)))/\cZ w A ms
 dL:(dO s ms).length<=1048576/\ms.length<=1048576
 size:1<=s
 valid:∀m∈ms,gJ m/\m.data.length<=140737488355328
def Cm.aH{w w' p s ms}(h:Cm w p s ms)(g:au w w'):Cm w' p s ms:=by obtain⟨F,jb,G,rb,A,c,⟨a,h1,b,d⟩,e,f⟩:=h.ex;exact⟨⟨F,jb,G,rb,A,c,⟨g.cell a (λh=>h),g.cell h1 (λh=>h),g.cell b (λh=>h),g.cell d (λh=>h)⟩,e.aH g,f.aH g⟩,h.dL,h.size,h.valid⟩
def axB s(F G)(n jb rb)f w(hn:n<=1048576)(c:dy w F ((dU (n+1)).map f)):
 aC ax 140 #[ar #[J R s,ae F (n+1) jb,ae G (n+1) rb]] w λe w'=>e=aB (J R (f n))/\au w w':=by
 obtain⟨b,o,rfl,hcell⟩:=c bc;have z:=by have:=hcell n bc;simpa using this
 clear hcell c;have d:n<n+1:=YD n;go_enter func140,ntmps140;have a:=a8 w;go_step;refine ah ?_;refine bL a (ar _) (λg w1 a=>?_);refine cA ?_;refine pl a 0 1 ?_;refine ag ?_;refine pl a 0 1 ?_;refine ag ?_;refine j0 _ 1 (n:Int) ?_;refine aI _ (b4 82 3 1 _ _ aa jo aw _ _ _ _ _ ((o+n)) aa aa d ad) ?_;refine NY z a.only ?_;refine Kk ?_;exact⟨aa,a.only⟩
def ap3 F(n jb de gY q)d f w(hn:n<=1048576)(c:dy w F ((dU (n+1)).map f))(i:w.cell? ⟨de,1,af⟩=ab (ae F (n+1) jb))(j:w.cell? ⟨gY,0,af⟩=ab (J R d))(k:q<n):
 aC ax 288 #[J R (q:Int),ay (ab ⟨de,0,af⟩),ay (ab ⟨gY,0,af⟩)] w λe w'=>e=aB (ai (decide (d<f (q+1))))/\au w w':=by
 obtain⟨b,o,rfl,hcell⟩:=c bc;have g:w.cell? ⟨b,o+(q+1),af⟩=ab (J R (f (q+1))):=by have:=hcell (q+1) aG;simpa [show q+1<n+1 by omega]using this
 clear hcell c;obtain⟨cK,h⟩:=ex (q+1);rw[h]at g⊢;have hb2:cK<n+1:=ad;go_enter func288,ntmps288;have a:=a8 w;go_step;refine ah ?_;refine hI ?_;refine bN a [] (λ_ _=>a1) (λ_ _=>emp) (λ_=>[]) (λ_=>[]) (λ_=>[]) [] (λl=>?_);refine aJ ?_;refine jL i ?_;refine aJ ?_;refine qe _ 1 (cK:Int) ?_;refine aK _ (λ_ _ _=>b4 82 3 1 _ _ aa jo aw _ _ _ _ _ ((o+cK)) aa aa hb2 ad) ?_;refine jL g ?_;refine jL j ?_;refine bx ?_;refine bQ λw1 a=>?_;refine bF ?_;exact⟨aa,a.only⟩
def apq args w:(kB 288 args).run ax w=bf (.enter 288 args) w:=ba
def IsCut.place{n}{f:Nat->Int}{i q}(h:IsCut n (λq=>decide (i<f (q+1))) q)(h1:f 0<=i)(g:i<f n):q<n/\f q<=i/\i<f (q+1):=by
 obtain⟨a,b,c⟩:=h;simp only[decide_eq_true_eq,decide_eq_false_iff_not]at b c
 have e:q<n:=by
  rcases Nat.lt_or_ge q n with h|h;·omega
  .exfalso;obtain rfl:q=n:=ad;rcases l1 q with d|d;·grind
   .have:=b (q -1) ad;grind
 refine⟨e,?_,c q (b7 _) e⟩;rcases l1 q with d|d;·grind
 .have:=b (q -1) ad;grind
def ap1(s d)(F G)(n jb rb)f w(hn:n<=1048575)(o:dy w F ((dU (n+1)).map f))(p:∀a b,a<=b->b<=n->f a<=f b)(h1:f 0<=d)(m:d<f n):
 aC ax 221 #[ar #[J R s,ae F (n+1) jb,ae G (n+1) rb],J R d] w λe w'=>∃q:Nat,e=aB (J R (q:Int))/\(q<n/\f q<=d/\d<f (q+1))/\au w w':=by
 have r:=hid o;have x:=hid hn;have t:=hid p;have l:=hid (And.intro h1 m);have y:=hn;clear o hn p h1 m;go_enter func221,ntmps221;have c:=a8 w;go_step;refine ah ?_;refine bL c (ar _) (λj w1 c=>?_);refine bL c (J _ d) (λk z c=>?_);refine cA ?_;refine pl c 1 1 ?_;refine ag ?_;refine j0 _ 1 (n:Int) ?_;refine ag ?_;refine aR (N' 288 #[ay (ab ⟨j,0,af⟩),ay (ab ⟨k,0,af⟩)] n (λq=>decide (d<f (q+1))) _ ad apq (λW q v i=>ap3 F n jb j k q d f W ad (r.out.aH (c.only.trans i (λ_ _ h=>h))) (av.cell i ((c.aV 1).cell 1 aa) (λh=>h)) (av.cell i ((c.aV 0).cell 0 aa) (λh=>h)) v) (λa b hab hb u=>by simp at u⊢;have:=t (a+1) (b+1) ad ad;omega)) ?_;rintro e A ⟨q,rfl,hcut,g⟩;replace c:=c.aH g;refine aT ?_;refine Kk ?_;exact⟨q,aa,IsCut.place hcut l.1 l.2,c.only⟩
def F5 p s ms w(f:Cm w p s ms):
 aC ax 60 #[ay (ab ⟨p,0,af⟩)] w λe w'=>e=aB (J R ((dO s ms).length:Int))/\au w w':=by
 obtain⟨F,jb,G,rb,A,c,⟨k,l,m,u⟩,n,x⟩:=f.ex;have t:=f.dL;have d:=hid (λW r=>axB s F G ms.length jb rb (λi=>(l3 s ms i:Int)) W ad r);rw[RE]at d;have o:=hid n
 have q:aE (∀W,au w W->W.rangeAt p 0 [J R s,ae F (ms.length+1) jb,ae G (ms.length+1) rb]):=hid (λW g j v b=>by
  match j,b with
  |0,b=>simpa using(g.cell k (λh=>h)).trans aG
  |1,b=>simpa using(g.cell l (λh=>h)).trans aG
  |2,b=>simpa using(g.cell m (λh=>h)).trans aG);clear t k l m u n x;go_enter func60,ntmps60;have a:=a8 w;go_step;refine ah ?_;refine ag ?_;refine ah ?_;refine v2 ?_;refine jk ?_;refine aI (ar #[J R s,ae F (ms.length+1) jb,ae G (ms.length+1) rb]) (by(refine e5 _ _ aa p 0 aa _ (q _ a.only) Tryz.underlying246 aa aw)) ?_;refine bH (d _ (o.out.aH a.only)) a (λw1 a=>?_);refine Kk ?_;exact⟨aa,a.only⟩
def afd(p x)s ms w(t:Cm w p s ms)(rv:ms.length<=1048575)(hi:x<(dO s ms).length):
 aC ax 139 #[ay (ab ⟨p,0,af⟩),J R (x:Int)] w λe w'=>∃(q:Nat) (S:Option bT) (Y:Nat) (m:bO),e=aB (bo #[ar #[J R (x:Int),J R (q:Int),J R m.k,J R m.to,J R m.fr,J R m.n,ae S m.data.length Y],ai az])/\(dO s ms)[x]?=ab m/\eU w.heap.size w' S Y m.data/\au w w':=by
 obtain⟨F,jb,G,rb,A,c,⟨O,P,z2,z3⟩,Q,OB⟩:=t.ex;obtain⟨dL,aap⟩:=t.dL;have L:=t.size;have akU:=hid (λW E=>F5 p s ms W (t.aH E));have f':0<ms.length:=by grind[dO]
 obtain⟨X,bM,rfl,abD⟩:=OB f';obtain⟨B,z,rfl,abE⟩:=Q bc;have cH:=hid (λW E=>ap1 s (x:Int) (ab ⟨B,z,af⟩) G ms.length jb rb (λi=>(l3 s ms i:Int)) W rv (Q.aH E) (λa b hab _=>by have:=Zw (s:=s) (ms:=ms) hab;omega) (by simp[l3,dO]) (by grind[RE]))
 have QC:aE (∀W,au w W->W.rangeAt p 0 [J R s,ae (ab ⟨B,z,af⟩) (ms.length+1) jb,ae G (ms.length+1) rb]):=hid (λW g j v o=>by
  match j,o with
  |0,o=>simpa using(g.cell O (λh=>h)).trans aG
  |1,o=>simpa using(g.cell P (λh=>h)).trans aG
  |2,o=>simpa using(g.cell z2 (λh=>h)).trans aG);have d':(x:Int)<((dO s ms).length:Int):=ad;have dW:=hid (And.intro hi (And.intro dL aap));have wS:=hid t.valid;have iV:=hid abD;have yr:=hid abE;clear dL aap hi abD abE OB Q t z2;go_enter Tryz.func139,Tryz.ntmps139;have f:=a8 w;go_step;refine ah ?_;refine bn f #[J _ 0,J _ 0,J _ 0,J _ 0,J _ 0,J _ 0,ae _ 0 0] (λdv w1 f=>?_);refine ag ?_;refine ah ?_;refine v5 ?_;refine bH (akU _ f.only) f (λaU f=>?_);refine v2 ?_;refine jk ?_;refine aI (ar #[J R s,ae (ab ⟨B,z,af⟩) (ms.length+1) jb,ae G (ms.length+1) rb]) (by(refine e5 _ _ aa p 0 aa _ (QC _ f.only) Tryz.underlying246 aa aw)) ?_;refine ag ?_;refine aR (cH _ f.only) ?_;rintro e bI ⟨q,rfl,hq,g⟩;replace f:=f.aH g;refine Gr ?_;obtain⟨o1,I,K⟩:=hq;try simp only at I K
 obtain⟨m,y⟩:∃m,ms[q]?=ab m:=⟨_,cF o1⟩;obtain⟨U,aZ,⟨eK,cX,bk,iw,hR⟩,qE⟩:=iV q m y;have N:w.cell? ⟨B,z+q,af⟩=ab (J R (l3 s ms q:Int)):=by have:=yr q aG;grind
 have hst:=aon (s:=s) y (i:=x) ad ad;have M:=RF (s:=s) y;have hv:=wS m (cW y);have dg:=(RD hv.1 L).1;obtain⟨D,AS⟩:=ex (l3 s ms q);rw[AS]at I M hst N;rw[M]at K;obtain⟨d,hd⟩:=ex (x -D);rw[hd]at hst;obtain⟨l,H⟩:=ex (rf m s (d:Int));rw[H]at hst;have ei:=hid hst;have V:=hid (λW g=>anN m U aZ s (d:Int) W (qE.aH g) hv.1 hv.2 L ad);rw[H]at V;have aBZ:(x:Int) -(D:Int)=(d:Int):=ad;have aBg:D<=x:=ad;have aBY:x<=1048576:=by have:=dW.out;omega
 have ale:aE (∀W,au w W->W.rangeAt X _ [J R m.k,J R m.to,J R m.fr,J R m.n,ae U m.data.length aZ]):=hid (λW g j v o=>by
  match j,o with
  |0,o=>simpa using(g.cell eK (λh=>h)).trans aG
  |1,o=>simpa using(g.cell cX (λh=>h)).trans aG
  |2,o=>simpa using(g.cell bk (λh=>h)).trans aG
  |3,o=>simpa using(g.cell iw (λh=>h)).trans aG
  |4,o=>simpa using(g.cell hR (λh=>h)).trans aG);have acQ:q<ms.length+1:=ad;have alB:=hid N;have C:=hid (And.intro O (And.intro P z3));clear y hst M hv dg AS H hd I K L eK cX bk iw hR qE N O P z3;refine cx ?_;refine bN f [22,26,27] (λi u=>match i with|22=>bo #[ar #[J R l.k,J R l.to,J R l.fr,J R l.n,ae u.A l.data.length u.c],ai az]|26=>ay (ab ⟨u.b,0,af⟩)|_=>a1) (λr=>λ|22=>cz ((r 22).A) ((r 22).c) l.data|26=>aj ((r 26).b) #[J R 0,J R 0,J R 0,J R 0,ae af 0 0] 73|27=>aj ((r 26).b) #[J R l.k,J R l.to,J R l.fr,J R l.n,ae (r 22).A l.data.length (r 22).c] 73|_=>emp) (λ|27=>[27]|_=>[]) (λ_=>[]) (λ|22=>[22]|26=>[26]|27=>[22,26]|_=>[]) [0,23,28] (λr=>?_);refine c5 ?_;refine jL C.2.2 ?_;refine aJ ?_;refine aK _ (λ_ _ _=>b4 24 73 5 _ _ aa ey aw _ _ _ _ _ _ aa aa o1 aa) ?_;refine aK _ (λ_ _ f=>e5 73 _ aa X _ aa _ (ale _ f.only) gi aa aw) ?_;refine hG ?_;refine jL C.1 ?_;refine np ?_;refine jL C.2.1 ?_;refine aJ ?_;refine aK _ (λ_ _ _=>b4 82 3 1 _ _ aa jo aw _ _ _ _ _ ((z+q)) aa aa acQ ad) ?_;refine jL alB ?_;refine CH _ _ _ ?_;refine ES (λ_ _ f=>V _ f.only) ?_;refine c5 ?_;refine se _ ?_;refine fY _ ?_;refine aJ ?_;refine bQ λb9 f=>?_;generalize (r 22).A=T at f⊢;generalize (r 22).c=Z at f⊢;generalize (r 26).b=azf at f⊢;refine gW ?_;refine bh f 2 #[J R l.k,J R l.to,J R l.fr,J R l.n,ae T l.data.length Z] ?_;refine v2 ?_;refine bb f 0 (ar _) (λcE f=>?_);refine bU ?_;go_wp2_with fail;refine c8 (v:=_) (ml aa aa aa (f.aV 0) aw aw) aa (⟨q,T,Z,l,aa,ei,(f.fresh 1).DF,f.only⟩)
section
structure dq where
 l:List Int
 len:l.length=32
def dq.zero:dq:=⟨ea 32 0,aa⟩
def a'(o n:Int)(g h:dq)(S:aO):Array Value:=(J R o::J R n::(g.l.map a6++(h.l.map a6++[S]))).toArray
abbrev eN(o n:Int)(g h:dq)(S:aO):Value:=ar (a' o n g h S)
section
variable {o n:Int} {g h:dq} {S:aO}
theorem bD:(a' o n g h S).size=67:=by simp[a',g.len,h.len]
def kE:(a' o n g h S)[0]?=ab (J R o):=ba
def il:(a' o n g h S)[1]?=ab (J R n):=ba
def fi:(a' o n g h S)[66]?=ab S:=by simp only[a',Ak,vu];rw[oI (by simp[g.len]),oI (by simp[g.len,h.len])];simp[g.len,h.len]
def aoF{a}:(a' o n g h S).setIfInBounds 66 a=a' o n g h a:=by simp only[a',al3,List.set_cons_succ];congr 3;rw[Yz _ _ (by simp[g.len]),Yz _ _ (by simp[g.len,h.len])];simp[g.len,h.len]
def sf(b:S.oneCell'=az):(a' o n g h S).all (·.oneCell')=true:=by
 rw[Vw];intro v hv;have hv':v∈(J R o::J R n::(g.l.map a6++(h.l.map a6++[S]))):=by grind[a']
 simp at hv';rcases hv' with rfl|rfl|⟨a,_,rfl⟩|⟨a,_,rfl⟩|rfl;all_goals first|rfl|omega
end
def jD(m:bO)(A:Option bT)(c:Nat):List Value:=[J R m.k,J R m.to,J R m.fr,J R m.n,ae A m.data.length c]
def cL(l:List (bO×Option bT×Nat)):List Value:=l.flatMap (λx=>jD x.1 x.2.1 x.2.2)
def CD(a b):cL (a++b)=cL a++cL b:=by simp[cL]
def ER m A c:cL [(m,A,c)]=jD m A c:=ba
theorem ZN l:(cL l).length=l.length*5:=by
 unfold cL;induction l with
 |nil=>rfl
 |cons a r b=>grind[jD]
def EP{l j x}(hx:l[j]?=ab x):∀i v,(jD x.1 x.2.1 x.2.2)[i]?=ab v->(cL l)[j*5+i]?=ab v:=by
 induction l generalizing j with
 |nil=>grind
 |cons a r c=>
  intro i v hv;have b:(jD a.1 a.2.1 a.2.2).length=5:=rfl;unfold cL;rw[List.flatMap_cons];cases j with
  |zero=>grind
  |succ j=>
   simp at hx;rw[oI ad,b,show(j+1)*5+i -5=j*5+i by omega];exact c hx i v hv
def Rh(N:Nat)(w:aP)(A:Option bT)(c:Nat)(ms:List bO):Prop:=
 ∃l:List (bO×Option bT×Nat),l.map (·.1)=ms/\Row N w A ms.length c 73 5 (cL l)/\∀x∈l,eU N w x.2.1 x.2.2 x.1.data
def Rh.xR{N w A c ms}(h:Rh N w A c ms):cZ w A ms:=λo=>by
 obtain⟨l,h1,b,e⟩:=h;rcases b.cases with⟨_,n,_,_⟩|⟨g,cur,d,_⟩;·omega
 .refine⟨g,0,d,λj m a=>?_⟩;subst h1;rw[jU]at a;cases hx:l[j]? with
  |none=>rw[hx]at a;cases a
  |some x=>
   rw[hx]at a;simp at a;subst a;have f:=EP hx
   have hc:∀i v,(jD _ _ _)[i]?=ab v->w.cell? ⟨g,0+j*5+i,_⟩=ab v:=λi v hv=>by obtain⟨k,bF,cq⟩:=b.cell (f i v hv);rw[d]at bF;injection bF with bF;injection bF with bF;subst bF;rw[js];exact cq
   exact⟨_,_,⟨hc 0 _ aa,hc 1 _ aa,hc 2 _ aa,hc 3 _ aa,hc 4 _ aa⟩,(e x (cW hx)).cmd⟩
end
section
def CE(A:Option bT)(n c:Nat)(l:List (bO×Option bT×Nat)):bu:=⟨λb=>ej A b\/∃x∈l,ej x.2.1 b,λw=>Row 0 w A n c 73 5 (cL l)/\∀x∈l,eU 0 w x.2.1 x.2.2 x.1.data,λw w' h a d=>
 ⟨(bg A n c 73 5 (cL l)).nG w w' (λb hb=>h b (bZ hb)) (λb hb=>a b (bZ hb)) d.1,λx hx=>(cz x.2.1 x.2.2 x.1.data).nG w w' (λb hb=>h b (cc ⟨x,hx,hb⟩)) (λb hb=>a b (cc ⟨x,hx,hb⟩)) (d.2 x hx)⟩⟩
def ie(t:bu)(A:Option bT)(c:Nat)(ms:List bO):Prop:=∃l:List (bO×Option bT×Nat),l.map (·.1)=ms/\t=CE A ms.length c l
def ie.av5{t A c ms W}(h:ie t A c ms)(a:t.p W):Rh 0 W A c ms:=by obtain⟨l,h1,rfl⟩:=h;exact⟨l,h1,a⟩
def ie.xR{t A c ms W}(h:ie t A c ms)(a:t.p W):cZ W A ms:=(h.av5 a).xR
def ie.cmd{t A c ms}(h:ie t A c ms){j m}(a:ms[j]?=ab m):∃d f,(∀b,ej d b->t.cU b)/\∀W,t.p W->qM W m d f/\∃g,A=ab ⟨g,0,af⟩/\W.rangeAt g (0+j*5) (jD m d f):=by
 obtain⟨l,h1,rfl⟩:=h;subst h1;rw[jU]at a;cases hx:l[j]? with
 |none=>grind
 |some x=>
  rw[hx]at a;simp at a;subst a;have n:=cW hx;refine⟨_,_,λb hb=>cc ⟨x,n,hb⟩,λW e=>⟨(e.2 x n).cmd,?_⟩⟩;obtain⟨g,k,_⟩:=e.1.cell (EP hx 0 _ aa);refine⟨g,k,λi v hi=>?_⟩;obtain⟨o,bF,cq⟩:=e.1.cell (EP hx i _ hi);rw[k]at bF;injection bF with bF;injection bF with bF;subst bF;rw[js];exact cq
def xy{o n d c g h g2 b S a}:lay (a' o n g h S) 0 (a' d c g2 b a).toList=a' d c g2 b a:=by grind[lay_all,bD]
section
variable {aq w:aP} {FX:Nat->Prop}
def gK(l:List (bO×Option bT×Nat)):bu:=⟨λb=>∃x∈l,ej x.2.1 b,λw=>∀x∈l,eU 0 w x.2.1 x.2.2 x.1.data,λw w' h a c x hx=>
 (cz x.2.1 x.2.2 x.1.data).nG w w' (λb hb=>h b ⟨x,hx,hb⟩) (λb hb=>a b ⟨x,hx,hb⟩) (c x hx)⟩
def ak.Md{L}(h:ak aq FX w L):ak aq FX w (gK []::L):=h.new _ ⟨av.refl _ _,λ_ h=>(fS h).elim,λ_ ⟨_,h,_⟩=>(fS h).elim⟩
def ak.Mc{L l m A c}(h:ak aq FX w (gK l::cz A c m.data::L)):ak aq FX w (gK (l++[(m,A,c)])::L):=by
 refine h.star.as 0 aa _ (λa x hx=>?_) (λb hb=>?_)
 .rcases iX.1 hx with hx|hx;·exact a.1 x hx
  .obtain rfl:x=(m,A,c):=aG;exact a.2.1
 .obtain⟨x,hx,hb⟩:=hb;rcases iX.1 hx with hx|hx;·exact bZ ⟨x,hx,hb⟩
  .obtain rfl:x=(m,A,c):=aG;exact cc hb
def ak.ao1{L l m}(c:m.data=[])(h:ak aq FX w (gK l::L)):ak aq FX w (gK (l++[(m,af,0)])::L):=by
 refine h.as 0 aa _ (λa x hx=>?_) (λb hb=>?_)
 .rcases iX.1 hx with hx|hx;·exact a x hx
  grind[eU.nil]
 .obtain⟨x,hx,hb⟩:=hb;rcases iX.1 hx with hx|hx;·exact⟨x,hx,hb⟩
  .obtain rfl:x=(m,af,0):=aG;obtain⟨_,_,hb⟩:=hb;cases hb
def ak.CE{r l A n c}(h:ak aq FX w (bg A n c 73 5 (cL l)::gK l::r)):ak aq FX w (Go.Proofs.YtcmhplknoglbkaaGreat.CE A n c l::r):=h.star.as 0 aa _ (λh=>⟨h.1,h.2.1⟩) (λ_ hb=>hb)
variable {o n:Int} {g h:dq} {S gR:aO}
def ZR(a:gR.cells=#[gR]:=by rfl):66+gR.cells.size<=(a' o n g h S).size:=by grind[bD]
def ZT(a:gR.cells=#[gR]:=by rfl):lay (a' o n g h S) 66 gR.cells.toList=a' o n g h gR:=by rw[a];exact aoF
end
def JN(o n)(g h)S A c ms w(hS:S.oneCell'=az)(H:cZ w A ms)(hle:ms.length<=1048576)(hv:∀m∈ms,m.data.length<=140737488355328):
 aC ax 56 #[eN o n g h S,ae A ms.length c] w λe w'=>∃s B t,e=aB (eN o n g h (ae s ms.length B))/\cj w w' t/\ie t s B ms:=by
 have P:=hid H;have T:=hid hv;clear H hv;have aBt:=hle;go_enter func56,ntmps56;have a:=a8 w;go_upto_region 0 with fail;refine cy ?_;refine bL a (ar _) (λcG w1 a=>?_);refine bn a (a' 0 0 dq.zero dq.zero _) (λL aU a=>?_);refine b5 ?_;refine bb a 1 (ae af 0 0) (λbI a=>?_) (hk:=ZR) (hc:=ZT);refine ah ?_;refine v3 ?_;refine an ?_;replace a:=a.pk [1,0];replace a:=a.Md.lz (av.refl _ _) (Row.nil _ _ 73 5);go_wp2_with fail;go_loopw [10] (λr wr=>∃(q:Nat) (f:Option bT) (j:Nat) (l:List (bO×Option bT×Nat)),q<=ms.length/\r=J R q/\aE (l.map (·.1)=ms.take q)/\ak w (λ_=>False) wr [bg f q j 73 5 (cL l),gK l,aj cG (a' o n g h (ae f q j)) 26,aj L (a' 0 0 dq.zero dq.zero (ae af 0 0)) 26]) (λr wr=>ms.length -(bR r).toNat);case atStart=>exact⟨0,_,0,[],cB _,aa,hid aa,a⟩
 case round=>
  clear a;obtain⟨q,f,j,l,hq,rfl,z,a⟩:=hrel;by_cases hlt:q<ms.length
  .have cf:(q:Int)<(ms.length:Int):=ad;obtain⟨m,p⟩:∃m,ms[q]?=ab m:=⟨_,cF hlt⟩;obtain⟨U,bM,y,D,E,F,G⟩:=cZ.jt P p;have M:=hid E;have N:=hid F;have O:=hid G;have Q:=hid p;have V:=T m (cW p);clear E F G p;go_upto_region 4 with fail;refine cy ?_;refine aI _ (b4 24 73 5 _ _ aa ey aw _ _ _ _ _ _ (by show ae A _ _=_;rw[M]) aa hlt aa) ?_;refine aI _ (by(refine e5 73 _ aa U _ aa _ (O _ a.only) gi aa aw)) ?_;refine bn a #[J _ 0,J _ 0,J _ 0,J _ 0,ae _ 0 0] (λX b9 a=>?_);refine bb a 0 (ar _) (λcE a=>?_);refine cx ?_;refine bN a [3,4,5,7] (λi u=>match i with|3=>ar #[J R m.k,J R m.to,J R m.fr,J R m.n,ae u.A m.data.length u.c]|4=>ae (ab ⟨u.b,0,af⟩) 1 1|5=>ae u.A (q+1) u.c|_=>a1) (λd=>λ|3=>cz ((d 3).A) ((d 3).c) m.data|4=>aj ((d 4).b) #[J R m.k,J R m.to,J R m.fr,J R m.n,ae (d 3).A m.data.length (d 3).c] 73|5=>bg ((d 5).A) (q+1) ((d 5).c) 73 5 (cL l++([J R m.k,J R m.to,J R m.fr,J R m.n,ae (d 3).A m.data.length (d 3).c]))|7=>aj cG (a' o n g h (ae (d 5).A (q+1) (d 5).c)) 26|_=>emp) (λ|5=>[1]|7=>[3]|_=>[]) (λ|1=>[3]|2=>[0]|5=>[9]|_=>[]) (λ|3=>[3]|4=>[3,4]|5=>[3,5]|7=>[5]|_=>[]) [0,2,4,8,9,10,12] (λd=>?_);refine aJ ?_;refine dl 0 66 ?_ (hv:=fi);refine eO 0 #[J R m.k,J R m.to,J R m.fr,J R m.n,ae y m.data.length D] ?_;refine ES (λ_ _ a=>RH _ _ _ _ y D _ _ (N _ a.only).1 V) ?_;refine kD #[J _ _,J _ _,J _ _,J _ _,ae (d 3).A _ (d 3).c] 73 ?_;refine rh (m:=1) 56 (λ_ _ a=>aX.cellsOf (m:=1) (a.aV 1) aa) (by intro u K;simp at K;rcases K with rfl|rfl|rfl|rfl|rfl<;>rfl) ?_;refine aJ ?_;refine fY _ ?_ (hk:=ZR) (hc:=ZT);refine bQ λcV a=>?_;generalize (d 3).A=x at a⊢;generalize (d 3).c=C at a⊢;generalize (d 4).b=Y at a⊢;generalize (d 5).A=W at a⊢;generalize (d 5).c=Z at a⊢;replace a:=a.pk [1,3,5,6,2];replace a:=a.Mc.pk [1,0,2,3];go_wp2_with fail;go_roundw
   case rel=>
    have e:(cL l++([J R m.k,J R m.to,J R m.fr,J R m.n,ae x m.data.length C]))=cL (l++[(m,x,C)]):=by rw[CD,ER];rfl
    rw[e]at a;exact⟨_,_,_,_,ad,by go_num,hid (by rw[fR,z,gx,Q];rfl),a⟩
   case measure=>grind[bR]
  .obtain rfl:q=ms.length:=ad;have I:=z.out;rw[ll]at I;go_upto_region 7 with fail;refine cy ?_;refine bh a 2 (a' o n g h (ae f ms.length j)) ?_ (hv:=(e4 _)) (hk:=by omega) (hz:=(by rw[bD];rfl));refine bb a 3 (ar _) (λdJ a=>?_) (hk:=by show 0+gB (a' _ _ _ _ _)<=_;simp only[bD];decide) (hz:=by show _=ab (gB (a' _ _ _ _ _));rw[bD];rfl) (h1:=(sf aa)) (hc:=xy);refine an ?_;replace a:=a.CE;go_wp2_with fail;refine c8 (v:=_) (gH aa _ _ _ _ _ _ _ aa (a.aV 2) Tryz.underlying26 aa (by rw[bD];rfl)) aa (⟨f,j,_,aa,a.fresh 0,l,I,aa⟩)
end
def Row.Ob{N n c w A xs}(h:Row N w A n c 3 1 (xs.map (J R))):dy w A xs:=dy.ow h
def anx E x:mz (E++[x])=mz E++[J R x.1,J R x.2]:=by simp[mz]
def Row.UJ{N c w A E n}(h:Row N w A n c 35 2 (mz E)):n=E.length/\kS w A E:=by
 have a:n=E.length:=by have:=h.1;rw[Zq]at this;omega
 grind[kS.ow]
def Row.at{N n c e sz:Nat}{w A xs}(h:Row N w A n c e sz xs)(hn:0<n):∃g,A=ab ⟨g,0,af⟩:=by
 rcases h.cases with⟨_,a,_⟩|⟨g,_,h1,_⟩;·omega
 .grind
def Row.cellAt{N n c e sz g:Nat}{w xs}(h:Row N w (ab ⟨g,0,af⟩) n c e sz xs){j v}(a:xs[j]?=ab v):w.cell? ⟨g,j,af⟩=ab v:=by obtain⟨b,bF,cq⟩:=h.cell a;grind
def vD(ms:List bO)(i:Nat):Int:=kX ((ms.take i).map cm)
def amZ{ms q m}(h:ms[q]?=ab m):vD ms (q+1)=vD ms q+cD m:=by unfold vD;rw[gx,h,Ck,fR,R5];simp[kX,cm]
def Y'{ms}(h:∀m∈ms,gJ m){q}:0<=vD ms q/\vD ms q<=kX (ms.map cm):=by unfold vD;rw[List.map_take];exact aaj (E:=_) (λe a=>by obtain⟨m,b,rfl⟩:=gQ.1 a;have:=(h m b).cm;show 0<=cD m;omega) q
def s7(t:bu)(p:Nat)(s:Int)(ms:List bO):Prop:=∀W,t.p W->Cm W p s ms
set_option maxHeartbeats 2000000 in
def au8 s A c ms w(hl:cZ w A ms)(hf2:ms.length<=1048575)(hf:(dO s ms).length<=1048576)(hs:1<=s)(hv:∀m∈ms,gJ m/\m.data.length<=140737488355328)(ht:kX (ms.map cm)<=4611686018427387903):
 aC ax 57 #[J R s,ae A ms.length c] w λe w'=>∃p t,e=aB (ay (ab ⟨p,0,af⟩))/\cj w w' t/\s7 t p s ms:=by
 have cO:=hid hl;have v:=hid hv;have cH:=hid (And.intro hf hf2);have ez:=hid ht;have hs1:¬s<1:=ad;have V:=hid hs;clear hl hv hf ht;go_enter func57,ntmps57;have a:=a8 w;go_upto_region 0 with fail;refine cy ?_;refine ag ?_;refine an ?_;go_upto_region 1 with fail;refine cy ?_;refine v2 ?_;refine an ?_;go_upto_region 3 with fail;refine cy ?_;refine ag ?_;refine e' a #[J R 0] 3 (λQ w1 a=>?_);refine e' a #[J R 0] 3 (λS aU a=>?_);refine v2 ?_;refine bL a (ar _) (λy bI a=>?_);refine ag ?_;refine an ?_;go_upto_region 4 with fail;refine cy ?_;refine ag ?_;refine an ?_;go_upto_region 5 with fail;refine cy ?_;refine v3 ?_;refine an ?_;replace a:=a.pk [0,2,1];replace a:=a.lz (av.refl _ _) (Row.nil _ _ 35 2);go_wp2_with fail;go_loopw [6,23] (λev z wr=>∃(q:Nat) (L:Option bT) (M:Nat),q<=ms.length/\z=J R q/\ev=ae L q M/\ak w (λ_=>False) wr [bg L q M 35 2 (mz ((ms.take q).map cm)),aj y #[J R s,ae (ab ⟨Q,0,af⟩) 1 1,ae (ab ⟨S,0,af⟩) 1 1,ae af 0 0] 248,aj Q #[J R 0] 3,aj S #[J R 0] 3]) (λev z wr=>ms.length -(bR z).toNat);case atStart=>exact⟨0,_,0,cB _,aa,aa,a⟩
 case round=>
  clear a;obtain⟨q,L,M,hq,rfl,rfl,a⟩:=hrel;by_cases hlt:q<ms.length
  .have cf:(q:Int)<(ms.length:Int):=ad;obtain⟨m,j⟩:∃m,ms[q]?=ab m:=⟨_,cF hlt⟩;obtain⟨F,I,f,g,G,H,x⟩:=cZ.jt cO j;have T:=hid G;have iV:=hid H;have U:=hid x;have o:=hid j;clear G H x j;have Ix:=(v m (cW o)).1;have f':=(v m (cW o)).2;go_upto_region 7 with fail;refine cy ?_;refine aI (ay (ab ⟨F,(I+q*5),af⟩)) (b4 24 73 5 (bj 21) (bj 23) aa ey ba _ _ _ _ _ _ (by show ae A _ _=_;rw[T]) aa hlt aa) ?_;refine aI (ar #[J R m.k,J R m.to,J R m.fr,J R m.n,ae f m.data.length g]) (by(refine e5 73 (bj 25) aa F (I+q*5) aa ([J R m.k,J R m.to,J R m.fr,J R m.n,ae f m.data.length g]:List aO) (U _ a.only) gi aa ba)) ?_;refine bn a #[J _ 0,J _ 0,J _ 0,J _ 0,ae _ 0 0] (λiC b9 a=>?_);refine bb a 0 (ar _) (λcE a=>?_);refine an ?_;go_upto_region 8 with fail;refine cy ?_;refine ag ?_;refine bh a 0 #[J R m.k,J R m.to,J R m.fr,J R m.n,ae f m.data.length g] ?_;refine bH ((show aC _ _ _ _ λe w'=>e=aB (ar #[J _ _,J _ (cD m)])/\au _ w' from uZ _ _ m.fr _ f _ g _)) a (λcV a=>?_);refine e' a #[J R m.to,J R (cD m)] 35 (λVD dJ a=>?_);refine kd (m:=1) a 2 16 (aX.cellsOf (m:=1) (a.aV 0) aa) (by intro u r;simp at r;rcases r with rfl|rfl<;>rfl) (λayW aAi dB a=>?_);refine ag ?_;refine an ?_;go_wp2_with fail;go_roundw;case rel=>exact⟨_,_,_,ad,by go_num,aa,by rw[gx,o,Ck,fR,kj,lJ,anx];exact a.pick [2,3,4,5]⟩
   case measure=>grind[bR]
  .obtain rfl:q=ms.length:=ad;rw[ll]at a
   have Yg:=hid (λW h=>by have h2:=axW L M (ms.map cm) W h aG (λe he=>by obtain⟨m,j,rfl⟩:=gQ.1 he;have:=((v m j).1).cm;show 0<=cD m;omega) ez.out;rw[List.length_map]at h2;exact h2);go_upto_region 10 with fail;refine cy ?_;refine ag ?_;refine bH (Yg _ (Row.UJ (a.atR 0)).2) a (λeZ a=>?_);refine v5 ?_;refine an ?_;go_upto_region 11 with fail;refine cy ?_;refine v2 ?_;refine an ?_;go_upto_region 13 with fail;refine cy ?_;refine v3 ?_;refine an ?_;replace a:=a.pk [1,2,3];replace a:=a.u1 1 1 1 1 [J _ 0] aa (b7 _) aS aa;replace a:=a.u1 2 1 1 1 [J _ 0] aa (b7 _) aS aa;replace a:=(a.Md.lz (av.refl _ _) (Row.nil _ _ 73 5)).pick (l':=[aj y _ _,bg _ 1 1 3 1 _,bg _ 1 1 3 1 _,bg _ 0 0 73 5 [],gK []]) [2,3,4,0,1];go_wp2_with fail;go_loopw [42] (λz wr=>∃(q:Nat) (E:Option bT) (D B:Nat) (c1 c2 dz:Nat) (l:List (bO×Option bT×Nat)),q<=ms.length/\z=J R q/\aE (l.map (·.1)=ms.take q)/\ak w (λ_=>False) wr [aj y #[J R s,ae (ab ⟨D,0,af⟩) (q+1) c2,ae (ab ⟨B,0,af⟩) (q+1) dz,ae E q c1] 248,bg (ab ⟨D,0,af⟩) (q+1) c2 3 1 ((dU (q+1)).map (λi=>J R (l3 s ms i:Int))),bg (ab ⟨B,0,af⟩) (q+1) dz 3 1 ((dU (q+1)).map (λi=>J R (vD ms i))),bg E q c1 73 5 (cL l),gK l]) (λz wr=>ms.length -(bR z).toNat);case atStart=>exact⟨0,af,Q,S,0,1,1,[],cB _,aa,hid aa,by grind[l3,dO,vD,kX,cL]⟩
   case round=>
    clear a Yg;obtain⟨q,E,D,B,c1,c2,dz,l,hq,rfl,G7,a⟩:=hrel;by_cases hlt:q<ms.length
    .have cf:(q:Int)<(ms.length:Int):=ad;obtain⟨m,j⟩:∃m,ms[q]?=ab m:=⟨_,cF hlt⟩;obtain⟨F,I,f,g,G,H,x⟩:=cZ.jt cO j;have T:=hid G;have iV:=hid H;have U:=hid x;have o:=hid j;clear G H x j;have Ix:=(v m (cW o)).1;have f':=(v m (cW o)).2;obtain⟨Y,hcc⟩:=ex (mY m s);have x:=RD Ix V;have ac6:=Ix.cm;rw[hcc]at x;have XC:=hid (λW=>RO m f g s W ac6.2.1 ad V);rw[hcc]at XC;have FB:=RF (s:=s) o;rw[hcc]at FB;have hall:=Zw (s:=s) (ms:=ms) (show q+1<=ms.length by omega);rw[RE]at hall;have aqY:=cH.1;obtain⟨O,AS⟩:=ex ((l3 s ms q:Int));obtain⟨C,abT⟩:=ex ((l3 s ms (q+1):Int));have CV:O+Y=C:=ad;have MJ:0<=O/\0<=C/\C<=1048576:=ad;obtain⟨dX,hb1⟩:=ex (vD ms q);obtain⟨dY,hb2⟩:=ex (vD ms (q+1));obtain⟨Gh,Tf⟩:=ex (cD m);have Z:=amZ o;have hbr:=Y' (λm j=>(v m j).1) (q:=q);have abC:=Y' (λm j=>(v m j).1) (q:=q+1);have arZ:=ez.out;rw[hb1,hb2,Tf]at Z;rw[hb1]at hbr;rw[hb2]at abC;have CO:=Z.symm;have hbl:0<=dX/\0<=dY/\dY<=4611686018427387903:=ad;have Ep:aE (∀W,aC _ _ #[nC m f g] W λe w'=>e=aB (ar #[J _ _,J _ Gh])/\au W w'):=hid (λW=>by rw[<-Tf];exact uZ _ _ _ _ f _ g W);have K:=hid (And.intro AS (And.intro abT (And.intro hb1 hb2)));have A0:q<q+1:=YD q;clear hcc x ac6 FB hall aqY AS abT hb1 hb2 Tf Z hbr abC arZ;go_upto_region 15 with fail;refine cy ?_;refine ag ?_;refine aI (ay (ab ⟨F,(I+q*5),af⟩)) (b4 24 73 5 (bj 40) (bj 42) aa ey ba _ _ _ _ _ _ (by show ae A _ _=_;rw[T]) aa hlt aa) ?_;refine aI (ar #[J R m.k,J R m.to,J R m.fr,J R m.n,ae f m.data.length g]) (by(refine e5 73 (bj 45) aa F (I+q*5) aa ([J R m.k,J R m.to,J R m.fr,J R m.n,ae f m.data.length g]:List aO) (U _ a.only) gi aa ba)) ?_;refine bn a #[J _ 0,J _ 0,J _ 0,J _ 0,ae _ 0 0] (λiC gV a=>?_);refine ag ?_;refine bb a 0 (ar _) (λhZ a=>?_);refine an ?_;go_upto_region 16 with fail;refine bN a [6,7,8,11] (λi u=>match i with|6=>ar #[J R m.k,J R m.to,J R m.fr,J R m.n,ae u.A m.data.length u.c]|7=>ae (ab ⟨u.b,0,af⟩) 1 1|8=>ae u.A (q+1) u.c|_=>a1) (λd=>λ|6=>cz ((d 6).A) ((d 6).c) m.data|7=>aj ((d 7).b) #[J R m.k,J R m.to,J R m.fr,J R m.n,ae (d 6).A m.data.length (d 6).c] 73|8=>bg ((d 8).A) (q+1) ((d 8).c) 73 5 (cL l++([J R m.k,J R m.to,J R m.fr,J R m.n,ae (d 6).A m.data.length (d 6).c]))|11=>aj y #[J R s,ae (ab ⟨D,0,af⟩) (q+1) c2,ae (ab ⟨B,0,af⟩) (q+1) dz,ae (d 8).A (q+1) (d 8).c] 248|_=>emp) (λ|8=>[4]|11=>[1]|_=>[]) (λ|4=>[1]|5=>[0]|8=>[13]|_=>[]) (λ|6=>[6]|7=>[6,7]|8=>[6,8]|11=>[8]|_=>[]) [0,2,3,5,12,13,14,17] (λd=>?_);refine hG ?_;refine dl 0 3 ?_;refine eO 0 #[J R m.k,J R m.to,J R m.fr,J R m.n,ae f m.data.length g] ?_;refine ES (λ_ _ a=>RH _ _ _ _ f g _ _ (iV _ a.only).1 f') ?_;refine kD #[J _ _,J _ _,J _ _,J _ _,ae (d 6).A _ (d 6).c] 73 ?_;refine rh (m:=1) 56 (λ_ _ a=>aX.cellsOf (m:=1) (a.aV 1) aa) (by intro u r;simp at r;rcases r with rfl|rfl|rfl|rfl|rfl<;>rfl) ?_;refine bx ?_;refine fY _ ?_;refine bQ λjQ a=>?_;generalize (d 6).A=Vt at a⊢;generalize (d 6).c=Zm at a⊢;generalize (d 7).b=VD at a⊢;generalize (d 8).A=P at a⊢;generalize (d 8).c=X at a⊢;go_upto_region 17 with fail;refine bN a [16,18,19,23] (λi u=>match i with|16=>J R Y|18=>ae (ab ⟨u.b,0,af⟩) 1 1|19=>ae u.A ((q+1)+1) u.c|_=>a1) (λd i=>match i with|18=>aj ((d 18).b) #[J R C] 3|19=>bg ((d 19).A) ((q+1)+1) ((d 19).c) 3 1 ((dU (q+1)).map (λi=>J R (l3 s ms i:Int))++([J R C]))|23=>aj y #[J R s,ae (d 19).A ((q+1)+1) (d 19).c,ae (ab ⟨B,0,af⟩) (q+1) dz,ae P (q+1) X] 248|_=>emp) (λ|19=>[1]|23=>[7]|_=>[]) (λ|5=>[7]|10=>[7]|13=>[1]|14=>[0]|19=>[26]|_=>[]) (λ|18=>[18]|19=>[19]|23=>[19]|_=>[]) [0,2,3,4,5,6,24,26,27,31] (λd=>?_);refine np ?_;refine dl 0 1 ?_;refine hG ?_;refine dl 0 1 ?_;refine aJ ?_;refine aK (ay (ab ⟨D,q,af⟩)) (λ_ _ _=>b4 82 3 1 (bj 68) (bj 69) aa jo ba _ _ _ _ _ q aa aa A0 ad) ?_;refine aK (J R O) (λ_ _ a=>mc aa aa (Row.cellAt (a.atR 0) (by rw[<-K.1];simp)) ba) ?_;refine eO 0 #[J R m.k,J R m.to,J R m.fr,J R m.n,ae f m.data.length g] ?_;refine aJ ?_;refine dA (λ_ _ _=>XC _) ?_;refine qe O Y C ?_;refine kD _ 3 ?_;refine rh (m:=1) 8 (λ_ _ a=>aX.cellsOf (m:=1) (a.aV 1) aa) (by intro u r;rw[ua.1 r];rfl) ?_;refine c5 ?_;refine fY _ ?_;refine bQ λke a=>?_;generalize (d 18).b=azz at a⊢;generalize (d 19).A=Vu at a⊢;generalize (d 19).c=RA at a⊢;replace a:=a.drop 6;go_upto_region 18 with fail;refine bN a [15,18,19,23] (λi u=>match i with|15=>ar #[J R m.to,J R Gh]|18=>ae (ab ⟨u.b,0,af⟩) 1 1|19=>ae u.A ((q+1)+1) u.c|_=>a1) (λd i=>match i with|18=>aj ((d 18).b) #[J R dY] 3|19=>bg ((d 19).A) ((q+1)+1) ((d 19).c) 3 1 ((dU (q+1)).map (λi=>J R (vD ms i))++([J R dY]))|23=>aj y #[J R s,ae Vu ((q+1)+1) RA,ae (d 19).A ((q+1)+1) (d 19).c,ae P (q+1) X] 248|_=>emp) (λ|19=>[1]|23=>[8]|_=>[]) (λ|5=>[8]|10=>[8]|13=>[1]|14=>[0]|19=>[27]|_=>[]) (λ|18=>[18]|19=>[19]|23=>[19]|_=>[]) [0,2,3,4,5,6,7,24,27,28,32] (λd=>?_);refine np ?_;refine dl 0 2 ?_;refine hG ?_;refine dl 0 2 ?_;refine aJ ?_;refine aK (ay (ab ⟨B,q,af⟩)) (λ_ _ _=>b4 82 3 1 (bj 91) (bj 92) aa jo ba _ _ _ _ _ q aa aa A0 ad) ?_;refine aK (J R dX) (λ_ _ a=>mc aa aa (Row.cellAt (a.atR 0) (by rw[<-K.2.2.1];simp)) ba) ?_;refine eO 0 #[J R m.k,J R m.to,J R m.fr,J R m.n,ae f m.data.length g] ?_;refine dA (λ_ _ _=>Ep _) ?_;refine fJ (J R Gh) ?_;refine qe dX Gh dY ?_;refine kD _ 3 ?_;refine rh (m:=1) 8 (λ_ _ a=>aX.cellsOf (m:=1) (a.aV 1) aa) (by intro u r;rw[ua.1 r];rfl) ?_;refine c5 ?_;refine fY _ ?_;refine bQ λk8 a=>?_;generalize (d 18).b=azA at a⊢;generalize (d 19).A=ayQ at a⊢;generalize (d 19).c=ani at a⊢;replace a:=a.drop 7;replace a:=a.pk [1,2,9,6,8,4];replace a:=a.Mc.pk [1,2,3,4,0];go_wp2_with fail;obtain⟨g2,rfl⟩:=Row.at (a.atR 1) ad;obtain⟨g3,rfl⟩:=Row.at (a.atR 2) ad;go_roundw
     case rel=>
      refine⟨q+1,P,g2,g3,X,RA,ani,l++[(m,Vt,Zm)],ad,by go_num,hid (by rw[fR,G7,gx,o];rfl),?_⟩;rw[List.range_succ,fR,fR,kj,lJ,kj,lJ,K.2.1,K.2.2.2,CD,ER];exact a
     case measure=>grind[bR]
    .obtain rfl:q=ms.length:=ad;have fK:=G7.out;rw[ll]at fK;go_upto_region 20 with fail;refine cy ?_;refine v2 ?_;refine an ?_;replace a:=(a.pk [3,4,1,0]).CE;replace a:=(a.star.pk [1,0]).star;go_wp2_with fail;go_ret;refine⟨y,_,aa,a.fresh 0,λW h=>?_⟩;have hc:ie _ E c1 ms:=⟨l,fK,aa⟩;exact⟨⟨_,c2,_,dz,E,c1,⟨h.1.cell 0 aa,h.1.cell 1 aa,h.1.cell 2 aa,h.1.cell 3 aa⟩,Row.Ob (N:=0) (n:=_) (c:=c2) (by rw[List.map_map];exact h.2.1.2.1),hc.xR h.2.1.1⟩,⟨cH.1,ad⟩,V,v⟩

section
section
variable {P:ew} {o:cT} {a:b3} {w:aP}
def yR t(x y)d(ho:o.op=nt .shr t x y d)(k e)v(n:Nat)(hx:a.eval x=J k v)(c:a.eval y=J e (n:Int))(hn:n<=k.bits):
 (bz a.eval o).run P w=bf (da (J k (v.fdiv (2^n)))) w:=by
 have h1:¬((n:Int)<0):=ad;have b:=Nat.min_eq_left hn;unfold bz;simp[ho,hx,c,yl,wM,Op.shift,h1,b]
def te t(x y)e(ho:o.op=nt .quo t x y e)(p q z:Nat)(hx:a.eval x=J R (p:Int))(d:a.eval y=J R (q:Int))(g:0<q)(hz:p/q=z)(f:(z:Int)<=9223372036854775807):
 (bz a.eval o).run P w=bf (da (J R (z:Int))) w:=by
 have c:R.wrap ((p:Int)/(q:Int))=(z:Int):=by grind[wB]
 have b:¬(q=0):=ad;unfold bz;simp[ho,hx,d,yl,wM,KJ,c,b]
def Ay t(x y)e(ho:o.op=nt .rem t x y e)(p q z:Nat)(hx:a.eval x=J R (p:Int))(d:a.eval y=J R (q:Int))(g:0<q)(hz:p%q=z)(f:(z:Int)<=9223372036854775807):
 (bz a.eval o).run P w=bf (da (J R (z:Int))) w:=by
 have c:(p:Int).tmod (q:Int)=(z:Int):=aG;have b:¬(q=0):=ad;unfold bz;simp[ho,hx,d,yl,wM,KJ,c,b]
end
theorem ayK v k:(ns #[v] k).toList=ea k v:=by
 unfold ns;simp;apply List.ext_getElem;·simp
 .grind
section
variable {P:ew} (w:aP)
def awt N (t eQ ty e) i z h (d:P.underlying t=ab (iE e)) (f:P.underlying eQ=ab (.int h)) (hi:P.info? e=ab i) (hz:i.zero=ab z) (o:z.cells=#[z]) (hsize:i.size=1)
 (g n) xs (hown:Row N w (ab ⟨g,0,af⟩) n n e 1 xs) k (h63:n+k<=eG) (hbytes:(n+k)*i.bytes<=140737488355328) (d':N<=w.heap.size):
 ∃a c w',(pa #[t,eQ] ty #[ae (ab ⟨g,0,af⟩) n n,J R (k:Int)]).run P w=bf (ae a (n+k) c) w'/\Row N w' a (n+k) c e 1 (xs++ea k z)/\au w w'/\(∀b,ej a b->ej (ab ⟨g,0,af⟩) b\/w.heap.size<=b):=by
 have hlen:xs.length=n:=by have:=hown.1;omega
 rcases l1 k with hk|hk;·subst hk;refine⟨_,n,w,?_,aG,av.refl _ w,λb hb=>bZ hb⟩;have hw0:R.wrap 0=0:=aS;simp[pa,gO d,gO f,mQ,nv,hi,Builtin.lenOf,rV,storeCells,asInt,zY,hw0]
 .have holds:=hown.cells (g:=g) aa
  have j:(rV i.size n (ae (ab ⟨g,0,af⟩) n n)).run P w.drew=bf xs.toArray w.drew:=by rw[hsize];exact run_firstCells_some _ 1 n _ n n xs ad holds
  have hrun:=Lib.run_append_grow_zeros (P:=P) w t eQ ty e i z R h d f hi hz (ab ⟨g,0,af⟩) n n xs j k hk ad ad (by grind[eG]) aG (growslice_fits ad hbytes);have l:=grownCap_ge w (n+k) n e;have hcm:=grownCap_le_maxLen w _ n e h63;refine⟨_,_,_,hrun,⟨aG,cc ⟨w.heap.size,_,_,aa,d',heap_alloc_new w.drew _,l,hcm,?_,?_⟩⟩,au.trans (av.drew _) (av.alloc _ _),λb ⟨_,_,m⟩=>aG⟩;·grind[size_zeroCells]
  .grind[ayK]
end
def amU {P o} {a:b3} {w s x} {t eQ e g n k:Nat} {xs} bytes f z (ho:o.op=.call {callee:=.builtin .append,args:=#[s,x],argTypes:=#[t,eQ]}) (q:a.eval s=ae (ab ⟨g,0,af⟩) n n) (hx:a.eval x=J R (k:Int)) (hown:Row 0 w (ab ⟨g,0,af⟩) n n e 1 xs) (hbytes:(n+k)*bytes<=140737488355328) (hb0:0<bytes) (r:P.underlying t=ab (iE e)) (u:P.underlying eQ=ab (.int f))
 (lq:(P.info? e).map (λi=>(i.zero,i.size,i.bytes))=ab (ab z,1,bytes)) (adt:z.cells=#[z]):
 ∃c d w',(bz a.eval o).run P w=bf (da (ae c (n+k) d)) w'/\Turned w w' (bg (ab ⟨g,0,af⟩) n n e 1 xs) (bg c (n+k) d e 1 (xs++ea k z)):=by
 cases hq:P.info? e with
 |none=>grind
 |some i=>
  rw[hq]at lq;simp only[Option.map_some,wZ,Prod.mk.injEq]at lq;obtain⟨bF,j,l⟩:=lq;subst l;have hle:(n+k)<=(n+k)*i.bytes:=Nat.le_mul_of_pos_right _ hb0;obtain⟨c,d,w',hrun,h1,m,p⟩:=awt (P:=P) w 0 t eQ o.type e i z f r u hq bF adt j g n xs hown k (by grind[eG]) hbytes (cB _);refine⟨c,d,w',?_,m.mono (λ_ _ h=>h.elim),h1,λb hb=>⟨(Row.lt h1 hb).2,p b hb⟩⟩;unfold bz;simp only[ho,n2,n1,builtin,gC,kg,jI,List.map_toArray,kj,lJ,q,hx,hrun]
end
def qA(x a)s w(h:(a,s)∈[(-7,25),(-18,14),(-17,15),(-19,13),(-6,26),(-11,21),(-25,7),(-2,30),(-13,19),(-22,10)]):
 aC ax 332 #[bw x,J R a] w λe w'=>e=aB (bw (k7 x s))/\au w w':=by
 have hk:=by simpa using h
 go_enter func332,ntmps332;have b:=a8 w;go_step;refine ah ?_;refine kf ?_;refine aI (J .u64 (s:Int)) (by(rcases hk with⟨rfl,rfl⟩|⟨rfl,rfl⟩|⟨rfl,rfl⟩|⟨rfl,rfl⟩|⟨rfl,rfl⟩|⟨rfl,rfl⟩|⟨rfl,rfl⟩|⟨rfl,rfl⟩|⟨rfl,rfl⟩|⟨rfl,rfl⟩<;>(show _=_;kernel_rfl))) ?_;refine kf ?_;refine aI (bw (mE x s)) (by(rcases hk with⟨rfl,rfl⟩|⟨rfl,rfl⟩|⟨rfl,rfl⟩|⟨rfl,rfl⟩|⟨rfl,rfl⟩|⟨rfl,rfl⟩|⟨rfl,rfl⟩|⟨rfl,rfl⟩|⟨rfl,rfl⟩|⟨rfl,rfl⟩<;>(show _=_;kernel_rfl))) ?_;refine v2 ?_;refine aI (J .u64 ((32 -s:Nat):Int)) (by(rcases hk with⟨rfl,rfl⟩|⟨rfl,rfl⟩|⟨rfl,rfl⟩|⟨rfl,rfl⟩|⟨rfl,rfl⟩|⟨rfl,rfl⟩|⟨rfl,rfl⟩|⟨rfl,rfl⟩|⟨rfl,rfl⟩|⟨rfl,rfl⟩<;>(show _=_;kernel_rfl))) ?_;refine aI (bw (jg x (32 -s))) (by(rcases hk with⟨rfl,rfl⟩|⟨rfl,rfl⟩|⟨rfl,rfl⟩|⟨rfl,rfl⟩|⟨rfl,rfl⟩|⟨rfl,rfl⟩|⟨rfl,rfl⟩|⟨rfl,rfl⟩|⟨rfl,rfl⟩|⟨rfl,rfl⟩<;>(show _=_;kernel_rfl))) ?_;refine pk (bw (k7 x s)) ?_;refine Kk ?_;exact⟨aa,b.only⟩
def zo:List Int:=[1116352408,1899447441,3049323471,3921009573,961987163,1508970993,2453635748,2870763221,3624381080,310598401,607225278,1426881987,1925078388,2162078206,2614888103,3248222580,3835390401,4022224774,264347078,604807628,770255983,1249150122,1555081692,1996064986,2554220882,2821834349,2952996808,3210313671,3336571891,3584528711,113926993,338241895,666307205,773529912,1294757372,1396182291,1695183700,1986661051,2177026350,2456956037,2730485921,2820302411,3259730800,3345764771,3516065817,3600352804,4094571909,275423344,430227734,506948616,659060556,883997877,958139571,1322822218,1537002063,1747873779,1955562222,2024104815,2227730452,2361852424,2428436474,2756734187,3204031479,3329325298]
def TA:zo.length=64:=rfl
def TB w:
 aC ax 331 #[] w λe w'=>e=aB (ar (aM bw zo []))/\au w w':=by
 go_enter func331,ntmps331;have a:=a8 w;go_step;refine ah ?_;refine bn a (aM bw (ea 64 0) []) (λb w1 a=>?_);refine ah ?_;refine pk (ar (aM bw zo [])) ?_;refine pH a 0 (List.length_replicate ..) TA (λc a=>?_);refine an ?_;go_wp2_with fail;refine c8 (v:=ar (aM bw zo [])) (gH aa _ _ _ _ _ _ _ aa (a.aV 0) Tryz.underlying435 aa ba) aa (⟨aa,a.only⟩)
open Go.Shelf
def Tryz.as9:Go.Shelf.Ren:=⟨λ|116=>282|115=>258|n=>n,λ|37=>22|4=>4|3=>3|9=>9|5=>5|n=>n,λ|n=>n⟩
def Tryz.TH:azN ax Tryz.as9:={
 mixed:=ba
 f115:=Tryz.func258.trans (congrArg ab ba)
 f116:=func282.trans (congrArg ab ba)
 t3:=jH
 a3:=Tryz.isAgg3
 z3:=Tryz.sizeOf3
 v3:=Tryz.zeroValue3
 t4:=tP
 a4:=Tryz.isAgg4
 z4:=Tryz.sizeOf4
 v4:=Tryz.zeroValue4
 t9:=D3
 a9:=Tryz.isAgg9
 z9:=Tryz.sizeOf9
 v9:=Tryz.zeroValue9
 t37:=dK
 a37:=Tryz.isAgg22
 z37:=Tryz.sizeOf22
 v37:=W2
 t5:=mr
 a5:=Tryz.isAgg5
 z5:=Tryz.sizeOf5
 v5:=Tryz.zeroValue5}
def Tryz.as6:Go.Shelf.Ren:=⟨λ|185=>189|187=>257|115=>258|253=>259|224=>260|254=>261|255=>314|291=>315|n=>n,λ|37=>22|3=>3|4=>4|0=>0|5=>5|46=>311|9=>9|146=>418|51=>315|n=>n,λ|1=>0|n=>n⟩
def Tryz.as5:azM ax Tryz.as6:={
 mixed:=ba
 f115:=Tryz.func258.trans (congrArg ab ba)
 f185:=func189.trans (congrArg ab ba)
 f187:=func257.trans (congrArg ab ba)
 f224:=func260.trans (congrArg ab ba)
 f253:=func259.trans (congrArg ab ba)
 f254:=func261.trans (congrArg ab ba)
 f255:=func314.trans (congrArg ab ba)
 f291:=func315.trans (congrArg ab ba)
 t0:=Tryz.underlying0
 a0:=Tryz.isAgg0
 z0:=Tryz.sizeOf0
 v0:=Tryz.zeroValue0
 t3:=jH
 a3:=Tryz.isAgg3
 z3:=Tryz.sizeOf3
 v3:=Tryz.zeroValue3
 t4:=tP
 a4:=Tryz.isAgg4
 z4:=Tryz.sizeOf4
 v4:=Tryz.zeroValue4
 t5:=mr
 a5:=Tryz.isAgg5
 z5:=Tryz.sizeOf5
 v5:=Tryz.zeroValue5
 t9:=D3
 a9:=Tryz.isAgg9
 z9:=Tryz.sizeOf9
 v9:=Tryz.zeroValue9
 t37:=dK
 a37:=Tryz.isAgg22
 z37:=Tryz.sizeOf22
 v37:=W2
 t46:=Tryz.underlying311
 a46:=Tryz.isAgg311
 z46:=Tryz.sizeOf311
 v46:=Tryz.zeroValue311
 t51:=Tryz.underlying315
 a51:=Tryz.isAgg315
 z51:=Tryz.sizeOf315
 v51:=Tryz.zeroValue315
 t146:=underlying418
 a146:=isAgg418
 z146:=sizeOf418
 v146:=zeroValue418
 g1:=by kernel_rfl}
end Go.Proofs.YtcmhplknoglbkaaGreat
