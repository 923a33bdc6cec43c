/- Part 3 of the proof of TopMemorySaid. -/
import Derived.RangeFuncWrites
import Derived.OrdersIn
import Derived.TacticsIn
import Derived.RangeFuncLeaves
import Derived.Deep.Cut
import Derived.Deep.LoopGhost
import Derived.Shelf.Abstract
import Derived.Lib.AppendZerosOnto
import Derived.Shelf.Bytes.SlEqualAll
import Derived.Shelf.Bytes.SlSmallAll
import Derived.Test.YtcmhplknoglbkaaGreatProg
import Derived.Shelf.Bytes.SlIndexWhole
import Derived.Test.YtcmhplknoglbkaaGreatQm0
import Derived.Test.YtcmhplknoglbkaaGreatQm1
import Derived.Test.YtcmhplknoglbkaaGreatQm2
set_option linter.all false
set_option maxRecDepth 100000
set_option maxHeartbeats 4000000
open Go.Proofs.Tryz
open Array renaming all_eq_true_iff_forall_mem->Ve,size->gw
open BitVec renaming ofInt->mN
open Bool renaming false->ao,true->az
open Go renaming Act->b3,Addr->bT,Calls->aD,Ending->wA,Exit->iI,FuncId->BH,Oper->cS,Operand->hY,PanicEntry->rV,Program->ew,TypeId->gb,Value->aP,World->aQ,asIntOf->zJ,binOp->wO,bodyPostM->Py,bodyPost_ret->c',callFunc->kB,callsIn_wide->sM,eqGuard->x9,execOp->bA,invoke->nW,maxLen->eB,resolve->nX,results_cell_row->gG,run_endLoop->PC,run_underlying->gN,sizeOf->mR,typeInfo->ny,undef->a7,wpIn_region_lit->akh,wpIn_wide->ya,wpList->cN,wpListIn->tJ,wpList_nil->an,wpList_step->rW,wp_region_lit->cw,yielded->cZ
open Go.Addr renaming add_mid->OU
open Go.Builtin renaming append_->pa,firstCells->rT,zeroCells->nt
open Go.Code renaming region->x1
open Go.Ending renaming returned->aB
open Go.Exit renaming normal->sI
open Go.Fence renaming wide->mQ
open Go.Fn renaming func->ed,yield->wB
open Go.Instr renaming beginRound->Vv,indexAt->Vx,sureAddr->BI,yield->ah3
open Go.IntKind renaming i64->R,u32->wC
open Go.IntWalk renaming i64_in->wD
open Go.LoopState renaming exhausted->Gz,ready->kA
open Go.Next renaming value->dc
open Go.Obj renaming deferred->jP,loop->ga
open Go.Op renaming binOp->nu,indexAddr->DX,intArith->VD,intDiv->Kx,load->nV,store->x2
open Go.Oper renaming wp->iy
open Go.Operand renaming tmp->bj
open Go.Proofs.Lays renaming n185->azD,nb116->azE
open Go.Proofs.Tryz renaming func235->VN,ntmps235->Wg,prog->ax,underlying22->dW,underlying24->ee,underlying3->jD,underlying4->tG,underlying5->mm,underlying73->fO,underlying82->jo,underlying9->DY,zeroValue22->WK
open Go.Region renaming wanted->c9
open Go.Result renaming andThen_ok->jE,ok->bf
open Go.RowKit renaming Hid->aE,intOf->bQ
open Go.Sem renaming run_bind->gx,run_pure->kh
open Go.Target renaming collected->BQ
open Go.TypeDesc renaming array->vb,slice->iJ
open Go.Value renaming agg->ar,bool->ai,func->dI,int->J,pointer->ay,slice->ae,tuple->bn
open Int renaming ediv_le_self->alD,ediv_nonneg->alE
open List.Perm renaming swap->Cb
open List renaming getElem?_append_left->tQ,getElem?_append_right->pn,getElem?_cons_succ->vq,getElem?_eq_getElem->cE,getElem?_eq_some_iff->eJ,getElem?_map->j4,getElem?_toArray->Ab,map_append->fP,map_cons->j5,map_nil->ln,mem_append->iX,mem_map->gP,mem_of_getElem?->cX,mem_singleton->vs,not_mem_nil->fQ,perm_append_comm->vt,perm_append_singleton->Hg,perm_middle->Yf,range->dQ,replicate->dZ,setIfInBounds_toArray->alV,set_append_right->Yg,take_add_one->gq,take_append_drop->oa,take_length->lp
open Nat renaming eq_zero_or_pos->lX,le_refl->b9,lt_succ_self->Yl,zero_add->iY,zero_le->cC
open Option renaming none->af,some->ab,toList_some->Cj
open Option.some renaming injEq->w2
open Or renaming inl->b1,inr->cm
namespace Go.Proofs.YtcmhplknoglbkaaGreat
section
open Go.RowKit Go.MapKept
abbrev Fr(r:Option Nat):Fence:={mQ with round:=r}
def tn(o:cS):Bool:=match o.op with|.defer _=>ao|_=>az
def au1{o}(h:tn o=az):∀c,o.op≠.defer c:=by grind[tn]
section
variable {P:ew} {ops:Array cS} {rest:List cS} {Q:iI->b3->aQ->Prop} {K0:b3->aQ->Prop} {o:cS} {a bu:b3} {w:aQ} {v:aP} {r:Option Nat} {n:Nat}
def anl{f args cz}(h:aD P f args w cz):CallsIn (Fr r) n P f args w cz:=
 have h2:CallsIn mQ n P f args w cz:=sM.2 h
 h2
def av3{row args cz}(h:Rows P row args w cz):RowsIn (Fr r) n P row args w cz:=λc cs _=>by obtain⟨v,w',h1,h2⟩:=h c cs;have h3:=stepsIn_wide.2 h2;exact⟨v,w',h1,h3⟩
def Af:iI->b3->aQ->Prop:=λ_ _ _=>False
def Nz{next next0}(hn:∀a w,next0 a w->next a w)(hp:tn o=az)(h:o.wp P a w next0 (Exit.then K0 Af)):o.wpIn (Fr r) n P a w next Q:=by
 refine⟨λ_ _=>trivial,?_⟩;rw[Oper.semAt_eq _ _ _ (au1 hp)];unfold iy at h;generalize (bA a.eval o).run P w=x at*;cases x with
 |ok nx w'=>
  cases nx with
  |value u=>exact hn _ _ h
  |skip=>exact hn _ _ h
  |defer d=>exact hn _ _ h
  |enter f args=>exact⟨λh=>(by cases h),(anl h).mono λe aT h2=>by
   cases e with
   |returned v=>grind
   |panicked c=>exact h2.elim
   |outgrown=>obtain⟨_,_,h3⟩:=h2;exact h3.elim⟩
  |row row args=>exact⟨λh=>(by cases h),(av3 h).mono λv aT h2=>hn _ _ h2⟩
  |_=>exact h.elim
 |halt hh w'=>cases hh<;>exact h.elim
theorem Nb{C post}(kq:∀a w,C a w->tJ (Fr r) n P ops Q post a w):∀(l) a w,l.all tn=az->cN P ops (Exit.then C Af) l a w->tJ (Fr r) n P ops Q (l++post) a w
 |[],_,_,_,h=>kq _ _ h
 |o::l,a,w,hp,h=>by
  simp only[List.all_cons,Bool.and_eq_true]at hp;unfold cN at h;show tJ (Fr r) n P ops Q (o::(l++post)) a w;unfold tJ;by_cases hw:c9 o (cZ ops a.tmps)=az
  .rw[if_pos hw]at h⊢;rcases h with h|⟨_,a2,aT,h⟩;·exact Nz (λbu w' h=>Nb kq l bu w' hp.2 h) hp.1 h
   .exact h.elim
  .rw[if_neg hw]at h⊢;exact⟨λ_ _=>trivial,Nb kq l _ _ hp.2 h⟩
def atc(k:Nat)(h:cN P ops (Exit.then (tJ (Fr r) n P ops Q (rest.drop k)) Af) (rest.take k) a w)(hp:(rest.take k).all tn=true:=by kernel_rfl):tJ (Fr r) n P ops Q rest a w:=by grind[Nb,oa]
def th(h:cN P ops (Exit.then (Q sI) Af) rest a w)(hp:rest.all tn=true:=by kernel_rfl):tJ (Fr r) n P ops Q rest a w:=by have h2:=Nb (r:=r) (n:=n) (Q:=Q) (post:=[]) (λ_ _ h=>wpListIn_nil h) _ a w hp h;rwa [List.append_nil]at h2
def LH{md}(hp:ops.all tn=az):∀(fuel) eO a w,wpAny P md ops (Exit.then (Q sI) Af) fuel eO a w->wpAnyIn (Fr r) n P md ops Q fuel eO a w
 |0,_,_,_,h=>h
 |fuel+1,eO,a,w,h=>by
  refine⟨h.1,λi hi=>?_⟩;have h2:=h.2 i hi;unfold wpOp at h2;unfold wpOpIn;cases ho:ops[i]? with
  |none=>
   rw[ho]at h2;exact LH hp fuel _ _ _ h2
  |some o=>
   rw[ho]at h2
   have Fj:tn o=true:=by obtain⟨hi,rfl⟩:=Array.getElem?_eq_some_iff.1 ho;exact Array.all_eq_true.1 hp i hi
   simp only at h2⊢;by_cases hw:c9 o (cZ ops a.tmps)=az
   .rw[if_pos hw]at h2⊢;rcases h2 with h|⟨_,a2,aT,h⟩;·exact Nz (λbu w' h=>LH hp fuel _ bu w' h) Fj h
    .exact h.elim
   .rw[if_neg hw]at h2⊢;exact⟨λ_ _=>trivial,LH hp fuel _ _ _ h2⟩
def jX{id:Nat}{l:List cS}{q:Nat}(h:cN P l.toArray (Exit.then (Q sI) Af) l a w)(hp:l.all tn=true:=by kernel_rfl):(x1 id l.toArray ao).wpIn (Fr (ab q)) n P Q a w:=
 akh (th h hp)
def JE{id:Nat}{l:List cS}(k:Nat)(h:cN P l.toArray (Exit.then (tJ (Fr af) 0 P l.toArray Q (l.drop k)) Af) (l.take k) a w)(hp:(l.take k).all tn=true:=by kernel_rfl):(x1 id l.toArray ao).wp P Q a w:=
 (ya (n:=0)).1 (akh (F:=Fr af) (atc k h hp))
def UR {aq:aQ} {FX:Nat->Prop} {bm:List bq} {Jf q:Nat} {a0:b3} (I:ak aq FX w bm) (LE:List Nat) (bU:Nat->ff->aP) (out:(Nat->ff)->Nat->bq) (ins rd look:Nat->List Nat) (fin:List Nat)
 (kq:∀us,cL P ops (Exit.then (Q sI) Af) (oP ops) LE bU aq FX bm out ins rd fin (λ_ _=>False) us 0 ops.toList a0)
 (hloc:Cf look out LE:=by(repeat' (first|exact trivial|refine And.intro (λus kN h=>?_) ?_|rfl|(simp(disch:=decide) only[h];done))))
 (hm:P.follows .mixedOrders=true:=by kernel_rfl) (hk:EI ops (oP ops) (yO ops)=true:=by kernel_rfl) (hsz:((dQ ops.size).all λi=>match oP ops i with|some d=>decide (d<a0.tmps.size)|none=>LE.contains i)=true:=by kernel_rfl) (hs:F5 bm.length ops.size (yO ops) LE ins rd look fin=true:=by kernel_rfl)
 (hp:ops.all tn=true:=by kernel_rfl):
 (x1 Jf ops az).wpIn (Fr (ab q)) n P Q a0 w:=wpIn_region_any hm (LH hp _ _ _ _ (UQ I (yO ops) (oP ops) LE bU out ins rd look fin _ hk hsz hs (λ_ _ _ _ h=>h.elim) (hloc.spec) kq))
end
def obj(l:Nat)(o:Obj):bq:=⟨λb=>b=l,λw=>w.heap[l]?=ab o,λw w' h hl hp=>(h l aa (hl l aa)).trans hp⟩
def bP:List bq->bq
 |[]=>emp
 |t::l=>both t (bP l)
section
variable {aq w w':aQ} {FX:Nat->Prop} {l l':List bq} {s t:bq}
def ak.bP(h:ak aq FX w (l++l')):ak aq FX w (bP l::l'):=by
 induction l with
 |nil=>exact h.dE
 |cons t l cn=>
  have h1:=h.perm (by simpa using(Yf (l₁:=l) (a:=t) (l₂:=l')).symm);clear cn
  have key:∀(l) l',ak aq FX w (l++l')->ak aq FX w (Go.Proofs.YtcmhplknoglbkaaGreat.bP l::l'):=by
   intro l;induction l with
   |nil=>intro l' h;exact h.dE
   |cons t l cn=>
    intro l' h;have h2:=cn _ (h.perm (by simpa using(Yf (l₁:=l) (a:=t) (l₂:=l')).symm));exact(h2.perm (Cb _ _ _)).star
  exact key _ l' h
def ak.kd(h:ak aq FX w (Go.Proofs.YtcmhplknoglbkaaGreat.bP l::l')):ak aq FX w (l++l'):=by
 induction l generalizing l' with
 |nil=>exact h.drop 0
 |cons t l cn=>
  have h1:=h.fx;have h2:=cn (h1.perm (Cb _ _ _));exact h2.perm bg
def ak.Ey(h:ak aq FX w (t::l)):ak aq FX w [t,Go.Proofs.YtcmhplknoglbkaaGreat.bP l]:=by have h1:=h.perm (by simpa using(Yf (l₁:=l) (a:=t) (l₂:=[])).symm);exact h1.bP.perm (Cb _ _ _)
def ak.u0(h:ak aq FX w [t,Go.Proofs.YtcmhplknoglbkaaGreat.bP l]):ak aq FX w (t::l):=by have h1:=(h.perm (Cb _ _ _)).kd;exact h1.perm bg
def at1{q o}o'(h:q<w.heap.size):Turned w (w.putObj q o') (obj q o) (obj q o'):=
 ⟨⟨rfl,rfl,rfl,bg,λk _ hk=>World.putObj_heap_other (λe=>hk e)⟩,World.putObj_heap_same h,λb hb=>⟨by have e:b=q:=hb;rw[e];simpa using h,b1 hb⟩⟩
def ak.putObj{q o}(h:ak aq FX w l)i o'(hi:l[i]?=ab (obj q o)):ak aq FX (w.putObj q o') (l.set i (obj q o')):=
 h.DA i hi (at1 o' ((h.has i hi).2 q aa))
def ak.obj{q:Nat}{o:Obj}(h:ak aq FX w l)(i:Nat)(hi:l[i]?=ab (obj q o):=by rfl):w.heap[q]?=ab o:=h.at i hi
def ak.newObj o(h:ak aq FX w l):ak aq FX (w.alloc o) (Go.Proofs.YtcmhplknoglbkaaGreat.obj w.heap.size o::l):=
 h.new _ ⟨av.alloc _ _,World.alloc_heap_new _ _,λb hb=>⟨by have e:b=w.heap.size:=hb;omega,by have e:b=w.heap.size:=hb;rw[e,World.size_alloc];omega⟩⟩
end
section
variable {α:Type} {P:ew} {g:Nat} {lb:Array aP} {encs:α->Array aP} {aq:aQ} {FX:Nat->Prop}
def al9(P:ew)(l:Nat)(encs:α->Array aP)(aq:aQ)(FX:Nat->Prop)(S gR:List α->bq->Prop)(xs:List α):Prop:=
 ∀pre x W F t,pre++[x]<+:xs->S pre t->ak aq FX W [t,F]->YieldAt (Fr af) 0 P l (encs x) W λe cP=>(e=aB (ai az)/\∃cc,S (pre++[x]) cc/\ak aq FX cP [cc,F])\/(e=aB (ai ao)/\∃cc,gR (pre++[x]) cc/\ak aq FX cP [cc,F])
def vx(aq:aQ)(FX:Nat->Prop)(S gR:List α->bq->Prop)(kV:bq->Prop)(xs:List α)(F:bq)(e:wA)(cP:aQ):Prop:=
 (∃v,e=aB v)/\((∃cc u,S xs cc/\kV u/\ak aq FX cP [cc,u,F])\/∃pre cc u,pre<+:xs/\gR pre cc/\ak aq FX cP [cc,u,F])
def vx.all{S gR kV}{xs:List α}{F t u v cP}(hS:S xs t)(bM:kV u)(I:ak aq FX cP [t,u,F]):vx aq FX S gR kV xs F (aB v) cP:=⟨⟨_,aa⟩,b1 ⟨_,_,hS,bM,I⟩⟩
theorem vx.cut{S gR kV}{xs pre:List α}{F t u v cP}(hp:pre<+:xs)(hS:gR pre t)(I:ak aq FX cP [t,u,F]):vx aq FX S gR kV xs F (aB v) cP:=⟨⟨_,aa⟩,cm ⟨_,_,_,hp,hS,I⟩⟩
def yy(P:ew)(g:Nat)(lb:Array aP)(encs:α->Array aP)(aq:aQ)(FX:Nat->Prop)(T:bq)(kV:bq->Prop)(xs:List α):Prop:=
 ∀(l:Nat) (S gR:List α->bq->Prop) (W:aQ) (F t:bq),al9 P l encs aq FX S gR xs->S [] t->ak aq FX W [T,t,F]->
  aD P g (#[dI (wB l) #[] #[]]++lb) W (vx aq FX S gR kV xs F)
def afq(aq:aQ)(FX:Nat->Prop)(S:List α->bq->Prop)(gR:Code->List α->bq->Prop)(xs:List α)(b F:bq):iI->b3->aQ->Prop
 |.normal,_,W=>∃t,S xs t/\ak aq FX W [t,b,F]
 |.ret,_,W=>∃t,gR .ret xs t/\ak aq FX W [t,b,F]
 |.exit id,_,W=>∃t,gR (.exit id) xs t/\ak aq FX W [t,b,F]
 |.goto q,_,W=>∃t,gR (.goto q) xs t/\ak aq FX W [t,b,F]
 |.panic _,_,_=>False
 |.outgrown,_,_=>False
def Am{w:aQ}{L:List bq}{q:Nat}{rd:Loop}{C:aQ->Prop}(I:ak aq FX w L)(i:Nat)(hr:rd.state=kA)(h:∀w',ak aq FX w' (L.set i (obj q (ga {rd with state:=.busy})))->C w')(hi:L[i]?=ab (obj q (ga rd)):=by rfl):∃w',(Vv q).run P w=bf () w'/\C w':=
 ⟨_,run_beginRound (I.obj i hi) hr,h _ (I.putObj i _ hi)⟩
def JF {HK:hY} {ps:Array Tmp} {assign body:Code} {Q:iI->b3->aQ->Prop} {qF:Array aP} {ds:List Deferred} {w:aQ} {xs:List α} {T:bq} {kV:bq->Prop} {t F:bq} {jb:α->Array aP}
 (hg:(Act.mk qF ds).eval HK=dI (ed g) #[] lb) (gz:∀args w,(kB g args).run P w=bf (.enter g args) w) (sm:∀x,(encs x).size=ps.size) (hseq:yy P g lb encs aq FX T kV xs)
 (S:List α->bq->Prop) (gR:Code->List α->bq->Prop) (h0:S [] t) (I:ak aq FX w [T,t,F])
 (SY:∀(l:Nat) (rd:Loop) (pre:List α) (x:α) (W:aQ) (t F:bq),pre++[x]<+:xs->rd.state=kA->S pre t->ak aq FX W [t,obj l (ga rd),F]->
   assign.wpIn (Fr (ab l)) 0 P (Exit.then (λfM w1=>∃aT,(Vv l).run P w1=bf () aT/\body.wpIn (Fr (ab l)) 0 P (afq aq FX S gR (pre++[x]) (obj l (ga {rd with state:=.busy})) F) fM aT) (λ_ _ _=>False))
    {tmps:=jb x,defers:=[]} W)
 (hdone:∀D t u W,S xs t->kV u->ak aq FX W [t,u,obj D (jP (ab [])),F]->Q sI {tmps:=qF,defers:={target:=BQ D,args:=#[]}::ds} W)
 (S0:∀D c pre t u W,pre<+:xs->gR c pre t->ak aq FX W [t,u,obj D (jP (ab [])),F]->c.wp P Q {tmps:=qF,defers:={target:=BQ D,args:=#[]}::ds} W)
 (hat:∀x,(ps.zip (encs x)).foldl (λt (p,v)=>t.setIfInBounds p v) qF=jb x:=by(intro _;simp only[List.zip_toArray,List.zip_cons_cons,List.zip_nil_right,List.foldl_toArray',List.size_toArray,List.foldl_cons,List.foldl_nil,List.setIfInBounds_toArray,List.set_cons_succ,List.set_cons_zero];rfl)):
 (Code.rangeFunc HK ps assign body).wp P Q {tmps:=qF,defers:=ds} w:=by
 refine(ya (n:=0)).1 (wpIn_rangeFunc ?_);intro fn hfn;obtain⟨rec,nJ⟩:∃rec:LoopState->Option Code->Loop,rec=λst aG=>{state:=st,pending:=aG,fn,tmps:=qF,params:=ps,assign,body,defers:=w.heap.size}:=⟨_,aa⟩;obtain⟨D,er⟩:=ex w.heap.size;obtain⟨l,hl⟩:=ex ((w.alloc (jP (ab []))).heap.size);have zX:=I.newObj (jP (ab []));have lj:=zX.newObj (ga (rec kA af));have SB:l=w.heap.size+1:=by rw[<-hl];simp
 rw[hl,er]at lj;obtain⟨ic,HU⟩:=ex ((w.alloc (jP (ab []))).alloc (ga (rec kA af)));rw[HU]at lj
 refine⟨l,[{target:=BQ D,args:=#[]}],ic,{target:=.fn (ed g) lb,args:=#[dI (wB l) #[] #[]]},ic,g,
  #[dI (wB l) #[] #[]]++lb,ic,?_,?_,?_,?_,λh=>(by cases h),?_⟩;·rw[<-HU,nJ,SB,<-er];exact run_enterLoop_outer _ _ _ _ _
 .simp only[nX,hg];simp[go_sem]
 .intro _ _;trivial
 .grind[nW]
 .refine sM.2 ((hseq l (λpre t=>∃t2,S pre t2/\t=both t2 (obj l (ga (rec kA af)))) (λpre t=>∃t2 c,gR c pre t2/\t=both t2 (obj l (ga (rec .done (ab c))))) ic (both (obj D (jP (ab []))) F) _ ?_ ⟨t,h0,aa⟩ ?_).mono ?_)
  .rintro pre x W BF _ eN ⟨t2,hs,rfl⟩ hst;have h1:=hst.fx;have CZ:=h1.obj 1;have hy:=run_yield (P:=P) (args:=encs x) CZ aH;rw[nJ]at hy;refine⟨fn,_,assign,body,hy,roundIn_of_wpIn hfn (wpIn_mono ((hat x).symm▸SY l (rec kA af) pre x W t2 BF eN aH hs h1) ?_)⟩;rintro e fM w1 he;cases e with
   |normal=>
    obtain⟨aT,hb,Sf⟩:=he;refine⟨aT,hb,wpIn_mono Sf ?_⟩
    have fin:∀(jump) ie t3,ak aq FX ie [t3,obj l (ga {rec kA af with state:=.busy}),BF]->(Instr.endRound l _).run P ie=bf _ (ie.putObj l (ga (rec _ _)))/\
     ak aq FX _ _:=λjump ie t3 h3=>by
     have hr:=run_endRound (P:=P) jump (h3.obj 1);have h4:ak aq FX _ [t3,obj l _,BF]:=h3.putObj 1 (ga (rec (if jump.isNone then kA else .done) jump)) aa;refine⟨?_,h4.star⟩;rw[hr,nJ]
    rintro e a3 ie hp;cases e with
    |normal=>
     obtain⟨t3,hs3,h3⟩:=hp;obtain⟨hr,h4⟩:=fin af ie t3 h3;exact⟨_,_,hr,b1 ⟨aa,_,⟨t3,hs3,aa⟩,h4⟩⟩
    |ret=>
     obtain⟨t3,hs3,h3⟩:=hp;obtain⟨hr,h4⟩:=fin (ab .ret) ie t3 h3;exact⟨_,_,hr,cm ⟨aa,_,⟨t3,_,hs3,aa⟩,h4⟩⟩
    |exit id=>
     obtain⟨t3,hs3,h3⟩:=hp;obtain⟨hr,h4⟩:=fin (ab (.exit id)) ie t3 h3;exact⟨_,_,hr,cm ⟨aa,_,⟨t3,_,hs3,aa⟩,h4⟩⟩
    |goto q=>
     obtain⟨t3,hs3,h3⟩:=hp;obtain⟨hr,h4⟩:=fin (ab (.goto q)) ie t3 h3;exact⟨_,_,hr,cm ⟨aa,_,⟨t3,_,hs3,aa⟩,h4⟩⟩
    |panic ch=>exact hp.elim
    |outgrown=>exact hp.elim
   |_=>exact he.elim
  .have h2:=lj;have h3:ak aq FX ic [t,obj l _,obj D _,F,T]:=h2.pick [3,0,1,4,2];have h4:ak aq FX ic [obj D _,F,T,both t _]:=h3.star.pick [1,2,3,0];exact h4.star.pick [1,2,0]
  .rintro e fg ⟨⟨v,rfl⟩,(⟨_,u,⟨t2,hs,rfl⟩,bM,hst⟩|⟨pre,_,u,eN,⟨t2,c,hs,rfl⟩,hst⟩)⟩;·have h1:=hst.fx;have h2:=(h1.pick (l':=[both _ F,t2,obj l _,u]) [3,0,1,2]).fx;have h3:=h2.putObj 3 (ga {rec kA af with state:=Gz}) aa;refine⟨af,_,by have:=PC (P:=P) (h2.obj 3) aH;rw[nJ]at this;exact this,?_⟩;have h4:=hdone D t2 u _ hs bM ((ak.pick (l:=_) h3 [2,4,0,1]));rw[nJ]at h4;exact h4
   .have h1:=hst.fx;have h2:=(h1.pick (l':=[both _ F,t2,obj l _,u]) [3,0,1,2]).fx;have h3:=h2.putObj 3 (ga {rec .done (ab c)with state:=Gz}) aa;refine⟨ab c,_,by have:=PC (P:=P) (h2.obj 3) aH;rw[nJ]at this;exact this,?_⟩;have h4:=S0 D c _ t2 u _ eN hs ((ak.pick (l:=_) h3 [2,4,0,1]));grind[ya]
def at_region{F n id ops d Q a w}(h:(x1 id ops d).wpIn F n P Q a w):(x1 id ops d).wpIn F n P Q a w:=h
def ak.YU{w a b c}(h:ak aq FX w (a++(b++c))):ak aq FX w [Go.Proofs.YtcmhplknoglbkaaGreat.bP a,Go.Proofs.YtcmhplknoglbkaaGreat.bP b,Go.Proofs.YtcmhplknoglbkaaGreat.bP c]:=by
 have h1:=h.bP.perm (by simpa using(Hg (Go.Proofs.YtcmhplknoglbkaaGreat.bP a) (b++c)).symm)
 have h2:=h1.bP.perm (by have:=(Hg (Go.Proofs.YtcmhplknoglbkaaGreat.bP b) (c++[Go.Proofs.YtcmhplknoglbkaaGreat.bP a])).symm;simpa using this);exact h2.bP.pick [1,2,0]
def ak.Cr{w t b c}(h:ak aq FX w (t::(b++c))):ak aq FX w [t,Go.Proofs.YtcmhplknoglbkaaGreat.bP b,Go.Proofs.YtcmhplknoglbkaaGreat.bP c]:=
 (ak.YU (a:=[t]) h).kd
def ak.fh{w l}k(h:ak aq FX w l):ak aq FX w (Go.Proofs.YtcmhplknoglbkaaGreat.bP (l.take k)::l.drop k):=ak.bP (by grind[oa])
def Ga{A B b}(h:(aB b=aB (ai az)/\A)\/(aB b=aB (ai ao)/\B)):(b=ai az/\A)\/(b=ai ao/\B):=aH
def EL{o}{a:b3}{w l x xs ty encs}(ho:o.op=.call {callee:=.value x,args:=xs,argTypes:=ty})(hx:a.eval x=dI (wB l) #[] #[])(has:xs.map a.eval=encs):(bA a.eval o).run P w=(ah3 l encs).run P w:=by grind[bA,nX,Deferred.ofValue,nW]
def Gh {o:cS} {a:b3} {w:aQ} {l:Nat} {encs:Array aP} {Q:iI->b3->aQ->Prop} {ops:Array cS} {rest:List cS} {cz:wA->aQ->Prop} (hy:YieldAt (Fr af) 0 P l encs w cz)
 (hK:∀b w',cz (aB b) w'->tJ (Fr af) 0 P ops Q rest (a.put o.dst b) w') (fi:∀e w',cz e w'->∃v,e=aB v) (hx:(bA a.eval o).run P w=(ah3 l encs).run P w) (hw:c9 o (cZ ops a.tmps)=true:=by kernel_rfl):tJ (Fr af) 0 P ops Q (o::rest) a w:=by
 obtain⟨fn,tmps,assign,body,h1,h2⟩:=hy;unfold tJ;rw[if_pos hw];refine⟨λ_ _=>trivial,?_⟩;show Oper.uponIn _ _ _ _ _ _ _ ((Oper.semAt af a.eval o).run P w);rw[Oper.semAt_none,hx,h1];refine⟨λh=>(by cases h),h2.1,λc cs hr=>?_⟩;obtain⟨e,w',hr2,hs⟩:=h2.2 c cs hr;obtain⟨v,rfl⟩:=fi e w' hr2;exact⟨aB v,w',hK v w' hr2,hs⟩
def Aq {f fn c args w cz} (hf:P.funcs[f]?=ab fn) (hb:fn.body=ab c)
 (h:c.wp P (Py (Fr af) 0 P fn cz) {tmps:=args++Array.replicate (fn.ntmps -args.size) a7,defers:=[]} w):aD P f args w cz:=
 (sM (n:=0)).1 (callsIn_of_wp_marks hf hb trivial (ya.2 h) aa)
def zc {fn:Func} {cz:wA->aQ->Prop} {a:b3} {w:aQ} {L:List bq} {D:Nat} {v:aP} (I:ak aq FX w L) (i:Nat) (h:∀w',ak aq FX w' (L.set i (obj D (jP af)))->(results fn a.tmps).run P w'=bf v w'/\cz (aB v) w')
 (hd:a.defers=[{target:=BQ D,args:=#[]}]:=by rfl) (hi:L[i]?=ab (obj D (jP (ab []))):=by rfl):Py (Fr af) 0 P fn cz .ret a w:=by
 show LeavesInM _ _ _ _ _ _ a.defers _ _;rw[hd];obtain⟨h1,h2⟩:=h _ (I.putObj i (jP af) hi);exact⟨bg,b1 ⟨D,_,aa,run_takeDeferred (I.obj i hi),⟨v,h1,h2⟩⟩⟩
def atr{fn:Func}{cz:wA->aQ->Prop}{a:b3}{w:aQ}{v:aP}(h1:(results fn a.tmps).run P w=bf v w)(h2:cz (aB v) w)(hd:a.defers=[]:=by rfl):Py (Fr af) 0 P fn cz .ret a w:=by show LeavesInM _ _ _ _ _ _ a.defers _ _;rw[hd];exact⟨v,h1,h2⟩
end
end
section
open Go.RowKit Go.MapKept
abbrev bw(x:Int):Value:=J wC x
def gr(x:Int):Int:=wC.wrap x
def a32(x y:Int):Int:=wC.wrap (x+y)
def hV(x y:Int):Int:=wC.wrap ((mN 32 x^^^mN 32 y).toNat:Int)
def n32(x y:Int):Int:=wC.wrap ((mN 32 x&&& mN 32 y).toNat:Int)
def pF(x y:Int):Int:=wC.wrap ((mN 32 x|||BitVec.ofInt 32 y).toNat:Int)
def mE(x:Int)(n:Nat):Int:=wC.wrap (x*2^n)
def jg(x:Int)(n:Nat):Int:=x.fdiv (2^n)
def k8(x:Int)(n:Nat):Int:=pF (mE x n) (jg x (32 -n))
section
variable {U:Int->aP} {L:List Int} {tail:List aP}
def aM(U:Int->aP)(L:List Int)(tail:List aP):Array Value:=(L.map U++tail).toArray
def LA{i}(h:i<L.length):(aM U L tail)[i]?=ab (U (L[i]?.getD 0)):=by grind[aM,tQ]
def sY{k v n}(hn:L.length=n)(h:tail[k]?=ab v):(aM U L tail)[n+k]?=ab v:=by grind[aM]
def amf{i}(h:i<L.length)v:(aM U L tail).setIfInBounds i (U v)=aM U (L.set i v) tail:=by grind[aM]
def amg{k n}(hn:L.length=n)v:(aM U L tail).setIfInBounds (n+k) v=aM U L (tail.set k v):=by grind[aM]
theorem i':(aM U L tail).size=L.length+tail.length:=by simp[aM]
def Lx(rn:∀x,(U x).oneCell'=az)(ht:∀v∈tail,v.oneCell'=az):(aM U L tail).all (·.oneCell')=true:=by rw[Ve];intro v hv;have hv':=List.mem_toArray.1 hv;grind
end
section
variable {P:ew} {o:cS} {a:b3} {w:aQ}
def mu t(x y)cc(ho:o.op=nu .add t x y cc)(p q z)(hx:a.eval x=J R p)(hy:a.eval y=J R q)(hz:p+q=z)(h1:-9223372036854775808<=z)(h2:z<=9223372036854775807):
 (bA a.eval o).run P w=bf (dc (J R z)) w:=by
 have hw:R.wrap (p+q)=z:=by grind[wD]
 unfold bA;simp[ho,hx,hy,x9,wO,VD,hw]
def ra t(x y)cc(ho:o.op=nu .sub t x y cc)(p q z)(hx:a.eval x=J R p)(hy:a.eval y=J R q)(hz:p -q=z)(h1:-9223372036854775808<=z)(h2:z<=9223372036854775807):
 (bA a.eval o).run P w=bf (dc (J R z)) w:=by
 have hw:R.wrap (p -q)=z:=by grind[wD]
 unfold bA;simp[ho,hx,hy,x9,wO,VD,hw]
def lY t(x y)cc(ho:o.op=nu .mul t x y cc)(p q z)(hx:a.eval x=J R p)(hy:a.eval y=J R q)(hz:p*q=z)(h1:-9223372036854775808<=z)(h2:z<=9223372036854775807):
 (bA a.eval o).run P w=bf (dc (J R z)) w:=by
 have hw:R.wrap (p*q)=z:=by grind[wD]
 unfold bA;simp[ho,hx,hy,x9,wO,VD,hw]
def amp:∀n:Nat,n<128->R.wrap ((mN 64 (n:Int)&&& mN 64 15).toNat:Int)=((n%16:Nat):Int):=by decide+kernel
def Ev t(x y)cc(ho:o.op=nu .and t x y cc)(n:Nat)(hx:a.eval x=J R (n:Int))(hy:a.eval y=J R 15)(hn:n<128)k(hk:n%16=k):
 (bA a.eval o).run P w=bf (dc (J R (k:Int))) w:=by
 have hw:=amp n hn;rw[hk]at hw;unfold bA;simp only[ho,hx,hy,x9,wO];show bf (dc (J R (R.wrap ((mN 64 (n:Int)&&& mN 64 15).toNat:Int)))) w=_;rw[hw]
def asA(t e sz m:Nat)(x lx)(ho:o.op=DX t x lx)(ht:P.underlying t=ab (vb m e))(hs:(P.info? e).map (·.size)=ab sz)(b off i k:Nat)(hx:a.eval x=ay (ab ⟨b,off,af⟩))(hi:a.eval lx=J R (i:Int))(h:i<m)(hk:off+i*sz=k):
 (bA a.eval o).run P w=bf (dc (ay (ab ⟨b,k,af⟩))) w:=by
 cases hq:P.info? e with
 |none=>grind
 |some tu=>
  have hsz:tu.size=sz:=aH;subst hk;have og:(⟨b,off,_⟩:bT).add (i*sz)=⟨b,_,_⟩:=OU _ _ _;unfold bA;simp[ho,hx,hi,Vx,BI,zJ,gx,gN ht,mR,ny,hq,hsz,og];intro h2;omega
def Tk (t e m:Nat) (x lx) (ho:o.op=.index t x lx) (ht:P.underlying t=ab (vb m e)) (he:(P.underlying e).map (λ|.struct _|.array _ _=>az|_=>ao)=ab ao) (hs:(P.info? e).map (·.size)=ab 1)
 U L (i:Nat) (hx:a.eval x=ar (aM U L [])) (hi:a.eval lx=J R (i:Int)) (h:i<m) (cv:L.length=m):
 (bA a.eval o).run P w=bf (dc (U (L[i]?.getD 0))) w:=by
 cases hq:P.info? e with
 |none=>grind
 |some tu=>
  have hsz:tu.size=1:=aH;cases hd:P.underlying e with
  |none=>grind
  |some d=>
   rw[hd]at he;have hg:(aM U L [])[i]?=ab _:=LA ad;have hb:¬(m:Int)<=(i:Int):=ad;have h1:(i:Int)<(m:Int):=ad;unfold bA;simp only[ho,hx,hi,Instr.index,zJ,gx,gN ht,kh,jE];rw[if_pos ⟨ad,h1⟩];simp only[mR,ny,gx,kh,jE,part,isAgg,gN hd];cases d<;>simp_all
def adF (ty e) n x (ho:o.op=nV ty x) B (hx:a.eval x=ay (ab ⟨B,0,af⟩)) {t U L tail} (hg:aX w B (aM U L tail) t) (cv:L.length=n)
 (hu:P.underlying ty=ab (vb n e)) (hi:(P.info? ty).map (·.size)=ab n):(bA a.eval o).run P w=bf (dc (ar (aM U L []))) w:=by
 have h:=eW (P:=P) (o:=o) (a:=a) (w:=w) ty x ho B 0 hx _ (d:=_) (λj v hv=>by rw[iY];refine aX.cell hg j ?_;simp only[aM,Ab];rw[tQ (eJ.1 hv).1];exact hv) hu aa (by rw[hi];simp[cv]);rw[h];simp[aM]
variable {K:b3->aQ->Prop} {Q:iI->b3->aQ->Prop}
end
end
section
open Go.RowKit Go.MapKept
def nth:List bq->Nat->(Nat->bq)->bq
 |[],n,f=>f n
 |t::_,0,_=>t
 |_::l,n+1,f=>nth l n f
def aec t l f:nth (t::l) 0 f=t:=rfl
theorem TM t l n f:nth (t::l) (n+1) f=nth l n f:=rfl
def aee n f:nth [] n f=f n:=rfl
def uX(f:Nat->bq):List Nat->List bq
 |[]=>[]
 |n::l=>f n::uX f l
def afN f:uX f []=[]:=rfl
theorem Ut f n l:uX f (n::l)=f n::uX f l:=rfl
def atW bm out us:∀n,dk bm out us n=nth bm n (out us):=by
 intro n;unfold dk
 have key:∀(l) n f,(match l[n]? with|some t=>t|none=>f (n -l.length))=nth l n f:=by
  intro l;induction l with
  |nil=>intro n f;rfl
  |cons t l cn=>
   intro n f;cases n with
   |zero=>rfl
   |succ n=>grind[TM]
 exact key bm n _
theorem awT bm out us fin:fin.map (dk bm out us)=uX (λn=>nth bm n (out us)) fin:=by
 induction fin with
 |nil=>rfl
 |cons n l cn=>rw[j5,cn,atW];rfl
section
variable {P:ew} {ops:Array cS} {Q:iI->b3->aQ->Prop} {aq:aQ} {FX:Nat->Prop} {dst:Nat->Option Tmp} {LE:List Nat} {bU:Nat->ff->aP} {bm l':List bq} {out:(Nat->ff)->Nat->bq} {ins rd:Nat->List Nat} {fin:List Nat} {QP:List rV->aQ->Prop} {us:Nat->ff} {i:Nat} {a:b3}
def bW(h:∀w',ak aq FX w' l'->Q sI a w')(hl:uX (λn=>nth bm n (out us)) fin=l':=by(simp only[afN,Ut,aec,TM,aee];rfl)):cL P ops Q dst LE bU aq FX bm out ins rd fin QP us i [] a:=
 pN (λw' I=>h w' (by grind[awT]))
end
section
variable {aq w:aQ} {FX:Nat->Prop} {l l' L r:List bq} {a b c d:bq}
def Nt(l:List bq)(n:Nat):bq:=nth l n λ_=>emp
theorem aed:∀{l} {n},n<l.length->l[n]?=ab (Nt l n)
 |_::_,0,_=>aa
 |_::l,n+1,h=>by rw[vq];exact aed (l:=l) (by simpa using h)
def auW(h:ak aq FX w l)idx(h1:(idx.all λn=>decide (n<l.length))=az)(h2:decide idx.Nodup=az):ak aq FX w (uX (Nt l) idx):=by
 refine h.pick _ ?_ h2;clear h2;induction idx with
 |nil=>rfl
 |cons n idx cn=>grind[Ut,aed]
def ak.pk(h:ak aq FX w l)(idx:List Nat)(hl:uX (Nt l) idx=L:=by(simp only[afN,Ut,Nt,aec,TM,aee];rfl))(h1:(idx.all λn=>decide (n<l.length))=true:=by kernel_rfl)(h2:decide idx.Nodup=true:=by kernel_rfl):ak aq FX w L:=hl▸auW h idx h1 h2
def ak.N5(l l')(h:ak aq FX w (l++l')):ak aq FX w (l++[Go.Proofs.YtcmhplknoglbkaaGreat.bP l']):=by have h1:=h.perm vt;exact h1.bP.perm (by simpa using(Hg (Go.Proofs.YtcmhplknoglbkaaGreat.bP l') l).symm)
def ak.Oa(l l')(h:ak aq FX w (l++[Go.Proofs.YtcmhplknoglbkaaGreat.bP l'])):ak aq FX w (l++l'):=by have h1:=h.perm (Hg _ _);exact h1.kd.perm vt
def ak.t1(h:ak aq FX w (a::r)):ak aq FX w [a,Go.Proofs.YtcmhplknoglbkaaGreat.bP r]:=h.N5 [a] r
def ak.t2(h:ak aq FX w (a::b::r)):ak aq FX w [a,b,Go.Proofs.YtcmhplknoglbkaaGreat.bP r]:=h.N5 [a,b] r
def ak.t3(h:ak aq FX w (a::b::c::r)):ak aq FX w [a,b,c,Go.Proofs.YtcmhplknoglbkaaGreat.bP r]:=h.N5 [a,b,c] r
def ak.t4(h:ak aq FX w (a::b::c::d::r)):ak aq FX w [a,b,c,d,Go.Proofs.YtcmhplknoglbkaaGreat.bP r]:=h.N5 [a,b,c,d] r
def ak.cW(h:ak aq FX w [a,Go.Proofs.YtcmhplknoglbkaaGreat.bP r]):ak aq FX w (a::r):=h.Oa [a] r
def ak.bk(h:ak aq FX w [a,b,Go.Proofs.YtcmhplknoglbkaaGreat.bP r]):ak aq FX w (a::b::r):=h.Oa [a,b] r
def ak.iu(h:ak aq FX w [a,b,c,Go.Proofs.YtcmhplknoglbkaaGreat.bP r]):ak aq FX w (a::b::c::r):=h.Oa [a,b,c] r
def ak.hJ(h:ak aq FX w [a,b,c,d,Go.Proofs.YtcmhplknoglbkaaGreat.bP r]):ak aq FX w (a::b::c::d::r):=h.Oa [a,b,c,d] r
def ak.kM(h:ak aq FX w (Go.Proofs.YtcmhplknoglbkaaGreat.bP l::l'))(hl:l++l'=L:=by(simp only[List.cons_append,List.nil_append];rfl)):ak aq FX w L:=hl▸h.kd
end
section
variable {P:ew} {ops:Array cS} {rest:List cS} {Q:iI->b3->aQ->Prop} {o:cS} {a bu:b3} {w:aQ}
def pk (v:aP) (h:cN P ops Q rest bu w) (hr:(bA a.eval o).run P w=bf (dc v) w:=by(show _=_;kernel_rfl)) (hw:c9 o (cZ ops a.tmps)=true:=by kernel_rfl)
 (ha:a.put o.dst v=bu:=by((try simp only[Act.put,List.setIfInBounds_toArray,List.set_cons_zero,List.set_cons_succ]);rfl)):cN P ops Q (o::rest) a w:=ag h hw hr ha
def a1 (v:aP) (h:cN P ops Q rest bu w) (hr:(bA a.eval o).run P w=bf (dc v) w:=by(go_simp;try omega)) (hw:c9 o (cZ ops a.tmps)=true:=by kernel_rfl)
 (ha:a.put o.dst v=bu:=by((try simp only[Act.put,List.setIfInBounds_toArray,List.set_cons_zero,List.set_cons_succ]);rfl)):cN P ops Q (o::rest) a w:=ag h hw hr ha
def dp {p:Prop} (H:aE p) (v:aP) (h:cN P ops Q rest bu w) (hr:p->(bA a.eval o).run P w=bf (dc v) w:=by(intro h;go_simp;try simp[h])) (hw:c9 o (cZ ops a.tmps)=true:=by kernel_rfl)
 (ha:a.put o.dst v=bu:=by((try simp only[Act.put,List.setIfInBounds_toArray,List.set_cons_zero,List.set_cons_succ]);rfl)):cN P ops Q (o::rest) a w:=ag h hw (hr H.out) ha
def pad (p q z:Int) (h:cN P ops Q rest bu w) {t cc:gb} {x y:hY} (ho:o.op=nu .add t x y cc:=by rfl) (hx:a.eval x=J R p:=by rfl) (hy:a.eval y=J R q:=by rfl) (hz:p+q=z:=by omega) (h1:-9223372036854775808<=z:=by omega) (h2:z<=9223372036854775807:=by omega) (hw:c9 o (cZ ops a.tmps)=true:=by kernel_rfl)
 (ha:a.put o.dst (J R z)=bu:=by((try simp only[Act.put,List.setIfInBounds_toArray,List.set_cons_zero,List.set_cons_succ]);rfl)):cN P ops Q (o::rest) a w:=ag h hw (mu t x y cc ho p q z hx hy hz h1 h2) ha
def jW (p q z:Int) (h:cN P ops Q rest bu w) {t cc:gb} {x y:hY} (ho:o.op=nu .sub t x y cc:=by rfl) (hx:a.eval x=J R p:=by rfl) (hy:a.eval y=J R q:=by rfl) (hz:p -q=z:=by omega) (h1:-9223372036854775808<=z:=by omega) (h2:z<=9223372036854775807:=by omega) (hw:c9 o (cZ ops a.tmps)=true:=by kernel_rfl)
 (ha:a.put o.dst (J R z)=bu:=by((try simp only[Act.put,List.setIfInBounds_toArray,List.set_cons_zero,List.set_cons_succ]);rfl)):cN P ops Q (o::rest) a w:=ag h hw (ra t x y cc ho p q z hx hy hz h1 h2) ha
def jf {aq:aQ} {B k t:Nat} {cs:Array aP} {v:aP} {ty:gb} {x:hY} (hb:aX aq B cs t) (g:av (λ_=>False) aq w) (h:cN P ops Q rest bu w) (ho:o.op=nV ty x:=by rfl) (hx:a.eval x=ay (ab ⟨B,k,af⟩):=by rfl)
 (hv:cs[k]?=ab v:=by((try simp only[List.getElem?_toArray,List.getElem?_cons_succ,List.getElem?_cons_zero])<;>rfl)) (hu:(P.underlying ty).map (λd=>d.isRow)=ab false:=by kernel_rfl) (hw:c9 o (cZ ops a.tmps)=true:=by kernel_rfl)
 (ha:a.put o.dst v=bu:=by((try simp only[Act.put,List.setIfInBounds_toArray,List.set_cons_zero,List.set_cons_succ]);rfl)):cN P ops Q (o::rest) a w:=ag h hw (fH ho hx (av.heap g hb (λh=>h)) hv hu) ha
end
section
variable {P:ew} {ops:Array cS} {rest:List cS} {Q:iI->b3->aQ->Prop} {o:cS} {a bu:b3} {aq:aQ} {FX:Nat->Prop} {dst:Nat->Option Tmp} {LE:List Nat} {bU:Nat->ff->aP} {bm:List bq} {out:(Nat->ff)->Nat->bq} {ins rd:Nat->List Nat} {fin:List Nat} {QP:List rV->aQ->Prop} {us:Nat->ff} {i:Nat}
def fT (v:aP) (h:cL P ops Q dst LE bU aq FX bm out ins rd fin QP us (i+1) rest bu) (hr:∀w,(bA a.eval o).run P w=bf (dc v) w:=by(intro _;show _=_;kernel_rfl)) (hi:decide (i∈LE)=false:=by kernel_rfl) (hw:c9 o (cZ ops a.tmps)=true:=by kernel_rfl)
 (ha:a.put o.dst v=bu:=by((try simp only[Act.put,List.setIfInBounds_toArray,List.set_cons_zero,List.set_cons_succ]);rfl)):cL P ops Q dst LE bU aq FX bm out ins rd fin QP us i (o::rest) a:=aJ h hi hw hr ha
end
def Y{P Q:Prop}(k:Q)(h:aE Q->P):P:=h (hid k)
def YI{P n ops d Q a w}(h:(x1 n ops d).wp P Q a w):(x1 n ops d).wp P Q a w:=h
def ah{P:Prop}{cz:(b3->aQ->Prop)->Prop}{fo:∀x,cz x->(b3->aQ->Prop)->Prop}{Q:∀x y bk,fo x y bk->Prop}(k:∀{x} {y:cz x} {bk} {bG:fo x y bk},Q x y bk bG)(h:aE (∀x y bk bG,Q x y bk bG)->P:=by(intro k;(try refine wpList_nil ?_);(repeat((fail_if_success (with_reducible refine YI ?_));(first|go_values|go_skip|go_guarded|go_step|go_upon|go_back)));(refine wp_region_lit ?_);(first|(rename_i dP h1;(have dN:Act->World->Prop:=λ_ _=>True);(have t1:True:=trivial);with_reducible exact k.out dN t1 dP h1)|(rename_i dP h1 ib h2;with_reducible exact k.out dP h1 ib h2)|((have dN:Act->World->Prop:=λ_ _=>True);(have t1:True:=trivial);(have fm:Act->World->Prop:=λ_ _=>True);(have t2:True:=trivial);exact k.out dN t1 fm t2)))):P:=by grind[hid]
def cy{P:Prop}{cz:(b3->aQ->Prop)->Prop}{fo:∀x,cz x->(b3->aQ->Prop)->Prop}{Q:∀x y bk,fo x y bk->Prop}(k:∀{x} {y:cz x} {bk} {bG:fo x y bk},Q x y bk bG)(h:aE (∀x y bk bG,Q x y bk bG)->P:=by(intro k;(try refine wpList_nil ?_);(repeat((fail_if_success (with_reducible refine YI ?_));(first|go_values|go_skip|go_guarded|go_step|go_upon|go_back)));(first|(rename_i dP h1;(have dN:Act->World->Prop:=λ_ _=>True);(have t1:True:=trivial);with_reducible exact k.out dN t1 dP h1)|(rename_i dP h1 ib h2;with_reducible exact k.out dP h1 ib h2)|((have dN:Act->World->Prop:=λ_ _=>True);(have t1:True:=trivial);(have fm:Act->World->Prop:=λ_ _=>True);(have t2:True:=trivial);exact k.out dN t1 fm t2)))):P:=by grind[hid]
def v2{P Q:Prop}(k:Q)(h:aE Q->P:=by(intro k;(iterate 2 refine ag ?_);exact k.out)):P:=h (hid k)
def v3{P Q:Prop}(k:Q)(h:aE Q->P:=by(intro k;(iterate 3 refine ag ?_);exact k.out)):P:=h (hid k)
def v4{P Q:Prop}(k:Q)(h:aE Q->P:=by(intro k;(iterate 4 refine ag ?_);exact k.out)):P:=h (hid k)
def v5{P Q:Prop}(k:Q)(h:aE Q->P:=by(intro k;(iterate 5 refine ag ?_);exact k.out)):P:=h (hid k)
def v6{P Q:Prop}(k:Q)(h:aE Q->P:=by(intro k;(iterate 6 refine ag ?_);exact k.out)):P:=h (hid k)
def xL{P Q:Prop}(k:Q)(h:aE Q->P:=by(intro k;(iterate 8 refine ag ?_);exact k.out)):P:=h (hid k)
def v9{P Q:Prop}(k:Q)(h:aE Q->P:=by(intro k;(iterate 9 refine ag ?_);exact k.out)):P:=h (hid k)
def bG{P Q:Prop}(k:Q)(h:aE Q->P:=by(intro k;(iterate 2 refine aJ ?_);exact k.out)):P:=h (hid k)
def da{P Q:Prop}(k:Q)(h:aE Q->P:=by(intro k;(iterate 3 refine aJ ?_);exact k.out)):P:=h (hid k)
def hW{P Q:Prop}(k:Q)(h:aE Q->P:=by(intro k;(iterate 4 refine aJ ?_);exact k.out)):P:=h (hid k)
def oz{P Q:Prop}(k:Q)(h:aE Q->P:=by(intro k;(iterate 5 refine aJ ?_);exact k.out)):P:=h (hid k)
def J3{P Q:Prop}(k:Q)(h:aE Q->P:=by(intro k;(iterate 6 refine aJ ?_);exact k.out)):P:=h (hid k)
def J4{P Q:Prop}(k:Q)(h:aE Q->P:=by(intro k;(iterate 7 refine aJ ?_);exact k.out)):P:=h (hid k)
def Bx{P Q:Prop}(k:Q)(h:aE Q->P:=by(intro k;(iterate 8 refine aJ ?_);exact k.out)):P:=h (hid k)
def J5{P Q:Prop}(k:Q)(h:aE Q->P:=by(intro k;(iterate 9 refine aJ ?_);exact k.out)):P:=h (hid k)
def dE{P Q:Prop}(k:Q)(h:aE Q->P:=by(intro k;(try refine wpList_nil ?_);(go_wp2_with fail);(first|go_end0|refine bodyPost_ret (results_none rfl _ _ _) rfl ?_);exact k.out)):P:=h (hid k)
def bE{P Q:Prop}(k:Q)(h:aE Q->P:=by(intro k;(try refine wpList_nil ?_);(go_wp2_with fail);(go_ret);exact k.out)):P:=h (hid k)
def cr{P Q:Prop}(k:Q)(h:aE Q->P:=by(intro k;(try refine wpList_nil ?_);(go_wp2_with fail);(go_ret2);exact k.out)):P:=h (hid k)
def L'{P Q:Prop}(k:Q)(h:aE Q->P:=by(intro k;(try refine wpList_nil ?_);(go_wp2_with fail);exact k.out)):P:=h (hid k)
end
open Go.RowKit Go.MapKept
def cB{P:Prop}{cz:(Act->World->Prop)->Prop}{fo:∀x,cz x->(Act->World->Prop)->Prop}{Q:∀x y bk,fo x y bk->Prop}(k:∀{x} {y:cz x} {bk} {bG:fo x y bk},Q x y bk bG)(h:Hid (∀x y bk bG,Q x y bk bG)->P:=by (intro k;refine ag ?_;refine ah ?_;refine ag ?_;(first|(rename_i dP h1;(have dN:Act->World->Prop:=λ_ _=>True);(have t1:True:=trivial);with_reducible exact k.out dN t1 dP h1)|(rename_i dP h1 ib h2;with_reducible exact k.out dP h1 ib h2)|((have dN:Act->World->Prop:=λ_ _=>True);(have t1:True:=trivial);(have fm:Act->World->Prop:=λ_ _=>True);(have t2:True:=trivial);exact k.out dN t1 fm t2)))):P:=h (hid λ_ _ _ _=>k)
def b5{P:Prop}{cz:(Act->World->Prop)->Prop}{fo:∀x,cz x->(Act->World->Prop)->Prop}{Q:∀x y bk,fo x y bk->Prop}(k:∀{x} {y:cz x} {bk} {bG:fo x y bk},Q x y bk bG)(h:Hid (∀x y bk bG,Q x y bk bG)->P:=by (intro k;refine ah ?_;refine ag ?_;(first|(rename_i dP h1;(have dN:Act->World->Prop:=λ_ _=>True);(have t1:True:=trivial);with_reducible exact k.out dN t1 dP h1)|(rename_i dP h1 ib h2;with_reducible exact k.out dP h1 ib h2)|((have dN:Act->World->Prop:=λ_ _=>True);(have t1:True:=trivial);(have fm:Act->World->Prop:=λ_ _=>True);(have t2:True:=trivial);exact k.out dN t1 fm t2)))):P:=h (hid λ_ _ _ _=>k)
def bX{P Q:Prop}(k:Q)(h:Hid Q->P:=by (intro k;refine ag ?_;refine wpList_nil ?_;exact k.out)):P:=h (hid k)
def gV{P:Prop}{cz:(Act->World->Prop)->Prop}{fo:∀x,cz x->(Act->World->Prop)->Prop}{Q:∀x y bk,fo x y bk->Prop}(k:∀{x} {y:cz x} {bk} {bG:fo x y bk},Q x y bk bG)(h:Hid (∀x y bk bG,Q x y bk bG)->P:=by (intro k;refine ah ?_;refine v2 ?_;(first|(rename_i dP h1;(have dN:Act->World->Prop:=λ_ _=>True);(have t1:True:=trivial);with_reducible exact k.out dN t1 dP h1)|(rename_i dP h1 ib h2;with_reducible exact k.out dP h1 ib h2)|((have dN:Act->World->Prop:=λ_ _=>True);(have t1:True:=trivial);(have fm:Act->World->Prop:=λ_ _=>True);(have t2:True:=trivial);exact k.out dN t1 fm t2)))):P:=h (hid λ_ _ _ _=>k)
def dV{P:Prop}{cz:(Act->World->Prop)->Prop}{fo:∀x,cz x->(Act->World->Prop)->Prop}{Q:∀x y bk,fo x y bk->Prop}(k:∀{x} {y:cz x} {bk} {bG:fo x y bk},Q x y bk bG)(h:Hid (∀x y bk bG,Q x y bk bG)->P:=by (intro k;refine ag ?_;refine ah ?_;(first|(rename_i dP h1;(have dN:Act->World->Prop:=λ_ _=>True);(have t1:True:=trivial);with_reducible exact k.out dN t1 dP h1)|(rename_i dP h1 ib h2;with_reducible exact k.out dP h1 ib h2)|((have dN:Act->World->Prop:=λ_ _=>True);(have t1:True:=trivial);(have fm:Act->World->Prop:=λ_ _=>True);(have t2:True:=trivial);exact k.out dN t1 fm t2)))):P:=h (hid λ_ _ _ _=>k)
def jk{P:Prop}{cz:(Act->World->Prop)->Prop}{fo:∀x,cz x->(Act->World->Prop)->Prop}{Q:∀x y bk,fo x y bk->Prop}(k:∀{x} {y:cz x} {bk} {bG:fo x y bk},Q x y bk bG)(h:Hid (∀x y bk bG,Q x y bk bG)->P:=by (intro k;refine ah ?_;refine v3 ?_;(first|(rename_i dP h1;(have dN:Act->World->Prop:=λ_ _=>True);(have t1:True:=trivial);with_reducible exact k.out dN t1 dP h1)|(rename_i dP h1 ib h2;with_reducible exact k.out dP h1 ib h2)|((have dN:Act->World->Prop:=λ_ _=>True);(have t1:True:=trivial);(have fm:Act->World->Prop:=λ_ _=>True);(have t2:True:=trivial);exact k.out dN t1 fm t2)))):P:=h (hid λ_ _ _ _=>k)
def hX{P:Prop}{cz:(Act->World->Prop)->Prop}{fo:∀x,cz x->(Act->World->Prop)->Prop}{Q:∀x y bk,fo x y bk->Prop}(k:∀{x} {y:cz x} {bk} {bG:fo x y bk},Q x y bk bG)(h:Hid (∀x y bk bG,Q x y bk bG)->P:=by (intro k;refine ag ?_;refine cy ?_;(first|(rename_i dP h1;(have dN:Act->World->Prop:=λ_ _=>True);(have t1:True:=trivial);with_reducible exact k.out dN t1 dP h1)|(rename_i dP h1 ib h2;with_reducible exact k.out dP h1 ib h2)|((have dN:Act->World->Prop:=λ_ _=>True);(have t1:True:=trivial);(have fm:Act->World->Prop:=λ_ _=>True);(have t2:True:=trivial);exact k.out dN t1 fm t2)))):P:=h (hid λ_ _ _ _=>k)
def J8{P Q:Prop}(k:Q)(h:Hid Q->P:=by (intro k;refine ag ?_;refine bE ?_;exact k.out)):P:=h (hid k)
def kg{P:Prop}{cz:(Act->World->Prop)->Prop}{fo:∀x,cz x->(Act->World->Prop)->Prop}{Q:∀x y bk,fo x y bk->Prop}(k:∀{x} {y:cz x} {bk} {bG:fo x y bk},Q x y bk bG)(h:Hid (∀x y bk bG,Q x y bk bG)->P:=by (intro k;refine ag ?_;refine ah ?_;refine v2 ?_;(first|(rename_i dP h1;(have dN:Act->World->Prop:=λ_ _=>True);(have t1:True:=trivial);with_reducible exact k.out dN t1 dP h1)|(rename_i dP h1 ib h2;with_reducible exact k.out dP h1 ib h2)|((have dN:Act->World->Prop:=λ_ _=>True);(have t1:True:=trivial);(have fm:Act->World->Prop:=λ_ _=>True);(have t2:True:=trivial);exact k.out dN t1 fm t2)))):P:=h (hid λ_ _ _ _=>k)
def ayH{P:Prop}{cz:(Act->World->Prop)->Prop}{fo:∀x,cz x->(Act->World->Prop)->Prop}{Q:∀x y bk,fo x y bk->Prop}(k:∀{x} {y:cz x} {bk} {bG:fo x y bk},Q x y bk bG)(h:Hid (∀x y bk bG,Q x y bk bG)->P:=by (intro k;refine ah ?_;refine v2 ?_;refine bE ?_;(first|(rename_i dP h1;(have dN:Act->World->Prop:=λ_ _=>True);(have t1:True:=trivial);with_reducible exact k.out dN t1 dP h1)|(rename_i dP h1 ib h2;with_reducible exact k.out dP h1 ib h2)|((have dN:Act->World->Prop:=λ_ _=>True);(have t1:True:=trivial);(have fm:Act->World->Prop:=λ_ _=>True);(have t2:True:=trivial);exact k.out dN t1 fm t2)))):P:=h (hid λ_ _ _ _=>k)
def dU{P Q:Prop}(k:Q)(h:Hid Q->P:=by (intro k;refine v2 ?_;refine wpList_nil ?_;exact k.out)):P:=h (hid k)
def ayI{P:Prop}{cz:(Act->World->Prop)->Prop}{fo:∀x,cz x->(Act->World->Prop)->Prop}{Q:∀x y bk,fo x y bk->Prop}(k:∀{x} {y:cz x} {bk} {bG:fo x y bk},Q x y bk bG)(h:Hid (∀x y bk bG,Q x y bk bG)->P:=by (intro k;refine ag ?_;refine ah ?_;refine ag ?_;refine wpList_nil ?_;(first|(rename_i dP h1;(have dN:Act->World->Prop:=λ_ _=>True);(have t1:True:=trivial);with_reducible exact k.out dN t1 dP h1)|(rename_i dP h1 ib h2;with_reducible exact k.out dP h1 ib h2)|((have dN:Act->World->Prop:=λ_ _=>True);(have t1:True:=trivial);(have fm:Act->World->Prop:=λ_ _=>True);(have t2:True:=trivial);exact k.out dN t1 fm t2)))):P:=h (hid λ_ _ _ _=>k)
def o9{P:Prop}{cz:(Act->World->Prop)->Prop}{fo:∀x,cz x->(Act->World->Prop)->Prop}{Q:∀x y bk,fo x y bk->Prop}(k:∀{x} {y:cz x} {bk} {bG:fo x y bk},Q x y bk bG)(h:Hid (∀x y bk bG,Q x y bk bG)->P:=by (intro k;refine ah ?_;refine v4 ?_;(first|(rename_i dP h1;(have dN:Act->World->Prop:=λ_ _=>True);(have t1:True:=trivial);with_reducible exact k.out dN t1 dP h1)|(rename_i dP h1 ib h2;with_reducible exact k.out dP h1 ib h2)|((have dN:Act->World->Prop:=λ_ _=>True);(have t1:True:=trivial);(have fm:Act->World->Prop:=λ_ _=>True);(have t2:True:=trivial);exact k.out dN t1 fm t2)))):P:=h (hid λ_ _ _ _=>k)
def DG{P:Prop}{cz:(Act->World->Prop)->Prop}{fo:∀x,cz x->(Act->World->Prop)->Prop}{Q:∀x y bk,fo x y bk->Prop}(k:∀{x} {y:cz x} {bk} {bG:fo x y bk},Q x y bk bG)(h:Hid (∀x y bk bG,Q x y bk bG)->P:=by (intro k;refine v2 ?_;refine ah ?_;refine ag ?_;(first|(rename_i dP h1;(have dN:Act->World->Prop:=λ_ _=>True);(have t1:True:=trivial);with_reducible exact k.out dN t1 dP h1)|(rename_i dP h1 ib h2;with_reducible exact k.out dP h1 ib h2)|((have dN:Act->World->Prop:=λ_ _=>True);(have t1:True:=trivial);(have fm:Act->World->Prop:=λ_ _=>True);(have t2:True:=trivial);exact k.out dN t1 fm t2)))):P:=h (hid λ_ _ _ _=>k)
def On{P:Prop}{cz:(Act->World->Prop)->Prop}{fo:∀x,cz x->(Act->World->Prop)->Prop}{Q:∀x y bk,fo x y bk->Prop}(k:∀{x} {y:cz x} {bk} {bG:fo x y bk},Q x y bk bG)(h:Hid (∀x y bk bG,Q x y bk bG)->P:=by (intro k;refine ah ?_;refine ag ?_;refine ah ?_;(first|(rename_i dP h1;(have dN:Act->World->Prop:=λ_ _=>True);(have t1:True:=trivial);with_reducible exact k.out dN t1 dP h1)|(rename_i dP h1 ib h2;with_reducible exact k.out dP h1 ib h2)|((have dN:Act->World->Prop:=λ_ _=>True);(have t1:True:=trivial);(have fm:Act->World->Prop:=λ_ _=>True);(have t2:True:=trivial);exact k.out dN t1 fm t2)))):P:=h (hid λ_ _ _ _=>k)
def Gl{P Q:Prop}(k:Q)(h:Hid Q->P:=by (intro k;refine aU ?_;refine ag ?_;refine wpList_nil ?_;exact k.out)):P:=h (hid k)
def ayJ{P:Prop}{cz:(Act->World->Prop)->Prop}{fo:∀x,cz x->(Act->World->Prop)->Prop}{Q:∀x y bk,fo x y bk->Prop}(k:∀{x} {y:cz x} {bk} {bG:fo x y bk},Q x y bk bG)(h:Hid (∀x y bk bG,Q x y bk bG)->P:=by (intro k;refine ah ?_;refine ag ?_;refine ah ?_;refine ag ?_;(first|(rename_i dP h1;(have dN:Act->World->Prop:=λ_ _=>True);(have t1:True:=trivial);with_reducible exact k.out dN t1 dP h1)|(rename_i dP h1 ib h2;with_reducible exact k.out dP h1 ib h2)|((have dN:Act->World->Prop:=λ_ _=>True);(have t1:True:=trivial);(have fm:Act->World->Prop:=λ_ _=>True);(have t2:True:=trivial);exact k.out dN t1 fm t2)))):P:=h (hid λ_ _ _ _=>k)
def xT{P Q:Prop}(k:Q)(h:Hid Q->P:=by (intro k;refine aU ?_;refine wpList_nil ?_;exact k.out)):P:=h (hid k)
def J7{P:Prop}{cz:(Act->World->Prop)->Prop}{fo:∀x,cz x->(Act->World->Prop)->Prop}{Q:∀x y bk,fo x y bk->Prop}(k:∀{x} {y:cz x} {bk} {bG:fo x y bk},Q x y bk bG)(h:Hid (∀x y bk bG,Q x y bk bG)->P:=by (intro k;refine ag ?_;refine ah ?_;refine v3 ?_;(first|(rename_i dP h1;(have dN:Act->World->Prop:=λ_ _=>True);(have t1:True:=trivial);with_reducible exact k.out dN t1 dP h1)|(rename_i dP h1 ib h2;with_reducible exact k.out dP h1 ib h2)|((have dN:Act->World->Prop:=λ_ _=>True);(have t1:True:=trivial);(have fm:Act->World->Prop:=λ_ _=>True);(have t2:True:=trivial);exact k.out dN t1 fm t2)))):P:=h (hid λ_ _ _ _=>k)
def U7{P:Prop}{cz:(Act->World->Prop)->Prop}{fo:∀x,cz x->(Act->World->Prop)->Prop}{Q:∀x y bk,fo x y bk->Prop}(k:∀{x} {y:cz x} {bk} {bG:fo x y bk},Q x y bk bG)(h:Hid (∀x y bk bG,Q x y bk bG)->P:=by (intro k;refine aU ?_;refine v5 ?_;refine ah ?_;refine ag ?_;(first|(rename_i dP h1;(have dN:Act->World->Prop:=λ_ _=>True);(have t1:True:=trivial);with_reducible exact k.out dN t1 dP h1)|(rename_i dP h1 ib h2;with_reducible exact k.out dP h1 ib h2)|((have dN:Act->World->Prop:=λ_ _=>True);(have t1:True:=trivial);(have fm:Act->World->Prop:=λ_ _=>True);(have t2:True:=trivial);exact k.out dN t1 fm t2)))):P:=h (hid λ_ _ _ _=>k)
def By{P:Prop}{cz:(Act->World->Prop)->Prop}{fo:∀x,cz x->(Act->World->Prop)->Prop}{Q:∀x y bk,fo x y bk->Prop}(k:∀{x} {y:cz x} {bk} {bG:fo x y bk},Q x y bk bG)(h:Hid (∀x y bk bG,Q x y bk bG)->P:=by (intro k;refine ag ?_;refine ah ?_;refine v4 ?_;(first|(rename_i dP h1;(have dN:Act->World->Prop:=λ_ _=>True);(have t1:True:=trivial);with_reducible exact k.out dN t1 dP h1)|(rename_i dP h1 ib h2;with_reducible exact k.out dP h1 ib h2)|((have dN:Act->World->Prop:=λ_ _=>True);(have t1:True:=trivial);(have fm:Act->World->Prop:=λ_ _=>True);(have t2:True:=trivial);exact k.out dN t1 fm t2)))):P:=h (hid λ_ _ _ _=>k)
section
theorem aX.cellsOf{w}{B m sz t:Nat}{cs}(h:aX w B cs.toArray t)(hn:cs.length=m*sz):Cells w sz (ab ⟨B,0,af⟩) m cs:=
 ⟨hn,λ_=>⟨_,rfl,λj u a=>by grind[mW,aX.cell]⟩⟩
section
variable {P:ew} {o:cS} {a:b3} {w:aQ} {K:b3->aQ->Prop} {Q:iI->b3->aQ->Prop}
def b4(t e sz:Nat)(x d)(ho:o.op=DX t x d)(g:P.underlying t=ab (iJ e))(m:(P.info? e).map (·.size)=ab sz)(b off n c i k:Nat)(hx:a.eval x=ae (ab ⟨b,off,af⟩) n c)(hi:a.eval d=J R (i:Int))(h:i<n)(hk:off+i*sz=k):
 (bA a.eval o).run P w=bf (dc (ay (ab ⟨b,k,af⟩))) w:=by
 cases hq:P.info? e with
 |none=>grind
 |some j=>
  have hsz:j.size=sz:=aH;have h1:(i:Int)<(n:Int):=ad;subst hk;have f:(⟨b,off,_⟩:bT).add (i*sz)=⟨b,_,_⟩:=OU _ _ _;unfold bA;simp[ho,hx,hi,Vx,zJ,gx,gN g,mR,ny,hq,hsz,f];intro l;omega
end
end
section
section
variable {P:ew} {o:cS} {a:b3} {w:aQ}
def mG{B k v ty x}(ho:o.op=nV ty x)(hx:a.eval x=ay (ab ⟨B,k,af⟩))(hc:w.cell? ⟨B,k,af⟩=ab v)(c:(P.underlying ty).map (λd=>d.isRow)=ab ao):
 (bA a.eval o).run P w=bf (dc v) w:=by
 cases hq:P.underlying ty with
 |none=>grind
 |some d=>
  have b:d.isRow=false:=aH
  have hagg:(isAgg ty).run P w=bf ao w:=by unfold isAgg;rw[gx,gN hq w];cases d<;>simp_all
  unfold bA;simp[ho,hx,Instr.loadAt,BI,loadVar,hagg,hc]
def agM{t c x y p q}(ho:o.op=nu .xor t x y c)(hx:a.eval x=bw p)(b:a.eval y=bw q):(bA a.eval o).run P w=bf (dc (bw (hV p q))) w:=by unfold bA;rw[ho];simp only[hx,b];rfl
def agK{t c x y p q}(ho:o.op=nu .and t x y c)(hx:a.eval x=bw p)(b:a.eval y=bw q):(bA a.eval o).run P w=bf (dc (bw (n32 p q))) w:=by unfold bA;rw[ho];simp only[hx,b];rfl
def agL{t c x y p q}(ho:o.op=nu .or t x y c)(hx:a.eval x=bw p)(b:a.eval y=bw q):(bA a.eval o).run P w=bf (dc (bw (pF p q))) w:=by unfold bA;rw[ho];simp only[hx,b];rfl
def agJ{t c x y p q}(ho:o.op=nu .add t x y c)(hx:a.eval x=bw p)(b:a.eval y=bw q):(bA a.eval o).run P w=bf (dc (bw (a32 p q))) w:=by unfold bA;rw[ho];simp only[hx,b];rfl
def adg{t e m:Nat}{x c}{b i:Nat}(ho:o.op=DX t x c)(f:P.underlying t=ab (vb m e))(d:(P.info? e).map (·.size)=ab 1)(hx:a.eval x=ay (ab ⟨b,0,af⟩))(hi:a.eval c=J R (i:Int))(h:i<m):
 (bA a.eval o).run P w=bf (dc (ay (ab ⟨b,i,af⟩))) w:=asA t e 1 m x c ho f d b 0 i i hx hi h ad
end
section
variable {U:Int->aP} {L:List Int} {tail:List aP} {i k n:Nat} {v:Int} {x:aP}
def Yp(h:i<L.length)(a:(U v).cells=#[U v]:=by rfl):i+(U v).cells.size<=(aM U L tail).size:=by grind[i']
def Ly(hn:L.length=n)(hk:k<tail.length)(hx:x.cells=#[x]:=by rfl):n+k+x.cells.size<=(aM U L tail).size:=by grind[i']
def Yq(h:i<L.length)(a:(U v).cells=#[U v]:=by rfl):lay (aM U L tail) i (U v).cells.toList=aM U (L.set i v) tail:=by rw[a];exact amf h v
def LB(hn:L.length=n)(hx:x.cells=#[x]:=by rfl):lay (aM U L tail) (n+k) x.cells.toList=aM U L (tail.set k x):=by rw[hx];exact amg hn x
end
section
variable {P:ew} {o:cS} {a:b3} {w:aQ}
def adG{B k v u}ty{x d}(ho:o.op=nV ty x)(hx:a.eval x=ay (ab ⟨B,k,af⟩))(e:w.cell? ⟨B,k,af⟩=ab v)(h1:w.cell? ⟨B,k+1,af⟩=ab u)(c:P.underlying ty=ab d)(b:d.isRow=az)(hi:(P.info? ty).map (·.size)=ab 2):
 (bA a.eval o).run P w=bf (dc (ar #[v,u])) w:=eW ty x ho B k hx [v,u] (λj z hz=>aH) c b hi
end
def e6{a:Type}(cs:Array a):cs.extract 0 (0+cs.size)=cs:=bg
def aX.aI{w w'}{B t:Nat}{cs}(h:aX w B cs t)(g:au w w'):aX w' B cs t:=by grind[av.heap]
theorem zb:∀(b P a),b.length<=a.length->lay (P++a).toArray P.length b=(P++(b++a.drop b.length)).toArray
 |[],P,a,_=>by rfl
 |v::b,P,[],h=>by grind
 |v::b,P,r::a,h=>by have c:=zb b (P++[v]) a (by simpa using h);rw[lay,alV,show(P++r::a).set P.length v=(P++[v])++a by simp,show P.length+1=(P++[v]).length by simp,c];simp
theorem lay_all{cs cs'}(h:cs'.size=cs.size):lay cs 0 cs'.toList=cs':=by have e:=zb cs'.toList [] cs.toList aH;simp at e;grind
section
variable {U:Int->aP} {L:List Int} {tail:List aP} {n:Nat}
def Yr{a}(cv:L.length=n)(b:a.length=n):lay (aM U L tail) 0 (aM U a []).toList=aM U a tail:=by have e:=zb (a.map U) [] (L.map U++tail) aH;grind[aM]
end
section
variable {P:ew} {ops:Array cS} {rest:List cS} {Q:iI->b3->aQ->Prop} {o:cS} {a bu:b3} {w:aQ} {v:aP} {aq:aQ} {FX:Nat->Prop} {l l':List bq}
def NM {F:Nat->Prop} {B k:Nat} {ty:gb} {x:hY} (hc:aq.cell? ⟨B,k,af⟩=ab v) (b:av F aq w) (h:cN P ops Q rest bu w) (c:¬F B:=by first|exact(λh=>h)|assumption) (ho:o.op=nV ty x:=by rfl) (hx:a.eval x=ay (ab ⟨B,k,af⟩):=by rfl) (e:(P.underlying ty).map (λd=>d.isRow)=ab false:=by kernel_rfl) (f:c9 o (cZ ops a.tmps)=true:=by kernel_rfl)
 (ha:a.put o.dst v=bu:=by((try simp only[Act.put,List.setIfInBounds_toArray,List.set_cons_zero,List.set_cons_succ]);rfl)):cN P ops Q (o::rest) a w:=ag h f (mG ho hx (b.cell hc c) e) ha
def A9 (p q z:Int) (h:cN P ops Q rest bu w) {t b:gb} {x y:hY} (ho:o.op=nu .mul t x y b:=by rfl) (hx:a.eval x=J R p:=by rfl) (e:a.eval y=J R q:=by rfl) (hz:p*q=z:=by omega) (h1:-9223372036854775808<=z:=by omega) (c:z<=9223372036854775807:=by omega) (d:c9 o (cZ ops a.tmps)=true:=by kernel_rfl)
 (ha:a.put o.dst (J R z)=bu:=by((try simp only[Act.put,List.setIfInBounds_toArray,List.set_cons_zero,List.set_cons_succ]);rfl)):cN P ops Q (o::rest) a w:=ag h d (lY t x y b ho p q z hx e hz h1 c) ha
def pu (h:cN P ops Q rest bu w) (hr:(bA a.eval o).run P w=bf (dc v) w:=by first|exact agM rfl rfl rfl|exact agK rfl rfl rfl|exact agL rfl rfl rfl|exact agJ rfl rfl rfl) (b:c9 o (cZ ops a.tmps)=true:=by kernel_rfl)
 (ha:a.put o.dst v=bu:=by((try simp only[Act.put,List.setIfInBounds_toArray,List.set_cons_zero,List.set_cons_succ]);rfl)):cN P ops Q (o::rest) a w:=ag h b hr ha
def kK (h:cN P ops Q rest bu w) {t e m b i:Nat} {x c:hY} (ho:o.op=DX t x c:=by rfl) (g:P.underlying t=ab (vb m e):=by rfl) (f:(P.info? e).map (·.size)=ab 1:=by kernel_rfl) (hx:a.eval x=ay (ab ⟨b,0,af⟩):=by rfl) (hi:a.eval c=J R (i:Int):=by rfl) (d:i<m:=by first|exact(of_decide_eq_true rfl)|omega) (j:c9 o (cZ ops a.tmps)=true:=by kernel_rfl)
 (ha:a.put o.dst (ay (ab ⟨b,i,af⟩))=bu:=by((try simp only[Act.put,List.setIfInBounds_toArray,List.set_cons_zero,List.set_cons_succ]);rfl)):cN P ops Q (o::rest) a w:=ag h j (adg ho g f hx hi d) ha
def ou {B k t n:Nat} {U:Int->aP} {L:List Int} {tail:List aP} {ty:gb} {x:hY} (b:ak aq FX w l) (j:Nat) (cv:L.length=n) (h:cN P ops Q rest bu w) (c:l[j]?=ab (aj B (aM U L tail) t):=by rfl) (ho:o.op=nV ty x:=by rfl) (hx:a.eval x=ay (ab ⟨B,k,af⟩):=by rfl) (hk:k<n:=by first|exact(of_decide_eq_true rfl)|omega) (e:(P.underlying ty).map (λd=>d.isRow)=ab false:=by kernel_rfl) (f:c9 o (cZ ops a.tmps)=true:=by kernel_rfl)
 (ha:a.put o.dst (U (L[k]?.getD 0))=bu:=by((try simp only[Act.put,List.setIfInBounds_toArray,List.set_cons_zero,List.set_cons_succ]);rfl)):cN P ops Q (o::rest) a w:=ag h f (fH ho hx (b.aW j c) (LA (cv▸hk)) e) ha
def xC {B k t n:Nat} {U:Int->aP} {L:List Int} {tail:List aP} {ty:gb} {x y:hY} {z:Int} (b:ak aq FX w l) (j:Nat) (cv:L.length=n) (h:∀w',ak aq FX w' l'->cN P ops Q rest bu w') (c:l[j]?=ab (aj B (aM U L tail) t):=by rfl) (ho:o.op=x2 ty x y:=by rfl) (hx:a.eval x=ay (ab ⟨B,k,af⟩):=by rfl) (d:a.eval y=U z:=by rfl) (hk:k<n:=by first|exact(of_decide_eq_true rfl)|omega)
 (rn:(U z).cells=#[U z]:=by rfl) (h1:∀x,(U x).oneCell'=true:=by(intro _;rfl)) (hz:(P.info? ty).map (·.size)=ab (U z).cells.size:=by kernel_rfl) (hl:l.set j (aj B (aM U (L.set k z) tail) t)=l':=by((try simp only[List.set_cons_zero,List.set_cons_succ]);rfl)) (hw:c9 o (cZ ops a.tmps)=true:=by kernel_rfl)
 (ha:a.put o.dst a7=bu:=by((try simp only[Act.put,List.setIfInBounds_toArray,List.set_cons_zero,List.set_cons_succ]);rfl)):cN P ops Q (o::rest) a w:=a' b j (U z) h c ho hx d (Yp (cv▸hk) rn) hz aH (Yq (cv▸hk) rn) hl hw ha
def pI {B t n:Nat} {U:Int->aP} {L b:List Int} {tail:List aP} {ty:gb} {x y:hY} (d:ak aq FX w l) (j:Nat) (cv:L.length=n) (c:b.length=n) (h:∀w',ak aq FX w' l'->cN P ops Q rest bu w') (e:l[j]?=ab (aj B (aM U L tail) t):=by rfl) (ho:o.op=x2 ty x y:=by rfl) (hx:a.eval x=ay (ab ⟨B,0,af⟩):=by rfl) (f:a.eval y=ar (aM U b []):=by rfl)
 (rn:∀x,(U x).oneCell'=true:=by(intro _;rfl)) (hz:(P.info? ty).map (·.size)=ab n:=by kernel_rfl) (hl:l.set j (aj B (aM U b tail) t)=l':=by((try simp only[List.set_cons_zero,List.set_cons_succ]);rfl)) (hw:c9 o (cZ ops a.tmps)=true:=by kernel_rfl)
 (ha:a.put o.dst a7=bu:=by((try simp only[Act.put,List.setIfInBounds_toArray,List.set_cons_zero,List.set_cons_succ]);rfl)):cN P ops Q (o::rest) a w:=a' d j (ar (aM U b [])) h e ho hx f (by show 0+(aM U b []).size<=_;rw[i',i',cv,c];simp) (by show _=ab (aM U b []).size;rw[i',c,hz];rfl) (Lx rn bg) (Yr cv c) hl hw ha
def NI {B t n:Nat} {U:Int->aP} {L c:List Int} {fD b:List aP} {ty:gb} {x y:hY} (f:ak aq FX w l) (j:Nat) (cv:L.length=n) (d:c.length=n) (h:∀w',ak aq FX w' l'->cN P ops Q rest bu w') (g:l[j]?=ab (aj B (aM U L fD) t):=by rfl) (ho:o.op=x2 ty x y:=by rfl) (hx:a.eval x=ay (ab ⟨B,0,af⟩):=by rfl) (i:a.eval y=ar (aM U c b):=by rfl) (e:b.length=fD.length:=by rfl)
 (rn:∀x,(U x).oneCell'=true:=by(intro _;rfl)) (bM:∀v∈b,v.oneCell'=true:=by simp[Value.oneCell']) (hz:(P.info? ty).map (·.size)=ab (n+b.length):=by kernel_rfl) (hl:l.set j (aj B (aM U c b) t)=l':=by((try simp only[List.set_cons_zero,List.set_cons_succ]);rfl)) (hw:c9 o (cZ ops a.tmps)=true:=by kernel_rfl)
 (ha:a.put o.dst a7=bu:=by((try simp only[Act.put,List.setIfInBounds_toArray,List.set_cons_zero,List.set_cons_succ]);rfl)):cN P ops Q (o::rest) a w:=a' f j (ar (aM U c b)) h g ho hx i (by show 0+(aM U c b).size<=_;rw[i',i',cv,d,e];simp) (by show _=ab (aM U c b).size;rw[i',d,hz]) (Lx rn bM) (lay_all (by show(aM U c b).size=_;rw[i',i',cv,d,e])) hl hw ha
def zj {B t n:Nat} {U:Int->aP} {L:List Int} {tail:List aP} {ty e:gb} {x:hY} (b:ak aq FX w l) (j:Nat) (cv:L.length=n) (h:cN P ops Q rest bu w) (c:l[j]?=ab (aj B (aM U L tail) t):=by rfl) (ho:o.op=nV ty x:=by rfl) (hx:a.eval x=ay (ab ⟨B,0,af⟩):=by rfl) (d:P.underlying ty=ab (vb n e):=by rfl) (hz:(P.info? ty).map (·.size)=ab n:=by kernel_rfl) (f:c9 o (cZ ops a.tmps)=true:=by kernel_rfl)
 (ha:a.put o.dst (ar (aM U L []))=bu:=by((try simp only[Act.put,List.setIfInBounds_toArray,List.set_cons_zero,List.set_cons_succ]);rfl)):cN P ops Q (o::rest) a w:=ag h f (adF ty e n x ho B hx (b.aW j c) cv d hz) ha
def bC{f:BH}{args:Array aP}(hc:aD P f args w λe w'=>e=aB v/\au w w')(b:ak aq FX w l)(h:∀w',ak aq FX w' l->cN P ops Q rest bu w')(hr:(bA a.eval o).run P w=bf (.enter f args) w:=by(go_simp;try with_reducible rfl))(i:c9 o (cZ ops a.tmps)=true:=by kernel_rfl)(c:a.put o.dst v=bu:=by((try simp only[Act.put,List.setIfInBounds_toArray,List.set_cons_zero,List.set_cons_succ]);rfl)):cN P ops Q (o::rest) a w:=
 aR hc (λe w' ⟨d,g⟩=>d▸aU (h w' (b.aI g)) c) hr i
def du{f:BH}{args:Array aP}{b:Option bT->Nat->aP}{bs:List Int}{bu:Option bT->Nat->b3}(hc:aD P f args w λe w'=>∃A c,e=aB (b A c)/\fe w.heap.size w' A c bs/\au w w')(d:ak aq FX w l)(h:∀A c w',ak aq FX w' (cx A c bs::l)->cN P ops Q rest (bu A c) w')(hr:(bA a.eval o).run P w=bf (.enter f args) w:=by(go_simp;try with_reducible rfl))(k:c9 o (cZ ops a.tmps)=true:=by kernel_rfl)(i:∀A c,a.put o.dst (b A c)=bu A c:=by(intro _ _;(try simp only[Act.put,List.setIfInBounds_toArray,List.set_cons_zero,List.set_cons_succ]);rfl)):cN P ops Q (o::rest) a w:=
 aR hc (λe w' ⟨A,c,j,hb,g⟩=>j▸aU (h A c w' (d.lR g hb)) (i A c)) hr k
end
section
variable {P:ew} {ops:Array cS} {rest:List cS} {Q:iI->b3->aQ->Prop} {o:cS} {a bu:b3} {v:aP} {aq:aQ} {FX:Nat->Prop} {dst:Nat->Option Tmp} {LE:List Nat} {bU:Nat->ff->aP} {bm:List bq} {out:(Nat->ff)->Nat->bq} {ins rd:Nat->List Nat} {fin:List Nat} {QP:List rV->aQ->Prop} {us:Nat->ff} {i:Nat}
def j6 {B k:Nat} {ty:gb} {x:hY} (hc:aq.cell? ⟨B,k,af⟩=ab v) (h:cL P ops Q dst LE bU aq FX bm out ins rd fin QP us (i+1) rest bu) (c:¬FX B:=by first|exact(λh=>h)|assumption) (ho:o.op=nV ty x:=by rfl) (hx:a.eval x=ay (ab ⟨B,k,af⟩):=by rfl) (e:(P.underlying ty).map (λd=>d.isRow)=ab false:=by kernel_rfl) (hi:decide (i∈LE)=false:=by kernel_rfl) (f:c9 o (cZ ops a.tmps)=true:=by kernel_rfl)
 (ha:a.put o.dst v=bu:=by((try simp only[Act.put,List.setIfInBounds_toArray,List.set_cons_zero,List.set_cons_succ]);rfl)):cL P ops Q dst LE bU aq FX bm out ins rd fin QP us i (o::rest) a:=aL v (λ_ _ b=>mG ho hx (b.only.cell hc c) e) h hi f ha
def ik (h:cL P ops Q dst LE bU aq FX bm out ins rd fin QP us (i+1) rest bu) (hr:∀w,(bA a.eval o).run P w=bf (dc v) w:=by(intro _;first|exact agM rfl rfl rfl|exact agK rfl rfl rfl|exact agL rfl rfl rfl|exact agJ rfl rfl rfl)) (hi:decide (i∈LE)=false:=by kernel_rfl) (b:c9 o (cZ ops a.tmps)=true:=by kernel_rfl)
 (ha:a.put o.dst v=bu:=by((try simp only[Act.put,List.setIfInBounds_toArray,List.set_cons_zero,List.set_cons_succ]);rfl)):cL P ops Q dst LE bU aq FX bm out ins rd fin QP us i (o::rest) a:=aJ h hi b hr ha
def kZ (h:cL P ops Q dst LE bU aq FX bm out ins rd fin QP us (i+1) rest bu) {t e m b k:Nat} {x c:hY} (ho:o.op=DX t x c:=by rfl) (g:P.underlying t=ab (vb m e):=by rfl) (f:(P.info? e).map (·.size)=ab 1:=by kernel_rfl) (hx:a.eval x=ay (ab ⟨b,0,af⟩):=by rfl) (hk:a.eval c=J R (k:Int):=by rfl) (d:k<m:=by first|exact(of_decide_eq_true rfl)|omega) (hi:decide (i∈LE)=false:=by kernel_rfl) (j:c9 o (cZ ops a.tmps)=true:=by kernel_rfl)
 (ha:a.put o.dst (ay (ab ⟨b,k,af⟩))=bu:=by((try simp only[Act.put,List.setIfInBounds_toArray,List.set_cons_zero,List.set_cons_succ]);rfl)):cL P ops Q dst LE bU aq FX bm out ins rd fin QP us i (o::rest) a:=aJ h hi j (λ_=>adg ho g f hx hk d) ha
def l0 {B k t n:Nat} {U:Int->aP} {L:List Int} {tail:List aP} {ty:gb} {x:hY} (j:Nat) (cv:L.length=n) (h:cL P ops Q dst LE bU aq FX bm out ins rd fin QP us (i+1) rest bu) (ho:o.op=nV ty x:=by rfl) (hx:a.eval x=ay (ab ⟨B,k,af⟩):=by rfl) (c:∀Fr,((rd i).map (dk bm out us)++Fr)[j]?=ab (aj B (aM U L tail) t):=by(intro _;rfl)) (hk:k<n:=by first|exact(of_decide_eq_true rfl)|omega) (e:(P.underlying ty).map (λd=>d.isRow)=ab false:=by kernel_rfl) (hi:decide (i∈LE)=false:=by kernel_rfl) (f:c9 o (cZ ops a.tmps)=true:=by kernel_rfl)
 (ha:a.put o.dst (U (L[k]?.getD 0))=bu:=by((try simp only[Act.put,List.setIfInBounds_toArray,List.set_cons_zero,List.set_cons_succ]);rfl)):cL P ops Q dst LE bU aq FX bm out ins rd fin QP us i (o::rest) a:=aL _ (λ_ Fr b=>fH ho hx (b.aW j (c Fr)) (LA (cv▸hk)) e) h hi f ha
def RE {B k t m n:Nat} {U:Int->aP} {L:List Int} {tail:List aP} {ty:gb} {x y:hY} {z:Int} (cv:L.length=n) (h:cL P ops Q dst LE bU aq FX bm out ins rd fin QP us (i+1) rest bu) (hn:ins i=[m]:=by rfl) (b:dk bm out us m=aj B (aM U L tail) t:=by rfl) (ho:o.op=x2 ty x y:=by rfl) (hx:a.eval x=ay (ab ⟨B,k,af⟩):=by rfl) (c:a.eval y=U z:=by rfl) (hk:k<n:=by first|exact(of_decide_eq_true rfl)|omega)
 (rn:(U z).cells=#[U z]:=by rfl) (h1:∀x,(U x).oneCell'=true:=by(intro _;rfl)) (hz:(P.info? ty).map (·.size)=ab (U z).cells.size:=by kernel_rfl) (hl:∀u,bU i u=undef:=by(intro _;rfl)) (nc:∀u,out (dF us i u) i=aj B (aM U (L.set k z) tail) t:=by(intro _;rfl)) (hd:dst i=none:=by rfl) (jB:o.dst=none:=by rfl)
 (hi:decide (i∈LE)=true:=by kernel_rfl) (hw:c9 o (cZ ops a.tmps)=true:=by kernel_rfl) (ha:a.put o.dst (bU i (us i))=bu:=by((try simp only[Act.put,List.setIfInBounds_toArray,List.set_cons_zero,List.set_cons_succ]);rfl)):cL P ops Q dst LE bU aq FX bm out ins rd fin QP us i (o::rest) a:=fS (U z) h hn b ho hx c (Yp (cv▸hk) rn) hz aH (Yq (cv▸hk) rn) hl nc hd jB hi hw ha
def qh (p q z:Int) (h:cL P ops Q dst LE bU aq FX bm out ins rd fin QP us (i+1) rest bu) {t b:gb} {x y:hY} (ho:o.op=nu .add t x y b:=by rfl) (hx:a.eval x=J R p:=by rfl) (e:a.eval y=J R q:=by rfl) (hz:p+q=z:=by omega) (h1:-9223372036854775808<=z:=by omega) (c:z<=9223372036854775807:=by omega) (hi:decide (i∈LE)=false:=by kernel_rfl) (d:c9 o (cZ ops a.tmps)=true:=by kernel_rfl)
 (ha:a.put o.dst (J R z)=bu:=by((try simp only[Act.put,List.setIfInBounds_toArray,List.set_cons_zero,List.set_cons_succ]);rfl)):cL P ops Q dst LE bU aq FX bm out ins rd fin QP us i (o::rest) a:=aJ h hi d (λ_=>mu t x y b ho p q z hx e hz h1 c) ha
def CE (p q z:Int) (h:cL P ops Q dst LE bU aq FX bm out ins rd fin QP us (i+1) rest bu) {t b:gb} {x y:hY} (ho:o.op=nu .sub t x y b:=by rfl) (hx:a.eval x=J R p:=by rfl) (e:a.eval y=J R q:=by rfl) (hz:p -q=z:=by omega) (h1:-9223372036854775808<=z:=by omega) (c:z<=9223372036854775807:=by omega) (hi:decide (i∈LE)=false:=by kernel_rfl) (d:c9 o (cZ ops a.tmps)=true:=by kernel_rfl)
 (ha:a.put o.dst (J R z)=bu:=by((try simp only[Act.put,List.setIfInBounds_toArray,List.set_cons_zero,List.set_cons_succ]);rfl)):cL P ops Q dst LE bU aq FX bm out ins rd fin QP us i (o::rest) a:=aJ h hi d (λ_=>ra t x y b ho p q z hx e hz h1 c) ha
def Ax (p q z:Int) (h:cL P ops Q dst LE bU aq FX bm out ins rd fin QP us (i+1) rest bu) {t b:gb} {x y:hY} (ho:o.op=nu .mul t x y b:=by rfl) (hx:a.eval x=J R p:=by rfl) (e:a.eval y=J R q:=by rfl) (hz:p*q=z:=by omega) (h1:-9223372036854775808<=z:=by omega) (c:z<=9223372036854775807:=by omega) (hi:decide (i∈LE)=false:=by kernel_rfl) (d:c9 o (cZ ops a.tmps)=true:=by kernel_rfl)
 (ha:a.put o.dst (J R z)=bu:=by((try simp only[Act.put,List.setIfInBounds_toArray,List.set_cons_zero,List.set_cons_succ]);rfl)):cL P ops Q dst LE bU aq FX bm out ins rd fin QP us i (o::rest) a:=aJ h hi d (λ_=>lY t x y b ho p q z hx e hz h1 c) ha
def aoE {B t m n:Nat} {U:Int->aP} {L b:List Int} {tail:List aP} {ty:gb} {x y:hY} (cv:L.length=n) (c:b.length=n) (h:cL P ops Q dst LE bU aq FX bm out ins rd fin QP us (i+1) rest bu) (hn:ins i=[m]:=by rfl) (d:dk bm out us m=aj B (aM U L tail) t:=by rfl) (ho:o.op=x2 ty x y:=by rfl) (hx:a.eval x=ay (ab ⟨B,0,af⟩):=by rfl) (e:a.eval y=ar (aM U b []):=by rfl)
 (rn:∀x,(U x).oneCell'=true:=by(intro _;rfl)) (hz:(P.info? ty).map (·.size)=ab n:=by kernel_rfl) (hl:∀u,bU i u=undef:=by(intro _;rfl)) (nc:∀u,out (dF us i u) i=aj B (aM U b tail) t:=by(intro _;rfl)) (hd:dst i=none:=by rfl) (jB:o.dst=none:=by rfl)
 (hi:decide (i∈LE)=true:=by kernel_rfl) (hw:c9 o (cZ ops a.tmps)=true:=by kernel_rfl) (ha:a.put o.dst (bU i (us i))=bu:=by((try simp only[Act.put,List.setIfInBounds_toArray,List.set_cons_zero,List.set_cons_succ]);rfl)):cL P ops Q dst LE bU aq FX bm out ins rd fin QP us i (o::rest) a:=fS (ar (aM U b [])) h hn d ho hx e (by show 0+(aM U b []).size<=_;rw[i',i',cv,c];simp) (by show _=ab (aM U b []).size;rw[i',c,hz];rfl) (Lx rn bg) (Yr cv c) hl nc hd jB hi hw ha
def ZG {B t n:Nat} {U:Int->aP} {L:List Int} {tail:List aP} {ty e:gb} {x:hY} (j:Nat) (cv:L.length=n) (h:cL P ops Q dst LE bU aq FX bm out ins rd fin QP us (i+1) rest bu) (ho:o.op=nV ty x:=by rfl) (hx:a.eval x=ay (ab ⟨B,0,af⟩):=by rfl) (c:∀Fr,((rd i).map (dk bm out us)++Fr)[j]?=ab (aj B (aM U L tail) t):=by(intro _;rfl)) (d:P.underlying ty=ab (vb n e):=by rfl) (hz:(P.info? ty).map (·.size)=ab n:=by kernel_rfl) (hi:decide (i∈LE)=false:=by kernel_rfl) (f:c9 o (cZ ops a.tmps)=true:=by kernel_rfl)
 (ha:a.put o.dst (ar (aM U L []))=bu:=by((try simp only[Act.put,List.setIfInBounds_toArray,List.set_cons_zero,List.set_cons_succ]);rfl)):cL P ops Q dst LE bU aq FX bm out ins rd fin QP us i (o::rest) a:=aL _ (λ_ Fr b=>adF ty e n x ho B hx (b.aW j (c Fr)) cv d hz) h hi f ha
def dK {f:BH} {args:Array aP} (hc:∀w (Fr:List bq),ak aq FX w ((ins i).map (dk bm out us)++((rd i).map (dk bm out us)++Fr))->aD P f args w λe w'=>e=aB v/\au w w') (h:cL P ops Q dst LE bU aq FX bm out ins rd fin QP us (i+1) rest bu) (hn:ins i=[]:=by rfl) (k:∀u,bU i u=v:=by(intro _;rfl)) (c:∀u,out (dF us i u) i=emp:=by(intro _;rfl))
 (hr:∀w,(bA a.eval o).run P w=bf (.enter f args) w:=by(intro _;go_simp;try with_reducible rfl)) (hd:dst i=o.dst:=by rfl) (hlt:(match o.dst with|some d=>decide (d<a.tmps.size)|none=>ao)=true:=by kernel_rfl) (hi:decide (i∈LE)=true:=by kernel_rfl) (hw:c9 o (cZ ops a.tmps)=true:=by kernel_rfl) (ha:a.put o.dst (bU i (us i))=bu:=by((try simp only[Act.put,List.setIfInBounds_toArray,List.set_cons_zero,List.set_cons_succ]);rfl)):cL P ops Q dst LE bU aq FX bm out ins rd fin QP us i (o::rest) a:=
 di (λw Fr b=>(hc w Fr b).mono (λe w' ⟨j,g⟩=>⟨{},aH,by rw[c];rw[hn]at b;exact(b.aI g).dE⟩)) h hr hd hlt hi hw ha
def EE {f:BH} {args:Array aP} {j:Option bT->Nat->aP} {bs:List Int} (hc:∀w (Fr:List bq),ak aq FX w ((ins i).map (dk bm out us)++((rd i).map (dk bm out us)++Fr))->aD P f args w λe w'=>∃A c,e=aB (j A c)/\fe w.heap.size w' A c bs/\au w w') (h:cL P ops Q dst LE bU aq FX bm out ins rd fin QP us (i+1) rest bu) (hn:ins i=[]:=by rfl) (m:∀u,bU i u=j u.A u.c:=by(intro _;rfl)) (k:∀u,out (dF us i u) i=cx u.A u.c bs:=by(intro _;rfl))
 (hr:∀w,(bA a.eval o).run P w=bf (.enter f args) w:=by(intro _;go_simp;try with_reducible rfl)) (hd:dst i=o.dst:=by rfl) (hlt:(match o.dst with|some d=>decide (d<a.tmps.size)|none=>ao)=true:=by kernel_rfl) (hi:decide (i∈LE)=true:=by kernel_rfl) (hw:c9 o (cZ ops a.tmps)=true:=by kernel_rfl) (ha:a.put o.dst (bU i (us i))=bu:=by((try simp only[Act.put,List.setIfInBounds_toArray,List.set_cons_zero,List.set_cons_succ]);rfl)):cL P ops Q dst LE bU aq FX bm out ins rd fin QP us i (o::rest) a:=
 di (λw Fr b=>(hc w Fr b).mono (λe w' ⟨A,c,l,hb,g⟩=>⟨{A:=A,c:=c},aH,by rw[k];rw[hn]at b;exact b.lR g hb⟩)) h hr hd hlt hi hw ha
end
section
variable {P:ew} {o:cS} {a:b3} {w:aQ}
def Row.blk{w A}{n c e sz:Nat}{xs}(h:Row 0 w A n c e sz xs)(hn:0<n):∃g cur,A=ab ⟨g,0,af⟩/\aX w g cur e/\n<=c/\c<=eB/\cur.size=c*sz/\cur.toList.take (n*sz)=xs:=by
 rcases h.2 with⟨_,a⟩|⟨g,cap,cur,hv,_,i,h1,b,d,f⟩;·omega
 grind
def Jh{w}{g n c e sz:Nat}{cur}(d:aX w g cur e)(h1:n<=c)(a:c<=eB)(b:cur.size=c*sz):Row 0 w (ab ⟨g,0,af⟩) n c e sz (cur.toList.take (n*sz)):=
 ⟨by grind[Nat.mul_le_mul_right],cm ⟨g,c,cur,aa,cC _,d,h1,a,b,aa⟩⟩
def ak.uZ{aq w:aQ}{FX:Nat->Prop}{l:List bq}{g e:Nat}{cur:Array aP}(h:ak aq FX w l)(i n c sz:Nat)(xs:List aP)(hx:cur.toList.take (n*sz)=xs)(h1:n<=c)(a:c<=eB)(d:cur.size=c*sz)(hi:l[i]?=ab (aj g cur e):=by rfl):ak aq FX w (l.set i (ba (ab ⟨g,0,af⟩) n c e sz xs)):=
 h.as i hi _ (λhb=>hx▸Jh hb h1 a d) (λb ⟨off,f,e⟩=>by injection e with e;injection e with bE cr;exact bE.symm)
def afA{x}{t e B off n c ty sz:Nat}{z cs}(ho:o.op=.call {callee:=.builtin .clear,args:=#[x],argTypes:=#[t]})(hx:a.eval x=ae (ab ⟨B,off,af⟩) n c)(f:P.underlying t=ab (iJ e))(hz:(P.info? e).bind (·.zero)=ab z)(hzs:z.cells.size=sz)(hz1:z.cells.all (·.oneCell')=az)(hn:0<n)(hb:aX w B cs ty)(h:off+n*sz<=cs.size):
 ∃w' cs',(bA a.eval o).run P w=bf (dc (bn #[])) w'/\Turned w w' (aj B cs ty) (aj B cs' ty)/\cs'.size=cs.size/\cs'.toList.take off=cs.toList.take off:=by
 have hzl:((nt z.cells n).toList).length=n*sz:=by grind[nt]
 have hz2:(nt z.cells n).toList.all (·.oneCell')=true:=by grind[nt,Nat.mod_lt]
 obtain⟨w',hr,b,d,g⟩:=Un (P:=P) B ty (nt z.cells n).toList w cs off 0 hb ad hz2;refine⟨w',lay cs (off+0) (nt z.cells n).toList,?_,vz d b,lay_size _ _ _,?_⟩;·obtain⟨m,rfl⟩:∃m,n=m+1:=⟨n -1,ad⟩;have hv:(zeroValue e).run P w=bf z w:=Uo hz w;unfold bA;simp[ho,nX,nW,builtin,gx,hx,Builtin.clear_,gN f,hv,hr]
 .rw[Nat.add_zero]
  have key:∀(l:List aP) (cs:Array aP) (k:Nat),off<=k->(lay cs k l).toList.take off=cs.toList.take off:=by
   intro l;induction l with
   |nil=>intro cs k _;rfl
   |cons v l i=>grind[lay,List.take_set_of_le]
  exact key _ _ _ (b9 _)
end
def aeH {P:ew} {ops:Array cS} {rest:List cS} {Q:iI->b3->aQ->Prop} {o:cS} {a bu:b3} {w:aQ} {v:aP} {aq:aQ} {FX:Nat->Prop} {l:List bq} {G ty:Nat} {cs:Array aP} {C:Array aP->Prop} (b:ak aq FX w l) (i:Nat) (hr:∃w' cs',(bA a.eval o).run P w=bf (dc v) w'/\Turned w w' (aj G cs ty) (aj G cs' ty)/\C cs') (h:∀w' cs',C cs'->ak aq FX w' (l.set i (aj G cs' ty))->cN P ops Q rest bu w') (hi:l[i]?=ab (aj G cs ty):=by rfl) (f:c9 o (cZ ops a.tmps)=true:=by kernel_rfl)
 (ha:a.put o.dst v=bu:=by((try simp only[Act.put,List.setIfInBounds_toArray,List.set_cons_zero,List.set_cons_succ]);rfl)):cN P ops Q (o::rest) a w:=by
 obtain⟨w',cs',h1,c,d⟩:=hr;refine rW λK e=>?_;rw[if_pos f];unfold iy;rw[h1];show K _ _;rw[ha];exact e _ _ (h w' _ d (b.DA i hi c))
def F9{P o}{a:b3}{w}{B k t:Nat}{cs cs' ty x y}v(ho:o.op=x2 ty x y)(hx:a.eval x=ay (ab ⟨B,k,af⟩))(b:a.eval y=v)(hb:aX w B cs t)(hk:k+v.cells.size<=cs.size)(hi:(P.info? ty).map (·.size)=ab v.cells.size)(h1:v.cells.all (·.oneCell')=az)(hc:lay cs k v.cells.toList=cs'):
 ∃w',(bA a.eval o).run P w=bf .skip w'/\Turned w w' (aj B cs t) (aj B cs' t):=by grind[NT,vz]
def ayo{B c i sz}(h:i<c):fK (ab ⟨B,0,af⟩) c i sz=ab ⟨B,i*sz,af⟩:=by grind[fK,mW]
def af1 {P o} {a:b3} {w} (t e sz:Nat) (x lo) (ho:o.op=.slice t x (ab lo) af af) (d:P.underlying t=ab (iJ e)) (b:(P.info? e).map (·.size)=ab sz) (B n c i m:Nat)
 (hx:a.eval x=ae (ab ⟨B,0,af⟩) n c) (ks:a.eval lo=J R (i:Int)) (hm:i+m=n) (h2:n<=c) (hi:i<c):(bA a.eval o).run P w=bf (dc (ae (ab ⟨B,i*sz,af⟩) m (c -i))) w:=by
 have h:=Bi (w:=w) t e sz x lo ho d b _ n c i m hx ks hm h2;rw[ayo hi]at h;exact h
def I8{w W A}{n c e sz:Nat}{xs}(h:Row 0 w A n c e sz xs)(g:au w W):Row 0 W A n c e sz xs:=
 bq.only (ba A n c e sz xs) h (λ_ hb=>(Row.lt h hb).2) g (λ_ _ h=>h)
def aeI {P:ew} {ops:Array cS} {rest:List cS} {Q:iI->b3->aQ->Prop} {o:cS} {a:b3} {w aq:aQ} {FX:Nat->Prop} {l:List bq} {s:bq} {bu:Option bT->Nat->b3} {b:Option bT->Nat->aP} {t:Option bT->Nat->bq} {l':Option bT->Nat->List bq} (d:ak aq FX w l) (i:Nat) (hr:∃A c w',(bA a.eval o).run P w=bf (dc (b A c)) w'/\Turned w w' s (t A c)) (h:∀A c w',ak aq FX w' (l' A c)->cN P ops Q rest (bu A c) w') (hi:l[i]?=ab s:=by rfl)
 (hl:∀A c,l.set i (t A c)=l' A c:=by(intro _ _;(try simp only[List.set_cons_zero,List.set_cons_succ]);rfl)) (hw:c9 o (cZ ops a.tmps)=true:=by kernel_rfl) (ha:∀A c,a.put o.dst (b A c)=bu A c:=by(intro _ _;(try simp only[Act.put,List.setIfInBounds_toArray,List.set_cons_zero,List.set_cons_succ]);rfl)):cN P ops Q (o::rest) a w:=by
 obtain⟨A,c,w',h1,e⟩:=hr;refine rW λK f=>?_;rw[if_pos hw];unfold iy;rw[h1];show K _ _;rw[ha];exact f _ _ (h A c w' (hl A c▸d.DA i hi e))
end
def Tt cQ p A c bs w(i:w.cell? ⟨p,0,af⟩=ab (ae A bs.length c))(hx:b2 w A bs)(h1:bs.length<=140737488355328):
 aD ax 100 #[J R cQ,ae (ab ⟨p,0,af⟩) 1 1] w λe w'=>∃b d,e=aB (ar #[J R 2,J R cQ,J R 0,J R 0,ae b bs.length d])/\fe w.heap.size w' b d bs/\au w w':=by
 go_enter func100,ntmps100;have a:=a8 w;go_step;refine ah ?_;refine bl a #[J _ 0,J _ 0,J _ 0,J _ 0,ae _ 0 0] (λj w1 a=>?_);refine gV ?_;refine aR (Hv p A c bs _ (a.only.cell i (λh=>h)) (hx.aI a.only) h1) ?_;rintro e k ⟨f,c1,rfl,hr,g⟩;replace a:=a.lR g (fe.ot hr);refine aU ?_;refine ag ?_;refine a' a 1 (ar _) (λl a=>?_);refine an ?_;go_wp2_with fail;refine c' (v:=_) (gG aa _ _ _ _ _ _ _ aa (a.aW 1) fO aa aw) aa (⟨f,c1,aa,(a.fresh 0).Dy,a.only⟩)
def Rs(k cQ fr n)A c bs w(hx:b2 w A bs)(h1:bs.length<=140737488355328):
 aD ax 102 #[ar #[J R k,J R cQ,J R fr,J R n,ae A bs.length c]] w λe w'=>∃d f,e=aB (ar #[J R k,J R cQ,J R fr,J R n,ae d bs.length f])/\fe w.heap.size w' d f bs/\au w w':=by
 go_enter func102,ntmps102;have a:=a8 w;go_step;refine ah ?_;refine bL a (ar _) (λh w1 a=>?_);refine bl a #[J _ 0,J _ 0,J _ 0,J _ 0,ae _ 0 0] (λi j a=>?_);refine b5 ?_;refine pl a 1 4 ?_;refine aR (w6 A c bs _ (hx.aI a.only) h1) ?_;rintro e l ⟨b,c1,rfl,hr,g⟩;replace a:=a.lR g (fe.ot hr);refine aU ?_;refine ag ?_;refine a' a 2 (ae b _ c1) (λm a=>?_);refine ah ?_;refine bh a 2 #[J R k,J R cQ,J R fr,J R n,ae b bs.length c1] ?_;refine a' a 1 (ar _) (λo a=>?_);refine an ?_;go_wp2_with fail;refine c' (v:=_) (gG aa _ _ _ _ _ _ _ aa (a.aW 1) fO aa aw) aa (⟨b,c1,aa,(a.fresh 0).Dy,a.only⟩)
def auP(cQ fr n a b)A(m c)w(h1:eY (cQ,n))(y:eY (fr,n))(z:eY (a,b))(hb:0<b)(l:cQ<=a)(o:a+b<=cQ+n):
 aD ax 237 #[ar #[J R 1,J R cQ,J R fr,J R n,ae A m c],ar #[J R a,J R b]] w λe w'=>e=aB (bn #[ar #[J R 1,J R a,J R (fr+(a -cQ)),J R b,ae af 0 0],ai az])/\au w w':=by
 obtain⟨cW,bk,iu⟩:=z;obtain⟨k,bG,da⟩:=h1;obtain⟨p,q,r⟩:=y;simp only at cW bk iu k bG da p q r;obtain⟨f,hr1⟩:=ex (a -cQ);obtain⟨j,hr2⟩:=ex (fr+f);have t:=hid (show R.wrap (a -cQ)=f by grind[wD]);have x:=hid (show R.wrap (fr+f)=j by grind[wD]);have s:=hid (λW=>aa4 cQ n a b W ⟨k,bG,da⟩ ⟨cW,bk,iu⟩ hb l o);rw[hr1,hr2];clear hr1 hr2 cW bk iu k bG da p q r hb l o;go_enter Tryz.func237,Tryz.ntmps237;have d:=a8 w;go_step;refine ah ?_;refine bL d (ar _) (λB w1 d=>?_);refine bL d (ar _) (λC F d=>?_);refine bl d #[J _ 0,J _ 0,J _ 0,J _ 0,ae _ 0 0] (λD G d=>?_);refine hX ?_;refine bR d [1,4,5] (λi u=>match i with|1=>ar #[J R cQ,J R n]|4=>ay (ab ⟨u.b,0,af⟩)|_=>a7) (λg=>λ|4=>aj ((g 4).b) #[J R 0,J R 0,J R 0,J R 0,J R 0,J R 0,ae af 0 0] 400|5=>aj ((g 4).b) #[J R cQ,J R n,J R 1,J R cQ,J R fr,J R n,ae A m c] 400|_=>emp) (λ|5=>[7]|_=>[]) (λ|0=>[2]|2=>[2]|_=>[]) (λ|4=>[4]|5=>[4]|_=>[]) [0,1,2,4,8] (λg=>?_);refine eM 0 #[J R 1,J R cQ,J R fr,J R n,ae A m c] ?_;refine dK (λ_ _ _=>Nv 1 cQ fr n A m c _) ?_;refine eM 0 #[J R 1,J R cQ,J R fr,J R n,ae A m c] ?_;refine aJ ?_;refine rh _ ?_;refine fS _ ?_;refine bW λH d=>?_;generalize (g 4).b=E at d⊢;replace d:=d.drop 3;refine b5 ?_;refine bh d 3 #[J R cQ,J R n] ?_;refine bh d 1 #[J R a,J R b] ?_;refine bC (s _) d (λI d=>?_);refine cB ?_;refine pl d 1 0 ?_;refine ag ?_;refine pl d 2 1 ?_;refine aG (J R f) (by(have h:=t.out;go_simp;try rw[h])) ?_;refine cB ?_;refine pl d 2 0 ?_;refine cB ?_;refine pl d 1 0 ?_;refine ag ?_;refine pl d 2 2 ?_;refine ag ?_;refine aG (J R j) (by(have h:=x.out;go_simp;try rw[h])) ?_;refine ag ?_;refine pl d 1 1 ?_;refine bC (Ze a j b _) d (λK d=>?_);refine a' d 0 (ar _) (λL d=>?_);refine bX ?_;go_wp2_with fail;refine c' (v:=_) (mh aa aa aa (d.aW 0) aw aw) aa (⟨aa,d.only⟩)
def auQ(cQ fr n a b)A(c f j:Nat)bs w(hx:b2 w A bs)(hc:bs.length<=c)(C:bs.length<=140737488355328)(h1:eY (cQ,(bs.length:Int)))(hai:a=cQ+(f:Int))(B:b=(j:Int))(hb:0<j)(o:f+j<=bs.length):
 aD ax 237 #[ar #[J R 2,J R cQ,J R fr,J R n,ae A bs.length c],ar #[J R a,J R b]] w λe w'=>∃l m,e=aB (bn #[ar #[J R 2,J R a,J R 0,J R 0,ae l j m],ai az])/\fe w.heap.size w' l m ((bs.drop f).take j)/\au w w':=by
 have y:=hid (show R.wrap (a -cQ)=(f:Int) by grind[wD]);have r:eY (a,b):=by obtain⟨U,bG,da⟩:=h1;simp only at*;exact⟨ad,ad,ad⟩
 have k:b2 w (fK A c f 1) ((bs.drop f).take j):=by have:=hx.win (i:=f) (q:=_) hc o;rwa [show f+j -f=j by omega]at this
 have s:((bs.drop f).take j).length=j:=aH;obtain⟨ds,p⟩:=ex ((bs.drop f).take j);rw[p]at k s⊢;have x:=hid (λW=>aa4 cQ _ a b W h1 r ad ad ad);have L:f+j<=c:=ad;have hjb:j<=140737488355328:=ad;subst B s;have z:=hid k;have M:f<=f+ds.length:=ad;have N:f+ds.length -f=ds.length:=ad;have K:(f:Int)+(ds.length:Int)<=140737488355328:=ad;clear r h1 hx hai hb o hc C p k;go_enter Tryz.func237,Tryz.ntmps237;have d:=a8 w;go_step;refine ah ?_;refine bL d (ar _) (λF w1 d=>?_);refine bL d (ar _) (λG O d=>?_);refine bl d #[J _ 0,J _ 0,J _ 0,J _ 0,ae _ 0 0] (λt P d=>?_);refine hX ?_;refine bR d [1,4,5] (λi u=>match i with|1=>ar #[J R cQ,J R (bs.length:Int)]|4=>ay (ab ⟨u.b,0,af⟩)|_=>a7) (λg=>λ|4=>aj ((g 4).b) #[J R 0,J R 0,J R 0,J R 0,J R 0,J R 0,ae af 0 0] 400|5=>aj ((g 4).b) #[J R cQ,J R (bs.length:Int),J R 2,J R cQ,J R fr,J R n,ae A bs.length c] 400|_=>emp) (λ|5=>[7]|_=>[]) (λ|0=>[2]|2=>[2]|_=>[]) (λ|4=>[4]|5=>[4]|_=>[]) [0,1,2,4,8] (λg=>?_);refine eM 0 #[J R 2,J R cQ,J R fr,J R n,ae A bs.length c] ?_;refine dK (λ_ _ _=>Nv 2 cQ fr n A _ c _) ?_;refine eM 0 #[J R 2,J R cQ,J R fr,J R n,ae A bs.length c] ?_;refine aJ ?_;refine rh _ ?_;refine fS _ ?_;refine bW λQ d=>?_;generalize (g 4).b=H at d⊢;replace d:=d.drop 3;refine b5 ?_;refine bh d 3 #[J R cQ,J R (bs.length:Int)] ?_;refine bh d 1 #[J R a,J R (ds.length:Int)] ?_;refine bC (x _) d (λS d=>?_);refine cB ?_;refine pl d 1 0 ?_;refine ag ?_;refine pl d 2 1 ?_;refine aG (J R (f:Int)) (by(have h:=y.out;go_simp;try rw[h])) ?_;refine cB ?_;refine pl d 2 0 ?_;refine hX ?_;refine bR d [10,11,12] (λi u=>match i with|10=>ae (ab ⟨u.b,0,af⟩) 1 1|11=>ar #[J R 2,J R a,J R 0,J R 0,ae u.A ds.length u.c]|_=>a7) (λg=>λ|10=>aj ((g 10).b) #[ae (fK A c f 1) ((f+ds.length) -f) (c -f)] 22|11=>cx ((g 11).A) ((g 11).c) ds|12=>aj t #[J R 2,J R a,J R 0,J R 0,ae (g 11).A ds.length (g 11).c] 73|_=>emp) (λ|12=>[0]|_=>[]) (λ|1=>[1]|3=>[2]|7=>[1]|11=>[14]|_=>[]) (λ|10=>[10]|11=>[11]|12=>[11]|_=>[]) [1,2,3,14,15,16] (λg=>?_);refine aJ ?_;refine dl 0 0 ?_;refine aJ ?_;refine dl 0 4 ?_;refine da ?_;refine dl 0 1 ?_;refine qh _ _ ((f+ds.length:Nat):Int) ?_;refine aL _ (λ_ _ _=>afZ 22 5 1 _ _ _ aa dW aw A _ c f _ aa aa aa ad ad) ?_;refine kH _ 22 ?_;refine EE (λ_ _ d=>Tt a _ (fK A c f 1) (c -f) ds _ ((d.aW 0).cell 0 bg) (z.out.aI d.only) hjb) ?_;refine fS _ ?_;refine aJ ?_;refine bW λT d=>?_;generalize (g 10).b=E at d⊢;generalize (g 11).A=D at d⊢;generalize (g 11).c=I at d⊢;go_wp2_with fail;refine c' (v:=_) (mh aa aa aa (d.aW 5) aw aw) aa (⟨_,_,aa,(d.fresh 4).Dy,d.only⟩)
def cnt(r s:Int):Int:=(r -1)/s+1
def vB(m:bO)(a b:Int):bO:=if m.k=1 then⟨1,a,m.fr+(a -m.to),b,[]⟩else⟨2,a,0,0,(m.data.drop (a -m.to).toNat).take b.toNat⟩
def Hr(m:bO):Bool:=decide (m.k=1)&&(meets (m.fr,m.n) (m.to,m.n)&&decide (m.fr<m.to))
def kG(m:bO)(s:Int):Int:=cnt (cG m) s
def s7(m:bO)(s k:Int):Int:=if Hr m then kG m s -1 -k else k
def ob(m:bO)(s k:Int):bO:=vB m (m.to+s7 m s k*s) (min s (cG m -s7 m s k*s))
def gd(m:bO):Prop:=w3 m.k m.to m.fr m.n m.data.length
def p0(w:aQ)(m:bO)(A:Option bT)(c:Nat):Prop:=b2 w A m.data/\m.data.length<=c
def p0.aI{w w' m A c}(h:p0 w m A c)(g:au w w'):p0 w' m A c:=⟨h.1.aI g,h.2⟩
def fe.cmd{w N m A c}(h:fe N w A c m.data):p0 w m A c:=⟨h.1,h.2.2⟩
def axL m:fD m.k m.n m.data.length=cG m:=rfl
theorem gd.ck{m}(h:gd m):0<=m.to/\0<cG m/\m.to+cG m<=4611686018427387903:=by have:=w3.ck h;rw[axL]at this;obtain⟨⟨h1,_,a⟩,b⟩:=this;exact⟨h1,b,a⟩
def gd.len{m}(h:gd m):(m.data.length:Int)<=4611686018427387903:=by
 rcases h with⟨_,_,_,_,h⟩|⟨_,⟨h1,a,b⟩,_⟩;·omega
 .omega
def auO m(a b)A c w(hv:gd m)(l:p0 w m A c)(q:m.data.length<=140737488355328)(h1:m.to<=a)(o:0<b)(f:a+b<=m.to+cG m):
 aD ax 237 #[kW m A c,ar #[J R a,J R b]] w λe w'=>∃i j,e=aB (bn #[kW (vB m a b) i j,ai az])/\fe w.heap.size w' i j (vB m a b).data/\au w w':=by
 obtain⟨k,cQ,fr,n,data⟩:=m;rcases hv with⟨rfl,d,v2,v3,v4⟩|⟨rfl,d,v2,v3,v4⟩;·simp only at d v2 v3 v4 h1 f;obtain rfl:=List.eq_nil_of_length_eq_zero v4;have p:a+b<=cQ+n:=f;refine(auP cQ fr n a b A 0 c w d v2 ⟨by have:=d.1;simp only at*;omega,ad,by have:=d.2.2;simp only at*;omega⟩ o ad ad).mono ?_;rintro e w' ⟨rfl,g⟩;exact⟨_,0,aa,fe.nil,g⟩
 .simp only at d v2 v3 v4 h1 f;subst v2;subst v3;have p:a+b<=cQ+(data.length:Int):=f;have h:=auQ cQ 0 0 a b A c (a -cQ).toNat b.toNat data w l.1 l.2 q d ad ad ad ad;grind[vB]
def Zk{m s k}(hv:gd m)(g:1<=s)(h1:0<=k)(d:k<kG m s):0<=s7 m s k/\s7 m s k<kG m s/\0<=s7 m s k*s/\s7 m s k*s<cG m:=by
 have a:0<=s7 m s k/\s7 m s k<kG m s:=by grind[s7]
 refine⟨a.1,a.2,Int.mul_nonneg a.1 ad,?_⟩;have c:s7 m s k<=(cG m -1)/s:=by grind[kG,cnt]
 have e:s7 m s k*s<=(cG m -1)/s*s:=Int.mul_le_mul_of_nonneg_right c ad;have f:=Int.ediv_mul_le (cG m -1) (b:=s) ad;omega
def LU{m s}(hv:gd m)(c:1<=s):1<=kG m s/\kG m s<=cG m:=by have h:=hv.ck;unfold kG cnt;have h1:0<=(cG m -1)/s:=alE ad ad;have b:=alD (a:=cG m -1) s ad;omega
def awB{P o}{a:b3}{w t f x y p s q}(ho:o.op=nu .quo t x y f)(hx:a.eval x=J R p)(e:a.eval y=J R s)(b:¬s=0)(c:Int.tdiv p s=q)(d:R.wrap q=q):(bA a.eval o).run P w=bf (dc (J R q)) w:=by unfold bA;simp[ho,hx,e,x9,wO,Kx,b,c,d]
def Hy m A c s w(h1:0<cG m)(i:cG m<=4611686018427387903)(o:1<=s):
 aD ax 138 #[kW m A c,J R s] w λe w'=>e=aB (J R (kG m s))/\au w w':=by
 obtain⟨r,hr⟩:=ex (cG m);have b:=hid (λW=>tt m.k m.to m.fr m.n A m.data.length c W);rw[show fD _ _ _=r from hr]at b;rw[kG,cnt,hr];rw[hr]at h1 i;clear hr;have d:0<=(r -1)/s/\(r -1)/s<=r -1:=⟨alE ad ad,alD _ ad⟩;obtain⟨q,f⟩:=ex ((r -1)/s);have h:=hid (show Int.tdiv (r -1) s=q by grind);rw[f]at d⊢;obtain⟨c8,c4⟩:=d;have hs0:¬s<1:=ad;have j:¬s=0:=ad;have g:=hid (show R.wrap q=q from wD _ ad);clear f;go_enter func138,ntmps138;have a:=a8 w;go_step;refine ah ?_;refine bL a (ar _) (λl w1 a=>?_);refine ag ?_;refine an ?_;go_step;refine ah ?_;refine v2 ?_;refine an ?_;go_step;refine ah ?_;refine bh a 0 #[J R m.k,J R m.to,J R m.fr,J R m.n,ae A m.data.length c] ?_;refine bC (b _) a (λp a=>?_);refine pk (J R r) ?_;refine jW r 1 (r -1) ?_;refine ag ?_;refine aG _ (awB aa aa aa j h g) ?_;refine pad q 1 (q+1) ?_;refine ag ?_;refine an ?_;go_wp2_with fail;go_ret;exact⟨aa,a.only⟩
def ZE m A c w(hv:gd m):
 aD ax 235 #[kW m A c] w λe w'=>e=aB (ai (Hr m))/\au w w':=by
 obtain⟨k,cQ,fr,n,data⟩:=m;rcases hv with⟨rfl,d,v2,v3,v4⟩|⟨rfl,d,v2,v3,v4⟩
 .have b:=hid (λW=>auB cQ fr n A data.length c W d v2);clear d v2 v3 v4;show aD _ _ _ _ λe w'=>e=aB (ai (meets (fr,n) (cQ,n)&&decide (fr<cQ)))/\au w w';cases hm:meets (fr,n) (cQ,n)
  .rw[hm]at b;clear hm;go_enter VN,Wg;have a:=a8 w;go_step;refine ah ?_;refine bL a (ar #[J _ 1,J _ cQ,J _ fr,J _ n,ae A data.length c]) (λf w1 a=>?_);refine dV ?_;refine bh a 0 #[J R 1,J R cQ,J R fr,J R n,ae A data.length c] ?_;refine bC (b _) a (λg a=>?_);refine ag ?_;iterate 5 refine ps ?_
   refine v2 ?_;refine bE ?_;exact⟨aa,a.only⟩
  .rw[hm]at b;clear hm;go_enter VN,Wg;have a:=a8 w;go_step;refine ah ?_;refine bL a (ar #[J _ 1,J _ cQ,J _ fr,J _ n,ae A data.length c]) (λf h a=>?_);refine dV ?_;refine bh a 0 #[J R 1,J R cQ,J R fr,J R n,ae A data.length c] ?_;refine bC (b _) a (λi a=>?_);refine v2 ?_;refine pl a 0 1 ?_;refine ag ?_;refine pl a 0 2 ?_;refine v3 ?_;refine bE ?_;exact⟨aa,a.only⟩
 .have b:=hid (λW=>auC 2 cQ fr n A data.length c W aS);clear d v2 v3 v4;show aD _ _ _ _ λe w'=>e=aB (ai ao)/\au w w';go_enter VN,Wg;have a:=a8 w;go_step;refine ah ?_;refine bL a (ar #[J _ 2,J _ cQ,J _ fr,J _ n,ae A data.length c]) (λf j a=>?_);refine dV ?_;refine bh a 0 #[J R 2,J R cQ,J R fr,J R n,ae A data.length c] ?_;refine bC (b _) a (λl a=>?_);refine ag ?_;iterate 5 refine ps ?_
  refine v2 ?_;refine bE ?_;exact⟨aa,a.only⟩
structure Hh (w:aQ) (b' iv iG ix bS:Nat) (m:bO) (A:Option bT) (c:Nat) (s:Int):Prop where
 d:aX w b' #[ai (Hr m)] 4
 n:aX w iv #[J R (kG m s)] 3
 c:aX w iG #[J R m.k,J R m.to,J R m.fr,J R m.n,ae A m.data.length c] 73
 t:aX w ix #[J R m.to,J R (cG m)] 35
 s:aX w bS #[J R s] 3
def auX m A c s w(hv:gd m)(d:1<=s):
 aD ax 160 #[kW m A c,J R s] w λe w'=>∃b' iv iG ix bS,e=aB (dI (ed 236) #[] #[ay (ab ⟨b',0,af⟩),ay (ab ⟨iv,0,af⟩),ay (ab ⟨iG,0,af⟩),ay (ab ⟨ix,0,af⟩),ay (ab ⟨bS,0,af⟩)])/\Hh w' b' iv iG ix bS m A c s/\au w w':=by
 have b:=hv.ck;have h:aE (∀W,aD _ _ #[kW m A c] W λe w'=>e=aB (ar #[J _ _,J _ (cG m)])/\au W w'):=hid (λW=>tt _ _ _ _ A _ c W);have g:=hid (λW=>Hy m A c s W b.2.1 ad d);have f:=hid (λW=>ZE m A c W hv);clear b hv d;go_enter func160,ntmps160;have a:=a8 w;go_step;refine ah ?_;refine bL a (ar _) (λiG w1 a=>?_);refine bL a (J _ s) (λbS l a=>?_);refine dV ?_;refine bh a 1 #[J R m.k,J R m.to,J R m.fr,J R m.n,ae A m.data.length c] ?_;refine bC (h _) a (λo a=>?_);refine bl a #[J _ 0,J _ 0] (λix p a=>?_);refine a' a 0 (ar _) (λq a=>?_);refine ah ?_;refine bh a 2 #[J R m.k,J R m.to,J R m.fr,J R m.n,ae A m.data.length c] ?_;refine pl a 1 0 ?_;refine bC (g _) a (λr a=>?_);refine bl a #[J _ 0] (λiv t a=>?_);refine a' a 0 (J _ _) (λu a=>?_);refine ah ?_;refine bh a 3 #[J R m.k,J R m.to,J R m.fr,J R m.n,ae A m.data.length c] ?_;refine bC (f _) a (λv a=>?_);refine bl a #[ai _] (λb' i a=>?_);refine a' a 0 (ai _) (λj a=>?_);refine ayH ?_;exact⟨b',iv,iG,ix,bS,aa,⟨a.aW 0,a.aW 1,a.aW 4,a.aW 2,a.aW 3⟩,a.only⟩
set_option maxHeartbeats 4000000 in
def aeT m A(c b' iv iG ix bS)(s o)w(ea:Hh w b' iv iG ix bS m A c s)(E:p0 w m A c)(hv:gd m)(S:m.data.length<=140737488355328)(T:1<=s)(hk:0<=o/\o<kG m s):
 aD ax 236 #[J R o,ay (ab ⟨b',0,af⟩),ay (ab ⟨iv,0,af⟩),ay (ab ⟨iG,0,af⟩),ay (ab ⟨ix,0,af⟩),ay (ab ⟨bS,0,af⟩)] w λe w'=>∃N Q,e=aB (kW (ob m s o) N Q)/\fe w.heap.size w' N Q (ob m s o).data/\au w w':=by
 obtain⟨uS,U,V,M⟩:=Zk hv T hk.1 hk.2;obtain⟨t1,t2,t3⟩:=hv.ck;obtain⟨F,hn,hc,L,hsz⟩:=ea;obtain⟨r,hr⟩:=ex (cG m);obtain⟨q,K⟩:=ex (kG m s);have y:=LU hv T;obtain⟨p,x⟩:=ex (s7 m s o);obtain⟨f,I⟩:=ex (ob m s o);obtain⟨d,hdd⟩:=ex (Hr m);have arc:(if d then q -1 -o else o)=p:=by rw[<-hdd,<-K,<-x];rfl
 rw[x]at uS U V M;rw[hr]at M t2 t3 y L;rw[K]at U hk y hn;rw[hdd]at F;obtain⟨j,G⟩:=ex (p*s);rw[G]at V M;obtain⟨z,H⟩:=ex (min s (r -j));have Z:=hid (show vB m (m.to+j) z=f by rw[<-I,<-H,<-G,<-hr,<-x];rfl);rw[I];have P:=hid H;have t:=hid G;have cq:=hid E;have O:=hid (λW=>l1 _ r W t1 ad t3);have C:=hid (λW dg=>auO m (m.to+j) z A c W hv (E.aI dg) S ad ad ad);rw[Z]at C;have l:=hid (And.intro F (And.intro hn (And.intro hc (And.intro L hsz))));obtain⟨y,nI⟩:=y;clear hr K x I hdd H F hn hc L hsz E hv S;cases d;·obtain rfl:o=p:=aH;go_enter Tryz.func236,Tryz.ntmps236;have a:=a8 w;go_step;refine ah ?_;refine bl a #[J _ 0,J _ 0,J _ 0,J _ 0,ae _ 0 0] (λX w1 a=>?_);refine ah ?_;refine jf l.out.1 a.only ?_;refine cy ?_;refine bR a [9,19,23,24] (λi u=>match i with|9=>J R (m.to+r)|19=>bn #[ar #[J R f.k,J R f.to,J R f.fr,J R f.n,ae u.A f.data.length u.c],ai az]|23=>ay (ab ⟨u.b,0,af⟩)|_=>a7) (λg=>λ|19=>cx ((g 19).A) ((g 19).c) f.data|23=>aj ((g 23).b) #[J R 0,J R 0,J R 0,J R 0,ae af 0 0] 73|24=>aj ((g 23).b) #[J R f.k,J R f.to,J R f.fr,J R f.n,ae (g 19).A f.data.length (g 19).c] 73|_=>emp) (λ|24=>[24]|_=>[]) (λ_=>[]) (λ|19=>[19]|23=>[23]|24=>[19,23]|_=>[]) [0,10,20,25] (λg=>?_);refine aL _ (λ_ _ a=>mH (cs':=#[J R m.k,J R m.to,J R m.fr,J R m.n,ae A m.data.length c]) aa aa (aX.aI l.2.2.1 a.only) aw (of_decide_eq_true aw) aw aw) ?_;refine aJ ?_;refine aL (J _ _) (λ_ _ a=>fH aa aa (aX.aI l.2.2.2.1 a.only) aa aw) ?_;refine aJ ?_;refine aL (J _ s) (λ_ _ a=>fH aa aa (aX.aI l.2.2.2.2 a.only) aa aw) ?_;refine aL _ (λ_ _ _=>lY _ _ _ _ aa _ _ j aa aa t ad ad) ?_;refine qh _ j (m.to+j) ?_;refine aL (J _ s) (λ_ _ a=>fH aa aa (aX.aI l.2.2.2.2 a.only) aa aw) ?_;refine aL _ (λ_ _ a=>mH (cs':=#[J R m.to,J R r]) aa aa (aX.aI l.2.2.2.1 a.only) aw (of_decide_eq_true aw) aw aw) ?_;refine dK (λ_ _ _=>O _) ?_;refine aJ ?_;refine aL (J _ _) (λ_ _ a=>fH aa aa (aX.aI l.2.2.2.1 a.only) aa aw) ?_;refine CE _ _ r ?_;refine aJ ?_;refine aL (J _ s) (λ_ _ a=>fH aa aa (aX.aI l.2.2.2.2 a.only) aa aw) ?_;refine aL _ (λ_ _ _=>lY _ _ _ _ aa _ _ j aa aa t ad ad) ?_;refine CE r j (r -j) ?_;refine aL (J R z) (λ_ _ _=>by(have h:=P.out;go_simp;try rw[h])) ?_;refine aJ ?_;refine EE (λ_ _ a=>C _ a.only) ?_;refine da ?_;refine rh _ ?_;refine fS _ ?_;refine aJ ?_;refine bW λaT a=>?_;generalize (g 19).A=B at a⊢;generalize (g 19).c=D at a⊢;generalize (g 23).b=Y at a⊢;replace a:=a.drop 1;refine ah ?_;refine bh a 2 #[J R f.k,J R f.to,J R f.fr,J R f.n,ae B f.data.length D] ?_;refine a' a 0 (ar _) (λbF a=>?_);refine an ?_;go_wp2_with fail;refine c' (v:=_) (gG aa _ _ _ _ _ _ _ aa (a.aW 0) fO aa aw) aa (⟨_,_,aa,(a.fresh 1).Dy,a.only⟩)
 .have arc:q -1 -o=p:=aH;go_enter Tryz.func236,Tryz.ntmps236;have a:=a8 w;go_step;refine ah ?_;refine bl a #[J _ 0,J _ 0,J _ 0,J _ 0,ae _ 0 0] (λX b8 a=>?_);refine ah ?_;refine jf l.out.1 a.only ?_;refine ah ?_;refine jf l.out.2.1 a.only ?_;refine jW q 1 (q -1) ?_;refine ag ?_;refine jW _ o p ?_;refine hX ?_;refine bR a [9,19,23,24] (λi u=>match i with|9=>J R (m.to+r)|19=>bn #[ar #[J R f.k,J R f.to,J R f.fr,J R f.n,ae u.A f.data.length u.c],ai az]|23=>ay (ab ⟨u.b,0,af⟩)|_=>a7) (λg=>λ|19=>cx ((g 19).A) ((g 19).c) f.data|23=>aj ((g 23).b) #[J R 0,J R 0,J R 0,J R 0,ae af 0 0] 73|24=>aj ((g 23).b) #[J R f.k,J R f.to,J R f.fr,J R f.n,ae (g 19).A f.data.length (g 19).c] 73|_=>emp) (λ|24=>[24]|_=>[]) (λ_=>[]) (λ|19=>[19]|23=>[23]|24=>[19,23]|_=>[]) [0,10,20,25] (λg=>?_);refine aL _ (λ_ _ a=>mH (cs':=#[J R m.k,J R m.to,J R m.fr,J R m.n,ae A m.data.length c]) aa aa (aX.aI l.2.2.1 a.only) aw (of_decide_eq_true aw) aw aw) ?_;refine aJ ?_;refine aL (J _ _) (λ_ _ a=>fH aa aa (aX.aI l.2.2.2.1 a.only) aa aw) ?_;refine aJ ?_;refine aL (J _ s) (λ_ _ a=>fH aa aa (aX.aI l.2.2.2.2 a.only) aa aw) ?_;refine aL _ (λ_ _ _=>lY _ _ _ _ aa _ _ j aa aa t ad ad) ?_;refine qh _ j (m.to+j) ?_;refine aL (J _ s) (λ_ _ a=>fH aa aa (aX.aI l.2.2.2.2 a.only) aa aw) ?_;refine aL _ (λ_ _ a=>mH (cs':=#[J R m.to,J R r]) aa aa (aX.aI l.2.2.2.1 a.only) aw (of_decide_eq_true aw) aw aw) ?_;refine dK (λ_ _ _=>O _) ?_;refine aJ ?_;refine aL (J _ _) (λ_ _ a=>fH aa aa (aX.aI l.2.2.2.1 a.only) aa aw) ?_;refine CE _ _ r ?_;refine aJ ?_;refine aL (J _ s) (λ_ _ a=>fH aa aa (aX.aI l.2.2.2.2 a.only) aa aw) ?_;refine aL _ (λ_ _ _=>lY _ _ _ _ aa _ _ j aa aa t ad ad) ?_;refine CE r j (r -j) ?_;refine aL (J R z) (λ_ _ _=>by(have h:=P.out;go_simp;try rw[h])) ?_;refine aJ ?_;refine EE (λ_ _ a=>C _ a.only) ?_;refine da ?_;refine rh _ ?_;refine fS _ ?_;refine aJ ?_;refine bW λcA a=>?_;generalize (g 19).A=B at a⊢;generalize (g 19).c=D at a⊢;generalize (g 23).b=Y at a⊢;replace a:=a.drop 1;refine ah ?_;refine bh a 2 #[J R f.k,J R f.to,J R f.fr,J R f.n,ae B f.data.length D] ?_;refine a' a 0 (ar _) (λcR a=>?_);refine an ?_;go_wp2_with fail;refine c' (v:=_) (gG aa _ _ _ _ _ _ _ aa (a.aW 0) fO aa aw) aa (⟨_,_,aa,(a.fresh 1).Dy,a.only⟩)
def anG m A c(s b)w(l:p0 w m A c)(hv:gd m)(p:m.data.length<=140737488355328)(d:1<=s)(hk:0<=b/\b<kG m s):
 aD ax 222 #[kW m A c,J R s,J R b] w λe w'=>∃f j,e=aB (bn #[kW (ob m s b) f j,ai az])/\fe w.heap.size w' f j (ob m s b).data/\au w w':=by
 have o:=hv.ck;have h:=hid (λW=>Hy m A c s W o.2.1 ad d);have u:=hid (λW=>auX m A c s W hv d);have i:=hid (λW b' iv iG ix bS h1 g=>aeT m A c b' iv iG ix bS s b W h1 (l.aI g) hv p d hk);obtain⟨q,t⟩:=ex (kG m s);obtain⟨E,r⟩:=ex (ob m s b);rw[r]at i⊢;rw[t]at hk h;obtain⟨D,hk2⟩:=hk;have hk3:¬b<0:=ad;have hk4:¬b>=q:=ad;clear t r o hv d p l;go_enter func222,ntmps222;have a:=a8 w;go_step;refine ah ?_;refine bL a (ar _) (λz w1 a=>?_);refine bl a #[J _ 0,J _ 0,J _ 0,J _ 0,ae _ 0 0] (λB F a=>?_);refine By ?_;refine bh a 1 #[J R m.k,J R m.to,J R m.fr,J R m.n,ae A m.data.length c] ?_;refine ag ?_;refine bC (h _) a (λG a=>?_);refine v2 ?_;refine ah ?_;refine bh a 1 #[J R m.k,J R m.to,J R m.fr,J R m.n,ae A m.data.length c] ?_;refine ag ?_;refine aR (u _) ?_;rintro e H ⟨b',iv,iG,ix,bS,rfl,x,g⟩;replace a:=a.aI g;refine aU ?_;refine ag ?_;refine du (i.out _ _ _ _ _ _ x a.only) a (λy C I a=>?_);refine a' a 1 (ar _) (λK a=>?_);refine bX ?_;go_wp2_with fail;refine c' (v:=_) (mh aa aa aa (a.aW 1) aw aw) aa (⟨_,_,aa,(a.fresh 0).Dy,a.only⟩)
abbrev jO:=(Int×Int)×Int
def yN:jO:=((0,0),0)
def nC(w:aQ)(A:Option bT)(S:List jO):Prop:=
 0<S.length->∃b off,A=ab ⟨b,off,af⟩/\∀j,j<S.length->w.cell? ⟨b,off+j*3,af⟩=ab (J R (S[j]?.getD yN).1.1)/\w.cell? ⟨b,off+j*3+1,af⟩=ab (J R (S[j]?.getD yN).1.2)/\w.cell? ⟨b,off+j*3+2,af⟩=ab (J R (S[j]?.getD yN).2)
def nC.only{F w w' A S}(h:nC w A S)(k:av F w w')(hn:∀b off,A=ab ⟨b,off,af⟩->¬F b):nC w' A S:=λc=>by obtain⟨b,off,rfl,hc⟩:=h c;exact⟨b,_,rfl,λj a=>⟨k.cell (hc j a).1 (hn b _ aa),k.cell (hc j a).2.1 (hn b _ aa),k.cell (hc j a).2.2 (hn b _ aa)⟩⟩
def nC.aI{w w' A S}(h:nC w A S)(k:au w w'):nC w' A S:=h.only k (λ_ _ _ a=>a)
def oG(w:aQ)(p:Nat)(S:List jO):Prop:=∃A c,w.heap[p]?=ab (.cells #[ae A S.length c] 411 (0,0))/\nC w A S/\S.length<=1048576
def oG.aI{w w' p S}(h:oG w p S)(k:au w w'):oG w' p S:=by obtain⟨A,c,h1,a,b⟩:=h;exact⟨A,c,k.heap h1 (λh=>h),a.aI k,b⟩
def j0(S:List jO):Prop:=S.Pairwise (λx y=>x.1.1+x.1.2<=y.1.1)/\∀x∈S,eY x.1/\0<x.1.2
def xu p S w(h:oG w p S):aD ax 311 #[ay (ab ⟨p,0,af⟩)] w λe w'=>e=aB (J R S.length)/\w=w':=by obtain⟨A,c,h1,a,d⟩:=h;have f:=cell_of_one h1;have b:=hid a;clear h1 a;go_enter func311,ntmps311;go_wp2;go_ret;exact⟨aa,aa⟩
def IsCut(n:Nat)(p:Nat->Bool)(k:Nat):Prop:=k<=n/\(∀t,t<k->p t=ao)/\(∀t,k<=t->t<n->p t=az)
def NW (g:Nat) du n p w (hn:n<=1048576) (A:∀args w,(kB g args).run ax w=bf (.enter g args) w)
 (s:∀(W) (i:Nat),i<n->au w W->aD ax g (#[J R i]++du) W λe w'=>e=aB (ai (p i))/\au W w')
 (c:∀a b,a<=b->b<n->p a=az->p b=az):
 aD ax 287 #[J R n,dI (ed g) #[] du] w λe w'=>∃k:Nat,e=aB (J R k)/\IsCut n p k/\au w w':=by
 have l:=hid (And.intro s c);clear s c;go_enter func287,ntmps287;go_wp2_with fail;go_loopg [5,6] (n+1) (λu y hv wr=>∃lo hi:Nat,y=J R lo/\hv=J R hi/\lo<=hi/\hi<=n/\hi -lo<u/\aE ((∀t,t<lo->p t=ao)/\(∀t,hi<=t->t<n->p t=az))/\au w wr);case atStart=>exact⟨0,n,aa,aa,cC _,b9 _,ad,hid ⟨λt h=>ad,λt h1 q=>ad⟩,av.refl _ _⟩
 case round=>
  obtain⟨lo,hi,rfl,rfl,h1,q,B,d,r⟩:=hrel;have f:=hid r;clear r;by_cases hlt:lo<hi
  .have C:(lo:Int)<(hi:Int):=ad;obtain⟨m,c⟩:∃m,m=(lo+hi)/2:=⟨_,aa⟩;have F:((lo:Int)+(hi:Int))/2=(m:Int):=ad;have D:lo<=m:=ad;have E:m<hi:=ad;have z:=hid c;have hc:=l.out.1 wr m ad f.out;clear c;cases hp:p m with
   |false=>
    rw[hp]at hc;have o:=hid hp;clear hp;go_wp2_with (go_at_fn g;refine hc.mono ?_;clear hc;rintro e w1 ⟨rfl,hg1⟩);have j:=hid (au.trans f.out hg1);clear hg1;go_roundg (hi -(m+1)+1);case measure=>omega
    case rel=>exact⟨m+1,hi,bc,aa,ad,q,ad,hid ⟨λt G=>(by
     cases h:p t with
     |false=>rfl
     |true=>have:=l.out.2 t m ad ad h;rw[o.out]at this;cases this),d.out.2⟩,j.out⟩
   |true=>
    rw[hp]at hc;have o:=hid hp;clear hp;go_wp2_with (go_at_fn g;refine hc.mono ?_;clear hc;rintro e w1 ⟨rfl,hg1⟩);have j:=hid (au.trans f.out hg1);clear hg1;go_roundg (m -lo+1);case measure=>omega
    case rel=>exact⟨lo,m,aa,bc,ad,ad,ad,hid ⟨d.out.1,λt v x=>l.out.2 m t v x o.out⟩,j.out⟩
  .obtain rfl:lo=hi:=ad;go_wp2;go_ret;exact⟨lo,aa,⟨q,d.out.1,d.out.2⟩,f.out⟩
def k0(E:List (Int×Int)):Int:=E.foldr (λe n=>e.2+n) 0
def ZX{E}(h:∀e∈E,0<=e.2):0<=k0 E:=by
 induction E with
 |nil=>exact Int.le_refl _
 |cons e r a=>grind[k0]
def RQ(E F):k0 (E++F)=k0 E+k0 F:=by
 induction E with
 |nil=>simp[k0]
 |cons e r a=>grind[k0]
def ZZ{E}(h:∀e∈E,0<=e.2)k:0<=k0 (E.take k)/\k0 (E.take k)<=k0 E:=by have h1:=RQ (E.take k) (E.drop k);rw[oa]at h1;have b:=ZX (E:=E.take k) (λe a=>h e (List.mem_of_mem_take a));have c:=ZX (E:=E.drop k) (λe a=>h e (List.mem_of_mem_drop a));omega
def ZY{E:List (Int×Int)}{k x}(hx:E[k]?=ab x):k0 (E.take (k+1))=k0 (E.take k)+x.2:=by rw[gq,hx,Cj,RQ];simp[k0]
def axP A c E w(m:kU w A E)(hle:E.length<=1048576)(hv:∀e∈E,0<=e.2)(n:k0 E<=4611686018427387903):
 aD ax 137 #[ae A E.length c] w λe w'=>e=aB (bn #[J R (k0 E),ai az])/\au w w':=by
 have p:=hid m;have t:=hid hv;have r:=hid n;clear m hv n;go_enter func137,ntmps137;have a:=a8 w;go_upto_region 0 with fail;refine cw ?_;refine v2 ?_;refine an ?_;go_upto_region 1 with fail;refine cw ?_;refine ag ?_;refine an ?_;go_upto_region 2 with fail;refine cw ?_;refine v3 ?_;refine L' ?_;go_loopw [4,9] (λo i wr=>∃q:Nat,q<=E.length/\i=J R q/\o=J R (k0 (E.take q))/\ak w (λ_=>False) wr []) (λo i wr=>E.length -(bQ i).toNat);case atStart=>grind[k0]
 case round=>
  clear a;obtain⟨q,B,rfl,rfl,a⟩:=hrel;obtain⟨s,b⟩:=ex (k0 (E.take q));rw[b];have j:=hid b;by_cases hlt:q<E.length
  .have z:(q:Int)<(E.length:Int):=ad;obtain⟨x,hx⟩:∃x,E[q]?=ab x:=⟨_,cE hlt⟩;have k:=hid hx;obtain⟨hD,of,rfl,hcell⟩:=p ad;obtain⟨d,f⟩:=hcell q hlt;simp only[hx,Option.getD_some]at d f;obtain⟨cW,bk⟩:=x;simp only at d f;have g:=ZZ t (q+1);rw[ZY k,j]at g;have u:=r.out;simp only at g;have y:¬s+bk>4611686018427387903:=ad;have hg1:-9223372036854775808<=s+bk:=ad;have l:=hid (And.intro d f);clear b hx hcell g u d f;go_upto_region 4 with fail;refine cw ?_;refine aG (ay (ab ⟨hD,(of+q*2),af⟩)) (b4 176 35 2 (bj 7) (bj 9) aa underlying176 bc _ _ _ _ _ _ aa aa hlt aa) ?_;refine aG (ar #[J R cW,J R bk]) (adG 35 aa aa (a.only.cell l.1 (λh=>h)) (a.only.cell l.2 (λh=>h)) Tryz.underlying35 aa bc) ?_;refine bl a #[J _ 0,J _ 0] (λv w1 a=>?_);refine a' a 0 (ar _) (λC a=>?_);refine an ?_;go_upto_region 5 with fail;refine cw ?_;refine v2 ?_;refine pl a 0 1 ?_;refine pad s bk (s+bk) ?_;refine ag ?_;refine an ?_;go_upto_region 6 with fail;refine cw ?_;refine v2 ?_;refine an ?_;go_wp2_with fail;go_roundw;case rel=>exact⟨q+1,ad,by go_num,by rw[ZY k,j],a.drop 0⟩
   case measure=>grind[bQ]
  .obtain rfl:q=E.length:=ad;rw[lp]at b;go_upto_region 9 with fail;refine cw ?_;refine v3 ?_;refine an ?_;go_wp2_with fail;go_ret2;exact⟨by rw[b];rfl,a.only⟩
def cU(w:aQ)(A:Option bT)(ms:List bO):Prop:=0<ms.length->∃b off,A=ab ⟨b,off,af⟩/\∀(j:Nat) (m:bO),ms[j]?=ab m->∃a c,(w.cell? ⟨b,off+j*5,af⟩=ab (J R m.k)/\w.cell? ⟨b,off+j*5+1,af⟩=ab (J R m.to)/\w.cell? ⟨b,off+j*5+2,af⟩=ab (J R m.fr)/\w.cell? ⟨b,off+j*5+3,af⟩=ab (J R m.n)/\w.cell? ⟨b,off+j*5+4,af⟩=ab (ae a m.data.length c))/\p0 w m a c
def cU.aI{w w' A ms}(h:cU w A ms)(g:au w w'):cU w' A ms:=λo=>by obtain⟨b,off,e,hc⟩:=h o;refine⟨b,_,e,λj m n=>?_⟩;obtain⟨a,c,⟨d,h1,f,i,k⟩,l⟩:=hc j m n;exact⟨a,c,⟨g.cell d (λh=>h),g.cell h1 (λh=>h),g.cell f (λh=>h),g.cell i (λh=>h),g.cell k (λh=>h)⟩,l.aI g⟩
theorem cU.jb{w A ms}(h:cU w A ms){j m}(f:ms[j]?=ab m):∃d l a c,A=ab ⟨d,l,af⟩/\(∀W,au w W->p0 W m a c)/\∀W,au w W->W.rangeAt d (l+j*5) [J R m.k,J R m.to,J R m.fr,J R m.n,ae a m.data.length c]:=by
 have u:=(eJ.1 f).1;obtain⟨b,off,e,hc⟩:=h ad;obtain⟨a,c,⟨o,h1,p,q,r⟩,s⟩:=hc j m f;refine⟨b,_,a,c,e,λW g=>s.aI g,λW g i v hi=>?_⟩;have t:i<5:=(eJ.1 hi).1;obtain rfl|rfl|rfl|rfl|rfl:i=0\/i=1\/i=2\/i=3\/i=4:=ad;·cases hi;exact g.cell o (λh=>h)
 .cases hi;exact g.cell h1 (λh=>h)
 .cases hi;exact g.cell p (λh=>h)
 .cases hi;exact g.cell q (λh=>h)
 .cases hi;exact g.cell r (λh=>h)
def Cx(s:Int)(m:bO):List bO:=(dQ (kG m s).toNat).map (λ(k:Nat)=>ob m s (k:Int))
def ec(s:Int)(ms:List bO):List bO:=ms.flatMap (Cx s)
def lZ(s:Int)(ms:List bO)(i:Nat):Nat:=(ec s (ms.take i)).length
theorem Zj s m:(Cx s m).length=(kG m s).toNat:=by simp[Cx]
theorem Zr s(a b):ec s (a++b)=ec s a++ec s b:=by simp[ec]
theorem Rq{s ms i m}(h:ms[i]?=ab m):lZ s ms (i+1)=lZ s ms i+(kG m s).toNat:=by grind[lZ,gq,ec,Zj]
theorem Rp s ms:lZ s ms ms.length=(ec s ms).length:=by grind[lZ]
def Y'{s ms i j}(h:i<=j):lZ s ms i<=lZ s ms j:=by grind[lZ,Zr,oa]
def aoj{s ms k i m}(a:ms[k]?=ab m)(h1:lZ s ms k<=i)(b:i<lZ s ms (k+1)):(ec s ms)[i]?=ab (ob m s ((i -lZ s ms k:Nat):Int)):=by
 have hk:=(eJ.1 a).1;have dE:ms=ms.take k++(m::ms.drop (k+1)):=by grind[oa,List.drop_eq_getElem_cons]
 have e:ec s ms=ec s (ms.take k)++(Cx s m++ec s (ms.drop (k+1))):=by
  conv=>lhs;rw[dE]
  rw[Zr];rfl
 grind[Rq,lZ,Cx]
structure Ck (w:aQ) (p:Nat) (s:Int) (ms:List bO):Prop where
 ex:∃F jc G re A c,(w.cell? ⟨p,0,af⟩=ab (J R s)/\w.cell? ⟨p,1,af⟩=ab (ae F (ms.length+1) jc)/\w.cell? ⟨p,2,af⟩=ab (ae G (ms.length+1) re)/\w.cell? ⟨p,3,af⟩=ab (ae A ms.length c))/\
  dA w F ((dQ (ms.length+1)).map (λi=>(lZ s ms i:Int)))/\cU w A ms
 dM:(ec s ms).length<=1048576/\ms.length<=1048576
 size:1<=s
 valid:∀m∈ms,gd m/\m.data.length<=140737488355328
def Ck.aI{w w' p s ms}(h:Ck w p s ms)(g:au w w'):Ck w' p s ms:=by obtain⟨F,jc,G,re,A,c,⟨a,h1,b,d⟩,e,f⟩:=h.ex;exact⟨⟨F,jc,G,re,A,c,⟨g.cell a (λh=>h),g.cell h1 (λh=>h),g.cell b (λh=>h),g.cell d (λh=>h)⟩,e.aI g,f.aI g⟩,h.dM,h.size,h.valid⟩
def axu s(F G)(n jc re)f w(hn:n<=1048576)(c:dA w F ((dQ (n+1)).map f)):
 aD ax 140 #[ar #[J R s,ae F (n+1) jc,ae G (n+1) re]] w λe w'=>e=aB (J R (f n))/\au w w':=by
 obtain⟨b,o,rfl,hcell⟩:=c bg;have z:=by have:=hcell n bg;simpa using this
 clear hcell c;have d:n<n+1:=Yl n;go_enter func140,ntmps140;have a:=a8 w;go_step;refine ah ?_;refine bL a (ar _) (λg w1 a=>?_);refine cB ?_;refine pl a 0 1 ?_;refine ag ?_;refine pl a 0 1 ?_;refine ag ?_;refine jW _ 1 (n:Int) ?_;refine aG _ (b4 82 3 1 _ _ aa jo aw _ _ _ _ _ ((o+n)) aa aa d ad) ?_;refine NM z a.only ?_;refine J8 ?_;exact⟨aa,a.only⟩
def apZ F(n jc cM eQ q)d f w(hn:n<=1048576)(c:dA w F ((dQ (n+1)).map f))(i:w.cell? ⟨cM,1,af⟩=ab (ae F (n+1) jc))(j:w.cell? ⟨eQ,0,af⟩=ab (J R d))(k:q<n):
 aD ax 288 #[J R (q:Int),ay (ab ⟨cM,0,af⟩),ay (ab ⟨eQ,0,af⟩)] w λe w'=>e=aB (ai (decide (d<f (q+1))))/\au w w':=by
 obtain⟨b,o,rfl,hcell⟩:=c bg;have g:w.cell? ⟨b,o+(q+1),af⟩=ab (J R (f (q+1))):=by have:=hcell (q+1) aH;simpa [show q+1<n+1 by omega]using this
 clear hcell c;obtain⟨c8,h⟩:=ex (q+1);rw[h]at g⊢;have hb2:c8<n+1:=ad;go_enter func288,ntmps288;have a:=a8 w;go_step;refine ah ?_;refine hX ?_;refine bR a [] (λ_ _=>a7) (λ_ _=>emp) (λ_=>[]) (λ_=>[]) (λ_=>[]) [] (λl=>?_);refine aJ ?_;refine j6 i ?_;refine aJ ?_;refine qh _ 1 (c8:Int) ?_;refine aL _ (λ_ _ _=>b4 82 3 1 _ _ aa jo aw _ _ _ _ _ ((o+c8)) aa aa hb2 ad) ?_;refine j6 g ?_;refine j6 j ?_;refine bG ?_;refine bW λw1 a=>?_;refine bE ?_;exact⟨aa,a.only⟩
def apl args w:(kB 288 args).run ax w=bf (.enter 288 args) w:=bc
def IsCut.place{n}{f:Nat->Int}{i q}(h:IsCut n (λq=>decide (i<f (q+1))) q)(h1:f 0<=i)(g:i<f n):q<n/\f q<=i/\i<f (q+1):=by
 obtain⟨a,b,c⟩:=h;simp only[decide_eq_true_eq,decide_eq_false_iff_not]at b c
 have e:q<n:=by
  rcases Nat.lt_or_ge q n with h|h;·omega
  .exfalso;obtain rfl:q=n:=ad;rcases lX q with d|d;·grind
   .have:=b (q -1) ad;grind
 refine⟨e,?_,c q (b9 _) e⟩;rcases lX q with d|d;·grind
 .have:=b (q -1) ad;grind
def apX(s d)(F G)(n jc re)f w(hn:n<=1048575)(o:dA w F ((dQ (n+1)).map f))(p:∀a b,a<=b->b<=n->f a<=f b)(h1:f 0<=d)(m:d<f n):
 aD ax 221 #[ar #[J R s,ae F (n+1) jc,ae G (n+1) re],J R d] w λe w'=>∃q:Nat,e=aB (J R (q:Int))/\(q<n/\f q<=d/\d<f (q+1))/\au w w':=by
 have r:=hid o;have x:=hid hn;have t:=hid p;have l:=hid (And.intro h1 m);have y:=hn;clear o hn p h1 m;go_enter func221,ntmps221;have c:=a8 w;go_step;refine ah ?_;refine bL c (ar _) (λj w1 c=>?_);refine bL c (J _ d) (λk z c=>?_);refine cB ?_;refine pl c 1 1 ?_;refine ag ?_;refine jW _ 1 (n:Int) ?_;refine ag ?_;refine aR (NW 288 #[ay (ab ⟨j,0,af⟩),ay (ab ⟨k,0,af⟩)] n (λq=>decide (d<f (q+1))) _ ad apl (λW q v i=>apZ F n jc j k q d f W ad (r.out.aI (c.only.trans i (λ_ _ h=>h))) (av.cell i ((c.aW 1).cell 1 aa) (λh=>h)) (av.cell i ((c.aW 0).cell 0 aa) (λh=>h)) v) (λa b hab hb u=>by simp at u⊢;have:=t (a+1) (b+1) ad ad;omega)) ?_;rintro e A ⟨q,rfl,hcut,g⟩;replace c:=c.aI g;refine aU ?_;refine J8 ?_;exact⟨q,aa,IsCut.place hcut l.1 l.2,c.only⟩
def FX p s ms w(f:Ck w p s ms):
 aD ax 60 #[ay (ab ⟨p,0,af⟩)] w λe w'=>e=aB (J R ((ec s ms).length:Int))/\au w w':=by
 obtain⟨F,jc,G,re,A,c,⟨k,l,m,u⟩,n,x⟩:=f.ex;have t:=f.dM;have d:=hid (λW r=>axu s F G ms.length jc re (λi=>(lZ s ms i:Int)) W ad r);rw[Rp]at d;have o:=hid n
 have q:aE (∀W,au w W->W.rangeAt p 0 [J R s,ae F (ms.length+1) jc,ae G (ms.length+1) re]):=hid (λW g j v b=>by
  match j,b with
  |0,b=>simpa using(g.cell k (λh=>h)).trans aH
  |1,b=>simpa using(g.cell l (λh=>h)).trans aH
  |2,b=>simpa using(g.cell m (λh=>h)).trans aH);clear t k l m u n x;go_enter func60,ntmps60;have a:=a8 w;go_step;refine ah ?_;refine ag ?_;refine ah ?_;refine v2 ?_;refine jk ?_;refine aG (ar #[J R s,ae F (ms.length+1) jc,ae G (ms.length+1) re]) (by(refine eW _ _ aa p 0 aa _ (q _ a.only) Tryz.underlying246 aa aw)) ?_;refine bC (d _ (o.out.aI a.only)) a (λw1 a=>?_);refine J8 ?_;exact⟨aa,a.only⟩
def aeV(p x)s ms w(t:Ck w p s ms)(ru:ms.length<=1048575)(hi:x<(ec s ms).length):
 aD ax 139 #[ay (ab ⟨p,0,af⟩),J R (x:Int)] w λe w'=>∃(q:Nat) (S:Option bT) (Y:Nat) (m:bO),e=aB (bn #[ar #[J R (x:Int),J R (q:Int),J R m.k,J R m.to,J R m.fr,J R m.n,ae S m.data.length Y],ai az])/\(ec s ms)[x]?=ab m/\fe w.heap.size w' S Y m.data/\au w w':=by
 obtain⟨F,jc,G,re,A,c,⟨O,P,z2,z3⟩,Q,Om⟩:=t.ex;obtain⟨dM,Z4⟩:=t.dM;have L:=t.size;have akO:=hid (λW E=>FX p s ms W (t.aI E));have fU:0<ms.length:=by grind[ec]
 obtain⟨X,bN,rfl,abe⟩:=Om fU;obtain⟨B,z,rfl,abf⟩:=Q bg;have cF:=hid (λW E=>apX s (x:Int) (ab ⟨B,z,af⟩) G ms.length jc re (λi=>(lZ s ms i:Int)) W ru (Q.aI E) (λa b hab _=>by have:=Y' (s:=s) (ms:=ms) hab;omega) (by simp[lZ,ec]) (by grind[Rp]))
 have Qm:aE (∀W,au w W->W.rangeAt p 0 [J R s,ae (ab ⟨B,z,af⟩) (ms.length+1) jc,ae G (ms.length+1) re]):=hid (λW g j v o=>by
  match j,o with
  |0,o=>simpa using(g.cell O (λh=>h)).trans aH
  |1,o=>simpa using(g.cell P (λh=>h)).trans aH
  |2,o=>simpa using(g.cell z2 (λh=>h)).trans aH);have fp:(x:Int)<((ec s ms).length:Int):=ad;have dS:=hid (And.intro hi (And.intro dM Z4));have wU:=hid t.valid;have iz:=hid abe;have ye:=hid abf;clear dM Z4 hi abe abf Om Q t z2;go_enter Tryz.func139,Tryz.ntmps139;have f:=a8 w;go_step;refine ah ?_;refine bl f #[J _ 0,J _ 0,J _ 0,J _ 0,J _ 0,J _ 0,ae _ 0 0] (λdw w1 f=>?_);refine ag ?_;refine ah ?_;refine v5 ?_;refine bC (akO _ f.only) f (λaT f=>?_);refine v2 ?_;refine jk ?_;refine aG (ar #[J R s,ae (ab ⟨B,z,af⟩) (ms.length+1) jc,ae G (ms.length+1) re]) (by(refine eW _ _ aa p 0 aa _ (Qm _ f.only) Tryz.underlying246 aa aw)) ?_;refine ag ?_;refine aR (cF _ f.only) ?_;rintro e bF ⟨q,rfl,hq,g⟩;replace f:=f.aI g;refine Gl ?_;obtain⟨o0,I,K⟩:=hq;try simp only at I K
 obtain⟨m,y⟩:∃m,ms[q]?=ab m:=⟨_,cE o0⟩;obtain⟨U,aY,⟨eH,cW,bk,iu,hJ⟩,qI⟩:=iz q m y;have N:w.cell? ⟨B,z+q,af⟩=ab (J R (lZ s ms q:Int)):=by have:=ye q aH;grind
 have hst:=aoj (s:=s) y (i:=x) ad ad;have M:=Rq (s:=s) y;have hv:=wU m (cX y);have db:=(LU hv.1 L).1;obtain⟨D,AL⟩:=ex (lZ s ms q);rw[AL]at I M hst N;rw[M]at K;obtain⟨d,hd⟩:=ex (x -D);rw[hd]at hst;obtain⟨l,H⟩:=ex (ob m s (d:Int));rw[H]at hst;have eg:=hid hst;have V:=hid (λW g=>anG m U aY s (d:Int) W (qI.aI g) hv.1 hv.2 L ad);rw[H]at V;have aBR:(x:Int) -(D:Int)=(d:Int):=ad;have aA5:D<=x:=ad;have aBQ:x<=1048576:=by have:=dS.out;omega
 have ak8:aE (∀W,au w W->W.rangeAt X _ [J R m.k,J R m.to,J R m.fr,J R m.n,ae U m.data.length aY]):=hid (λW g j v o=>by
  match j,o with
  |0,o=>simpa using(g.cell eH (λh=>h)).trans aH
  |1,o=>simpa using(g.cell cW (λh=>h)).trans aH
  |2,o=>simpa using(g.cell bk (λh=>h)).trans aH
  |3,o=>simpa using(g.cell iu (λh=>h)).trans aH
  |4,o=>simpa using(g.cell hJ (λh=>h)).trans aH);have acs:q<ms.length+1:=ad;have alu:=hid N;have C:=hid (And.intro O (And.intro P z3));clear y hst M hv db AL H hd I K L eH cW bk iu hJ qI N O P z3;refine cy ?_;refine bR f [22,26,27] (λi u=>match i with|22=>bn #[ar #[J R l.k,J R l.to,J R l.fr,J R l.n,ae u.A l.data.length u.c],ai az]|26=>ay (ab ⟨u.b,0,af⟩)|_=>a7) (λr=>λ|22=>cx ((r 22).A) ((r 22).c) l.data|26=>aj ((r 26).b) #[J R 0,J R 0,J R 0,J R 0,ae af 0 0] 73|27=>aj ((r 26).b) #[J R l.k,J R l.to,J R l.fr,J R l.n,ae (r 22).A l.data.length (r 22).c] 73|_=>emp) (λ|27=>[27]|_=>[]) (λ_=>[]) (λ|22=>[22]|26=>[26]|27=>[22,26]|_=>[]) [0,23,28] (λr=>?_);refine da ?_;refine j6 C.2.2 ?_;refine aJ ?_;refine aL _ (λ_ _ _=>b4 24 73 5 _ _ aa ee aw _ _ _ _ _ _ aa aa o0 aa) ?_;refine aL _ (λ_ _ f=>eW 73 _ aa X _ aa _ (ak8 _ f.only) fO aa aw) ?_;refine hW ?_;refine j6 C.1 ?_;refine oz ?_;refine j6 C.2.1 ?_;refine aJ ?_;refine aL _ (λ_ _ _=>b4 82 3 1 _ _ aa jo aw _ _ _ _ _ ((z+q)) aa aa acs ad) ?_;refine j6 alu ?_;refine CE _ _ _ ?_;refine EE (λ_ _ f=>V _ f.only) ?_;refine da ?_;refine rh _ ?_;refine fS _ ?_;refine aJ ?_;refine bW λb8 f=>?_;generalize (r 22).A=T at f⊢;generalize (r 22).c=Z at f⊢;generalize (r 26).b=ay7 at f⊢;refine gV ?_;refine bh f 2 #[J R l.k,J R l.to,J R l.fr,J R l.n,ae T l.data.length Z] ?_;refine v2 ?_;refine a' f 0 (ar _) (λcA f=>?_);refine bX ?_;go_wp2_with fail;refine c' (v:=_) (mh aa aa aa (f.aW 0) aw aw) aa (⟨q,T,Z,l,aa,eg,(f.fresh 1).Dy,f.only⟩)
section
structure dq where
 l:List Int
 len:l.length=32
def dq.zero:dq:=⟨dZ 32 0,aa⟩
def bb(o n:Int)(g h:dq)(S:aP):Array Value:=(J R o::J R n::(g.l.map a6++(h.l.map a6++[S]))).toArray
abbrev eL(o n:Int)(g h:dq)(S:aP):Value:=ar (bb o n g h S)
section
variable {o n:Int} {g h:dq} {S:aP}
theorem bH:(bb o n g h S).size=67:=by simp[bb,g.len,h.len]
def kI:(bb o n g h S)[0]?=ab (J R o):=bc
def ih:(bb o n g h S)[1]?=ab (J R n):=bc
def e':(bb o n g h S)[66]?=ab S:=by simp only[bb,Ab,vq];rw[pn (by simp[g.len]),pn (by simp[g.len,h.len])];simp[g.len,h.len]
def aoB{a}:(bb o n g h S).setIfInBounds 66 a=bb o n g h a:=by simp only[bb,alV,List.set_cons_succ];congr 3;rw[Yg _ _ (by simp[g.len]),Yg _ _ (by simp[g.len,h.len])];simp[g.len,h.len]
def sc(b:S.oneCell'=az):(bb o n g h S).all (·.oneCell')=true:=by
 rw[Ve];intro v hv;have hv':v∈(J R o::J R n::(g.l.map a6++(h.l.map a6++[S]))):=by grind[bb]
 simp at hv';rcases hv' with rfl|rfl|⟨a,_,rfl⟩|⟨a,_,rfl⟩|rfl;all_goals first|rfl|omega
end
def jt(m:bO)(A:Option bT)(c:Nat):List Value:=[J R m.k,J R m.to,J R m.fr,J R m.n,ae A m.data.length c]
def cD(l:List (bO×Option bT×Nat)):List Value:=l.flatMap (λx=>jt x.1 x.2.1 x.2.2)
def As(a b):cD (a++b)=cD a++cD b:=by simp[cD]
def CA m A c:cD [(m,A,c)]=jt m A c:=bc
theorem Zp l:(cD l).length=l.length*5:=by
 unfold cD;induction l with
 |nil=>rfl
 |cons a r b=>grind[jt]
def Cz{l j x}(hx:l[j]?=ab x):∀i v,(jt x.1 x.2.1 x.2.2)[i]?=ab v->(cD l)[j*5+i]?=ab v:=by
 induction l generalizing j with
 |nil=>grind
 |cons a r c=>
  intro i v hv;have b:(jt a.1 a.2.1 a.2.2).length=5:=rfl;unfold cD;rw[List.flatMap_cons];cases j with
  |zero=>grind
  |succ j=>
   simp at hx;rw[pn ad,b,show(j+1)*5+i -5=j*5+i by omega];exact c hx i v hv
def Q1(N:Nat)(w:aQ)(A:Option bT)(c:Nat)(ms:List bO):Prop:=
 ∃l:List (bO×Option bT×Nat),l.map (·.1)=ms/\Row N w A ms.length c 73 5 (cD l)/\∀x∈l,fe N w x.2.1 x.2.2 x.1.data
def Q1.wm{N w A c ms}(h:Q1 N w A c ms):cU w A ms:=λo=>by
 obtain⟨l,h1,b,e⟩:=h;rcases b.cases with⟨_,n,_,_⟩|⟨g,cur,d,_⟩;·omega
 .refine⟨g,0,d,λj m a=>?_⟩;subst h1;rw[j4]at a;cases hx:l[j]? with
  |none=>rw[hx]at a;cases a
  |some x=>
   rw[hx]at a;simp at a;subst a;have f:=Cz hx
   have hc:∀i v,(jt _ _ _)[i]?=ab v->w.cell? ⟨g,0+j*5+i,_⟩=ab v:=λi v hv=>by obtain⟨k,bE,cr⟩:=b.cell (f i v hv);rw[d]at bE;injection bE with bE;injection bE with bE;subst bE;rw[iY];exact cr
   exact⟨_,_,⟨hc 0 _ aa,hc 1 _ aa,hc 2 _ aa,hc 3 _ aa,hc 4 _ aa⟩,(e x (cX hx)).cmd⟩
end
section
def CB(A:Option bT)(n c:Nat)(l:List (bO×Option bT×Nat)):bq:=⟨λb=>eh A b\/∃x∈l,eh x.2.1 b,λw=>Row 0 w A n c 73 5 (cD l)/\∀x∈l,fe 0 w x.2.1 x.2.2 x.1.data,λw w' h a d=>
 ⟨(ba A n c 73 5 (cD l)).nG w w' (λb hb=>h b (b1 hb)) (λb hb=>a b (b1 hb)) d.1,λx hx=>(cx x.2.1 x.2.2 x.1.data).nG w w' (λb hb=>h b (cm ⟨x,hx,hb⟩)) (λb hb=>a b (cm ⟨x,hx,hb⟩)) (d.2 x hx)⟩⟩
def ia(t:bq)(A:Option bT)(c:Nat)(ms:List bO):Prop:=∃l:List (bO×Option bT×Nat),l.map (·.1)=ms/\t=CB A ms.length c l
def ia.av1{t A c ms W}(h:ia t A c ms)(a:t.p W):Q1 0 W A c ms:=by obtain⟨l,h1,rfl⟩:=h;exact⟨l,h1,a⟩
def ia.wm{t A c ms W}(h:ia t A c ms)(a:t.p W):cU W A ms:=(h.av1 a).wm
def ia.cmd{t A c ms}(h:ia t A c ms){j m}(a:ms[j]?=ab m):∃d f,(∀b,eh d b->t.cT b)/\∀W,t.p W->p0 W m d f/\∃g,A=ab ⟨g,0,af⟩/\W.rangeAt g (0+j*5) (jt m d f):=by
 obtain⟨l,h1,rfl⟩:=h;subst h1;rw[j4]at a;cases hx:l[j]? with
 |none=>grind
 |some x=>
  rw[hx]at a;simp at a;subst a;have n:=cX hx;refine⟨_,_,λb hb=>cm ⟨x,n,hb⟩,λW e=>⟨(e.2 x n).cmd,?_⟩⟩;obtain⟨g,k,_⟩:=e.1.cell (Cz hx 0 _ aa);refine⟨g,k,λi v hi=>?_⟩;obtain⟨o,bE,cr⟩:=e.1.cell (Cz hx i _ hi);rw[k]at bE;injection bE with bE;injection bE with bE;subst bE;rw[iY];exact cr
def xr{o n d c g h g2 b S a}:lay (bb o n g h S) 0 (bb d c g2 b a).toList=bb d c g2 b a:=by grind[lay_all,bH]
section
variable {aq w:aQ} {FX:Nat->Prop}
def gJ(l:List (bO×Option bT×Nat)):bq:=⟨λb=>∃x∈l,eh x.2.1 b,λw=>∀x∈l,fe 0 w x.2.1 x.2.2 x.1.data,λw w' h a c x hx=>
 (cx x.2.1 x.2.2 x.1.data).nG w w' (λb hb=>h b ⟨x,hx,hb⟩) (λb hb=>a b ⟨x,hx,hb⟩) (c x hx)⟩
def ak.L7{L}(h:ak aq FX w L):ak aq FX w (gJ []::L):=h.new _ ⟨av.refl _ _,λ_ h=>(fQ h).elim,λ_ ⟨_,h,_⟩=>(fQ h).elim⟩
def ak.L6{L l m A c}(h:ak aq FX w (gJ l::cx A c m.data::L)):ak aq FX w (gJ (l++[(m,A,c)])::L):=by
 refine h.star.as 0 aa _ (λa x hx=>?_) (λb hb=>?_)
 .rcases iX.1 hx with hx|hx;·exact a.1 x hx
  .obtain rfl:x=(m,A,c):=aH;exact a.2.1
 .obtain⟨x,hx,hb⟩:=hb;rcases iX.1 hx with hx|hx;·exact b1 ⟨x,hx,hb⟩
  .obtain rfl:x=(m,A,c):=aH;exact cm hb
def ak.aoX{L l m}(c:m.data=[])(h:ak aq FX w (gJ l::L)):ak aq FX w (gJ (l++[(m,af,0)])::L):=by
 refine h.as 0 aa _ (λa x hx=>?_) (λb hb=>?_)
 .rcases iX.1 hx with hx|hx;·exact a x hx
  grind[fe.nil]
 .obtain⟨x,hx,hb⟩:=hb;rcases iX.1 hx with hx|hx;·exact⟨x,hx,hb⟩
  .obtain rfl:x=(m,af,0):=aH;obtain⟨_,_,hb⟩:=hb;cases hb
def ak.CB{r l A n c}(h:ak aq FX w (ba A n c 73 5 (cD l)::gJ l::r)):ak aq FX w (Go.Proofs.YtcmhplknoglbkaaGreat.CB A n c l::r):=h.star.as 0 aa _ (λh=>⟨h.1,h.2.1⟩) (λ_ hb=>hb)
variable {o n:Int} {g h:dq} {S gQ:aP}
def Zt(a:gQ.cells=#[gQ]:=by rfl):66+gQ.cells.size<=(bb o n g h S).size:=by grind[bH]
def Zv(a:gQ.cells=#[gQ]:=by rfl):lay (bb o n g h S) 66 gQ.cells.toList=bb o n g h gQ:=by rw[a];exact aoB
end
def JB(o n)(g h)S A c ms w(hS:S.oneCell'=az)(H:cU w A ms)(hle:ms.length<=1048576)(hv:∀m∈ms,m.data.length<=140737488355328):
 aD ax 56 #[eL o n g h S,ae A ms.length c] w λe w'=>∃s B t,e=aB (eL o n g h (ae s ms.length B))/\cf w w' t/\ia t s B ms:=by
 have P:=hid H;have T:=hid hv;clear H hv;have aBi:=hle;go_enter func56,ntmps56;have a:=a8 w;go_upto_region 0 with fail;refine cw ?_;refine bL a (ar _) (λb' w1 a=>?_);refine bl a (bb 0 0 dq.zero dq.zero _) (λL aT a=>?_);refine b5 ?_;refine a' a 1 (ae af 0 0) (λbF a=>?_) (hk:=Zt) (hc:=Zv);refine ah ?_;refine v3 ?_;refine an ?_;replace a:=a.pk [1,0];replace a:=a.L7.lA (av.refl _ _) (Row.nil _ _ 73 5);go_wp2_with fail;go_loopw [10] (λr wr=>∃(q:Nat) (f:Option bT) (j:Nat) (l:List (bO×Option bT×Nat)),q<=ms.length/\r=J R q/\aE (l.map (·.1)=ms.take q)/\ak w (λ_=>False) wr [ba f q j 73 5 (cD l),gJ l,aj b' (bb o n g h (ae f q j)) 26,aj L (bb 0 0 dq.zero dq.zero (ae af 0 0)) 26]) (λr wr=>ms.length -(bQ r).toNat);case atStart=>exact⟨0,_,0,[],cC _,aa,hid aa,a⟩
 case round=>
  clear a;obtain⟨q,f,j,l,hq,rfl,z,a⟩:=hrel;by_cases hlt:q<ms.length
  .have cb:(q:Int)<(ms.length:Int):=ad;obtain⟨m,p⟩:∃m,ms[q]?=ab m:=⟨_,cE hlt⟩;obtain⟨U,bN,y,D,E,F,G⟩:=cU.jb P p;have M:=hid E;have N:=hid F;have O:=hid G;have Q:=hid p;have V:=T m (cX p);clear E F G p;go_upto_region 4 with fail;refine cw ?_;refine aG _ (b4 24 73 5 _ _ aa ee aw _ _ _ _ _ _ (by show ae A _ _=_;rw[M]) aa hlt aa) ?_;refine aG _ (by(refine eW 73 _ aa U _ aa _ (O _ a.only) fO aa aw)) ?_;refine bl a #[J _ 0,J _ 0,J _ 0,J _ 0,ae _ 0 0] (λX b8 a=>?_);refine a' a 0 (ar _) (λcA a=>?_);refine cy ?_;refine bR a [3,4,5,7] (λi u=>match i with|3=>ar #[J R m.k,J R m.to,J R m.fr,J R m.n,ae u.A m.data.length u.c]|4=>ae (ab ⟨u.b,0,af⟩) 1 1|5=>ae u.A (q+1) u.c|_=>a7) (λd=>λ|3=>cx ((d 3).A) ((d 3).c) m.data|4=>aj ((d 4).b) #[J R m.k,J R m.to,J R m.fr,J R m.n,ae (d 3).A m.data.length (d 3).c] 73|5=>ba ((d 5).A) (q+1) ((d 5).c) 73 5 (cD l++([J R m.k,J R m.to,J R m.fr,J R m.n,ae (d 3).A m.data.length (d 3).c]))|7=>aj b' (bb o n g h (ae (d 5).A (q+1) (d 5).c)) 26|_=>emp) (λ|5=>[1]|7=>[3]|_=>[]) (λ|1=>[3]|2=>[0]|5=>[9]|_=>[]) (λ|3=>[3]|4=>[3,4]|5=>[3,5]|7=>[5]|_=>[]) [0,2,4,8,9,10,12] (λd=>?_);refine aJ ?_;refine dl 0 66 ?_ (hv:=e');refine eM 0 #[J R m.k,J R m.to,J R m.fr,J R m.n,ae y m.data.length D] ?_;refine EE (λ_ _ a=>Rs _ _ _ _ y D _ _ (N _ a.only).1 V) ?_;refine kH #[J _ _,J _ _,J _ _,J _ _,ae (d 3).A _ (d 3).c] 73 ?_;refine ri (m:=1) 56 (λ_ _ a=>aX.cellsOf (m:=1) (a.aW 1) aa) (by intro u K;simp at K;rcases K with rfl|rfl|rfl|rfl|rfl<;>rfl) ?_;refine aJ ?_;refine fS _ ?_ (hk:=Zt) (hc:=Zv);refine bW λcR a=>?_;generalize (d 3).A=x at a⊢;generalize (d 3).c=C at a⊢;generalize (d 4).b=Y at a⊢;generalize (d 5).A=W at a⊢;generalize (d 5).c=Z at a⊢;replace a:=a.pk [1,3,5,6,2];replace a:=a.L6.pk [1,0,2,3];go_wp2_with fail;go_roundw
   case rel=>
    have e:(cD l++([J R m.k,J R m.to,J R m.fr,J R m.n,ae x m.data.length C]))=cD (l++[(m,x,C)]):=by rw[As,CA];rfl
    rw[e]at a;exact⟨_,_,_,_,ad,by go_num,hid (by rw[fP,z,gq,Q];rfl),a⟩
   case measure=>grind[bQ]
  .obtain rfl:q=ms.length:=ad;have I:=z.out;rw[lp]at I;go_upto_region 7 with fail;refine cw ?_;refine bh a 2 (bb o n g h (ae f ms.length j)) ?_ (hv:=(e6 _)) (hk:=by omega) (hz:=(by rw[bH];rfl));refine a' a 3 (ar _) (λdz a=>?_) (hk:=by show 0+gw (bb _ _ _ _ _)<=_;simp only[bH];decide) (hz:=by show _=ab (gw (bb _ _ _ _ _));rw[bH];rfl) (h1:=(sc aa)) (hc:=xr);refine an ?_;replace a:=a.CB;go_wp2_with fail;refine c' (v:=_) (gG aa _ _ _ _ _ _ _ aa (a.aW 2) Tryz.underlying26 aa (by rw[bH];rfl)) aa (⟨f,j,_,aa,a.fresh 0,l,I,aa⟩)
end
def Row.NY{N n c w A xs}(h:Row N w A n c 3 1 (xs.map (J R))):dA w A xs:=dA.ot h
def anq E x:mx (E++[x])=mx E++[J R x.1,J R x.2]:=by simp[mx]
def Row.Uv{N c w A E n}(h:Row N w A n c 35 2 (mx E)):n=E.length/\kU w A E:=by
 have a:n=E.length:=by have:=h.1;rw[Y4]at this;omega
 grind[kU.ot]
def Row.at{N n c e sz:Nat}{w A xs}(h:Row N w A n c e sz xs)(hn:0<n):∃g,A=ab ⟨g,0,af⟩:=by
 rcases h.cases with⟨_,a,_⟩|⟨g,_,h1,_⟩;·omega
 .grind
def Row.cellAt{N n c e sz g:Nat}{w xs}(h:Row N w (ab ⟨g,0,af⟩) n c e sz xs){j v}(a:xs[j]?=ab v):w.cell? ⟨g,j,af⟩=ab v:=by obtain⟨b,bE,cr⟩:=h.cell a;grind
def vy(ms:List bO)(i:Nat):Int:=k0 ((ms.take i).map ck)
def amU{ms q m}(h:ms[q]?=ab m):vy ms (q+1)=vy ms q+cG m:=by unfold vy;rw[gq,h,Cj,fP,RQ];simp[k0,ck]
def YO{ms}(h:∀m∈ms,gd m){q}:0<=vy ms q/\vy ms q<=k0 (ms.map ck):=by unfold vy;rw[List.map_take];exact ZZ (E:=_) (λe a=>by obtain⟨m,b,rfl⟩:=gP.1 a;have:=(h m b).ck;show 0<=cG m;omega) q
def sS(t:bq)(p:Nat)(s:Int)(ms:List bO):Prop:=∀W,t.p W->Ck W p s ms
set_option maxHeartbeats 2000000 in
def au3 s A c ms w(hl:cU w A ms)(hf2:ms.length<=1048575)(hf:(ec s ms).length<=1048576)(hs:1<=s)(hv:∀m∈ms,gd m/\m.data.length<=140737488355328)(ht:k0 (ms.map ck)<=4611686018427387903):
 aD ax 57 #[J R s,ae A ms.length c] w λe w'=>∃p t,e=aB (ay (ab ⟨p,0,af⟩))/\cf w w' t/\sS t p s ms:=by
 have cK:=hid hl;have v:=hid hv;have cF:=hid (And.intro hf hf2);have eb:=hid ht;have hs1:¬s<1:=ad;have V:=hid hs;clear hl hv hf ht;go_enter func57,ntmps57;have a:=a8 w;go_upto_region 0 with fail;refine cw ?_;refine ag ?_;refine an ?_;go_upto_region 1 with fail;refine cw ?_;refine v2 ?_;refine an ?_;go_upto_region 3 with fail;refine cw ?_;refine ag ?_;refine e7 a #[J R 0] 3 (λQ w1 a=>?_);refine e7 a #[J R 0] 3 (λS aT a=>?_);refine v2 ?_;refine bL a (ar _) (λy bF a=>?_);refine ag ?_;refine an ?_;go_upto_region 4 with fail;refine cw ?_;refine ag ?_;refine an ?_;go_upto_region 5 with fail;refine cw ?_;refine v3 ?_;refine an ?_;replace a:=a.pk [0,2,1];replace a:=a.lA (av.refl _ _) (Row.nil _ _ 35 2);go_wp2_with fail;go_loopw [6,23] (λev z wr=>∃(q:Nat) (L:Option bT) (M:Nat),q<=ms.length/\z=J R q/\ev=ae L q M/\ak w (λ_=>False) wr [ba L q M 35 2 (mx ((ms.take q).map ck)),aj y #[J R s,ae (ab ⟨Q,0,af⟩) 1 1,ae (ab ⟨S,0,af⟩) 1 1,ae af 0 0] 248,aj Q #[J R 0] 3,aj S #[J R 0] 3]) (λev z wr=>ms.length -(bQ z).toNat);case atStart=>exact⟨0,_,0,cC _,aa,aa,a⟩
 case round=>
  clear a;obtain⟨q,L,M,hq,rfl,rfl,a⟩:=hrel;by_cases hlt:q<ms.length
  .have cb:(q:Int)<(ms.length:Int):=ad;obtain⟨m,j⟩:∃m,ms[q]?=ab m:=⟨_,cE hlt⟩;obtain⟨F,I,f,g,G,H,x⟩:=cU.jb cK j;have T:=hid G;have iz:=hid H;have U:=hid x;have o:=hid j;clear G H x j;have Il:=(v m (cX o)).1;have fU:=(v m (cX o)).2;go_upto_region 7 with fail;refine cw ?_;refine aG (ay (ab ⟨F,(I+q*5),af⟩)) (b4 24 73 5 (bj 21) (bj 23) aa ee bc _ _ _ _ _ _ (by show ae A _ _=_;rw[T]) aa hlt aa) ?_;refine aG (ar #[J R m.k,J R m.to,J R m.fr,J R m.n,ae f m.data.length g]) (by(refine eW 73 (bj 25) aa F (I+q*5) aa ([J R m.k,J R m.to,J R m.fr,J R m.n,ae f m.data.length g]:List aP) (U _ a.only) fO aa bc)) ?_;refine bl a #[J _ 0,J _ 0,J _ 0,J _ 0,ae _ 0 0] (λiH b8 a=>?_);refine a' a 0 (ar _) (λcA a=>?_);refine an ?_;go_upto_region 8 with fail;refine cw ?_;refine ag ?_;refine bh a 0 #[J R m.k,J R m.to,J R m.fr,J R m.n,ae f m.data.length g] ?_;refine bC ((show aD _ _ _ _ λe w'=>e=aB (ar #[J _ _,J _ (cG m)])/\au _ w' from tt _ _ m.fr _ f _ g _)) a (λcR a=>?_);refine e7 a #[J R m.to,J R (cG m)] 35 (λVl dz a=>?_);refine jV (m:=1) a 2 16 (aX.cellsOf (m:=1) (a.aW 0) aa) (by intro u r;simp at r;rcases r with rfl|rfl<;>rfl) (λayQ aAa dv a=>?_);refine ag ?_;refine an ?_;go_wp2_with fail;go_roundw;case rel=>exact⟨_,_,_,ad,by go_num,aa,by rw[gq,o,Cj,fP,j5,ln,anq];exact a.pick [2,3,4,5]⟩
   case measure=>grind[bQ]
  .obtain rfl:q=ms.length:=ad;rw[lp]at a
   have XX:=hid (λW h=>by have h2:=axP L M (ms.map ck) W h aH (λe he=>by obtain⟨m,j,rfl⟩:=gP.1 he;have:=((v m j).1).ck;show 0<=cG m;omega) eb.out;rw[List.length_map]at h2;exact h2);go_upto_region 10 with fail;refine cw ?_;refine ag ?_;refine bC (XX _ (Row.Uv (a.atR 0)).2) a (λeU a=>?_);refine v5 ?_;refine an ?_;go_upto_region 11 with fail;refine cw ?_;refine v2 ?_;refine an ?_;go_upto_region 13 with fail;refine cw ?_;refine v3 ?_;refine an ?_;replace a:=a.pk [1,2,3];replace a:=a.uZ 1 1 1 1 [J _ 0] aa (b9 _) aS aa;replace a:=a.uZ 2 1 1 1 [J _ 0] aa (b9 _) aS aa;replace a:=(a.L7.lA (av.refl _ _) (Row.nil _ _ 73 5)).pick (l':=[aj y _ _,ba _ 1 1 3 1 _,ba _ 1 1 3 1 _,ba _ 0 0 73 5 [],gJ []]) [2,3,4,0,1];go_wp2_with fail;go_loopw [42] (λz wr=>∃(q:Nat) (E:Option bT) (D B:Nat) (c1 c2 dx:Nat) (l:List (bO×Option bT×Nat)),q<=ms.length/\z=J R q/\aE (l.map (·.1)=ms.take q)/\ak w (λ_=>False) wr [aj y #[J R s,ae (ab ⟨D,0,af⟩) (q+1) c2,ae (ab ⟨B,0,af⟩) (q+1) dx,ae E q c1] 248,ba (ab ⟨D,0,af⟩) (q+1) c2 3 1 ((dQ (q+1)).map (λi=>J R (lZ s ms i:Int))),ba (ab ⟨B,0,af⟩) (q+1) dx 3 1 ((dQ (q+1)).map (λi=>J R (vy ms i))),ba E q c1 73 5 (cD l),gJ l]) (λz wr=>ms.length -(bQ z).toNat);case atStart=>exact⟨0,af,Q,S,0,1,1,[],cC _,aa,hid aa,by grind[lZ,ec,vy,k0,cD]⟩
   case round=>
    clear a XX;obtain⟨q,E,D,B,c1,c2,dx,l,hq,rfl,G1,a⟩:=hrel;by_cases hlt:q<ms.length
    .have cb:(q:Int)<(ms.length:Int):=ad;obtain⟨m,j⟩:∃m,ms[q]?=ab m:=⟨_,cE hlt⟩;obtain⟨F,I,f,g,G,H,x⟩:=cU.jb cK j;have T:=hid G;have iz:=hid H;have U:=hid x;have o:=hid j;clear G H x j;have Il:=(v m (cX o)).1;have fU:=(v m (cX o)).2;obtain⟨Y,hcc⟩:=ex (kG m s);have x:=LU Il V;have acK:=Il.ck;rw[hcc]at x;have Xj:=hid (λW=>Hy m f g s W acK.2.1 ad V);rw[hcc]at Xj;have Fp:=Rq (s:=s) o;rw[hcc]at Fp;have hall:=Y' (s:=s) (ms:=ms) (show q+1<=ms.length by omega);rw[Rp]at hall;have aqY:=cF.1;obtain⟨O,AL⟩:=ex ((lZ s ms q:Int));obtain⟨C,abw⟩:=ex ((lZ s ms (q+1):Int));have Sq:O+Y=C:=ad;have My:0<=O/\0<=C/\C<=1048576:=ad;obtain⟨eF,hb1⟩:=ex (vy ms q);obtain⟨eK,hb2⟩:=ex (vy ms (q+1));obtain⟨F',S2⟩:=ex (cG m);have Z:=amU o;have hbr:=YO (λm j=>(v m j).1) (q:=q);have abd:=YO (λm j=>(v m j).1) (q:=q+1);have ar0:=eb.out;rw[hb1,hb2,S2]at Z;rw[hb1]at hbr;rw[hb2]at abd;have CL:=Z.symm;have hbl:0<=eF/\0<=eK/\eK<=4611686018427387903:=ad;have z1:aE (∀W,aD _ _ #[kW m f g] W λe w'=>e=aB (ar #[J _ _,J _ F'])/\au W w'):=hid (λW=>by rw[<-S2];exact tt _ _ _ _ f _ g W);have K:=hid (And.intro AL (And.intro abw (And.intro hb1 hb2)));have AT:q<q+1:=Yl q;clear hcc x acK Fp hall aqY AL abw hb1 hb2 S2 Z hbr abd ar0;go_upto_region 15 with fail;refine cw ?_;refine ag ?_;refine aG (ay (ab ⟨F,(I+q*5),af⟩)) (b4 24 73 5 (bj 40) (bj 42) aa ee bc _ _ _ _ _ _ (by show ae A _ _=_;rw[T]) aa hlt aa) ?_;refine aG (ar #[J R m.k,J R m.to,J R m.fr,J R m.n,ae f m.data.length g]) (by(refine eW 73 (bj 45) aa F (I+q*5) aa ([J R m.k,J R m.to,J R m.fr,J R m.n,ae f m.data.length g]:List aP) (U _ a.only) fO aa bc)) ?_;refine bl a #[J _ 0,J _ 0,J _ 0,J _ 0,ae _ 0 0] (λiH gF a=>?_);refine ag ?_;refine a' a 0 (ar _) (λhI a=>?_);refine an ?_;go_upto_region 16 with fail;refine bR a [6,7,8,11] (λi u=>match i with|6=>ar #[J R m.k,J R m.to,J R m.fr,J R m.n,ae u.A m.data.length u.c]|7=>ae (ab ⟨u.b,0,af⟩) 1 1|8=>ae u.A (q+1) u.c|_=>a7) (λd=>λ|6=>cx ((d 6).A) ((d 6).c) m.data|7=>aj ((d 7).b) #[J R m.k,J R m.to,J R m.fr,J R m.n,ae (d 6).A m.data.length (d 6).c] 73|8=>ba ((d 8).A) (q+1) ((d 8).c) 73 5 (cD l++([J R m.k,J R m.to,J R m.fr,J R m.n,ae (d 6).A m.data.length (d 6).c]))|11=>aj y #[J R s,ae (ab ⟨D,0,af⟩) (q+1) c2,ae (ab ⟨B,0,af⟩) (q+1) dx,ae (d 8).A (q+1) (d 8).c] 248|_=>emp) (λ|8=>[4]|11=>[1]|_=>[]) (λ|4=>[1]|5=>[0]|8=>[13]|_=>[]) (λ|6=>[6]|7=>[6,7]|8=>[6,8]|11=>[8]|_=>[]) [0,2,3,5,12,13,14,17] (λd=>?_);refine hW ?_;refine dl 0 3 ?_;refine eM 0 #[J R m.k,J R m.to,J R m.fr,J R m.n,ae f m.data.length g] ?_;refine EE (λ_ _ a=>Rs _ _ _ _ f g _ _ (iz _ a.only).1 fU) ?_;refine kH #[J _ _,J _ _,J _ _,J _ _,ae (d 6).A _ (d 6).c] 73 ?_;refine ri (m:=1) 56 (λ_ _ a=>aX.cellsOf (m:=1) (a.aW 1) aa) (by intro u r;simp at r;rcases r with rfl|rfl|rfl|rfl|rfl<;>rfl) ?_;refine bG ?_;refine fS _ ?_;refine bW λjK a=>?_;generalize (d 6).A=Vb at a⊢;generalize (d 6).c=YZ at a⊢;generalize (d 7).b=Vl at a⊢;generalize (d 8).A=P at a⊢;generalize (d 8).c=X at a⊢;go_upto_region 17 with fail;refine bR a [16,18,19,23] (λi u=>match i with|16=>J R Y|18=>ae (ab ⟨u.b,0,af⟩) 1 1|19=>ae u.A ((q+1)+1) u.c|_=>a7) (λd i=>match i with|18=>aj ((d 18).b) #[J R C] 3|19=>ba ((d 19).A) ((q+1)+1) ((d 19).c) 3 1 ((dQ (q+1)).map (λi=>J R (lZ s ms i:Int))++([J R C]))|23=>aj y #[J R s,ae (d 19).A ((q+1)+1) (d 19).c,ae (ab ⟨B,0,af⟩) (q+1) dx,ae P (q+1) X] 248|_=>emp) (λ|19=>[1]|23=>[7]|_=>[]) (λ|5=>[7]|10=>[7]|13=>[1]|14=>[0]|19=>[26]|_=>[]) (λ|18=>[18]|19=>[19]|23=>[19]|_=>[]) [0,2,3,4,5,6,24,26,27,31] (λd=>?_);refine oz ?_;refine dl 0 1 ?_;refine hW ?_;refine dl 0 1 ?_;refine aJ ?_;refine aL (ay (ab ⟨D,q,af⟩)) (λ_ _ _=>b4 82 3 1 (bj 68) (bj 69) aa jo bc _ _ _ _ _ q aa aa AT ad) ?_;refine aL (J R O) (λ_ _ a=>mG aa aa (Row.cellAt (a.atR 0) (by rw[<-K.1];simp)) bc) ?_;refine eM 0 #[J R m.k,J R m.to,J R m.fr,J R m.n,ae f m.data.length g] ?_;refine aJ ?_;refine dK (λ_ _ _=>Xj _) ?_;refine qh O Y C ?_;refine kH _ 3 ?_;refine ri (m:=1) 8 (λ_ _ a=>aX.cellsOf (m:=1) (a.aW 1) aa) (by intro u r;rw[vs.1 r];rfl) ?_;refine da ?_;refine fS _ ?_;refine bW λke a=>?_;generalize (d 18).b=azq at a⊢;generalize (d 19).A=Vc at a⊢;generalize (d 19).c=Rm at a⊢;replace a:=a.drop 6;go_upto_region 18 with fail;refine bR a [15,18,19,23] (λi u=>match i with|15=>ar #[J R m.to,J R F']|18=>ae (ab ⟨u.b,0,af⟩) 1 1|19=>ae u.A ((q+1)+1) u.c|_=>a7) (λd i=>match i with|18=>aj ((d 18).b) #[J R eK] 3|19=>ba ((d 19).A) ((q+1)+1) ((d 19).c) 3 1 ((dQ (q+1)).map (λi=>J R (vy ms i))++([J R eK]))|23=>aj y #[J R s,ae Vc ((q+1)+1) Rm,ae (d 19).A ((q+1)+1) (d 19).c,ae P (q+1) X] 248|_=>emp) (λ|19=>[1]|23=>[8]|_=>[]) (λ|5=>[8]|10=>[8]|13=>[1]|14=>[0]|19=>[27]|_=>[]) (λ|18=>[18]|19=>[19]|23=>[19]|_=>[]) [0,2,3,4,5,6,7,24,27,28,32] (λd=>?_);refine oz ?_;refine dl 0 2 ?_;refine hW ?_;refine dl 0 2 ?_;refine aJ ?_;refine aL (ay (ab ⟨B,q,af⟩)) (λ_ _ _=>b4 82 3 1 (bj 91) (bj 92) aa jo bc _ _ _ _ _ q aa aa AT ad) ?_;refine aL (J R eF) (λ_ _ a=>mG aa aa (Row.cellAt (a.atR 0) (by rw[<-K.2.2.1];simp)) bc) ?_;refine eM 0 #[J R m.k,J R m.to,J R m.fr,J R m.n,ae f m.data.length g] ?_;refine dK (λ_ _ _=>z1 _) ?_;refine fT (J R F') ?_;refine qh eF F' eK ?_;refine kH _ 3 ?_;refine ri (m:=1) 8 (λ_ _ a=>aX.cellsOf (m:=1) (a.aW 1) aa) (by intro u r;rw[vs.1 r];rfl) ?_;refine da ?_;refine fS _ ?_;refine bW λk9 a=>?_;generalize (d 18).b=azr at a⊢;generalize (d 19).A=ayK at a⊢;generalize (d 19).c=anc at a⊢;replace a:=a.drop 7;replace a:=a.pk [1,2,9,6,8,4];replace a:=a.L6.pk [1,2,3,4,0];go_wp2_with fail;obtain⟨g2,rfl⟩:=Row.at (a.atR 1) ad;obtain⟨g3,rfl⟩:=Row.at (a.atR 2) ad;go_roundw
     case rel=>
      refine⟨q+1,P,g2,g3,X,Rm,anc,l++[(m,Vb,YZ)],ad,by go_num,hid (by rw[fP,G1,gq,o];rfl),?_⟩;rw[List.range_succ,fP,fP,j5,ln,j5,ln,K.2.1,K.2.2.2,As,CA];exact a
     case measure=>grind[bQ]
    .obtain rfl:q=ms.length:=ad;have gA:=G1.out;rw[lp]at gA;go_upto_region 20 with fail;refine cw ?_;refine v2 ?_;refine an ?_;replace a:=(a.pk [3,4,1,0]).CB;replace a:=(a.star.pk [1,0]).star;go_wp2_with fail;go_ret;refine⟨y,_,aa,a.fresh 0,λW h=>?_⟩;have hc:ia _ E c1 ms:=⟨l,gA,aa⟩;exact⟨⟨_,c2,_,dx,E,c1,⟨h.1.cell 0 aa,h.1.cell 1 aa,h.1.cell 2 aa,h.1.cell 3 aa⟩,Row.NY (N:=0) (n:=_) (c:=c2) (by rw[List.map_map];exact h.2.1.2.1),hc.wm h.2.1.1⟩,⟨cF.1,ad⟩,V,v⟩

section
section
variable {P:ew} {o:cS} {a:b3} {w:aQ}
def yD t(x y)d(ho:o.op=nu .shr t x y d)(k e)v(n:Nat)(hx:a.eval x=J k v)(c:a.eval y=J e (n:Int))(hn:n<=k.bits):
 (bA a.eval o).run P w=bf (dc (J k (v.fdiv (2^n)))) w:=by
 have h1:¬((n:Int)<0):=ad;have b:=Nat.min_eq_left hn;unfold bA;simp[ho,hx,c,x9,wO,Op.shift,h1,b]
def s0 t(x y)e(ho:o.op=nu .quo t x y e)(p q z:Nat)(hx:a.eval x=J R (p:Int))(d:a.eval y=J R (q:Int))(g:0<q)(hz:p/q=z)(f:(z:Int)<=9223372036854775807):
 (bA a.eval o).run P w=bf (dc (J R (z:Int))) w:=by
 have c:R.wrap ((p:Int)/(q:Int))=(z:Int):=by grind[wD]
 have b:¬(q=0):=ad;unfold bA;simp[ho,hx,d,x9,wO,Kx,c,b]
def An t(x y)e(ho:o.op=nu .rem t x y e)(p q z:Nat)(hx:a.eval x=J R (p:Int))(d:a.eval y=J R (q:Int))(g:0<q)(hz:p%q=z)(f:(z:Int)<=9223372036854775807):
 (bA a.eval o).run P w=bf (dc (J R (z:Int))) w:=by
 have c:(p:Int).tmod (q:Int)=(z:Int):=aH;have b:¬(q=0):=ad;unfold bA;simp[ho,hx,d,x9,wO,Kx,c,b]
end
theorem ayE v k:(nt #[v] k).toList=dZ k v:=by
 unfold nt;simp;apply List.ext_getElem;·simp
 .grind
section
variable {P:ew} (w:aQ)
def awp N (t eP ty e) i z h (d:P.underlying t=ab (iJ e)) (f:P.underlying eP=ab (.int h)) (hi:P.info? e=ab i) (hz:i.zero=ab z) (o:z.cells=#[z]) (hsize:i.size=1)
 (g n) xs (hown:Row N w (ab ⟨g,0,af⟩) n n e 1 xs) k (h63:n+k<=eB) (hbytes:(n+k)*i.bytes<=140737488355328) (fp:N<=w.heap.size):
 ∃a c w',(pa #[t,eP] ty #[ae (ab ⟨g,0,af⟩) n n,J R (k:Int)]).run P w=bf (ae a (n+k) c) w'/\Row N w' a (n+k) c e 1 (xs++dZ k z)/\au w w'/\(∀b,eh a b->eh (ab ⟨g,0,af⟩) b\/w.heap.size<=b):=by
 have hlen:xs.length=n:=by have:=hown.1;omega
 rcases lX k with hk|hk;·subst hk;refine⟨_,n,w,?_,aH,av.refl _ w,λb hb=>b1 hb⟩;have hw0:R.wrap 0=0:=aS;simp[pa,gN d,gN f,mR,ny,hi,Builtin.lenOf,rT,storeCells,asInt,zJ,hw0]
 .have holds:=hown.cells (g:=g) aa
  have j:(rT i.size n (ae (ab ⟨g,0,af⟩) n n)).run P w.drew=bf xs.toArray w.drew:=by rw[hsize];exact run_firstCells_some _ 1 n _ n n xs ad holds
  have hrun:=Lib.run_append_grow_zeros (P:=P) w t eP ty e i z R h d f hi hz (ab ⟨g,0,af⟩) n n xs j k hk ad ad (by grind[eB]) aH (growslice_fits ad hbytes);have l:=grownCap_ge w (n+k) n e;have hcm:=grownCap_le_maxLen w _ n e h63;refine⟨_,_,_,hrun,⟨aH,cm ⟨w.heap.size,_,_,aa,fp,heap_alloc_new w.drew _,l,hcm,?_,?_⟩⟩,au.trans (av.drew _) (av.alloc _ _),λb ⟨_,_,m⟩=>aH⟩;·grind[size_zeroCells]
  .grind[ayE]
end
def amP {P o} {a:b3} {w s x} {t eP e g n k:Nat} {xs} bytes f z (ho:o.op=.call {callee:=.builtin .append,args:=#[s,x],argTypes:=#[t,eP]}) (q:a.eval s=ae (ab ⟨g,0,af⟩) n n) (hx:a.eval x=J R (k:Int)) (hown:Row 0 w (ab ⟨g,0,af⟩) n n e 1 xs) (hbytes:(n+k)*bytes<=140737488355328) (hb0:0<bytes) (r:P.underlying t=ab (iJ e)) (u:P.underlying eP=ab (.int f))
 (lr:(P.info? e).map (λi=>(i.zero,i.size,i.bytes))=ab (ab z,1,bytes)) (ac5:z.cells=#[z]):
 ∃c d w',(bA a.eval o).run P w=bf (dc (ae c (n+k) d)) w'/\Turned w w' (ba (ab ⟨g,0,af⟩) n n e 1 xs) (ba c (n+k) d e 1 (xs++dZ k z)):=by
 cases hq:P.info? e with
 |none=>grind
 |some i=>
  rw[hq]at lr;simp only[Option.map_some,w2,Prod.mk.injEq]at lr;obtain⟨bE,j,l⟩:=lr;subst l;have hle:(n+k)<=(n+k)*i.bytes:=Nat.le_mul_of_pos_right _ hb0;obtain⟨c,d,w',hrun,h1,m,p⟩:=awp (P:=P) w 0 t eP o.type e i z f r u hq bE ac5 j g n xs hown k (by grind[eB]) hbytes (cC _);refine⟨c,d,w',?_,m.mono (λ_ _ h=>h.elim),h1,λb hb=>⟨(Row.lt h1 hb).2,p b hb⟩⟩;unfold bA;simp only[ho,nX,nW,builtin,gx,kh,jE,List.map_toArray,j5,ln,q,hx,hrun]
end
def qD(x a)s w(h:(a,s)∈[(-7,25),(-18,14),(-17,15),(-19,13),(-6,26),(-11,21),(-25,7),(-2,30),(-13,19),(-22,10)]):
 aD ax 332 #[bw x,J R a] w λe w'=>e=aB (bw (k8 x s))/\au w w':=by
 have hk:=by simpa using h
 go_enter func332,ntmps332;have b:=a8 w;go_step;refine ah ?_;refine kg ?_;refine aG (J .u64 (s:Int)) (by(rcases hk with⟨rfl,rfl⟩|⟨rfl,rfl⟩|⟨rfl,rfl⟩|⟨rfl,rfl⟩|⟨rfl,rfl⟩|⟨rfl,rfl⟩|⟨rfl,rfl⟩|⟨rfl,rfl⟩|⟨rfl,rfl⟩|⟨rfl,rfl⟩<;>(show _=_;kernel_rfl))) ?_;refine kg ?_;refine aG (bw (mE x s)) (by(rcases hk with⟨rfl,rfl⟩|⟨rfl,rfl⟩|⟨rfl,rfl⟩|⟨rfl,rfl⟩|⟨rfl,rfl⟩|⟨rfl,rfl⟩|⟨rfl,rfl⟩|⟨rfl,rfl⟩|⟨rfl,rfl⟩|⟨rfl,rfl⟩<;>(show _=_;kernel_rfl))) ?_;refine v2 ?_;refine aG (J .u64 ((32 -s:Nat):Int)) (by(rcases hk with⟨rfl,rfl⟩|⟨rfl,rfl⟩|⟨rfl,rfl⟩|⟨rfl,rfl⟩|⟨rfl,rfl⟩|⟨rfl,rfl⟩|⟨rfl,rfl⟩|⟨rfl,rfl⟩|⟨rfl,rfl⟩|⟨rfl,rfl⟩<;>(show _=_;kernel_rfl))) ?_;refine aG (bw (jg x (32 -s))) (by(rcases hk with⟨rfl,rfl⟩|⟨rfl,rfl⟩|⟨rfl,rfl⟩|⟨rfl,rfl⟩|⟨rfl,rfl⟩|⟨rfl,rfl⟩|⟨rfl,rfl⟩|⟨rfl,rfl⟩|⟨rfl,rfl⟩|⟨rfl,rfl⟩<;>(show _=_;kernel_rfl))) ?_;refine pk (bw (k8 x s)) ?_;refine J8 ?_;exact⟨aa,b.only⟩
def za:List Int:=[1116352408,1899447441,3049323471,3921009573,961987163,1508970993,2453635748,2870763221,3624381080,310598401,607225278,1426881987,1925078388,2162078206,2614888103,3248222580,3835390401,4022224774,264347078,604807628,770255983,1249150122,1555081692,1996064986,2554220882,2821834349,2952996808,3210313671,3336571891,3584528711,113926993,338241895,666307205,773529912,1294757372,1396182291,1695183700,1986661051,2177026350,2456956037,2730485921,2820302411,3259730800,3345764771,3516065817,3600352804,4094571909,275423344,430227734,506948616,659060556,883997877,958139571,1322822218,1537002063,1747873779,1955562222,2024104815,2227730452,2361852424,2428436474,2756734187,3204031479,3329325298]
def Tm:za.length=64:=rfl
def Tn w:
 aD ax 331 #[] w λe w'=>e=aB (ar (aM bw za []))/\au w w':=by
 go_enter func331,ntmps331;have a:=a8 w;go_step;refine ah ?_;refine bl a (aM bw (dZ 64 0) []) (λb w1 a=>?_);refine ah ?_;refine pk (ar (aM bw za [])) ?_;refine pI a 0 (List.length_replicate ..) Tm (λc a=>?_);refine an ?_;go_wp2_with fail;refine c' (v:=ar (aM bw za [])) (gG aa _ _ _ _ _ _ _ aa (a.aW 0) Tryz.underlying435 aa bc) aa (⟨aa,a.only⟩)
open Go.Shelf
def Tryz.as7:Go.Shelf.Ren:=⟨λ|116=>282|115=>258|n=>n,λ|37=>22|4=>4|3=>3|9=>9|5=>5|n=>n,λ|n=>n⟩
def Tryz.Tr:azE ax Tryz.as7:={
 mixed:=bc
 f115:=Tryz.func258.trans (congrArg ab bc)
 f116:=func282.trans (congrArg ab bc)
 t3:=jD
 a3:=Tryz.isAgg3
 z3:=Tryz.sizeOf3
 v3:=Tryz.zeroValue3
 t4:=tG
 a4:=Tryz.isAgg4
 z4:=Tryz.sizeOf4
 v4:=Tryz.zeroValue4
 t9:=DY
 a9:=Tryz.isAgg9
 z9:=Tryz.sizeOf9
 v9:=Tryz.zeroValue9
 t37:=dW
 a37:=Tryz.isAgg22
 z37:=Tryz.sizeOf22
 v37:=WK
 t5:=mm
 a5:=Tryz.isAgg5
 z5:=Tryz.sizeOf5
 v5:=Tryz.zeroValue5}
def Tryz.as4:Go.Shelf.Ren:=⟨λ|185=>189|187=>257|115=>258|253=>259|224=>260|254=>261|255=>314|291=>315|n=>n,λ|37=>22|3=>3|4=>4|0=>0|5=>5|46=>311|9=>9|146=>418|51=>315|n=>n,λ|1=>0|n=>n⟩
def Tryz.as3:azD ax Tryz.as4:={
 mixed:=bc
 f115:=Tryz.func258.trans (congrArg ab bc)
 f185:=func189.trans (congrArg ab bc)
 f187:=func257.trans (congrArg ab bc)
 f224:=func260.trans (congrArg ab bc)
 f253:=func259.trans (congrArg ab bc)
 f254:=func261.trans (congrArg ab bc)
 f255:=func314.trans (congrArg ab bc)
 f291:=func315.trans (congrArg ab bc)
 t0:=Tryz.underlying0
 a0:=Tryz.isAgg0
 z0:=Tryz.sizeOf0
 v0:=Tryz.zeroValue0
 t3:=jD
 a3:=Tryz.isAgg3
 z3:=Tryz.sizeOf3
 v3:=Tryz.zeroValue3
 t4:=tG
 a4:=Tryz.isAgg4
 z4:=Tryz.sizeOf4
 v4:=Tryz.zeroValue4
 t5:=mm
 a5:=Tryz.isAgg5
 z5:=Tryz.sizeOf5
 v5:=Tryz.zeroValue5
 t9:=DY
 a9:=Tryz.isAgg9
 z9:=Tryz.sizeOf9
 v9:=Tryz.zeroValue9
 t37:=dW
 a37:=Tryz.isAgg22
 z37:=Tryz.sizeOf22
 v37:=WK
 t46:=Tryz.underlying311
 a46:=Tryz.isAgg311
 z46:=Tryz.sizeOf311
 v46:=Tryz.zeroValue311
 t51:=Tryz.underlying315
 a51:=Tryz.isAgg315
 z51:=Tryz.sizeOf315
 v51:=Tryz.zeroValue315
 t146:=underlying418
 a146:=isAgg418
 z146:=sizeOf418
 v146:=zeroValue418
 g1:=by kernel_rfl}
end Go.Proofs.YtcmhplknoglbkaaGreat
