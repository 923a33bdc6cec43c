/- Part 7 of the proof of TopMemorySaid. -/
import Derived.OrdersHeld
import Derived.StillTail
import Derived.RegionTactic
import Derived.Below
import Derived.Shelf.SlSortCmp.NoneTotal
import Derived.RangeFuncNested
import Derived.RangeFuncBound
import Derived.RangeFuncCalls
import Derived.RangeFuncLeaves
import Derived.RangeFuncBox
import Derived.RangeFuncWrites
import Derived.Shelf.Abstract
import Derived.Shelf.RegionOpen
import Derived.OwnWalkIn
import Derived.TacticsInMore
import Derived.LoopNIn
import Derived.LoopIn
import Derived.Maps.AppendAt
import Derived.Lib.SlicesCompact
import Derived.Deep.LoopGhost
import Derived.Test.YtcmhplknoglbkaaGreatQm0
import Derived.Test.YtcmhplknoglbkaaGreatQm3
import Derived.Test.YtcmhplknoglbkaaGreatQm6
set_option linter.all false
set_option maxRecDepth 100000
set_option maxHeartbeats 4000000
open Go.Proofs.Tryz
open Array renaming replicate_succ->pV,replicate_zero->pW
open Bool renaming false->ao,true->az
open Function renaming comp_def->Kn
open Go renaming Addr->bT,Calls->aD,CallsIn->rU,Program->ew,Value->aP,World->aQ,bodyPost_ret->c',callFunc->kB,callsIn_of_wp->D0,callsIn_wide->sM,cell_of_one->p2,cell_of_row->fE,free_of_one->W2,heap_alloc_new->fL,info_parts->vf,maxLen->eB,one_setCell->W4,ownsRow_setCell_other->W5,ready_mono->W6,results_none->KO,undef->a7,wpIn_wide->ya,wpList_append_own_at->PE
open Go.Builtin renaming len_->ahW
open Go.Departure renaming mixedOrders->Kq
open Go.Ending renaming returned->aB
open Go.Exit renaming normal->sI,panic->tD
open Go.Fence renaming wide->mQ
open Go.Fn renaming func->ed
open Go.Instr renaming lookup->qQ
open Go.IntKind renaming i64->R
open Go.KeepsOthers renaming alloc->azu,of_grownBy->azv,setCell->azw
open Go.Obj renaming cells->bo,map->iU
open Go.Operand renaming tmp->bj
open Go.Proofs.AnyE renaming slices_DeleteFunc->azA
open Go.Proofs.AnyF renaming slices_SortFunc_none->ah9
open Go.Proofs.Tryz renaming func338->VY,ntmps338->Wk,prog->ax,underlying118->u',underlying303->BO,underlying467->WH,underlying82->jo
open Go.Proofs renaming intOf->c5
open Go.Region renaming Mode->Pq,binds->x6,ready->sL,waitsFor->aj5
open Go.Result renaming ok->bf
open Go.RowKit renaming Hid->aE,run_makeMap->Pu
open Go.Sort renaming ahead->KK
open Go.Value renaming agg->ar,bool->ai,func->dI,int->J,map->dL,oneCell'->zG,ownBlock->x8,pointer->ay,slice->ae,tuple->bn
open Go.World renaming block_lt_of_cell?->vd,cell?->zH,frozen?->wM,size_alloc->zI
open Go.World.ownsRow renaming lt->wN
open List renaming Nodup->alJ,append_inj'->QF,append_nil->kE,append_toArray->p7,concat_eq_append->alM,cons_append->pj,countP_cons->Hb,countP_le_length->QG,eq_nil_iff_forall_not_mem->Ej,eq_nil_of_length_eq_zero->j3,eq_nil_or_concat->Li,filter_append->sT,filter_cons->Hd,filter_filter->QJ,filter_nil->X9,getElem?_eq_getElem->cE,getElem?_eq_some_iff->eJ,getElem?_of_mem->QN,getElem?_take->tR,length->q4,length_cons->jQ,length_filter_le->Ac,length_nil->mq,length_singleton->vr,length_take->po,mem_append->iX,mem_cons->gy,mem_cons_of_mem->p8,mem_cons_self->sU,mem_filter->nB,mem_iff_getElem->Ye,mem_iff_getElem?->p9,mem_of_getElem?->cX,nil_append->lJ,nodup_append->yu,pairwise_and_iff->alT,pairwise_cons->wY,pairwise_iff_getElem->mr,pairwise_map->yv,push_toArray->qa,size_toArray->iK,take_add_one->gq,take_append_drop->oa,take_length->lp,take_of_length_le->tU
open List.Pairwise renaming filter->X4
open List.Perm renaming refl->Ca
open Nat renaming le_refl->b9,le_trans->dT,lt_or_eq_of_le->QS,strongRecOn->QV,zero_add->iY,zero_le->cC
open Option renaming getD_some->vw,none->af,some->ab
open Option.some renaming inj->Lp,injEq->w2
open Or renaming inl->b1,inr->cm
namespace Go.Proofs.YtcmhplknoglbkaaGreat
section
section
variable {P:ew} {ops:Array Oper} {Q:Exit->Act->aQ->Prop} {md:Pq} {S:aQ->Prop} {d:Nat}
def wu(P:ew)(md:Pq)(ops:Array Oper)(Q:Exit->Act->aQ->Prop)(S:aQ->Prop)(d:Nat):Nat->Array Bool->Act->aQ->Prop
 |0,b,a,w=>sL md ops b=[]/\Q sI a w
 |e+1,b,a,w=>
  (sL md ops b=[]->Q sI a w)/\
  ∀i∈sL md ops b,wpOp P ops Q i (λc w'=>(i≠d->S w')/\wu P md ops Q S d e (b.setIfInBounds i az) c w') a w
def agX:∀(b) c a w,wu P md ops Q S d b c a w->wpAny P md ops Q b c a w
 |0,_,_,_,h=>h
 |b+1,_,_,_,h=>⟨h.1,λi hi=>wpOp_mono (λe w' f=>agX b _ e w' f.2) (h.2 i hi)⟩
def ayr {i oi v} (hi:ops[i]?=ab oi) (u:∀(j:Nat) o cs b,ops[j]?=ab o->o.op≠.select cs b)
 (hd:aj5 md ops d i=az) (EV:∀c a w,Q (tD c) (a.put oi.dst v) w->Q (tD c) a w):
 ∀(n) f a w,
  (∀j g,ops[j]?=ab g->j≠i->f.getD j az=ao->(∀e∈g.after,x6 md e=az->e.on≠i)->oi.apart ops g=az)->
  i∈sL md ops f->YieldsIf P ops S oi v a->S w->
  wu P md ops Q S d n (f.setIfInBounds i az) (a.put oi.dst v) w->wu P md ops Q S d (n+1) f a w:=by
 intro n;induction n with
 |zero=>
  intro f a w _ hr r p m;refine⟨λh=>aH,λj q=>?_⟩;by_cases l:j=i;·subst l;exact r.wpOp hi p ⟨λ_=>p,m⟩
  .have:=W6 q l;rw[m.1]at this;cases this
 |succ n G=>
  intro f a w t hr r p m;refine⟨λh=>aH,λj q=>?_⟩;by_cases l:j=i;·subst l;exact r.wpOp hi p ⟨λ_=>p,m⟩
  .have h1:=m.2 j (W6 q l);obtain⟨y,g,s,hall⟩:=mem_ready.1 q;have A:∀e∈g.after,x6 md e=az->e.on≠i:=λe C hb D=>by grind[mem_ready]
   have F:j≠d:=by grind[Region.waitsFor_spec]
   have B:=wpOp_putIf s (t j g s l y A) (λcs b=>u i oi cs b hi) (λcs b=>u j g cs b s) EV r h1
   have E:∀k ok,ops[k]?=ab ok->k≠i->(f.setIfInBounds j az).getD k az=ao->
    (∀e∈ok.after,x6 md e=az->e.on≠i)->oi.apart ops ok=true:=λk ok hk z x hno=>by
    refine t k ok hk z ?_ hno;by_cases hjk:j=k;·grind
    .rw[getD_set_ne az hjk]at x;exact x
   grind[wpOp_mono,W6,Array.setIfInBounds_comm]
def Bv {i oi v e b a w} (hi:ops[i]?=ab oi)
 (hs:Region.noSelect ops=az) (hf:Region.free md ops b i=az) (hr:(sL md ops b).contains i=az) (hd:aj5 md ops d i=az)
 (EV:∀c a w,Q (tD c) (a.put oi.dst v) w->Q (tD c) a w) (hy:YieldsIf P ops S oi v a) (hS:S w)
 (h:wu P md ops Q S d e (b.setIfInBounds i az) (a.put oi.dst v) w):wu P md ops Q S d (e+1) b a w:=
 ayr hi (Region.noSelect_spec hs) hd EV e b a w (Region.free_spec hi hf) aH hy hS h
def pS(P:ew)(md:Pq)(ops:Array Oper)(Q:Exit->Act->aQ->Prop)(S:aQ->Prop)(d:Nat)(c:Nat)(e:Array Bool)(a:Act)(w:aQ)(rs:List Nat):Prop:=
 ∀i∈rs,wpOp P ops Q i (λb w'=>(i≠d->S w')/\wu P md ops Q S d c (e.setIfInBounds i az) b w') a w
theorem pS.nil{b c a w}:pS P md ops Q S d b c a w []:=λ_ h=>by grind
def pS.cons {c f a w i o rs} (ho:ops[i]?=ab o) (m:Region.wanted o (yielded ops a.tmps)=az)
 (h:∀b:Act->aQ->Prop,aE (∀a w,(i≠d->S w)->wu P md ops Q S d c (f.setIfInBounds i az) a w->b a w)->Oper.wp P o a w b Q)
 (hs:pS P md ops Q S d c f a w rs):pS P md ops Q S d c f a w (i::rs):=λj e=>by
 rcases gy.1 e with rfl|e;·refine wpOp_step ho (λb g=>?_);rw[if_pos m];exact h b (λa w k l=>g a w ⟨k,l⟩)
 .exact hs j e
def JC {rs c b a w} (hr:sL md ops b=rs) (hne:rs≠[])
 (h:pS P md ops Q S d c b a w rs):wu P md ops Q S d (c+1) b a w:=⟨λe=>absurd (hr▸e) hne,hr▸h⟩
def ayq{b a w}(hr:sL md ops b=[])(h:Q sI a w):∀c,wu P md ops Q S d c b a w
 |0=>⟨hr,h⟩
 |_+1=>⟨λ_=>h,aH⟩
def ayx {id a w} (c:P.follows Kq=az) d S (b:S w.drew)
 (h:S w.drew->wu P .any ops Q S d ops.size (Array.replicate ops.size ao) a w.drew):(Code.region id ops az).wp P Q a w:=
 wp_region_any c (agX _ _ _ _ (h b))
end
end
open Go.RowKit Go.MapKept
def asp:(ax.info? 413).map (λi=>(i.zero,i.size,i.bytes))=ab (ab (ar #[J R 0,J R 0,J R 0]),3,24):=aw
def aqa{l:List (Int×Int)}{k e}(hk:l[k]?=ab e)(h:∀x∈l.take k,eY x/\0<x.2)(a:eY e/\0<e.2):∀x∈l.take (k+1),eY x/\0<x.2:=by grind[gq]
def aeE{F w w'}{base e size:Nat}{v m xs}(h:w.ownsRow base e size v m xs)(k:av F w w')(hn:∀i,v.ownBlock=ab i->¬F i):w'.ownsRow base e size v m xs:=by
 refine⟨h.1,?_⟩;rcases h.2 with h2|⟨g,cap,cur,rfl,hb,hh,r⟩;·grind
 .exact cm ⟨g,_,_,aa,hb,k.heap hh (hn g aa),r⟩
def aeD{w:aQ}{base e n:Nat}{v xs}(h:w.ownsRow base e 3 v n xs):∃A c,v=ae A n c:=by
 rcases h.2 with⟨rfl,rfl⟩|⟨g,cap,cur,rfl,_⟩;·simp
 .simp
def ZS:∀(t) k,(w9 k t).Pairwise (λx y=>x.2<y.2)
 |[],_=>.nil
 |e::t,k=>by
  refine wY.2 ⟨λy a=>?_,ZS t (k+1)⟩;obtain⟨i,hi⟩:=p9.1 a;rw[RP]at hi;cases he:t[i]? with
  |none=>rw[he]at hi;cases hi
  |some b=>
   rw[he]at hi;simp only[Option.map_some,w2]at hi;subst hi;show(k:Int)<((k+1+i:Nat):Int);omega
def apu l:(iN l).Nodup:=(ZS l 0).imp (λh e=>aH)
def aeb{l}{k:Nat}{e}(hk:l[k]?=ab e)(h:¬(eY e/\0<e.2)):¬∃S,S.Perm (iN l)/\j0 S:=by rintro⟨S,hp,hg⟩;have a:(e,(k:Int))∈S:=hp.mem_iff.2 (AX.2 ⟨k,hk,aa⟩);exact h (hg.2 _ a)
def ap9{S}(c:S.Pairwise (λx y=>x.1.1<=y.1.1))(hv:∀x∈S,eY x.1/\0<x.1.2)(h:∀i x y,S[i]?=ab x->S[i+1]?=ab y->x.1.1+x.1.2<=y.1.1):j0 S:=by
 refine⟨mr.2 λi j hi b a=>?_,hv⟩;have h1:=h i S[i] S[i+1] (cE hi) (cE ad);rcases QS (show i+1<=j from a)with hlt|e;·have d:=mr.1 c (i+1) j ad b hlt;omega
 .grind
def atQ{l}{c:List jO}(d:c.Perm (iN l))(q:c.Pairwise (λx y=>x.1.1<=y.1.1)){i x y}(hx:c[i]?=ab x)(g:c[i+1]?=ab y)(hlt:y.1.1<x.1.1+x.1.2):¬∃S,S.Perm (iN l)/\j0 S:=by
 rintro⟨S,hp,hg⟩;have p:c.Nodup:=d.nodup_iff.2 (apu l);obtain⟨hi,r⟩:=eJ.1 hx;obtain⟨o,s⟩:=eJ.1 g;have hne:x≠y:=by grind[mr]
 have hle:x.1.1<=y.1.1:=by grind[mr]
 have m:x∈S:=(d.trans hp.symm).mem_iff.1 (cX hx);have j:y∈S:=(d.trans hp.symm).mem_iff.1 (cX g);obtain⟨a,e,f⟩:=Ye.1 m;obtain⟨b,hb,k⟩:=Ye.1 j;have n:=(hg.2 y j).2;rcases Nat.lt_trichotomy a b with h|h|h;·have:=mr.1 hg.1 a b e hb h;rw[f,k]at this;omega
 .grind
 .have:=mr.1 hg.1 b a hb e h;rw[f,k]at this;omega
def atM{w:aQ}{b x y z t}(h:w.heap[b]?=ab (bo #[x,y,z] t (0,0))):∀j u,[x,y,z][j]?=ab u->w.cell? ((⟨b,0,af⟩:bT).add j)=ab u:=by grind[Addr.add,zH]
def axm A c f w:aD ax 307 #[ae A 0 c,f] w λe w'=>e=aB (bn #[])/\w'=w:=ah9 Tryz.adC A c f w
section
attribute [local go_sem] Oper.semAt_some
abbrev Part:=Int×(Int×Int)
def parts(e:Int×Int)(S:List jO):List Part:=(S.filter (λx=>meets x.1 e)).map (λx=>(x.2,me x.1 e))
def aeQ{e}{S:List jO}{k x}(hx:S[k]?=ab x)(h:meets x.1 e=az):parts e (S.take (k+1))=parts e (S.take k)++[(x.2,me x.1 e)]:=by grind[gq,parts]
theorem aeN{e S}(h:∀x∈S,meets x.1 e=ao):parts e S=[]:=by grind[parts,List.filter_eq_nil_iff]
def auS{e S k}(h:∀i x,k<=i->S[i]?=ab x->meets x.1 e=ao):parts e (S.take k)=parts e S:=by
 have h1:parts e S=parts e (S.take k)++parts e (S.drop k):=by grind[parts,oa]
 grind[aeN,p9]
def auR{c d S k}(h:IsCut S.length (uT S c) k):parts (c,d) (S.take k)=[]:=by
 refine aeN (λx hx=>?_);obtain⟨i,hi⟩:=p9.1 hx;rw[tR]at hi;split at hi;·rename_i hik;have:=h.before hi hik;grind[meets]
 .grind
def aeO{c d S k x}(a:j0 S)(hk:c<x.1.1+x.1.2)(hx:S[k]?=ab x)(e:meets x.1 (c,d)=ao):parts (c,d) (S.take k)=parts (c,d) S:=by
 refine auS (λi y hi b=>?_);have f:=(a.at hx).2;simp only[meets,decide_eq_false_iff_not]at e⊢;rcases QS hi with h|h;·have h1:=a.lt hx b h;have g:=(a.at b).2;omega
 grind
def aeM{e}{S:List jO}{k x}(hx:S[k]?=ab x):(parts e (S.take k)).length<S.length:=by grind[parts]
def aeP e S k:parts e (S.take k)<+:parts e S:=by grind[parts]
def agt{e:Ending}{A B}(h:(e=aB (ai az)/\A)\/(e=aB (ai ao)/\B)):∃a,e=aB (ai a)/\(a=az->A)/\(a=ao->B):=aH
def aqd{w w'}(h:au w w'):w.grownBy w' none:=⟨h.1,h.2,h.3,h.4,λk hk _=>h.5 k hk (λh=>h)⟩
set_option maxHeartbeats 4000000 in
def auy n (hn:1<=n) jm (l O C p) S (c d) (m':eY (c,d)) (hS:j0 S) (D vn:List Part->aQ->Prop)
 (AG:∀pre x W,D pre W->pre.length<S.length->YieldAt mQ (n -1) ax l #[J R x.1,ar #[J R x.2.1,J R x.2.2]] W λe a=>(e=aB (ai az)/\D (pre++[x]) a/\av jm W a)\/(e=aB (ai ao)/\vn (pre++[x]) a))
 W (tb:∀pre ic fg,D pre ic->au ic fg->D pre fg)
 (gO:aE (∀a,av jm W a->oG a p S/\a.cell? ⟨O,0,af⟩=ab (ay (ab ⟨p,0,af⟩))/\a.cell? ⟨C,0,af⟩=ab (J R c)/\a.cell? ⟨C,1,af⟩=ab (J R d))) (h0:D [] W):
 rU mQ n ax 309 #[dI (.yield l) #[] #[],ay (ab ⟨O,0,af⟩),ay (ab ⟨C,0,af⟩)] W λe a=>(∃v,e=aB v)/\(D (parts (c,d) S) a\/∃pre,pre<+:parts (c,d) S/\vn pre a):=by
 have oD:=hid AG;have K:=hid tb;have T:=hid (And.intro hS m');have rX:=hid h0;have aBn:ax.follows Kq=true:=aw;obtain⟨E,z,fw,lN⟩:=gO.out W (av.refl _ _);have hlen:=E;obtain⟨_,_,_,_,hl⟩:=hlen;have X:=hid (amm p S c W E hS);clear E AG tb hS m' h0;refine D0 Tryz.func309 aa trivial ?_ aa;simp only[ntmps309,iK,jQ,mq,pV,pW,qa,p7,lJ,pj];gi_wp2_with (first|(refine⟨trivial,?_⟩;gi_at_call 310;have f:=sM (n:=n -1).2 X.out;with_reducible refine f.mono ?_;clear f;rintro e w1 ⟨k,rfl,V,hg1⟩)|(gi_at_call 310;have f:=(callsIn_wide (n:=n -1)).2 X.out;with_reducible refine f.mono ?_;clear f;rintro e w1 ⟨k,rfl,V,hg1⟩));have P:=hid (And.intro V hg1);have aq9:=V.1;clear V hg1 X z fw lN;gi_loopw [4] (λi wr=>∃z:Nat,z<=S.length/\k<=z/\i=J R z/\aE (D (parts (c,d) (S.take z)) wr/\av jm W wr)) (λi _=>S.length -(c5 i).toNat);case atStart=>exact⟨k,aq9,b9 _,aa,hid ⟨by rw[auR P.out.1];exact K.out _ _ _ rX.out P.out.2,P.out.2.mono (λ_ _ h=>h.elim)⟩⟩
 case round=>
  obtain⟨q,hq,abR,rfl,w⟩:=hrel;obtain⟨E,z,fw,lN⟩:=gO.out wr w.out.2;have Q:=hid E;by_cases hlt:q<S.length
  .have hb0:(q:Int)<(S.length:Int):=ad;obtain⟨x,hx⟩:∃x,S[q]?=ab x:=⟨_,cE hlt⟩;obtain⟨b,o,pv,c8,c4,iR,qB⟩:=E.at hx;have U:=hid (And.intro hx (And.intro (P.out.1.behind hx abR) (T.out.1.at hx)));obtain⟨⟨cW,bk⟩,iu⟩:=x;simp only at c4 iR qB
   have y:aE (∀w',au wr w'->w'.cell? ⟨O,0,af⟩=ab (ay (ab ⟨p,0,af⟩))/\w'.cell? ⟨C,0,af⟩=ab (J R c)/\w'.cell? ⟨C,1,af⟩=ab (J R d)/\w'.cell? ⟨p,0,af⟩=ab (ae (ab ⟨b,o,af⟩) S.length pv)/\w'.cell? ⟨b,o+q*3,af⟩=ab (J R cW)/\w'.cell? ⟨b,o+q*3+1,af⟩=ab (J R bk)/\w'.cell? ⟨b,o+q*3+2,af⟩=ab (J R iu)):=
    hid (λw' h=>⟨h.cell z (λh=>h),h.cell fw (λh=>h),h.cell lN (λh=>h),h.cell c8 (λh=>h),h.cell c4 (λh=>h),h.cell iR (λh=>h),h.cell qB (λh=>h)⟩)
   have M:aE (∀w1 B u v,au wr w1->wr.heap.size<=B->au wr ((w1.setCell ⟨B,0,af⟩ u).setCell ⟨B,1,af⟩ v)):=hid (λw1 B u v h kp=>by have q:=(h.mono (G:=λi=>i=B) (λ_ _ h=>h.elim)).trans ((av.setCell (F:=λi=>i=B) w1 (p:=⟨B,0,af⟩) aa u).trans (av.setCell (F:=λi=>i=B) _ (p:=⟨B,1,af⟩) aa v) (λ_ _ h=>h)) (λ_ _ h=>h);exact q.mono (λi hi h=>ad))
   have Y:aE (∀w',au (wr.drew.alloc (bo #[J R 0,J R 0] 35)) w'->w'.frozen? ⟨wr.heap.size,0,af⟩=ao/\w'.frozen? ⟨wr.heap.size,1,af⟩=ao/\w'.cell? ⟨wr.heap.size,0,af⟩=ab (J R 0)/\w'.cell? ⟨wr.heap.size,1,af⟩=ab (J R 0)):=hid (λw' hw'=>by have g4:=hw'.heap (fL wr.drew (bo #[J R 0,J R 0] 35)) (λh=>h);have g5:w'.heap[wr.heap.size]?=ab (bo #[J R 0,J R 0] 35 (0,0)):=g4;grind[wM,zH]);have fc:aE (∀a,aD ax 202 #[ar #[J R cW,J R bk],ar #[J R c,J R d]] a λe w'=>e=aB (bn #[gT (me (cW,bk) (c,d)),ai (meets (cW,bk) (c,d))])/\au a w'):=hid (λa=>ND cW bk c d a U.out.2.2.1 T.out.2);have bZ:aE (∀gC g,me (cW,bk) (c,d)=(gC,g)->∀Ua:Nat,Ua=q->True):=hid (λ_ _ _ _ _=>trivial);have H:aE (S[q]?=ab ((cW,bk),iu)):=hid U.out.1;obtain⟨m,hm⟩:∃m:Bool,meets (cW,bk) (c,d)=m:=⟨_,aa⟩;obtain⟨gC,g,eS⟩:∃gC g:Int,me (cW,bk) (c,d)=(gC,g):=⟨_,_,aa⟩;have t:=hid (And.intro hm eS)
   have Qf:aE (∀a,aD ax 202 #[ar #[J R cW,J R bk],ar #[J R c,J R d]] a λe w'=>e=aB (bn #[ar #[J R gC,J R g],ai m])/\au a w'):=hid (λa=>by have h:=fc.out a;rw[hm,eS]at h;exact h);clear hx E hm eS fc bZ c8 c4 iR qB;gi_wp2_with (first|(refine⟨trivial,?_⟩;gi_at_call 311;have f:=sM (n:=n -1).2 (xu p S wr Q.out);with_reducible refine f.mono ?_;clear f;rintro e aT ⟨rfl,rfl⟩)|(gi_at_call 311;have f:=(callsIn_wide (n:=n -1)).2 (xu p S wr Q.out);with_reducible refine f.mono ?_;clear f;rintro e aT ⟨rfl,rfl⟩));refine ya.2 ?_
   go_region_held3 (λw'=>w'.cell? ⟨O,0,af⟩=ab (ay (ab ⟨p,0,af⟩))/\w'.cell? ⟨C,0,af⟩=ab (J R c)/\w'.cell? ⟨C,1,af⟩=ab (J R d)/\w'.cell? ⟨p,0,af⟩=ab (ae (ab ⟨b,o,af⟩) S.length pv)/\w'.cell? ⟨b,o+q*3,af⟩=ab (J R cW)/\w'.cell? ⟨b,o+q*3+1,af⟩=ab (J R bk)/\w'.cell? ⟨b,o+q*3+2,af⟩=ab (J R iu))
    (first
      |exact y.out _ (av.drew _)
      |exact y.out _ s
      |exact y.out _ (au.trans (av.drew _) (av.alloc _ _))
      |exact y.out _ (au.trans s (av.alloc _ _))
      |exact y.out _ (M.out _ _ _ _ s (b9 _))
      |exact y.out _ (M.out _ _ _ _ (au.trans s (av.alloc _ _)) s.size))
    (first
      |(go_at_call 202;refine(Qf.out _).mono ?_;rintro e A ⟨rfl,ha0⟩;(have s:au wr A:=(by first|exact au.trans (av.drew _) ha0|exact au.trans (au.trans (av.drew _) (av.alloc _ _)) ha0));(try(have hz:=Y.out _ ha0;obtain⟨gn,z2,z3,z4⟩:=hz))))
   .have N:=yH A (J R gC) (J R g) 35;have j:=hid (au.trans s (av.alloc (F:=λ_=>False) A (bo #[J R gC,J R g] 35)));have I:=hid N;clear N ha0 s M Y Qf;generalize A.alloc (bo #[J R gC,J R g] 35)=r at*;generalize A.heap.size=B at*;cases m with
    |false=>
     gi_wp2_with fail;refine ya.2 ?_;go_quiet (fail);gi_wp2;refine c' (KO aa _ _ _) aa ?_;refine⟨⟨_,aa⟩,b1 ?_⟩;have h:=aeO T.out.1 U.out.2.1 H.out t.out.1;rw[<-h];exact K.out _ _ _ w.out.1 (au.trans j.out (av.drewN _ _))
    |true=>
     obtain⟨fn,tmps,assign,body,hy,fi⟩:=oD.out (parts (c,d) (S.take q)) (iu,(gC,g)) r.drew (K.out _ _ _ w.out.1 (au.trans j.out (av.drew _))) (aeM H.out);dsimp only at hy;obtain⟨ml,bG,da,hW,oz,J3,J4⟩:=y.out _ (au.trans j.out (av.drew _));have Bx:r.drew.cell? ⟨B,0,af⟩=ab (J R gC):=I.out.1;have J5:r.drew.cell? ⟨B,1,af⟩=ab (J R g):=I.out.2;have L:=hid (aeQ H.out t.out.1);have Z:aE (av jm W r.drew):=hid (w.out.2.trans ((au.trans j.out (av.drew _)).mono (λ_ _ h=>h.elim)) (λ_ _ h=>h));gi_wp2_with fail;gi_region_with_o (refine fi.mono ?_;intro e Cm hp;obtain⟨q',rfl,Fk,MO⟩:=agt hp)
     all_goals
      cases q' with
      |true=>
       gi_wp2;go_roundw
       case rel=>
        have h:=Fk aa;refine⟨q+1,ad,ad,bg,hid ⟨?_,Z.out.trans h.2 (λ_ _ h=>h)⟩⟩;rw[L.out,t.out.2];exact h.1
       case measure=>simp[c5];omega
      |false=>
       gi_wp2;refine c' (KO aa _ _ _) aa ?_;refine⟨⟨_,aa⟩,cm ⟨_,?_,MO (by first|rfl|trivial)⟩⟩;have h:=aeP (c,d) S (q+1);rw[L.out,t.out.2]at h;exact h
   .have N:=Uu A wr.heap.size (J R 0) (J R 0) (J R gC) (J R g) z3 z4;have j:=hid (M.out A wr.heap.size (J R gC) (J R g) s (b9 _));have I:=hid N;clear N ha0 s gn z2 z3 z4 M Y Qf;generalize (A.setCell ⟨wr.heap.size,0,af⟩ (J R gC)).setCell ⟨wr.heap.size,1,af⟩ (J R g)=r at*;generalize wr.heap.size=B at*;cases m with
    |false=>
     gi_wp2_with fail;refine ya.2 ?_;go_quiet (fail);gi_wp2;refine c' (KO aa _ _ _) aa ?_;refine⟨⟨_,aa⟩,b1 ?_⟩;have h:=aeO T.out.1 U.out.2.1 H.out t.out.1;rw[<-h];exact K.out _ _ _ w.out.1 (au.trans j.out (av.drewN _ _))
    |true=>
     obtain⟨fn,tmps,assign,body,hy,fi⟩:=oD.out (parts (c,d) (S.take q)) (iu,(gC,g)) r.drew (K.out _ _ _ w.out.1 (au.trans j.out (av.drew _))) (aeM H.out);dsimp only at hy;obtain⟨ml,bG,da,hW,oz,J3,J4⟩:=y.out _ (au.trans j.out (av.drew _));have Bx:r.drew.cell? ⟨B,0,af⟩=ab (J R gC):=I.out.1;have J5:r.drew.cell? ⟨B,1,af⟩=ab (J R g):=I.out.2;have L:=hid (aeQ H.out t.out.1);have Z:aE (av jm W r.drew):=hid (w.out.2.trans ((au.trans j.out (av.drew _)).mono (λ_ _ h=>h.elim)) (λ_ _ h=>h));gi_wp2_with fail;gi_region_with_o (refine fi.mono ?_;intro e Cm hp;obtain⟨q',rfl,Fk,MO⟩:=agt hp)
     all_goals
      cases q' with
      |true=>
       gi_wp2;go_roundw
       case rel=>
        have h:=Fk aa;refine⟨q+1,ad,ad,bg,hid ⟨?_,Z.out.trans h.2 (λ_ _ h=>h)⟩⟩;rw[L.out,t.out.2];exact h.1
       case measure=>simp[c5];omega
      |false=>
       gi_wp2;refine c' (KO aa _ _ _) aa ?_;refine⟨⟨_,aa⟩,cm ⟨_,?_,MO (by first|rfl|trivial)⟩⟩;have h:=aeP (c,d) S (q+1);rw[L.out,t.out.2]at h;exact h
  .obtain rfl:q=S.length:=ad;gi_wp2_with (first|(refine⟨trivial,?_⟩;gi_at_call 311;have f:=sM (n:=n -1).2 (xu p S wr Q.out);with_reducible refine f.mono ?_;clear f;rintro e aT ⟨rfl,rfl⟩)|(gi_at_call 311;have f:=(callsIn_wide (n:=n -1)).2 (xu p S wr Q.out);with_reducible refine f.mono ?_;clear f;rintro e aT ⟨rfl,rfl⟩));go_end0;exact⟨⟨_,aa⟩,b1 (by have h:=w.out.1;rw[lp]at h;exact h)⟩
def auz n q(c d)w:
 rU mQ n ax 252 #[ay q,ar #[J R c,J R d]] w λe w'=>e=aB (dI (ed 309) #[] #[ay (ab ⟨w.heap.size,0,af⟩),ay (ab ⟨w.heap.size+1,0,af⟩)])/\w'=(w.alloc (bo #[ay q] 295)).alloc (bo #[J R c,J R d] 35):=by
 refine D0 func252 aa trivial ?_ aa;simp only[ntmps252,iK,jQ,mq,pV,pW,qa,p7,lJ,pj];gi_wp2;go_ret;exact⟨aa,aa⟩
theorem asR{w w' jm p S}(h:oG w p S)(k:av jm w w')(a:∀i,i<w.heap.size->¬jm i):oG w' p S:=
 h.aI (k.mono (λi hi h=>(a i hi h).elim))
def at9{jm A B C}(h:av jm A B)(k:av jm B C):av jm A C:=h.trans k (λ_ _ h=>h)
def at8{jm s}(a:∀i,s<=i->jm i)W l(o o')(b:s<=l)(_:W.heap[l]?=ab o)(_:o.isCells=ao)(_:o.isWalk=ao):av jm W (W.putObj l o'):=by have g:=grownBy_putObj' W l o';exact⟨g.1,g.2,g.3,g.4,λk hk hn=>g.5 k hk (λe=>aH)⟩
def auA n (hn:1<=n) jm (i f p) S (c d) (v:eY (c,d)) (u:j0 S) w
 (gO:aE (∀a,av jm w a->oG a p S/\a.cell? ⟨i,0,af⟩=ab (ay (ab ⟨p,0,af⟩))/\a.cell? ⟨f,0,af⟩=ab (J R c)/\a.cell? ⟨f,1,af⟩=ab (J R d))):
 SeqStopsK mQ n ax 309 #[ay (ab ⟨i,0,af⟩),ay (ab ⟨f,0,af⟩)] (λx:Part=>#[J R x.1,ar #[J R x.2.1,J R x.2.2]]) (av jm) (λbY=>bY=parts (c,d) S) (λpre=>pre<+:parts (c,d) S) S.length w:=λl j m W b t _ y s=>by
 have z:au w W:=⟨b.os,b.tape,b.output,b.size,λk hk _=>b.block k hk⟩;refine(auy n hn jm l i f p S c d v u j m y W (λpre o q h g=>t pre o q af h (aqd g) (λr e=>aH)) (hid (λa h=>gO.out a ((z.mono (λ_ _ h=>h.elim)).trans h (λ_ _ h=>h)))) s).mono ?_;simp
end
section
open Go.RowKit Go.MapKept Go.Shelf Go.Maps
attribute [local go_sem] Oper.semAt_some
def Tg:(ax.info? 3).map (λi=>(i.zero,i.size,i.bytes))=ab (ab (J R 0),1,8):=aw
def OT(w aq:aQ)(v:aP)(t:TypeId)(q:Option bT)(c d:Int):Prop:=
 au w aq/\aq.heap.size=w.heap.size+4/\aq.heap[w.heap.size+1]?=ab (bo #[v] t (0,0))/\aq.cell? ⟨w.heap.size+2,0,af⟩=ab (ay q)/\aq.cell? ⟨w.heap.size+3,0,af⟩=ab (J R c)/\aq.cell? ⟨w.heap.size+3,1,af⟩=ab (J R d)
def ap3 w v t q(c d)aq(e:aq=(((w.alloc (bo #[J R c,J R d] 35)).alloc (bo #[v] t)).alloc (bo #[ay q] 295)).alloc (bo #[J R c,J R d] 35)):
 OT w aq v t q c d:=by
 subst e;have g2:=fL (w.alloc (bo #[J R c,J R d] 35)) (bo #[v] t);have b:=fL ((w.alloc (bo #[J R c,J R d] 35)).alloc (bo #[v] t)) (bo #[ay q] 295);have a:=fL (((w.alloc (bo #[J R c,J R d] 35)).alloc (bo #[v] t)).alloc (bo #[ay q] 295)) (bo #[J R c,J R d] 35);simp only[zI]at g2 b a;refine⟨au.trans (au.trans (au.trans (av.alloc _ _) (av.alloc _ _)) (av.alloc _ _)) (av.alloc _ _),bg,(au.trans (av.alloc _ _) (av.alloc _ _)).heap g2 (λh=>h),(av.alloc (F:=λ_=>False) _ _).cell (p2 b) (λh=>h),?_,?_⟩;·exact fE _ _ 0 _ _ _ a
 .exact fE _ _ 1 _ _ _ a
theorem aeC{w:aQ}{base e size:Nat}{v m xs}(h:w.ownsRow base e size v m xs){j o}(a:v.ownBlock=ab j)(ho:w.heap[j]?=ab o):o.isCells=true:=by
 rcases h.2 with⟨rfl,_⟩|⟨g,cap,cur,rfl,_,hh,_⟩;·cases a
 .have hj':g=j:=by grind[x8]
  subst hj';rw[hh]at ho;cases ho;rfl
def auJ{w w':aQ}{base e size:Nat}{v m xs row}(h:w.ownsRow base e size v m xs)(g:w.grownBy w' row)(hr:∀r,row=ab r->∃o,w.heap[r]?=ab o/\o.isCells=ao):w'.ownsRow base e size v m xs:=by refine aeE h (av.of_grownBy (F:=λi=>row=ab i) g (λk hk=>b1 hk)) (λi hi a=>?_);grind[aeC]
def Dn{w:aQ}{base a e size:Nat}{v m xs}(h:w.ownsRow base e size v m xs)(hb:a<=base):w.ownsRow a e size v m xs:=by
 refine⟨h.1,?_⟩;rcases h.2 with h2|⟨g,cap,cur,h3,h4,h5⟩;·grind
 .exact cm ⟨g,_,_,h3,dT hb h4,h5⟩
def jm(s:Nat)(i:Nat):Prop:=i=s+1\/s+4<=i
def aeL e S:(parts e S).length<=S.length:=by grind[parts]
def ap5{w aq p S c d v t}(m:oG w p S)(b:OT w aq v t (ab ⟨p,0,af⟩) c d):
 ∀a,av (jm w.heap.size) aq a->oG a p S/\a.cell? ⟨w.heap.size+1+1,0,af⟩=ab (ay (ab ⟨p,0,af⟩))/\a.cell? ⟨w.heap.size+1+1+1,0,af⟩=ab (J R c)/\a.cell? ⟨w.heap.size+1+1+1,1,af⟩=ab (J R d):=λa h=>by
 obtain⟨e,j,k,f,g,i⟩:=b;refine⟨?_,h.cell f (by grind[jm]),h.cell g (by grind[jm]),h.cell i (by grind[jm])⟩;have l:av (jm w.heap.size) w a:=(e.mono (λ_ _ h=>h.elim)).trans h (λ_ _ h=>h);grind[asR,jm]
def aaf{w aq:aQ}(a:aq.heap.size=w.heap.size+4):∀(W) l (o o'),aq.heap.size<=l->W.heap[l]?=ab o->o.isCells=ao->o.isWalk=ao->av (jm w.heap.size) W (W.putObj l o'):=
 at8 (λi hi=>cm ad)
def ap4{w aq W}(g:au w aq)(h:av (jm w.heap.size) aq W):au w W:=
 ((g.mono (G:=jm w.heap.size) (λ_ _ h=>h.elim)).trans h (λ_ _ h=>h)).mono (λi hi h=>by grind[jm])
set_option maxHeartbeats 2000000 in
def aty n (hn:3<=n) q ps N (B:N<=1048576) (c d) w
 (jw:aE (∀aq:aQ,OT w aq (ae af 0 0) 82 q c d->SeqStopsK mQ (n -1) ax 309 #[ay (ab ⟨w.heap.size+1+1,0,af⟩),ay (ab ⟨w.heap.size+1+1+1,0,af⟩)] (λx:Part=>#[J R x.1,ar #[J R x.2.1,J R x.2.2]]) (av (jm w.heap.size)) (λbY=>bY=ps) (λpre=>pre<+:ps) N aq)):
 rU mQ n ax 181 #[ay q,ar #[J R c,J R d]] w λe s=>∃v,e=aB v/\s.ownsRow w.heap.size 3 1 v ps.length (ps.map (λx=>J R x.1))/\au w s:=by
 have h1:1<=n:=ad;have O:1<=n -1:=ad;obtain⟨I,hi,hz0,hz1,hz2⟩:=vf Tg;have g:=hid (And.intro hi (And.intro hz0 (And.intro hz1 hz2)));clear hi hz0 hz1 hz2;refine callsIn_of_wp_marks func181 aa trivial ?_ aa;simp only[ntmps181,iK,jQ,mq,pV,pW,qa,p7,lJ,pj];gi_wp2_with (refine⟨trivial,?_⟩;gi_at_call 252;refine(auz _ _ _ _ _).mono ?_;rintro e w' ⟨rfl,rfl⟩);obtain⟨aq,u⟩:∃aq,aq=(((w.alloc (bo #[J R c,J R d] 35)).alloc (bo #[ae af 0 0] 82)).alloc (bo #[ay q] 295)).alloc (bo #[J R c,J R d] 35):=⟨_,aa⟩;have m:=hid (ap3 w _ _ _ c d aq u);rw[<-u];clear u;have hsz:=m.out.2.1;have G:aE (N<=1048576):=hid B;clear B;have E:aE ((aq.heap[w.heap.size+1]?=ab (bo #[ae af 0 0] 82 (0,0)))):=hid m.out.2.2.1
 refine wpIn_rangeFunc_ownG aa h1 (gf:=309) (lb:=_) aa trivial (enters_of Tryz.func309 aw aa)
  (jw.out aq m.out) at9 (aaf hsz) (Below.refl _ _) (λ_=>aa)
  (λpre W=>(∃v,W.heap[w.heap.size+1]?=ab (bo #[v] 82 (0,0))/\W.ownsRow (w.heap.size+4) 3 1 v pre.length (pre.map (λx=>J R x.1)))/\av (jm w.heap.size) aq W)
  (λ_ _ _=>False)
  (λpre W s row z C hr=>by obtain⟨⟨v,hh,hrow⟩,a⟩:=z;have ho:av (λi=>aq.heap.size<=i) W s:=av.of_grownBy C (λk hk=>b1 (hr k hk).1);exact⟨⟨v,ho.heap hh ad,auJ hrow C (λr e=>(hr r e).2)⟩,a.trans ho (λi _ h=>cm ad)⟩)
  (λ_ _ _ _ _ z _ _=>z)
  ⟨⟨_,E.out,World.ownsRow_nil _ _ _ _⟩,av.refl _ _⟩
  (λx=>{tmps:=#[ay q,ar #[J R c,J R d],a7,ay (ab ⟨w.heap.size,0,af⟩),ae af 0 0,ay (ab ⟨w.heap.size+1,0,af⟩),J R x.1,ay q,ar #[J R c,J R d],dI (ed 309) #[] #[ay (ab ⟨w.heap.size+1+1,0,af⟩),ay (ab ⟨w.heap.size+1+1+1,0,af⟩)],J R x.1,ar #[J R x.2.1,J R x.2.2],a7,a7,a7,a7,a7],defers:=[]}) ?assign ?body ?done ?stop
 case assign=>
  intro l x W K f;gi_wp2;exact f
 case body=>
  rintro l pre x W ⟨⟨v,hh,hrow⟩,a⟩ hlt;have hc:=p2 hh;have b:=hid (And.intro hh (And.intro hrow a));have Q:w.heap.size+4<=W.heap.size:=by have:=a.size;omega
  have A:=hid (And.intro hlt G.out);clear hh hrow a;gi_wp2_with (gi_at_builtin;refine wpListIn_append_own _ aa _ _ 82 aa (w.heap.size+4) 3 I (J R 0) 1 8 jo g.out.1 g.out.2.1 g.out.2.2.1 g.out.2.2.2 aa aS _ _ _ aa (b.out.2.1.alloc _) ⟨W.heap.size,0,af⟩ 1 1 [J R x.1] aa aa (cell_one_new _ _ _) (by simp[zG]) (by have:=A.out;unfold eB;omega) (by have:=A.out;omega) (by simp;omega) ?_;intro v' w1 hown' hgrow _;obtain⟨M,L,rfl⟩:=ownsRow_succ hown';(have t:aE (av (λi=>w.heap.size+4<=i) W w1):=hid ((av.alloc W _).trans (av.of_grownBy (F:=λi=>w.heap.size+4<=i) hgrow (λk hk=>b1 (wN b.out.2.1 k hk).1)) (λ_ _ h=>h)));(have y:=t.out.heap b.out.1 ad);have hc1:=p2 y;have P:=W2 y);refine⟨(((azu W _).trans (azv hgrow (λj o e ho=>aeC (b.out.2.1.alloc _) e ho))).trans (azw _ _ _)).from _,?_,?_⟩;·exact(t.out.mono (λi _ h=>cm h)).trans (av.setCell _ (p:=_) (b1 aa) _) (λ_ _ h=>h)
  .refine⟨⟨_,W4 y,?_⟩,(b.out.2.2.trans (t.out.mono (λi _ h=>cm h)) (λ_ _ h=>h)).trans (av.setCell _ (p:=_) (b1 aa) _) (λ_ _ h=>h)⟩;grind[W5,wN]
 case done=>
  rintro D bY W H rfl ⟨⟨v,hh,hrow⟩,a⟩ f;have hc:=p2 hh;gi_wp2;refine⟨bg,b1 ⟨_,_,aa,run_takeDeferred f,?_⟩⟩;exact⟨_,results_tmp aa _ _ _,v,aa,Dn (ownsRow_putObj hrow _ f aa) ad,ap4 m.out.1 (a.trans (aaf hsz W D _ _ H f aa aa) (λ_ _ h=>h))⟩
 case stop=>simp
def atx p S(c d)w(b:oG w p S)(g:j0 S)(i:eY (c,d)):
 aD ax 181 #[ay (ab ⟨p,0,af⟩),ar #[J R c,J R d]] w λe a=>∃v,e=aB v/\a.ownsRow w.heap.size 3 1 v (parts (c,d) S).length ((parts (c,d) S).map (λx=>J R x.1))/\au w a:=
 (sM (n:=3)).1 (aty 3 (b9 _) _ _ S.length (by obtain⟨_,_,_,_,h⟩:=b;exact h) c d w (hid (λaq f=>auA 2 ad (jm w.heap.size) _ _ p S c d i g aq (hid (ap5 b f)))))
def ig(l:List Part):Int:=l.foldl (λn x=>RowKit.wrap64 (n+x.2.2)) 0
end
namespace G
def aqV(w:aQ)(o o'):((w.alloc o).alloc o').heap[w.heap.size+1]?=ab o':=by grind[fL,zI]
abbrev cf(w w':aQ):Prop:=av (λi=>w.heap.size<=i) w w'
def cf.aI{w w'}(h:cf w w'):au w w':=⟨h.os,h.tape,h.output,h.size,λk hk _=>h.block k hk ad⟩
def Dp{w base v m xs}(h:w.ownsRow base 3 1 v m (xs.map (J R))):∃A c,v=ae A xs.length c/\dA w A xs:=by
 have a:m=xs.length:=by simpa using h.1.symm
 subst a;rcases h.2 with⟨rfl,hz⟩|⟨g,cap,cur,rfl,_⟩;·grind[dA.nil]
 .grind[dA.ot]
def Dn{w:aQ}{base a e size:Nat}{v m xs}(h:w.ownsRow base e size v m xs)(hb:a<=base):w.ownsRow a e size v m xs:=by
 refine⟨h.1,?_⟩;rcases h.2 with h2|⟨g,cap,cur,rfl,hg,r⟩;·grind
 .exact cm ⟨g,_,_,aa,dT hb hg,r⟩
def q5.from{w w1 w' v xs}(h:q5 w1 w' v xs)(a:w.heap.size<=w1.heap.size):q5 w w' v xs:=Dn h a
def mc(E:List (Int×Int))(v:Int):List Int:=rG (succ E v)
def nf(E:List (Int×Int))(v:Int):List Int:=rG (pred E v)
set_option maxHeartbeats 400000 in
def auv b(n v)E F w(h:hA w F b n E)(hv:cO v)(k:E.length<=1099511627776):
 aD ax 92 #[ay (ab ⟨b,0,af⟩),J R v] w λe w'=>∃r,e=aB r/\q5 w w' r (mc E v)/\au w w':=by
 obtain⟨⟨fV,mo,fI,e4,eX,g⟩,_⟩:=h;have j:=fE _ _ 2 _ _ _ g.blk;simp at j;have hlk:=(g.out.lookup pD BO Gk hv).1;obtain⟨A,c,a,d⟩:=Dp (g.I6 v);rw[a]at hlk;replace hlk:(qQ 303 (dL (ab mo)) (J R v) ao).run ax w=bf (ae A (succ E v).length c) w:=hlk;have hlen:=Js E v;have f:=hid d;clear a d g;go_enter func92,ntmps92
 go_wp2_with (first
  |(go_at_call 184;refine(agQ A _ c w).mono ?_;rintro e w' ⟨rfl,rfl⟩)
  |(go_at_call 183;refine(af9 _ c A _ ad _ (fE _ _ 0 _ _ _ (fL w _)) (f.out.aI (av.alloc w _))).mono ?_;rintro e w' ⟨r,rfl,hr,i⟩));go_ret;exact⟨r,aa,hr.from bg,au.trans (av.alloc w _) i⟩
set_option maxHeartbeats 400000 in
def asi b(n v)E F w(h:hA w F b n E)(hv:cO v)(k:E.length<=1099511627776):
 aD ax 304 #[ay (ab ⟨b,0,af⟩),J R v] w λe w'=>∃r,e=aB r/\q5 w w' r (nf E v)/\au w w':=by
 obtain⟨⟨fV,mo,fI,e4,eX,g⟩,_⟩:=h;have j:=fE _ _ 3 _ _ _ g.blk;simp at j;have hlk:=(g.ng.lookup pD BO Gk hv).1;obtain⟨A,c,a,d⟩:=Dp (g.Ti v);rw[a]at hlk;replace hlk:(qQ 303 (dL (ab fI)) (J R v) ao).run ax w=bf (ae A (pred E v).length c) w:=hlk;have hlen:=T8 E v;have f:=hid d;clear a d g;go_enter func304,ntmps304
 go_wp2_with (first
  |(go_at_call 184;refine(agQ A _ c w).mono ?_;rintro e w' ⟨rfl,rfl⟩)
  |(go_at_call 183;refine(af9 _ c A _ ad _ (fE _ _ 0 _ _ _ (fL w _)) (f.out.aI (av.alloc w _))).mono ?_;rintro e w' ⟨r,rfl,hr,i⟩));go_ret;exact⟨r,aa,hr.from bg,au.trans (av.alloc w _) i⟩
def run_len_map{P w fv enc}{ok:fv->Prop}{m a}(h:d' w m enc ok a){t k e}(d:P.underlying t=ab (.map k e))ty:(ahW #[t] ty #[dL (ab m)]).run P w=bf (J R a.length) w:=by
 obtain⟨es,f,hb,_,_,b,_⟩:=h;have c:es.size=a.length:=by have:=congrArg q4 b;simpa using this
 rw[<-c];simp[ahW,run_underlying d,MapKept.run_getObj_map hb,goInt,Result.andThen]
def sw(seen:List Int):List (Int×aP):=seen.map (λx=>(x,ai az))
theorem afL seen x:ej (sw seen) x=if x∈seen then ab (ai az)else none:=by
 unfold sw;by_cases h:x∈seen
 .rw[if_pos h];unfold ej;induction seen with
  |nil=>grind
  |cons y r a=>grind
 grind[Np]
def awP{seen x}(h:x∉seen):kb (sw seen) x (ai az)=sw (seen++[x]):=by grind[sw,IY,afL,Nq]
def afM seen:(sw seen).map (·.1)=seen:=by simp[sw,Kn]
def auH{w:aQ}{base g m cap xs x}(h:w.ownsRow base 3 1 (ae (ab ⟨g,0,af⟩) (m+1) cap) (m+1) ((xs++[x]).map (J R)))(j:xs.length=m):
 w.ownsRow base 3 1 (ae (ab ⟨g,0,af⟩) m cap) m (xs.map (J R))/\w.cell? ⟨g,m,af⟩=ab (J R x)/\m+1<=cap:=by
 have hcell:=h.cells (g:=g) aa m (J R x) aH;rw[mW,iY]at hcell;rcases h.2 with⟨hv,_⟩|⟨f,e,cur,hv,hb,d,h1,a,b,c⟩;·omega
 .cases hv;refine⟨⟨aH,cm ⟨g,_,_,aa,hb,d,ad,a,b,?_⟩⟩,hcell,h1⟩;have i:=congrArg (List.take m) c;grind
def lenOf:aP->Nat|.slice _ n _=>n|_=>0
def Nl(w:aQ)(b:Nat):Nat:=match w.heap[b]? with|some (iU es _)=>es.size|_=>0
def _root_.Go.Proofs.YtcmhplknoglbkaaGreat.d'.size{w b a}(h:d' w b encI cO a):Nl w b=a.length:=by obtain⟨es,c,hb,_,_,d,_⟩:=h;have:=congrArg q4 d;simp only[Nl,hb];simpa using this
def avx b(n v)E F w(fB:hA w F b n E)(hv:cO v)(fN:E.length<=1048576):
 aD ax 362 #[ay (ab ⟨b,0,af⟩),J R v] w λe w'=>∃r xs,e=aB r/\q5 w w' r xs/\X2 E v xs/\au w w':=by
 obtain⟨⟨fV,mo,fI,e4,eX,g⟩,ey,hval⟩:=fB;have l6:=g.n0;have om:=g.mI;have gA:=@Pu ax;have I:=g.only (av.alloc (F:=λ_=>False) w (iU #[] 0)) (λ_ _ h=>h);have vR:=d'.made w encI cO;have S:=fE _ _ 2 _ _ _ I.blk;simp at S;have hlk:=(I.out.lookup pD BO Gk hv).1;obtain⟨V,b0,l4,aaD⟩:=Dp (I.I6 v);rw[l4]at hlk;replace hlk:(qQ 303 (dL (ab mo)) (J R v) ao).run ax (w.alloc (iU #[] 0))=bf (ae V (succ E v).length b0) (w.alloc (iU #[] 0)):=hlk;have ark:=Js E v;have Y:=hid aaD;have G0:=hid vR;have B:=hid (And.intro g (And.intro ey hval));have H:n.toNat*(E.length+1)<=1048576*1048577:=Nat.mul_le_mul ad ad;clear l4 aaD vR I g ey hval;go_enter func362,ntmps362;go_wp2_with fail;go_step3;go_wp2_with (go_at_call 380;refine(anL V b0 _ _ Y.out ad).mono ?_;rintro e w1 ⟨e0,rfl,hr1,hg1⟩);obtain⟨W,c1,rfl,_⟩:=Dp hr1;have ald:=hid (Dn hr1 (cC _));have Ea:aE (∀i,(ae W (succ E v).length c1).ownBlock=ab i->w.heap.size<i):=hid (λi hi=>by have:=(hr1.lt i hi).1;simp at this;omega);have G3:aE (av (λi=>w.heap.size<=i) w w1):=hid ((av.alloc _ _).trans hg1 (λ_ _ h=>h.elim));have akQ:=hid (G0.out.only hg1 (λh=>h));clear hr1 hg1 hlk S Y G0 gA;go_step3;go_wp2_with fail;obtain⟨i0,jd,hz0,hz1,hz2⟩:=vf Fs;have C:=hid (And.intro jd (And.intro hz0 (And.intro hz1 hz2)));clear jd hz0 hz1 hz2;have X:aE (∀wr,av (λi=>w.heap.size<=i) w wr->kP wr F b n E E E fV mo fI e4 eX):=hid λwr f=>B.out.1.only (cf.aI f) (λ_ _ h=>h)
 go_loopw [6] (λT wr=>∃seen st A m c,T=ae A m c/\aE (st.length=m)/\wr.ownsRow 0 3 1 (ae A m c) m (st.map (J R))/\(∀i,(ae A m c).ownBlock=ab i->w.heap.size<i)/\
  d' wr w.heap.size encI cO (sw seen)/\tB E v seen st/\av (λi=>w.heap.size<=i) w wr/\(n.toNat -seen.length)*(E.length+1)+m<=n.toNat*(E.length+1)+E.length)
  (λT wr=>(n.toNat -Nl wr w.heap.size)*(E.length+1)+lenOf T);case atStart=>exact⟨[],succ E v,W,_,c1,aa,hid aa,ald.out,Ea.out,akQ.out,tB.start E v,G3.out,aH⟩
 case round=>
  obtain⟨seen,st,A,m,c,rfl,hlen,hrow,K,o,d,f,z⟩:=hrel;have N:=X.out wr f;rcases Li st with rfl|⟨L,x,rfl⟩
  .obtain rfl:m=0:=hlen.out.symm;have D:=hid (And.intro hrow (And.intro o (And.intro d f)))
   have acB:seen.length*8<=140737488351232:=by have h1:=FD (n:=n.toNat) d.A1 (λy Q=>by have:=A7 B.out.2.2 (d.path y (b1 Q));omega);omega
   have zZ:=hid acB;clear hrow o d f N acB z H ark K hlen
   go_wp2_with (first
    |(go_at_call 381;refine(Tn _ wr).mono ?_;rintro e w' ⟨rfl,rfl⟩)
    |(go_at_call 183;refine(axj _ _ _ (by simpa [sw]using zZ.out) _ (fE _ _ 0 _ _ _ (fL wr _)) (D.out.2.1.only (av.alloc (F:=λ_=>False) wr _) (λh=>h))).mono ?_;rintro e w' ⟨r,rfl,hr,hg⟩));rw[Exit.noGoto_ret];go_ret;have aaL:=D.out.2.2.2;refine⟨r,_,aa,hr.from (by have:=aaL.size;simp;omega),⟨?_,λy=>?_⟩,?_⟩;·rw[afM];refine((alT.2 ⟨N1 _,(zp _).nodup_iff.2 D.out.2.2.1.A1⟩)).imp (λh=>ad)
   .rw[afM,(zp _).mem_iff];exact D.out.2.2.1.done y
   .exact au.trans (cf.aI aaL) (au.trans (av.alloc wr _) hg)
  .simp only[alM]at hrow d hlen;obtain⟨l,rfl⟩:∃l,m=l+1:=⟨L.length,by have:=hlen.out;simp at this;omega⟩;have O:aE (L.length=l):=hid (by have:=hlen.out;simp at this;omega)
   obtain⟨k,rfl⟩:∃k,A=ab ⟨k,0,af⟩:=by
    rcases hrow.2 with⟨_,h0⟩|⟨il,oN,cur,hv,_⟩;·omega
    .grind
   obtain⟨hrow',hcell,EX⟩:=auH hrow O.out;have hrg:=A7 B.out.2.2 (d.path x (cm bg));have P:cO x:=⟨ad,ad⟩;have p:=(o.lookup pD WH U3 P).1;rw[afL]at p;have uy:l+1<=1099513724928:=ad;have hgb:w.heap.size<k:=K k aa;by_cases hx:x∈seen
   .rw[if_pos hx]at p;replace p:(qQ 467 (dL (ab w.heap.size)) (J R x) ao).run ax wr=bf (ai az) wr:=p;have j:=hid (And.intro hrow' (And.intro o (And.intro (d.skip hx) f)));have M:=hid z;clear hrow hrow' o d f z N hlen hx K H;go_wp2;go_roundw;case rel=>exact⟨_,_,_,_,_,aa,O,j.out.1,λi hi=>by cases hi;exact hgb,j.out.2.1,j.out.2.2.1,j.out.2.2.2,by have:=M.out;omega⟩
    case measure=>simp[lenOf]
   .rw[if_neg hx]at p;replace p:(qQ 467 (dL (ab w.heap.size)) (J R x) ao).run ax wr=bf (ai ao) wr:=p;have G:=d.visit hx
    have hle:seen.length+1<=n.toNat:=by have:=FD (n:=n.toNat) G.A1 (λy Q=>by have:=A7 B.out.2.2 (G.path y (b1 Q));omega);simpa using this
    have hlx:=Js E x;have abV:=aoQ (n:=n.toNat) (s:=seen.length) (t:=l) ad hlx
    have ale:aE (∀a,wr.grownBy a (ab w.heap.size)->d' a w.heap.size encI cO (kb (sw seen) x (ai az))->∃q dx,a.cell? ⟨b,2,af⟩=ab (dL (ab mo))/\
     (qQ 303 (dL (ab mo)) (J R x) ao).run ax a=bf (ae q (succ E x).length dx) a/\aE (dA a q (succ E x))/\
     aE (a.ownsRow 0 3 1 (ae (ab ⟨k,0,af⟩) l c) l (L.map (J R)))/\aE (d' a w.heap.size encI cO (sw (seen++[x])))/\aE (av (λi=>w.heap.size<=i) w a)):=hid λa hg2 u=>by
     have hk:av (λi=>i=w.heap.size) wr a:=av.of_grownBy hg2 (λi e=>aH);have nH:av (λi=>w.heap.size<=i) w a:=f.trans hk (λi hi h=>ad);have g2:=X.out a nH;have S:=fE _ _ 2 _ _ _ g2.blk;have hl2:=(g2.out.lookup pD BO Gk P).1;obtain⟨q,dx,R0,aqs⟩:=Dp (g2.I6 x);rw[R0]at hl2;rw[awP hx]at u;exact⟨q,dx,aH,hl2,hid aqs,hid (pH hrow' hk (λi hi e=>by cases hi;exact absurd (show k=w.heap.size from e) ad)),hid u,hid nH⟩
    have dG:=hid hx;have cg:=hid o;have Ed:=hid hrow';have eV:=hid G;have ym:=hid f;have M:=hid z;have oC:=hid hle;have Z:=hid abV;have azO:=hid H;clear hrow hrow' o d G f z N hlen hx K H hle abV
    go_wp2_with (first
     |(at_mapUpdate;refine JD aa _ _ _ aa pD WH cg.out (by have:=oC.out;unfold eB;simp[sw];omega) aa P aa (ai _) aa ?_;intro a u hg2 hs2;obtain⟨q,dx,c8,c4,iR,qB,Bb,Du⟩:=ale.out a hg2 u;clear u hg2 hs2)
     |(at_builtin;refine agY _ aa (bj 37) (bj 43) 82 aa 0 3 i0 _ 1 8 jo C.out.1 C.out.2.1 C.out.2.2.1 C.out.2.2.2 aa ad k l c (L.map (J R)) aa qB.out q (succ E x).length dx ((succ E x).map (J R)) aa (dA.cells iR.out) (TQ _) (by grind[eB]) ad bg ?_;intro g3 km U Ip H7 aa5 ab3));have hk3:av (λi=>i=k) a U:=av.of_grownBy H7 (λi e=>aH);have py:av (λi=>w.heap.size<=i) w U:=Du.out.trans hk3 (λi hi h=>ad)
    have hg3:w.heap.size<g3:=by have h1:=Du.out.size;have h2:=Bb.out.lt;rcases aa5 with h|h<;>omega
    have HQ:d' U w.heap.size encI cO (sw (seen++[x])):=Bb.out.only hk3 (λe=>ad);have j:=hid (And.intro Ip (And.intro HQ py));have akB:=hid hg3;clear Ip H7 aa5 ab3 hk3 py HQ hg3 c8 c4;go_wp2;go_roundw
    case rel=>
     refine⟨_,_,_,_,_,aa,hid (by have:=O.out;simp;omega),by rw[List.map_append];exact j.out.1,λi hi=>by cases hi;exact akB.out,j.out.2.1,eV.out,j.out.2.2,?_⟩;have h1:=M.out;have h2:=Z.out;grind
    case measure=>
     have h2:=Z.out;have bE:=d'.size j.out.2.1;have cr:=d'.size cg.out;grind[sw,lenOf]
abbrev Valid(n:Int)(E:List (Int×Int)):Prop:=∀e∈E,(0<=e.1/\e.1<n)/\(0<=e.2/\e.2<n)/\e.1≠e.2
theorem UI(N k)(h:k<N):(gm N).take (k+1)=(gm N).take k++[(k:Int)]:=by grind[gq,gm]
def Ns(w:aQ)x t:∀j u,[x][j]?=ab u->(w.alloc (bo #[x] t)).cell? ((⟨w.heap.size,0,af⟩:bT).add j)=ab u:=by
 intro j u h;rw[mW,iY];match j with
 |0=>
  simp at h;subst h;exact fE _ _ 0 _ _ _ (fL w _)
 |j+1=>grind
def hA.TD{w F b n E}(h:hA w F b n E):w.cell? ⟨b,0,af⟩=ab (J R n):=by obtain⟨⟨fV,mo,fI,e4,eX,g⟩,_⟩:=h;exact fE _ _ 0 _ _ _ g.blk
def EC A c xs x w r(h:decide (x∈xs)=r)(hx:dA w A xs)(h1:xs.length<=9223372036854775807):
 aD ax 190 #[ae A xs.length c,J R x] w λe w'=>e=aB (ai r)/\w=w':=by grind[Hw]
def ad0{E u x}:x∈mc E u↔(u,x)∈E:=(zp _).mem_iff.trans IW
theorem Ty{E u x}:u∈nf E x↔(u,x)∈E:=(zp _).mem_iff.trans atC
def auu E u:(mc E u).length<=E.length:=by grind[mc,N0,Js]
def ac8 E u:(nf E u).length<=E.length:=by grind[nf,N0,T8]
def afa b(n v)E F w(a:hA w F b n E)(hv:cO v)(d:E.length<=1048576):
 aD ax 362 #[ay (ab ⟨b,0,af⟩),J R v] w λe w'=>∃A c xs,e=aB (ae A xs.length c)/\dA w' A xs/\X2 E v xs/\xs.length<=9223372036854775807/\au w w':=by
 refine(avx b n v E F w a hv d).mono ?_;rintro e w' ⟨r,bY,rfl,hn,hr,f⟩;obtain⟨A,c,rfl,hi,h1,g,_⟩:=hn.form;exact⟨A,c,bY,aa,hi,hr,by grind[eB],f⟩
def axw{E}(b:E.Nodup)u:(succ E u).Nodup:=by unfold succ alJ;rw[yv];refine(X4 _ b).imp_of_mem (λ{a c} d hc h e=>h ?_);grind
def au9{E}(b:E.Nodup)u:(pred E u).Nodup:=by unfold pred alJ;rw[yv];refine(X4 _ b).imp_of_mem (λ{a c} d hc h e=>h ?_);grind
def axe{xs}(h:xs.Nodup):(rG xs).Pairwise (·<·):=
 (alT.2 ⟨N1 xs,(zp xs).nodup_iff.2 h⟩).imp (λh=>ad)
def cut(E:List (Int×Int))(s:List Int):List (Int×Int):=E.filter (λe=>decide (e.1∉s/\e.2∉s))
theorem uM{E s u x}:(u,x)∈cut E s↔(u,x)∈E/\u∉s/\x∉s:=by simp[cut]
def HA E:cut E []=E:=by simp[cut]
theorem Path.mono{E E'}(h:∀e,e∈E->e∈E'){u x}(p:Path E u x):Path E' u x:=by
 induction p with
 |one e=>exact .one (h _ e)
 |more _ e a=>exact .more a (h _ e)
def Path.last{E u x}(p:Path E u x):∃y,(y,x)∈E:=by
 cases p with
 |one e=>grind
 |more _ e=>grind
def Ag(E:List (Int×Int))(N:Nat)(s out:List Int)(v:Int):Prop:=(0<=v/\v<N)/\v∉s/\v∉out/\∀u,(u,v)∈E->u∈s\/u∈out
def QD(E:List (Int×Int))(N:Nat)(s out:List Int)(v:Int):Prop:=Ag E N s out v/\∀u,Ag E N s out u->v<=u
inductive ll (E:List (Int×Int)) (N:Nat) (s:List Int):List Int->Prop where
 |nil:ll E N s []
 |snoc {out:List Int} {v:Int} (h:ll E N s out) (l:QD E N s out v):ll E N s (out++[v])
def oH(E:List (Int×Int))(N:Nat)(s out:List Int):Prop:=ll E N s out/\∀v,¬Ag E N s out v
section
variable {E:List (Int×Int)} {N:Nat} {s out:List Int}
def ll.at{l}(h:ll E N s l):∀p a t,l=p++a::t->QD E N s p a:=by
 induction h with
 |nil=>intro p a t e;cases p<;>cases e
 |snoc h l b=>
  intro p a t e;rcases Li t with rfl|⟨cc,z,rfl⟩;·grind[QF]
  grind[QF]
def ll.ahead{l d}(h:ll E N s l)(b:oH E N s d):l<+:d:=by
 induction h with
 |nil=>simp
 |snoc h l e=>
  obtain⟨t,rfl⟩:=e;cases t with
  |nil=>rw[kE]at b;exact absurd l.1 (b.2 _)
  |cons a t=>
   have c:=b.1.at _ a t aa;have bE:=l.2 _ c.1;have cr:=c.2 _ l.1;obtain rfl:=Int.le_antisymm bE cr;exact⟨t,bg⟩
def oH.unique{l c}(h:oH E N s l)(b:oH E N s c):l=c:=by
 obtain⟨t,rfl⟩:=h.1.ahead b;cases t with
 |nil=>simp
 |cons a t=>exact absurd (b.1.at _ a t aa).1 (h.2 _)
def ll.nodup{l}(h:ll E N s l):l.Nodup/\∀v∈l,(0<=v/\v<N)/\v∉s:=by
 induction h with
 |nil=>simp
 |snoc h l d=>
  refine⟨yu.2 ⟨d.1,bg,?_⟩,?_⟩
  .intro a c b hb e;obtain rfl:b=_:=by simpa using hb
   exact l.1.2.2.1 (e▸c)
  .intro v hv;rcases iX.1 hv with hv|hv;·grind
   .obtain rfl:v=_:=by simpa using hv
    exact⟨l.1.1,l.1.2.1⟩
def ll.length{l}(h:ll E N s l):l.length<=N:=FD h.nodup.1 (λx hx=>(h.nodup.2 x hx).1)
def afc{v}(h:Ag E N s out v):∃u,QD E N s out u:=by
 generalize hk:v.toNat=k;induction k using QV generalizing v with
 |_ k b=>
  by_cases a:∃u,Ag E N s out u/\u<v;·obtain⟨u,hr,hlt⟩:=a;have c:=hr.1.1;exact b _ ad hr aa
  .exact⟨v,h,λu hr=>aH⟩
def aus k:∀{out},ll E N s out->N -out.length<=k->∃o,oH E N s o:=by
 induction k with
 |zero=>
  intro out h hk;refine⟨out,h,λv hv=>?_⟩;obtain⟨u,a⟩:=afc hv;have:=(ll.snoc h a).length;simp at this;omega
 |succ k b=>
  intro out h hk;by_cases hr:∃v,Ag E N s out v;·obtain⟨v,hv⟩:=hr;obtain⟨u,a⟩:=afc hv;have:=(ll.snoc h a).length;simp at this;exact b (ll.snoc h a) aH
  .exact⟨_,h,λv hv=>hr ⟨v,hv⟩⟩
def aeB E N s:∃o,oH E N s o:=aus N .nil bg
def ll.L9{l}(h:ll E N s l){u x}(a:(u,x)∈E)(b:u∉s)(hx:x∈l):u∈l/\l.idxOf u<l.idxOf x:=by obtain⟨p,t,rfl,c⟩:=List.eq_append_cons_of_mem hx;have d:=((h.at p x t aa).1.2.2.2 u a).resolve_left b;grind
def ll.path{l}(h:ll E N s l){u x}(p:Path (cut E s) u x)(hx:x∈l):u∈l/\l.idxOf u<l.idxOf x:=by
 induction p with
 |one e=>exact h.L9 (uM.1 e).1 (uM.1 e).2.1 hx
 |more p e b=>
  have h1:=h.L9 (uM.1 e).1 (uM.1 e).2.1 hx;have a:=b h1.1;exact⟨a.1,ad⟩
def ll.aea{l}(h:ll E N s l){x}(p:Path (cut E s) x x):x∉l:=λhx=>by have:=(h.path p hx).2;omega
def Zh{f:Type}{p q a}:∀{l:List f},(∀x∈l,p x=az->q x=az)->a∈l->p a=ao->q a=az->l.countP p<l.countP q
 |[],_,c,_,_=>by grind
 |b::r,h,c,d,e=>by
  have g:r.countP p<=r.countP q:=List.countP_mono_left (λx hx=>h x (p8 _ hx));rw[Hb,Hb];rcases gy.1 c with rfl|c;·grind
  .have:=Zh (λx hx=>h x (p8 _ hx)) c d e;grind
def aow{S:Int->Prop}(hr:∀x,S x->0<=x/\x<(N:Int))(e:∀x,S x->∃u,S u/\(u,x)∈E){x}(hx:S x):∃c,S c/\Path E c c:=by
 classical
 generalize hk:(gm N).countP (λz=>decide (S z/\Path E z x))=k;induction k using QV generalizing x with
 |_ k f=>
  obtain⟨u,b,d⟩:=e x hx;by_cases hc:Path E u u;·grind
  .refine f _ ?_ b aa;rw[<-hk];refine Zh (a:=u) (λz _ hz=>?_) (AZ.2 (hr u b)) ?_ ?_;·simp only[decide_eq_true_eq]at hz⊢;exact⟨hz.1,.more hz.2 d⟩
   .grind
   .simp;exact⟨b,.one d⟩
def oH.left(e:Valid N E){l}(h:oH E N s l){v}(hv:0<=v/\v<(N:Int))(d:v∉s)(a:v∉l):∃c,c∉l/\Path (cut E s) c c:=by
 obtain⟨c,hc,b⟩:=aow (E:=cut E s) (N:=N) (S:=λx=>(0<=x/\x<(N:Int))/\x∉s/\x∉l) (λx hx=>hx.1) (λx hx=>by
  by_cases g:∃u,(u,x)∈E/\u∉s/\u∉l;·grind[uM]
  .refine absurd ⟨hx.1,hx.2.1,hx.2.2,λu f=>?_⟩ (h.2 x);grind) ⟨hv,d,a⟩;exact⟨c,hc.2.2,b⟩
theorem Valid.cut{N}(a:Valid N E)s:Valid N (cut E s):=λe b=>a e (nB.1 b).1
def kT(E:List (Int×Int))(s xs:List Int):Prop:=xs.Pairwise (·<·)/\∀x,x∈xs↔Path (cut E s) x x
def kT.unique{xs bY}(h:kT E s xs)(k:kT E s bY):xs=bY:=ZV h.1 k.1 (λx=>(h.2 x).trans (k.2 x).symm)
def HC(a:Valid N E)s:∃xs,kT E s xs:=by
 classical
 refine⟨(gm N).filter (λx=>decide (Path (cut E s) x x)),(Jz N).filter _,λx=>?_⟩;rw[nB,decide_eq_true_eq];exact⟨λh=>h.2,λh=>⟨AZ.2 (A7 (a.cut s) h),h⟩⟩
def nN(N:Nat)(s out:List Int):List Int:=(gm N).filter (λv=>!decide (v∈s)&&!decide (v∈out))
def No{v}:v∈nN N s out↔(0<=v/\v<(N:Int))/\v∉s/\v∉out:=by simp[nN,AZ]
def oH.afi(b:Valid N E){l xs}(h:oH E N s l)(hx:kT E s xs):nN N s l=[]↔xs=[]:=by
 constructor;·intro hr;refine Ej.2 (λx i=>?_);have a:=(hx.2 x).1 i;have g:=h.1.aea a;obtain⟨y,j⟩:=a.last;have:x∈nN N s l:=No.2 ⟨A7 (b.cut s) a,(uM.1 j).2.2,g⟩;rw[hr]at this;cases this
 .intro f;refine Ej.2 (λv hv=>?_);obtain⟨h1,d,e⟩:=No.1 hv;obtain⟨c,_,a⟩:=h.left b h1 d e;have:=(hx.2 c).2 a;rw[f]at this;cases this
def kT.rest(b:Valid N E){l xs}(h:oH E N s l)(hx:kT E s xs){v}(hv:v∈xs):v∈nN N s l:=by have a:=(hx.2 v).1 hv;obtain⟨y,c⟩:=a.last;exact No.2 ⟨A7 (b.cut s) a,(uM.1 c).2.2,h.1.aea a⟩
end
def oy(ws:List Int)(v:Int):Int:=if 0<=v/\v<(ws.length:Int)then ws[v.toNat]?.getD 0 else 0
def Cq(f:Int->Int)(o:Option Int)(x:Int):Option Int:=match o with
 |none=>ab x
 |some y=>if f x<f y then ab x else ab y
def jH(f:Int->Int)(L:List Int):Option Int:=L.foldl (Cq f) af
def amY f:jH f []=none:=rfl
theorem Rf f L x:jH f (L++[x])=Cq f (jH f L) x:=by grind[jH]
def YT f o x:∃y,Cq f o x=ab y/\(y=x\/o=ab y):=by unfold Cq;grind
def aw9{p:List Int->Prop}(a:p [])(h1:∀L x,p L->p (L++[x]))L:p L:=by
 have:∀n:Nat,∀L:List Int,L.length=n->p L:=by
  intro n;induction n with
  |zero=>grind
  |succ n b=>
   intro L h;rcases Li L with rfl|⟨t,z,rfl⟩;·omega
   grind
 exact this _ L aa
def Rc{f L v}:jH f L=ab v->v∈L:=by revert v;refine aw9 (p:=λL=>∀{v},jH f L=ab v->v∈L) (λh=>by cases h) (λL x b v h=>?_) L;rw[Rf]at h;obtain⟨y,e,a⟩:=YT f (jH f L) x;grind
theorem Re{f L}:jH f L=af↔L=[]:=by
 rcases Li L with rfl|⟨t,z,rfl⟩;·simp[amY]
 .rw[alM,Rf];obtain⟨y,e,_⟩:=YT f (jH f t) z;rw[e];simp
def kept(xs keep:List Int):List Int:=xs.filter (λv=>!decide (v∈keep))
def Tz{xs keep v}:v∈kept xs keep↔v∈xs/\v∉keep:=by simp[kept]
inductive k' (E:List (Int×Int)) (ws keep:List Int):List Int->Prop where
 |nil:k' E ws keep []
 |snoc {out xs:List Int} {v:Int} (h:k' E ws keep out) (hx:kT E out xs) (hb:jH (oy ws) (kept xs keep)=ab v):k' E ws keep (out++[v])
def wX(E:List (Int×Int))(ws keep out xs:List Int):Prop:=k' E ws keep out/\kT E out xs/\jH (oy ws) (kept xs keep)=af
section
variable {E:List (Int×Int)} {N:Nat} {ws keep out:List Int}
def k'.at{l}(h:k' E ws keep l):∀p a t,l=p++a::t->∃xs,kT E p xs/\jH (oy ws) (kept xs keep)=ab a:=by
 induction h with
 |nil=>intro p a t e;cases p<;>cases e
 |snoc h hx hb b=>
  intro p a t e;rcases Li t with rfl|⟨cc,z,rfl⟩;·grind[QF]
  grind[QF]
def k'.ahead{l c f}(h:k' E ws keep l)(b:wX E ws keep c f):l<+:c:=by
 induction h with
 |nil=>simp
 |snoc h hx hb e=>
  obtain⟨t,rfl⟩:=e;cases t with
  |nil=>
   rw[kE]at b;obtain rfl:=hx.unique b.2.1;rw[b.2.2]at hb;cases hb
  |cons a t=>
   obtain⟨bY,d,hb2⟩:=b.1.at _ a t aa;obtain rfl:=hx.unique d;rw[hb]at hb2;obtain rfl:_=a:=by simpa using hb2
   exact⟨t,bg⟩
def wX.unique{l c xs d}(h:wX E ws keep l xs)(b:wX E ws keep c d):l=c/\xs=d:=by
 obtain⟨t,rfl⟩:=h.1.ahead b;cases t with
 |nil=>
  rw[kE]at b⊢;exact⟨aa,h.2.1.unique b.2.1⟩
 |cons a t=>
  obtain⟨bY,e,hb⟩:=b.1.at _ a t aa;obtain rfl:=h.2.1.unique e;rw[h.2.2]at hb;cases hb
def kT.atV{s xs}(h:kT E s xs){v}(hv:v∈xs):v∉s:=by obtain⟨y,a⟩:=((h.2 v).1 hv).last;exact(uM.1 a).2.2
def kT.range{s xs}(a:Valid N E)(h:kT E s xs){v}(hv:v∈xs):0<=v/\v<(N:Int):=A7 (a.cut s) ((h.2 v).1 hv)
def k'.nodup(d:Valid N E){l}(h:k' E ws keep l):l.Nodup/\∀v∈l,0<=v/\v<(N:Int):=by
 induction h with
 |nil=>simp
 |snoc h hx hb g=>
  have c:=(Tz.1 (Rc hb)).1;refine⟨yu.2 ⟨g.1,bg,?_⟩,?_⟩
  .intro a f b hb' e;obtain rfl:b=_:=by simpa using hb'
   exact hx.atV c (e▸f)
  .intro v hv;rcases iX.1 hv with hv|hv;·grind
   .obtain rfl:v=_:=by simpa using hv
    exact hx.range d c
def k'.length(a:Valid N E){l}(h:k' E ws keep l):l.length<=N:=FD (h.nodup a).1 (h.nodup a).2
def anE(a:Valid N E)k:∀{out},k' E ws keep out->N -out.length<=k->∃o xs,wX E ws keep o xs:=by
 induction k with
 |zero=>
  intro out h hk;obtain⟨xs,hx⟩:=HC a out;cases hb:jH (oy ws) (kept xs keep)with
  |none=>exact⟨_,xs,h,hx,hb⟩
  |some v=>
   have:=(k'.snoc h hx hb).length a;simp at this;omega
 |succ k b=>
  intro out h hk;obtain⟨xs,hx⟩:=HC a out;cases hb:jH (oy ws) (kept xs keep)with
  |none=>exact⟨_,xs,h,hx,hb⟩
  |some v=>
   have:=(k'.snoc h hx hb).length a;simp at this;exact b (k'.snoc h hx hb) aH
def anD(a:Valid N E)(ws keep):∃o xs,wX E ws keep o xs:=anE a N .nil bg
def Path.axS{s u x}(p:Path (cut E s) u x):Path E u x:=p.mono (λ_ a=>(nB.1 a).1)
def k'.aor{l a}(h:k' E ws keep l)(b:kT E [] a):∀v∈l,v∈a:=by
 induction h with
 |nil=>simp
 |snoc h hx hb d=>
  intro v hv;rcases iX.1 hv with hv|hv;·grind
  .obtain rfl:v=_:=by simpa using hv
   have c:=(Tz.1 (Rc hb)).1;rw[b.2,HA];exact((hx.2 _).1 c).axS
end
def ayn ws{k:Nat}(h:k<ws.length):oy ws k=ws[k]?.getD 0:=by grind[oy]
def agV{ws v}(h:v<0\/(ws.length:Int)<=v):oy ws v=0:=by grind[oy]
set_option maxHeartbeats 400000 in
def ayl A c ws v w(a:dA w A ws)(h1:ws.length<=9223372036854775807):
 aD ax 338 #[ae A ws.length c,J R v] w λe w'=>e=aB (J R (oy ws v))/\w=w':=by
 by_cases d:v<0;·rw[agV (b1 d)];have g:decide (v<0)=true:=aH;clear a;go_enter VY,Wk;go_wp2;go_ret;exact⟨aa,aa⟩
 .have g:decide (v<0)=false:=aH;by_cases f:(ws.length:Int)<=v;·rw[agV (cm f)];have h:decide ((ws.length:Int)<=v)=true:=aH;clear a;go_enter VY,Wk;go_wp2;go_ret;exact⟨aa,aa⟩
  .have h:decide ((ws.length:Int)<=v)=false:=aH;obtain⟨k,rfl⟩:∃k:Nat,v=(k:Int):=⟨v.toNat,ad⟩;have hk:k<ws.length:=ad;rw[ayn ws hk];obtain⟨b,off,rfl,hcell⟩:=a ad;have hc:=hcell k hk;clear hcell;generalize ws[k]?.getD 0=x at*;go_enter VY,Wk;go_wp2;go_ret;exact⟨aa,aa⟩
def aw7 (g:Nat) lb f A c L w (cv:dA w A L) (h1:L.length<=9223372036854775807)
 (gz:∀args w,(kB g args).run ax w=bf (.enter g args) w)
 (m:∀x,aD ax g (#[J R x]++lb) w λe w'=>e=aB (J R (f x))/\w=w'):
 aD ax 336 #[ae A L.length c,dI (ed g) #[] lb] w λe w'=>e=aB (bn #[J R ((jH f L).getD 0),ai (decide (0<L.length))])/\w=w':=by
 have h:=hid (And.intro cv m);clear cv m;go_enter func336,ntmps336;go_wp2_with fail;go_loopw [6,11] (λp i wr=>∃k:Nat,k<=L.length/\i=J R k/\p=J R ((jH f (L.take k)).getD 0)/\wr=w) (λ_ i _=>L.length -(c5 i).toNat);case atStart=>exact⟨0,cC _,aa,aa,aa⟩
 case round=>
  obtain⟨k,hk,rfl,rfl,rfl⟩:=hrel;by_cases hlt:k<L.length
  .have hb0:(k:Int)<(L.length:Int):=ad;obtain⟨b,off,rfl,hcell⟩:=h.out.1 ad;have hc:=hcell k hlt;obtain⟨x,hx⟩:∃x,L[k]?=ab x:=⟨_,cE hlt⟩;simp only[hx,vw]at hc;have d:aE (jH f (L.take (k+1))=Cq f (jH f (L.take k)) x):=hid (by grind[gq,Rf]);clear hcell hx;by_cases l:k=0
   .have r:((k:Int)==0)=true:=aH;have a:aE (jH f (L.take (k+1))=ab x):=hid (by rw[d.out,l];rfl);clear l;go_wp2;go_roundw;case rel=>exact⟨k+1,ad,by go_num,by rw[a.out];rfl,bg⟩
    case measure=>grind[c5]
   .have hne:((k:Int)==0)=false:=beq_eq_false_iff_ne.2 ad
    obtain⟨y,o⟩:∃y,jH f (L.take k)=ab y:=by
     cases hb:jH f (L.take k)with
     |none=>grind[Re,List.take_eq_nil_iff]
     |some y=>simp
    rw[o]at d⊢;clear o;have c1:=h.out.2 x;have j:=hid (h.out.2 y);by_cases n:f x<f y
    .have q:decide (f x<f y)=true:=aH;have a:aE (jH f (L.take (k+1))=ab x):=hid (by rw[d.out];unfold Cq;simp[n]);go_wp2_with (go_at_fn g;with_reducible refine c1.mono ?_;clear c1;rintro e w' ⟨rfl,rfl⟩;have c2:=j.out);go_wp2_with (go_at_fn g;with_reducible refine c2.mono ?_;clear c2;rintro e w' ⟨rfl,rfl⟩);go_roundw;case rel=>exact⟨k+1,ad,by go_num,by rw[a.out];rfl,bg⟩
     case measure=>grind[c5]
    .have q:decide (f x<f y)=false:=aH;have a:aE (jH f (L.take (k+1))=ab y):=hid (by rw[d.out];unfold Cq;simp[n]);go_wp2_with (go_at_fn g;with_reducible refine c1.mono ?_;clear c1;rintro e w' ⟨rfl,rfl⟩;have c2:=j.out);go_wp2_with (go_at_fn g;with_reducible refine c2.mono ?_;clear c2;rintro e w' ⟨rfl,rfl⟩);go_roundw;case rel=>exact⟨k+1,ad,by go_num,by rw[a.out];rfl,bg⟩
     case measure=>grind[c5]
  .obtain rfl:k=L.length:=ad;rw[lp];go_wp2;go_ret2;exact⟨aa,aa⟩
def asl f c w:aD ax 363 #[ae af 0 c,f] w λe w'=>e=aB (J R (-1))/\w=w':=by
 go_enter func363,ntmps363;go_wp2_with fail;go_loopw [8] (λi wr=>i=J R 0/\wr=w) (λ_ _=>0);case atStart=>simp
 case round=>
  obtain⟨rfl,rfl⟩:=hrel;go_wp2;go_ret;exact⟨aa,aa⟩
def aoN f c w:aD ax 334 #[ae af 0 c,f] w λe w'=>e=aB (ae af 0 c)/\w=w':=by go_enter func334,ntmps334;go_wp2_with (go_at_call 363;refine(asl f c w).mono ?_;rintro e w1 ⟨rfl,rfl⟩);go_ret;exact⟨aa,aa⟩
def _root_.Go.Proofs.YtcmhplknoglbkaaGreat.av.putRow F w(blk off)d(hb:F blk):av F w (Sort.putRow (J R) w blk off d):=
 ⟨aa,aa,aa,by grind[Sort.size_putRow],λk _ hn=>by show(w.heap.modify blk _)[k]?=_;rw[Array.getElem?_modify,if_neg (λe:blk=k=>hn (e▸hb))]⟩
def _root_.Go.Proofs.YtcmhplknoglbkaaGreat.av.grow F w os:av F w (Sort.grow w os):=
 ⟨aa,aa,aa,by show w.heap.size<=(w.heap++os).size;rw[Array.size_append];omega,λk hk _=>by show(w.heap++os)[k]?=_;rw[Array.getElem?_append_left hk]⟩
def _root_.Go.Proofs.YtcmhplknoglbkaaGreat.av.ahead F w q:av F w (KK w q):=⟨aa,aa,aa,b9 _,λ_ _ _=>aa⟩
def aoM (g:Nat) lb (l:∀args w,(kB g args).run ax w=bf (.enter g args) w) (p:Int->Bool) base v (xs:List Int) w (hv:w.ownsRow base 3 1 v xs.length (xs.map (J R)))
 (hlen:xs.length<=9223372036854775807)
 (hc:∀W x,av (λi=>v.ownBlock=ab i) w W->aD ax g (#[J R x]++lb) W λe w'=>e=aB (ai (p x))/\∃q,w'=W.drewN q):
 aD ax 334 #[v,dI (ed g) #[] lb] w λe w'=>∃A c,e=aB (ae A (xs.filter (λx=>!p x)).length c)/\dA w' A (xs.filter (λx=>!p x))/\(∀k off,A=ab ⟨k,off,af⟩->v.ownBlock=ab k)/\av (λi=>v.ownBlock=ab i) w w':=by
 rcases hv.2 with⟨rfl,hz⟩|⟨a,cap,cur,rfl,hb,u,h1,o,r,s⟩;·obtain rfl:xs=[]:=j3 hz;refine(aoN _ 0 w).mono ?_;grind[dA.nil,av.refl]
 .have t:∀j,j<xs.length->w.cell? ⟨a,0+j,af⟩=ab (J R (xs[j]?.getD 0)):=λj b=>by obtain⟨m,C,e,hcc⟩:=dA.ot hv ad;cases e;exact hcc j b
  have f:Sort.Holds (J R) w a 0 xs.toArray:=λj b=>by grind[wM]
  have y:∀{W},av (λi=>x8 (ae (ab ⟨a,0,af⟩) xs.length cap)=ab i) w W->True:=λ_=>trivial;have d:(λi=>x8 (ae (ab ⟨a,0,af⟩) xs.length cap)=ab i) a:=rfl
  have h:=azA Tryz.as0 (J R) (λ_=>aa) p g lb l 0 Tryz.zeroValue3 a 0 cap xs.toArray w
   (λW x hbl=>by have:=hc W x ⟨hbl.os,hbl.tape,hbl.output,hbl.size,λk hk _=>hbl.block k hk⟩;exact this)
   (λn os fT x B=>by have:=hc (Go.Proofs.sortWorld (J R) w a 0 n fT os) x (((av.ahead _ w n).trans (av.putRow _ _ a 0 fT d) (λ_ _ h=>h)).trans (av.grow _ _ os) (λ_ _ h=>h));exact this)
   f ad ad;simp only[iK]at h;change aD ax 334 _ _ _ at h;refine h.mono ?_;clear h;rintro e w' ⟨rfl,q,rfl⟩;have hle:=Ac (λx=>!p x) xs;refine⟨_,_,rfl,λz=>⟨a,0,rfl,λj b=>?_⟩,(λk off e=>aH),(av.ahead _ w q).trans (av.putRow _ _ a 0 _ d) (λ_ _ h=>h)⟩;have:=(Sort.holds_putRow (J R) (KK w q) a 0 xs.toArray ((xs.filter (λx=>!p x))++List.replicate (xs.length -(xs.filter (λx=>!p x)).length) 0).toArray (Sort.holds_ahead (J R) w q a 0 xs.toArray f) aH j aH).1;rw[this,getElem!_pos _ j aH];simp[b]
section
variable {P:ew} (w:aQ)
end
def Zs E l:(cut E l).length<=E.length:=Ac _ _
def ly(a:List Int)(f:Int->Int):List (Int×aP):=a.map (λv=>(v,J R (f v)))
def dF(f:Int->Int)(x y:Int):Int->Int:=λz=>if z=x then y else f z
def asV a f:(ly a f).map (·.1)=a:=by simp[ly,Kn]
def Dd a f:(ly a f).length=a.length:=by simp[ly]
theorem M9 b f x:ej (ly b f) x=if x∈b then ab (J R (f x))else none:=by
 unfold ej ly;induction b with
 |nil=>simp
 |cons a r c=>grind
theorem adr a f x:so (ly a f) x=decide (x∈a):=by grind[IY,M9]
def To{a f x}(h:x∈a)y:kb (ly a f) x (J R y)=ly a (dF f x y):=by grind[kb,adr,ly,dF,List.map_congr_left]
def asW{a f x}(h:x∉a):kb (ly a f) x (J R (f x))=ly (a++[x]) f:=by grind[Nq,adr,ly]
def asU a f x:AW (ly a f) x=ly (a.filter (λy=>!decide (y=x))) f:=by unfold AW ly;rw[List.filter_map];rfl
def uh(E:List (Int×Int))(D:List Int)(x:Int):Nat:=(nf E x).countP (λu=>decide (u∈D))
def aoL E D x:uh E D x<=E.length:=dT QG (ac8 E x)
def ZA{E D x}:uh E D x=0↔∀u,(u,x)∈E->u∉D:=by grind[uh,List.countP_eq_zero,Ty]
def an9{l:List Int}(hn:l.Nodup)v:l.countP (λu=>decide (u=v))=if v∈l then 1 else 0:=by
 induction l with
 |nil=>simp
 |cons a r b=>grind
def countP_split{b:Type}(p q:b->Bool):∀l:List b,l.countP p=l.countP (λx=>p x&&q x)+l.countP (λx=>p x&&!q x)
 |[]=>aa
 |a::r=>by rw[Hb,Hb,Hb,countP_split p q r];cases p a<;>cases q a<;>simp<;>omega
def Zz{E}(a:E.Nodup){D v x}(hv:v∈D):uh E (D.filter (λy=>!decide (y=v))) x+(if x∈mc E v then 1 else 0)=uh E D x:=by
 unfold uh;rw[countP_split (λu=>decide (u∈D)) (λu=>decide (u=v)) _]
 have h1:(nf E x).countP (λu=>decide (u∈D)&&decide (u=v))=if x∈mc E v then 1 else 0:=by
  have hn:(nf E x).Nodup:=(zp _).nodup_iff.2 (au9 a x)
  have b:(nf E x).countP (λu=>decide (u=v))=if x∈mc E v then 1 else 0:=by rw[an9 hn v];simp only[Ty,ad0]
  grind
 grind
def hN(N:Nat)(s:List Int):List Int:=(gm N).filter (λv=>!decide (v∈s))
theorem Nn{N s x}:x∈hN N s↔(0<=x/\x<(N:Int))/\x∉s:=by simp[hN,AZ]
structure q3 (E:List (Int×Int)) (N:Nat) (s out D:List Int) (f:Int->Int) (gZ:List Int):Prop where
 IP:ll E N s out
 rest:D=(hN N s).filter (λx=>!decide (x∈out))
 ui:∀x∈D,f x=(uh E D x:Int)
 sorted:gZ.Pairwise (·<·)
 ready:∀x,x∈gZ↔x∈D/\f x=0
structure ph (E:List (Int×Int)) (N:Nat) (s out D:List Int) (v:Int) (T:List Int) (f:Int->Int) (gZ:List Int):Prop where
 IP:ll E N s (out++[v])
 rest:D=(hN N s).filter (λx=>!decide (x∈out))
 Od:v∈D
 ui:∀x∈D,x≠v->f x+(if x∈T then 1 else 0)=(uh E D x:Int)
 sorted:gZ.Pairwise (·<·)
 ready:∀x,x∈gZ↔(x∈D/\x≠v)/\f x=0
section
variable {E:List (Int×Int)} {N:Nat} {s out D gZ T:List Int} {f:Int->Int} {v x:Int}
def q3.mem(h:q3 E N s out D f gZ):x∈D↔((0<=x/\x<(N:Int))/\x∉s)/\x∉out:=by rw[h.rest];simp[Nn]
def q3.isReady(e:Valid N E)(h:q3 E N s out D f gZ):x∈gZ↔Ag E N s out x:=by
 rw[h.ready];constructor
 .rintro⟨hx,hf⟩;have c:=h.ui x hx;rw[hf]at c;have hz:uh E D x=0:=ad;have a:=h.mem.1 hx;refine⟨a.1.1,a.1.2,a.2,λu d=>?_⟩;have hn:=ZA.1 hz u d;have hb:=e _ d;by_cases h1:u∈s;·grind
  .by_cases b:u∈out;·grind
   .exact absurd (h.mem.2 ⟨⟨hb.1,h1⟩,b⟩) hn
 .rintro⟨h1,b,h3,h4⟩;have hx:x∈D:=h.mem.2 ⟨⟨h1,b⟩,h3⟩;refine⟨hx,?_⟩;rw[h.ui x hx,ZA.2 (λu d c=>?_)];·rfl
  .have a:=h.mem.1 c;grind
def q3.start f(a:∀x∈hN N s,f x=(uh E (hN N s) x:Int))gZ(hr:gZ=(gm N).filter (λx=>decide (x∈hN N s)&&decide (f x=0))):q3 E N s [] (hN N s) f gZ:=by subst hr;refine⟨.nil,(List.filter_eq_self.2 (λ_ _=>bg)).symm,a,(Jz N).filter _,λx=>?_⟩;grind[AZ,Nn]
def q3.pop(a:Valid N E)(h:q3 E N s out D f (v::gZ)):ph E N s out D v [] f gZ:=by
 obtain⟨g,i⟩:=wY.1 h.sorted;have hv:=(h.ready v).1 (sU ..);refine⟨.snoc h.IP ⟨(h.isReady a).1 (sU ..),λu d=>?_⟩,h.rest,hv.1,λx hx _=>by simpa using h.ui x hx,i,λx=>?_⟩
 .rcases gy.1 ((h.isReady a).2 d)with rfl|c;·omega
  .grind
 .constructor;·intro hx;have h1:=(h.ready x).1 (p8 _ hx);have b:=g x hx;exact⟨⟨h1.1,ad⟩,h1.2⟩
  .rintro⟨⟨h1,b⟩,h3⟩;rcases gy.1 ((h.ready x).2 ⟨h1,h3⟩)with e|c;·omega
   .omega
def ph.skip(h:ph E N s out D v T f gZ)(hx:¬(x∈D/\x≠v)):ph E N s out D v (T++[x]) f gZ:=
 {h with
  ui:=λy a hne=>by have:=h.ui y a hne;grind}
def ph.pos(c:E.Nodup)(h:ph E N s out D v T f gZ)(hx:x∈D/\x≠v)(ho:x∈mc E v)(b:x∉T):1<=f x/\f x<=E.length:=by have h1:=h.ui x hx.1 hx.2;rw[if_neg b]at h1;have a:=Zz (E:=E) (x:=x) c h.Od;rw[if_pos ho]at a;have d:=aoL E D x;omega
def ph.aoJ(h:ph E N s out D v T f gZ)(hx:x∈D/\x≠v)(c:x∉T)(d:1<=f x)(b:f x -1≠0):ph E N s out D v (T++[x]) (dF f x (f x -1)) gZ:=
 {h with
  ui:=λy a hne=>by have:=h.ui y a hne;grind[dF]
  ready:=λy=>by rw[h.ready];grind[dF]}
def Zi{l:List Int}(b:l.Pairwise (·<·))x:∀j,j<l.length->(j<l.countP (·<x)↔l[j]?.getD 0<x):=by
 induction l with
 |nil=>simp
 |cons a r e=>
  obtain⟨f,g⟩:=wY.1 b;intro j d;rw[Hb];by_cases c:a<x;·grind
  .grind[List.getElem_mem]
def atB{l i x y}:y∈uI l i x↔y=x\/y∈l:=by grind[uI,oa]
def ass{l}(e:l.Pairwise (·<·)){x}(hx:x∉l):(uI l (l.countP (·<x)) x).Pairwise (·<·):=by
 have hc:l.countP (·<x)<=l.length:=QG
 have hlt:∀y∈l.take (l.countP (·<x)),y<x:=λy c=>by obtain⟨j,a⟩:=QN c;have b:=(eJ.1 a).1;rw[po]at b;have d:j<l.countP (·<x):=ad;rw[tR,if_pos d]at a;have:=(Zi e x j ad).1 d;rwa [a]at this
 have f:∀y∈l.drop (l.countP (·<x)),x<y:=λy c=>by obtain⟨j,a⟩:=QN c;rw[List.getElem?_drop]at a;have b:=(eJ.1 a).1;have h1:=(Zi e x (l.countP (·<x)+j) b);grind
 grind[uI,wY]
def ph.aoK(h:ph E N s out D v T f gZ)(hx:x∈D/\x≠v)(e:x∉T)(d:f x -1=0):ph E N s out D v (T++[x]) (dF f x (f x -1)) (uI gZ (gZ.countP (·<x)) x):=by
 have b:x∉gZ:=λa=>by have:=((h.ready x).1 a).2;omega
 exact{h with
  ui:=λy c hne=>by have:=h.ui y c hne;grind[dF]
  sorted:=ass h.sorted b
  ready:=λy=>by rw[atB,h.ready];grind[dF]}
def ph.done(a:E.Nodup)(h:ph E N s out D v (mc E v) f gZ):q3 E N s (out++[v]) (D.filter (λy=>!decide (y=v))) f gZ:=by
 refine⟨h.IP,?_,λx hx=>?_,h.sorted,λx=>?_⟩;·rw[h.rest,QJ];grind
 .simp only[nB,Bool.not_eq_true',decide_eq_false_iff_not]at hx;have h1:=h.ui x hx.1 hx.2;have b:=Zz (E:=E) (x:=x) a h.Od;grind
 .rw[h.ready];simp
def q3.final(a:Valid N E)(h:q3 E N s out D f []):oH E N s out/\D=nN N s out:=by refine⟨⟨h.IP,λv hv=>by have:=(h.isReady a).2 hv;cases this⟩,?_⟩;rw[h.rest];unfold hN nN;rw[QJ];refine List.filter_congr (λx _=>?_);rw[Bool.and_comm]
def q3.small(h:q3 E N s out D f gZ):D.length<=N/\out.length<=N/\gZ.length<=N:=by refine⟨?_,h.IP.length,FD (De h.sorted) (λx hx=>(h.mem.1 ((h.ready x).1 hx).1).1.1)⟩;rw[h.rest];refine dT (Ac _ _) (dT (Ac _ _) ?_);simp[gm]
def ph.small(h:ph E N s out D v T f gZ):gZ.length<=N:=by refine FD (De h.sorted) (λx hx=>?_);have a:=((h.ready x).1 hx).1.1;rw[h.rest]at a;exact(Nn.1 (nB.1 a).1).1
end
def U5 w:(zeroValue 3).run ax w=bf (J R 0) w:=aw
def hA.small{w F b n E}(h:hA w F b n E):0<=n/\n<=1048576:=by obtain⟨⟨fV,mo,fI,e4,eX,g⟩,_⟩:=h;exact⟨g.n0,g.mI⟩
def AV{w b a f}(d:d' w b encI cO (ly a f)){x}(hx:cO x):
 (qQ 118 (dL (ab b)) (J R x) ao).run ax w=bf (if x∈a then J R (f x)else J R 0) w/\
 (qQ 118 (dL (ab b)) (J R x) az).run ax w=bf (bn #[if x∈a then J R (f x)else J R 0,ai (decide (x∈a))]) w:=by
 have h:=d.lookup pD u' U5 hx;rw[M9]at h;by_cases c:x∈a;·simp only[c,if_true,decide_true]at h⊢;exact h
 .simp only[c,if_false,decide_false]at h⊢;exact h
def asj b(n v)E F w(a:hA w F b n E)(hv:cO v)(d:E.length<=1099511627776):
 aD ax 304 #[ay (ab ⟨b,0,af⟩),J R v] w λe w'=>∃A c,e=aB (ae A (nf E v).length c)/\dA w' A (nf E v)/\(∀k off,A=ab ⟨k,off,af⟩->w.heap.size<=k)/\au w w':=by
 refine(asi b n v E F w a hv d).mono ?_;rintro e w' ⟨r,rfl,hn,f⟩;obtain⟨A,c,rfl,hi,_,_,g⟩:=hn.form;exact⟨A,c,rfl,hi,λk off e=>(g k _ e).1,f⟩
def auw b(n v)E F w(a:hA w F b n E)(hv:cO v)(d:E.length<=1099511627776):
 aD ax 92 #[ay (ab ⟨b,0,af⟩),J R v] w λe w'=>∃A c,e=aB (ae A (mc E v).length c)/\dA w' A (mc E v)/\(∀k off,A=ab ⟨k,off,af⟩->w.heap.size<=k/\k<w'.heap.size)/\au w w':=by
 refine(auv b n v E F w a hv d).mono ?_;rintro e w' ⟨r,rfl,hn,f⟩;obtain⟨A,c,rfl,hi,_,_,g⟩:=hn.form;exact⟨A,c,aa,hi,g,f⟩
def Uh(b N:Nat)E F A c s w(fB:hA w F b N E)(hs:dA w A s)(fG:s.length<=9223372036854775807)(fN:E.length<=1048576):
 aD ax 250 #[ay (ab ⟨b,0,af⟩),ae A s.length c] w λe w'=>∃lF md f o,e=aB (bn #[lF,dL (ab md)])/\oH E N s o/\q5 w w' lF o/\d' w' md encI cO (ly (nN N s o) f)/\au w w':=by
 have fp:=fB.small.2;have gA:=@Pu ax;have nh:(w.alloc (iU #[] 0)).cell? ⟨b,0,af⟩=ab (J R N):=(fB.aI (av.alloc (F:=λ_=>False) w (iU #[] 0))).TD;have X:=hid (And.intro fB hs);have G0:aE (d' (w.alloc (iU #[] 0)) w.heap.size encI cO (ly [] (λ_=>0))):=hid (d'.made w encI cO);obtain⟨i0,jd,hz0,hz1,hz2⟩:=vf Fs;have dt:=hid (And.intro jd (And.intro hz0 (And.intro hz1 hz2)));clear fB hs jd hz0 hz1 hz2;go_enter func250,ntmps250;go_wp2_with (go_at_call 303;refine(xu b N _ nh).mono ?_;rintro e w1 ⟨rfl,rfl⟩);clear nh gA;have XK:aE (av (λi=>w.heap.size<=i) w (w.alloc (iU #[] 0))):=hid (av.alloc _ _);generalize w.alloc (iU #[] 0)=w1 at*;go_loopw [28] (λi wr=>∃k:Nat,k<=N/\i=J R k/\d' wr w.heap.size encI cO (ly (((gm N).take k).filter (λv=>!decide (v∈s))) (λ_=>0))/\av (λi=>w.heap.size<=i) w wr) (λi _=>N -(c5 i).toNat);case atStart=>exact⟨0,cC _,aa,by simpa using G0.out,XK.out⟩
 case round=>
  obtain⟨k,hk,rfl,p,I⟩:=hrel;have C:=hid (And.intro p I);clear G0 XK;by_cases hlt:k<N
  .have hb0:(k:Int)<(N:Int):=ad;have uF:=hid (UI N k hlt);obtain⟨r,hr⟩:∃r:Bool,decide ((k:Int)∈s)=r:=⟨_,aa⟩;have S:=hid hr
   have k3:aE ((k:Int)∉((gm N).take k).filter (λv=>!decide (v∈s))):=hid (λh=>by have:=(nB.1 h).1;obtain⟨j,hj⟩:=QN this;have CT:=(eJ.1 hj).1;rw[po]at CT;rw[tR,if_pos ad]at hj;obtain⟨c8,c4⟩:=eJ.1 hj;simp[gm]at c4;omega);have hlen:(((gm N).take k).filter (λv=>!decide (v∈s))).length<=k:=dT (Ac _ _) (by rw[po];omega);have V:cO (k:Int):=⟨ad,ad⟩;have nA:=hid V;clear hr p I V;generalize cv:((gm N).take k).filter (λv=>!decide (v∈s))=L at*;cases r
   .have kR:aE (((gm N).take (k+1)).filter (λv=>!decide (v∈s))=L++[(k:Int)]):=hid (by rw[uF.out,sT,cv];have:=S.out;simp only[Hd,X9,this];rfl);clear cv
    go_wp2_with (first
     |(go_at_call 190;refine(EC A c s k wr _ S.out (X.out.2.aI (cf.aI C.out.2)) fG).mono ?_;rintro e aT ⟨rfl,rfl⟩)
     |(at_mapUpdate;refine JD aa _ _ _ aa pD u' C.out.1 (by rw[Dd];unfold eB;omega) aa nA.out aa (J _ 0) aa ?_;intro aT jS hg2 hs2));rw[asW (f:=λ_=>0) k3.out]at jS;have W:=hid (And.intro jS (C.out.2.trans (av.of_grownBy (F:=λi=>w.heap.size<=i) hg2 (λi e=>b1 (by cases e;exact b9 _))) (λ_ _ h=>h)));clear jS hg2 hs2;go_wp2;go_roundw;case rel=>exact⟨_,ad,by go_num,kR.out▸W.out.1,W.out.2⟩
    case measure=>simp[c5];omega
   .have kR:aE (((gm N).take (k+1)).filter (λv=>!decide (v∈s))=L):=hid (by rw[uF.out,sT,cv];have:=S.out;simp only[Hd,X9,this];simp);clear cv;go_wp2_with (go_at_call 190;refine(EC A c s k wr _ S.out (X.out.2.aI (cf.aI C.out.2)) fG).mono ?_;rintro e aT ⟨rfl,rfl⟩);go_roundw;case rel=>exact⟨_,ad,by go_num,kR.out▸C.out.1,C.out.2⟩
    case measure=>simp[c5];omega
  .obtain rfl:k=N:=ad
   have HP:d' wr w.heap.size encI cO (ly (hN k s) (λ_=>0)):=by have h:=C.out.1;rwa [tU (by simp[gm])]at h
   have H1:=hid C.out.2;clear p I C;go_wp2_with (at_range;refine agZ aa _ _ _ aa u' HP aa ?_;intro aT K hg2 hs2);go_frame;rw[asV]at K;have W:=hid (And.intro K hg2);have hz2:=hg2.size;have hz1:=H1.out.size;clear K hg2 HP;generalize wr.heap.size=r at*;go_loopw [40] (λ_ wr=>∃(left:List Int) (f:Int->Int),Over wr w.heap.size r encI cO (ly (hN k s) f) left/\(∀x∈hN k s,x∉left->f x=(uh E (hN k s) x:Int))/\(∀x∈left,x∈hN k s/\f x=0)/\r<wr.heap.size/\av (λi=>w.heap.size<=i) w wr) (λ_ wr=>wr.rangeLeft w.heap.size r);case atStart=>exact⟨_,λ_=>0,W.out.1,λx h1 h2=>absurd h1 h2,λx h=>⟨h,aa⟩,ad,H1.out.trans W.out.2 (λ_ _ h=>h.elim)⟩
   case round=>
    obtain⟨left,f,K,hdone,abU,aBD,I⟩:=hrel;have C:=hid (And.intro hdone (And.intro abU (And.intro K I)));have R6:=I.size;clear hdone abU I;obtain⟨M,rfl⟩:∃M:aQ,M=wr:=⟨_,aa⟩;go_wp2_with (at_next;refine ag0 aa _ aa pD aa K ?_ ?_)
    .intro h0;subst h0;have cF:aE (∀x∈hN k s,f x=(uh E (hN k s) x:Int)):=hid (λx hx=>C.out.1 x hx bg);have cg:=hid C.out.2.2.1.adV;have aBo:=cg.out.lt;have fc:=hid C.out.2.2.2;clear K C W;go_wp2_with (go_at_call 303;refine(xu b k _ (X.out.1.aI (cf.aI fc.out)).TD).mono ?_;rintro e b8 ⟨rfl,rfl⟩)
     go_loopw [14,66] (λek i wr=>∃j:Nat,j<=k/\i=J R j/\wr.ownsRow M.heap.size 3 1 ek (((gm k).take j).filter (λx=>decide (x∈hN k s)&&decide (f x=0))).length ((((gm k).take j).filter (λx=>decide (x∈hN k s)&&decide (f x=0))).map (J R))/\
      av (λi=>M.heap.size<=i) M wr) (λ_ i _=>k -(c5 i).toNat);case atStart=>exact⟨0,cC _,aa,⟨bg,b1 ⟨aa,bg⟩⟩,av.refl _ _⟩
     case round=>
      obtain⟨j,hj,rfl,hrow,Y⟩:=hrel;have h5:=Y.size;by_cases iq:j<k
      .have uF:=hid (UI k j iq);have hb1:(j:Int)<(k:Int):=ad;have B:=(AV (cg.out.only Y ad) (x:=(j:Int)) ⟨ad,ad⟩).2;have hlen:(((gm k).take j).filter (λx=>decide (x∈hN k s)&&decide (f x=0))).length<=j:=dT (Ac _ _) (by rw[po];omega);have S:=hid (And.intro hrow Y);clear hrow Y;generalize cv:((gm k).take j).filter (λx=>decide (x∈hN k s)&&decide (f x=0))=L at*
       have kR:aE (((gm k).take (j+1)).filter (λx=>decide (x∈hN k s)&&decide (f x=0))=L++if(j:Int)∈hN k s/\f j=0 then[(j:Int)]else[]):=hid (by rw[uF.out,sT,cv];congr 1;simp only[Hd,X9,Bool.and_eq_true,decide_eq_true_eq]);clear cv;by_cases n:(j:Int)∈hN k s
       .rw[if_pos n]at B;have t:decide ((j:Int)∈hN k s)=true:=by simpa using n
        rw[t]at B;have l:=hid n;clear n t;obtain⟨d,t⟩:=ex (f j);rw[t]at B;by_cases qk:d=0
        .subst qk;have G2:aE (((gm k).take (j+1)).filter (λx=>decide (x∈hN k s)&&decide (f x=0))=L++[(j:Int)]):=hid (by rw[kR.out,if_pos ⟨l.out,t⟩]);clear t;go_wp2_with (at_builtin;go_loud (refine PE _ aa (bj 80) (bj 82) 82 aa M.heap.size 3 i0 _ 1 8 jo dt.out.1 dt.out.2.1 dt.out.2.2.1 dt.out.2.2.2 aa ad _ L.length _ aa (pH S.out.1 (av.alloc (F:=λ_=>False) _ _) (λ_ _ h=>h)) _ 1 1 _ aa aa (Ns _ _ _) (by simp[zG]) (by unfold eB;omega) ad (by simp;omega) ?_;intro aCe cR acr abB _ _));have H':av (λi=>M.heap.size<=i) (wr.alloc (bo #[J R (j:Int)] 3)) cR:=av.of_grownBy abB (λi e=>b1 (S.out.1.lt i e).1);have qW:=hid (And.intro acr ((S.out.2.trans (av.alloc (F:=λi=>M.heap.size<=i) _ _) (λ_ _ h=>h)).trans H' (λ_ _ h=>h)));clear acr abB H' B;go_wp2;go_roundw
         case rel=>
          refine⟨j+1,ad,by go_num,?_,qW.out.2⟩;rw[G2.out];simpa using qW.out.1
         case measure=>simp[c5];omega
        .have hne:(d==0)=false:=by simpa using qk
         have G2:aE (((gm k).take (j+1)).filter (λx=>decide (x∈hN k s)&&decide (f x=0))=L):=hid (by rw[kR.out,if_neg (λh=>qk (t▸h.2)),kE]);have azP:=hid qk;clear t qk;go_wp2;go_roundw;case rel=>exact⟨_,ad,by go_num,G2.out▸S.out.1,S.out.2⟩
         case measure=>simp[c5];omega
       .rw[if_neg n]at B;have t:decide ((j:Int)∈hN k s)=false:=by simpa using n
        rw[t]at B;have G2:aE (((gm k).take (j+1)).filter (λx=>decide (x∈hN k s)&&decide (f x=0))=L):=hid (by rw[kR.out,if_neg (λh=>n h.1),kE]);clear n t;go_wp2;go_roundw;case rel=>exact⟨_,ad,by go_num,G2.out▸S.out.1,S.out.2⟩
        case measure=>simp[c5];omega
      .obtain rfl:j=k:=ad;rw[tU (by simp[gm])]at hrow;have aaH:=q3.start (E:=E) f cF.out _ aa;have P:=hid (And.intro aaH (And.intro (cg.out.only Y ad) (And.intro (e9.ot hrow) (fc.out.trans Y (λi _ h=>ad)))));have ar6:=fc.out.size;clear hrow aaH Y cF cg;go_wp2_with fail
       go_loopw [13,14] (λez Bd wr=>∃(out D:List Int) (g:Int->Int) (gZ:List Int),q3 E j s out D g gZ/\d' wr w.heap.size encI cO (ly D g)/\wr.ownsRow M.heap.size 3 1 ez out.length (out.map (J R))/\e9 wr M.heap.size Bd gZ/\
        (∀q,ez.ownBlock=ab q->Bd.ownBlock≠ab q)/\M.heap.size<=wr.heap.size/\av (λi=>w.heap.size<=i) w wr) (λ_ _ wr=>Nl wr w.heap.size);case atStart=>exact⟨[],_,f,_,P.out.1,P.out.2.1,⟨bg,b1 ⟨aa,bg⟩⟩,P.out.2.2.1,(λq h=>by cases h),h5,P.out.2.2.2⟩
       case round=>
        obtain⟨out,D,g,gZ,U,p,hrow,Q,hap,hsz,I⟩:=hrel;have eR:=p.size;rw[Dd]at eR;have hsm:=U.small;cases gZ with
        |nil=>
         obtain⟨nr,kY,rfl,_,_⟩:=Q.form;have hQ:=U.final X.out.1.2.2;have S:=hid (And.intro hQ (And.intro p (And.intro hrow I)));clear hQ p hrow I Q hap U P eR;go_wp2;go_ret2;obtain⟨fM,a2,a3,a4⟩:=S.out;rw[fM.2]at a2;exact⟨_,_,g,_,aa,fM.1,Dn a3 ar6,a2,cf.aI a4⟩
        |cons v gZ=>
         obtain⟨nr,kY,rfl,_,_⟩:=Q.form;obtain⟨hE,off,rfl,_,aA1,Mt,hcell,aaW,aaV⟩:=Q.tail;unfold eB at Mt;have MA:=U.pop X.out.1.2.2;have Da:=(U.mem.1 MA.Od).1.1;have er:D.length<=1048576:=ad;have V:cO v:=⟨ad,ad⟩;simp at hsm
         have hlt:(D.filter (λy=>!decide (y=v))).length<D.length:=by
          have ey:D.Nodup:=by rw[U.rest];exact(((De (Jz j)).filter _).filter _)
          have hl:=(Na ey MA.Od).length_eq;rw[jQ]at hl;omega
         have hb2:=Q.lt (g:=hE) aa
         have aqL:∃aA aC,(aA=ab ⟨hE,off+1,af⟩\/aA=ab ⟨hE,off,af⟩)/\e9 wr M.heap.size (ae aA gZ.length aC) gZ/\(1<kY->aA=ab ⟨hE,off+1,af⟩/\aC=kY -1)/\(kY=1->aA=ab ⟨hE,off,af⟩/\aC=0):=by
          by_cases h1:kY=1;·subst h1;exact⟨_,_,cm aa,aaV (j3 ad),λh=>ad,λ_=>⟨aa,aa⟩⟩
          .exact⟨_,_,b1 rfl,aaW,λ_=>⟨rfl,rfl⟩,λh=>absurd h h1⟩
         obtain⟨aA,aC,aql,CJ,RZ,ta⟩:=aqL;have aaZ:=λq a=>(hap q a:ab hE≠ab q);have ac:=hid (And.intro MA (And.intro CJ (And.intro aaZ (And.intro I (And.intro V eR)))));have Im:wr.frozen? ⟨hE,off,af⟩=wr.frozen? ⟨hE,off,af⟩:=rfl;have aqz:=p.lt;have ur:(0:Int)<((gZ.length:Int)+1):=ad;have om:(1:Int)<=(gZ.length:Int)+1:=ad;clear U MA CJ aaZ I V eR Q hap aql aaW aaV Im;have cg:=hid p;have Ed:=hid hrow;clear p hrow;have hcc:kY=1\/1<kY:=ad;rcases hcc with hc1|hc1;rotate_left;obtain⟨rfl,rfl⟩:=RZ hc1;clear RZ ta;rotate_left;obtain⟨rfl,rfl⟩:=ta hc1;subst hc1;obtain rfl:gZ=[]:=j3 ad;clear RZ ta
         all_goals
          go_wp2_with (first
           |(at_delete;refine ayu aa _ _ _ _ aa pD u' cg.out aa ac.out.2.2.2.2.1 aa ?_;intro aT jS hg2 hs2;have hk2:av (λi=>i=w.heap.size) wr aT:=av.of_grownBy hg2 (λi e=>b1 (by cases e;rfl));have W:=hid (And.intro (asU D g v▸jS) (And.intro hk2 (pH Ed.out hk2 (λq a e=>by have:=(Ed.out.lt q a).1;omega))));have lj:=hid hs2;clear jS hg2 hk2 hs2)
           |(at_builtin;go_loud (refine PE _ aa (bj 95) (bj 97) 82 aa M.heap.size 3 i0 _ 1 8 jo dt.out.1 dt.out.2.1 dt.out.2.2.1 dt.out.2.2.2 aa ad _ out.length (out.map (J R)) aa (pH W.out.2.2 (av.alloc (F:=λ_=>False) _ _) (λ_ _ h=>h)) _ 1 1 [J R v] aa aa (Ns _ _ _) (by simp[zG]) (by unfold eB;omega) ad (by have:=lj.out;simp;omega) ?_);intro NC bF Ip H7 _ ab0;have hk3:=av.of_grownBy (F:=λi=>_=ab i) H7 (λi e=>b1 e);have gH:=hid (And.intro Ip (And.intro hk3 ab0));clear Ip H7 hk3 ab0));have hs2:=lj.out;have py:av (λi=>w.heap.size<=i) w bF:=((ac.out.2.2.2.1.trans (W.out.2.1.mono (G:=λi=>w.heap.size<=i) (λi _ e=>ad)) (λ_ _ h=>h)).trans (av.alloc (F:=λi=>w.heap.size<=i) _ _) (λ_ _ h=>h)).trans (gH.out.2.1.mono (G:=λi=>w.heap.size<=i) (λi _ e=>by have:=(Ed.out.lt i e).1;omega)) (λ_ _ h=>h);have HQ:=(W.out.1.only (av.alloc (F:=λ_=>False) aT (bo #[J R v] 3)) (λh=>h)).only gH.out.2.1 (λe=>by have:=(Ed.out.lt _ e).1;omega);have aaT:=((ac.out.2.1.only W.out.2.1 (λq a e=>by have hq':hE=q:=Lp a;omega)).only (av.alloc (F:=λ_=>False) aT (bo #[J R v] 3)) (λ_ _ h=>h)).only gH.out.2.1 (λq a e=>ac.out.2.2.1 q e a)
          have aa2:∀q,NC.ownBlock=ab q->hE≠q:=λq a e=>by
           rcases gH.out.2.2 with h|h;·exact ac.out.2.2.1 q (h.symm.trans a) (congrArg ab e)
           .rw[h]at a;simp at a;omega
          have hs3:=gH.out.2.1.size;simp only[zI]at hs3;have T:=hid (And.intro py (And.intro HQ (And.intro aaT (And.intro aa2 (And.intro gH.out.1 ac.out.1)))));have HB:=hid hb2;have aBF:wr.heap.size<=aT.heap.size:=ad;have nA:=hid ac.out.2.2.2.2.1;have n1:=hid ac.out.2.2.2.2.2;clear py HQ aaT aa2 gH W ac Ed cg lj hs2 aqz hb2 hcell;go_wp2_with (go_at_call 92;refine(auw b j v E F bF (X.out.1.aI (cf.aI T.out.1)) nA.out ad).mono ?_;rintro e dz ⟨wv,t',rfl,abI,aa6,xj⟩);have aAB:=xj.size;have yb:=hid (And.intro abI (And.intro aa6 (And.intro (T.out.1.trans xj (λ_ _ h=>h.elim)) (And.intro (T.out.2.1.only xj (λh=>h)) (And.intro (T.out.2.2.1.only xj (λ_ _ h=>h)) (pH T.out.2.2.2.2.1 xj (λ_ _ h=>h)))))));have gU:=auu E v;have aA9:=HB.out.2;clear abI aa6 xj
          go_loopw [14,103] (λBd i wr=>∃(m:Nat) (H:Int->Int) (xF:List Int),m<=(mc E v).length/\i=J R m/\ph E j s out D v ((mc E v).take m) H xF/\d' wr w.heap.size encI cO (ly (D.filter (λy=>!decide (y=v))) H)/\
           wr.ownsRow M.heap.size 3 1 NC (out.length+1) (out.map (J R)++[J R v])/\dA wr wv (mc E v)/\e9 wr M.heap.size Bd xF/\(∀q,Bd.ownBlock=ab q->NC.ownBlock≠ab q/\∀off,wv≠ab ⟨q,off,af⟩)/\
           dz.heap.size<=wr.heap.size/\av (λi=>w.heap.size<=i) w wr) (λ_ i _=>(mc E v).length -(c5 i).toNat)
          case atStart=>
           refine⟨0,g,_,cC _,aa,T.out.2.2.2.2.2,yb.out.2.2.2.1,yb.out.2.2.2.2.2,yb.out.1,yb.out.2.2.2.2.1,λq a=>?_,b9 _,yb.out.2.2.1⟩;obtain rfl:hE=q:=Lp a;exact⟨λh=>T.out.2.2.2.1 _ h rfl,λoff h=>by have:=(yb.out.2.1 _ off h).1;omega⟩
          case round=>
           obtain⟨m,H,xF,hm,rfl,U,p,hrow,fG,Q,hap,arY,I⟩:=hrel;have fU:=p.lt;by_cases ru:m<(mc E v).length
           .have l:=hid (And.intro U (And.intro hrow (And.intro fG (And.intro hap I))));obtain⟨hD,at5,rfl,hcell⟩:=fG ad;have h1:=hcell m ru;obtain⟨x,hx⟩:∃x,(mc E v)[m]?=ab x:=⟨_,cE ru⟩;simp only[hx,vw]at h1;have IL:=cX hx;have Db:0<=x/\x<(j:Int):=(X.out.1.2.2 _ (ad0.1 IL)).2.1;have V:cO x:=⟨ad,ad⟩;have hb1:(m:Int)<((mc E v).length:Int):=ad;have jy:aE ((mc E v).take (m+1)=(mc E v).take m++[x]):=hid (by rw[gq,hx];rfl)
            have acY:x∉(mc E v).take m:=λh=>by have ey:(mc E v).Nodup:=De (axe (axw X.out.1.2.1 v));obtain⟨q,a⟩:=QN h;have o0:=(eJ.1 a).1;rw[po]at o0;rw[tR,if_pos ad]at a;have:=(List.getElem?_inj ad ey).1 (a.trans hx.symm);omega
            have B:=(AV p V).2;have hl2:=(AV p V).1;have Lb:=hid V;have HO:(D.filter (λy=>!decide (y=v))).length<=1048576:=ad;have Qt:=hid acY;have alx:=hid IL;clear U hrow fG hap I hcell hx V acY IL;by_cases n:x∈D.filter (λy=>!decide (y=v))
            .rw[if_pos n]at B hl2;have t:decide (x∈D.filter (λy=>!decide (y=v)))=true:=by simpa using n
             rw[t]at B;have E6:x∈D/\x≠v:=by simpa using n
             have eV:=hid (And.intro n E6);have k5:=l.out.1.pos X.out.1.2.1 E6 alx.out Qt.out;obtain⟨d,ql⟩:=ex (H x);rw[ql]at B hl2 k5;have sN:=hid ql;clear n E6 t ql;obtain⟨OD,iL,rfl,_,_⟩:=Q.form;have y4:=l.out.1.small;have acP:∀q,(ae OD xF.length iL).ownBlock=ab q->M.heap.size<=q/\q<wr.heap.size:=λq a=>Q.lt a;have j2:=hid (And.intro Q acP);clear Q acP;by_cases sh:d=1
             .subst sh
              go_wp2_with (first
               |(at_mapUpdate;refine JD aa _ _ _ aa pD u' p (by rw[Dd];unfold eB;omega) aa Lb.out aa (J R 0) aa ?_;intro dv y2 H6 vZ;rw[To eV.out.1]at y2;have AQ:=(AV y2 Lb.out).1;rw[if_pos eV.out.1,show dF H x 0 x=0 by simp[dF]]at AQ;have CW:av (λi=>i=w.heap.size) wr dv:=av.of_grownBy H6 (λi e=>b1 (by cases e;rfl));have O:=hid (And.intro y2 (And.intro CW (And.intro vZ (j2.out.1.only CW (λq a e=>by have:=(j2.out.2 q a).1;omega)))));clear y2 CW vZ H6)
               |(go_at_call 305;refine(NW OD iL xF x dv O.out.2.2.2.lC (l.out.1.sorted.imp (λh=>ad)) ad).mono ?_;rintro e eU ⟨Uc,rfl,NN,rfl⟩)
               |(go_at_call 306;refine(asu M.heap.size (ae OD xF.length iL) xF (xF.countP (·<x)) x (dv.drewN NN).heap.size _ (O.out.2.2.2.only (au.trans (av.drewN dv NN) (av.alloc _ _)) (λ_ _ h=>h)) QG (fL _ _) (λq a e=>by have:=(j2.out.2 q a).2;have h8:=O.out.2.2.1;simp at e;omega) ad (by have h8:=O.out.2.2.1;simp;omega)).mono ?_;rintro e gF ⟨v10,rfl,aaS,Fa,abS⟩));have vZ:=O.out.2.2.1;have Ia:au dv ((dv.drewN NN).alloc (bo #[J R x] 3)):=au.trans (av.drewN dv NN) (av.alloc _ _);have acz:=Fa.size;simp at acz;have yq:aE (dF H x (H x -1)=dF H x 0):=hid (by rw[sN.out];rfl);have CH:=l.out.1.aoK eV.out.2 Qt.out (by rw[sN.out];rfl);rw[yq.out]at CH;have aaK:=(O.out.1.only Ia (λh=>h)).only Fa (λe=>by have:=(j2.out.2 _ e).1;omega);have Iz:=pH ((pH (pH l.out.2.1 O.out.2.1 (λq a e=>by have:=(l.out.2.1.lt q a).1;omega)) Ia (λ_ _ h=>h))) Fa (λq a e=>(l.out.2.2.2.1 q e).1 a);have IE:=((l.out.2.2.1.only O.out.2.1 (λq off a e=>by have:=(yb.out.2.1 q off a).1;omega)).only Ia (λ_ _ _ h=>h)).only Fa (λq off a e=>(l.out.2.2.2.1 q e).2 off a)
              have aa0:∀q,v10.ownBlock=ab q->NC.ownBlock≠ab q/\∀off,ab (⟨hD,at5,af⟩:bT)≠ab ⟨q,off,af⟩:=λq a=>by
               rcases abS with h|⟨ei,h,mB⟩;·exact l.out.2.2.2.1 q (h.symm.trans a)
               .obtain rfl:ei=q:=Lp (h.symm.trans a);simp at mB;refine⟨λe=>?_,λoff e=>?_⟩;·have:=(l.out.2.1.lt _ e).2;omega
                .have:=(yb.out.2.1 _ _ e).2;omega
              have HS:=((l.out.2.2.2.2.trans (O.out.2.1.mono (G:=λi=>w.heap.size<=i) (λi _ e=>ad)) (λ_ _ h=>h)).trans Ia (λ_ _ h=>h.elim)).trans (Fa.mono (G:=λi=>w.heap.size<=i) (λi _ e=>by have:=(j2.out.2 _ e).1;omega)) (λ_ _ h=>h);have gX:=hid (And.intro CH (And.intro aaK (And.intro Iz (And.intro IE (And.intro aaS (And.intro aa0 (And.intro (by omega:dz.heap.size<=gF.heap.size) HS)))))));clear vZ Ia acz CH aaK Iz IE aa0 HS aaS Fa abS B hl2 AQ p;go_wp2;go_roundw
              case rel=>
               obtain⟨fM,a2,a3,a4,a5,Cn,Lw,Q4⟩:=gX.out;exact⟨m+1,_,_,ad,by go_num,jy.out▸fM,a2,a3,a4,a5,Cn,Lw,Q4⟩
              case measure=>simp[c5];omega
             .have hne:(d -1==0)=false:=by simp;omega
              have qk:aE (d -1≠0):=hid ad;go_wp2_with (at_mapUpdate;refine JD aa _ _ _ aa pD u' p (by rw[Dd];unfold eB;omega) aa Lb.out aa (J R (d -1)) aa ?_;intro dv y2 H6 vZ;rw[To eV.out.1]at y2;have AQ:=(AV y2 Lb.out).1;rw[if_pos eV.out.1,show dF H x (d -1) x=d -1 by simp[dF]]at AQ;have CW:av (λi=>i=w.heap.size) wr dv:=av.of_grownBy H6 (λi e=>b1 (by cases e;rfl));have O:=hid (And.intro y2 (And.intro CW (And.intro vZ (j2.out.1.only CW (λq a e=>by have:=(j2.out.2 q a).1;omega)))));clear y2 CW vZ H6);have vZ:=O.out.2.1.size;have CH:=l.out.1.aoJ eV.out.2 Qt.out (by rw[sN.out];exact k5.1) (by rw[sN.out];exact qk.out);rw[sN.out]at CH;have Iz:=pH l.out.2.1 O.out.2.1 (λq a e=>by have:=(l.out.2.1.lt q a).1;omega);have IE:=l.out.2.2.1.only O.out.2.1 (λq off a e=>by have:=(yb.out.2.1 q off a).1;omega);have HS:=l.out.2.2.2.2.trans (O.out.2.1.mono (G:=λi=>w.heap.size<=i) (λi _ e=>ad)) (λ_ _ h=>h);have gX:=hid (And.intro CH (And.intro O.out.1 (And.intro Iz (And.intro IE (And.intro O.out.2.2.2 (And.intro l.out.2.2.2.1 (And.intro (by omega:dz.heap.size<=dv.heap.size) HS)))))));clear vZ CH Iz IE HS B hl2 AQ p;go_wp2;go_roundw
              case rel=>
               obtain⟨fM,a2,a3,a4,a5,Cn,Lw,Q4⟩:=gX.out;exact⟨m+1,_,_,ad,by go_num,jy.out▸fM,a2,a3,a4,a5,Cn,Lw,Q4⟩
              case measure=>simp[c5];omega
            .rw[if_neg n]at B;have t:decide (x∈D.filter (λy=>!decide (y=v)))=false:=by simpa using n
             rw[t]at B;have E6:¬(x∈D/\x≠v):=by simpa using n
             have P5:=hid (And.intro (l.out.1.skip E6) (And.intro p Q));clear n E6 t hl2 p Q;go_wp2;go_roundw;case rel=>exact⟨m+1,H,xF,ad,by go_num,jy.out▸P5.out.1,P5.out.2.1,l.out.2.1,l.out.2.2.1,P5.out.2.2,l.out.2.2.2.1,arY,l.out.2.2.2.2⟩
             case measure=>simp[c5];omega
           .obtain rfl:m=(mc E v).length:=ad;rw[lp]at U;have eR:=p.size;rw[Dd]at eR;have cF:=hid (And.intro (U.done X.out.1.2.1) (And.intro p (And.intro hrow (And.intro Q (And.intro hap (And.intro I eR))))));clear U p hrow fG Q hap I eR;go_wp2;go_roundw
            case rel=>
             obtain⟨fM,a2,a3,a4,a5,Cn,Lw⟩:=cF.out;exact⟨_,_,H,xF,fM,a2,by simpa using a3,a4,λq a h=>(a5 q h).1 a,ad,Cn⟩
            case measure=>rw[cF.out.2.2.2.2.2.2,n1.out];exact hlt
    .intro v ax9 bF IH S7 Fg hk3 hs3 hen;obtain⟨c8,c4,iR,qB⟩:=C.out;have MX:=(c4 v IH).1;have Da:=(Nn.1 MX).1;rw[M9,if_pos MX]at S7;obtain rfl:J R (f v)=ax9:=Lp S7;dsimp only[encI]at hen⊢;have py:=qB.trans (hk3.mono (G:=λi=>w.heap.size<=i) (λi _ e=>ad)) (λ_ _ h=>h);have V:cO v:=⟨ad,ad⟩
     have fY:(left.filter (λy=>!decide (y=v))).length<left.length:=by have:=(Na K.2.1 IH).length_eq;simp at this⊢;omega
     have Z:=hid (And.intro IH (And.intro MX (And.intro Fg (And.intro py (And.intro V (And.intro K.left_eq (Na K.2.1 IH)))))));have q0:=hid hs3;clear c8 c4 iR qB MX IH S7 Fg hk3 py V K hs3;go_wp2_with (go_at_call 304;refine(asj b k v E F bF (X.out.1.aI (cf.aI Z.out.2.2.2.1)) Z.out.2.2.2.2.1 ad).mono ?_;rintro e b8 ⟨kv,km,rfl,abH,hb4,hg4⟩);have aAA:=hg4.size;have ab5:∀ei off,kv=ab ⟨ei,off,af⟩->¬(ei=w.heap.size):=λei off e=>by have:=hb4 ei off e;have:=q0.out;omega
     have sk:=Z.out.2.2.1.only hg4 (λh=>h) (λh=>h);have pz:=Z.out.2.2.2.1.trans hg4 (λ_ _ h=>h.elim);have yY:=(C.out.2.1 v Z.out.1).2;have T:=hid (And.intro abH (And.intro ab5 (And.intro sk (And.intro pz yY))));have hr4:r<b8.heap.size:=by have:=q0.out;omega
     have aBc:=ac8 E v;clear abH hb4 hg4 ab5 sk pz yY hen
     go_loopw [48] (λi wr=>∃(j:Nat) (H:Int->Int),j<=(nf E v).length/\i=J R j/\Over wr w.heap.size r encI cO (ly (hN k s) H) (left.filter (λy=>!decide (y=v)))/\H v=(((nf E v).take j).countP (λu=>decide (u∈hN k s)):Nat)/\
      (∀z,z≠v->H z=f z)/\r<wr.heap.size/\av (λi=>i=w.heap.size) b8 wr) (λi _=>(nf E v).length -(c5 i).toNat);case atStart=>exact⟨0,f,cC _,aa,T.out.2.2.1,by simpa using T.out.2.2.2.2,λ_ _=>aa,hr4,av.refl _ _⟩
     case round=>
      obtain⟨j,H,hj,rfl,K,qo,CS,acy,Y⟩:=hrel;have Mk:=K.adV;have SZ:=T.out.1.only Y T.out.2.1;have P:=hid (And.intro K (And.intro CS Y));have aAE:=Y.size;clear CS Y;by_cases iq:j<(nf E v).length
      .obtain⟨hD,off,rfl,hcell⟩:=SZ ad;have h1:=hcell j iq;obtain⟨x,hx⟩:∃x,(nf E v)[j]?=ab x:=⟨_,cE iq⟩;simp only[hx,vw]at h1;have y9:=Ty.1 (cX hx);have Db:=(X.out.1.2.2 _ y9).1;have hb1:(j:Int)<((nf E v).length:Int):=ad;have B:=(AV Mk (x:=x) ⟨ad,ad⟩).2;have hl2:=(AV Mk (x:=v) Z.out.2.2.2.2.1).1;rw[if_pos Z.out.2.1,qo]at hl2;have aA0:((nf E v).take j).countP (λu=>decide (u∈hN k s))<=1048576:=dT QG (by rw[po];omega)
       have zO:aE (((nf E v).take (j+1)).countP (λu=>decide (u∈hN k s))=((nf E v).take j).countP (λu=>decide (u∈hN k s))+if x∈hN k s then 1 else 0):=hid (by rw[gq,hx];simp );have vl:=hid (And.intro hx qo);generalize ((nf E v).take j).countP (λu=>decide (u∈hN k s))=cnt at*;clear hcell SZ hx y9 Mk qo;by_cases n:x∈hN k s
       .rw[if_pos n]at B;have l:=hid n;have t:decide (x∈hN k s)=true:=by simpa using n
        rw[t]at B;clear n t;go_wp2_with (at_mapUpdate;refine ayv aa _ _ _ aa pD u' K aa Z.out.2.2.2.2.1 (by rw[M9,if_pos Z.out.2.1];exact⟨_,aa⟩) aa (J _ _) aa ?_;intro cR SP H' aBI);rw[To Z.out.2.1]at SP;have qW:=hid (And.intro SP (P.out.2.2.trans H' (λ_ _ h=>h)));clear SP H' B hl2 K;go_wp2;go_roundw
        case rel=>
         refine⟨j+1,_,ad,by go_num,qW.out.1,?_,λz hz=>?_,ad,qW.out.2⟩;·rw[zO.out,if_pos l.out];simp[dF]
         .unfold dF;rw[if_neg hz];exact P.out.2.1 z hz
        case measure=>simp[c5];omega
       .rw[if_neg n]at B;have l:=hid n;have t:decide (x∈hN k s)=false:=by simpa using n
        rw[t]at B;clear n t;go_wp2;go_roundw;case rel=>exact⟨j+1,H,ad,by go_num,P.out.1,by rw[zO.out,if_neg l.out];exact vl.out.2,P.out.2.1,acy,P.out.2.2⟩
        case measure=>simp[c5];omega
      .obtain rfl:j=(nf E v).length:=ad;have cF:=hid qo;clear qo SZ Mk;go_wp2;go_roundw
       case rel=>
        refine⟨_,H,K,λx hx fj=>?_,λx hx=>?_,acy,T.out.2.2.2.1.trans P.out.2.2 (λi _ e=>ad)⟩
        .by_cases nL:x=v;·subst nL;rw[cF.out,lp];rfl
         .rw[P.out.2.1 x nL];exact C.out.1 x hx (λh=>fj (nB.2 ⟨h,by simpa using nL⟩))
        .obtain⟨fM,a2⟩:=nB.1 hx;have nL:x≠v:=by simpa using a2
         rw[P.out.2.1 x nL];exact C.out.2.1 x fM
       case measure=>rw[P.out.1.left_eq,Z.out.2.2.2.2.2.1];exact fY
def aon{E E'}(h:E.Perm E')l:(cut E l).Perm (cut E' l):=h.filter _
def aom E l(u x):cut (E++[(u,x)]) l=cut E l++(if u∉l/\x∉l then[(u,x)]else[]):=by grind[cut]
def aw6{a cM u x t}(h:a.heap[cM]?=ab (bo #[J R u,J R x] t (0,0))):kU a (ab ⟨cM,0,af⟩) [(u,x)]:=λ_=>by refine⟨cM,0,rfl,λj b=>?_⟩;obtain rfl:j=0:=aH;exact⟨fE _ _ 0 _ _ _ h,fE _ _ 1 _ _ _ h⟩
def ayp(b N:Nat)E F A c l w(fB:hA w F b N E)(hl:dA w A l)(hlen:l.length<=9223372036854775807)(fN:E.length<=1048576):
 aD ax 361 #[ay (ab ⟨b,0,af⟩),ae A l.length c] w λe w'=>∃C a,e=aB (ay (ab ⟨C,0,af⟩))/\hA w' (λi=>w.heap.size<=i/\i<w'.heap.size) C N a/\a.Perm (cut E l)/\au w w':=by
 obtain⟨⟨fV,mo,fI,e4,eX,g⟩,ey,ea⟩:=fB;have aqB:=g.n0;have aqC:=g.mI;have nh:=fE _ _ 0 _ _ _ g.blk;simp at nh;have pB:=g.mX.lt;have B:=hid (And.intro g (And.intro ey (And.intro ea hl)));have hbl:=(Array.getElem?_eq_some_iff.1 g.blk).1;clear g ey ea hl;go_enter func361,ntmps361;go_wp2_with fail;go_at_call 179;refine(ad7 N w aqB aqC).mono ?_;rintro e w1 ⟨C,rfl,aaA,hg1⟩
 have eT:w1.cell? ⟨b,1,af⟩=ab (dL (ab fV)):=by have:=hg1.heap B.out.1.blk (λh=>h);simpa using fE _ _ 1 _ _ _ this
 have HP:=B.out.1.mX.only hg1 (λh=>h);have hs1:=hg1.size;have H1:=hid (And.intro aaA hg1);clear aaA hg1;go_wp2_with (at_range;refine agZ aa _ _ _ aa Tryz.underlying302 HP aa ?_;intro aT q hg2 hs2);go_frame;have V:=hid (And.intro q hg2);clear q hg2 HP
 go_loopw [19] (λ_ wr=>∃(k left a:List (Int×Int)) (s:Nat->Prop),(k++left).Perm E/\a.Perm (cut k l)/\Over wr fV w1.heap.size vF rA (E.map (λe=>(e,ai az))) left/\hA wr s C N a/\
  (∀i,s i->w.heap.size<=i/\i≠w1.heap.size/\i<wr.heap.size)/\w1.heap.size<wr.heap.size/\av (λi=>w.heap.size<=i) w wr) (λ_ wr=>wr.rangeLeft fV w1.heap.size)
 case atStart=>
  refine⟨[],E,[],_,bg,bc,?_,H1.out.1.aI V.out.2,?_,ad,au.to (au.trans H1.out.2 V.out.2)⟩;·have h:=V.out.1;rw[List.map_map]at h;simpa [Kn]using h
  .omega
 case round=>
  obtain⟨k,left,a,s,hp,hc,q,EP,hF,S8,Z⟩:=hrel;have R6:=Z.size;have dS:=hid (And.intro hp (And.intro hc (And.intro q (And.intro EP (And.intro hF Z)))));clear hp hc EP hF Z;go_wp2_with (at_next;refine ag0 aa _ aa M8 aa q ?_ ?_);·intro h0;go_wp2;go_ret;obtain⟨c8,c4,iR,O,I,P⟩:=dS.out;subst h0;rw[kE]at c8;exact⟨_,_,aa,O.mono (λi hi D=>⟨(I i D).1,hi⟩),c4.trans (aon c8 l),cf.aI P⟩
  .intro u x v m M hv Fg hk3 hs3 hen;dsimp only[vF]at hen⊢;obtain⟨c8,c4,iR,O,I,P⟩:=dS.out;have acX:(u,x)∈E:=c8.subset (List.mem_append_right _ M);have acf:(k++left).Nodup:=c8.nodup_iff.2 B.out.2.1;have nL:(u,x)∉k:=λh=>(yu.1 acf).2.2 _ h _ M aa;have hx2:(u,x)∉a:=λh=>nL (uM.1 (c4.subset h)).1;have hb:=B.out.2.2.1 _ acX;have c3:rA (u,x):=⟨⟨ad,ad⟩,⟨ad,ad⟩⟩
   have abi:canAdd N a (u,x)=true:=by
    have h1:qw N u=true:=by simpa [qw]using hb.1
    have o:qw N x=true:=by simpa [qw]using hb.2.1
    unfold canAdd;simp only[h1,o,hx2];simpa using hb.2.2
   have og:jz N a [(u,x)]=a++[(u,x)]:=by show qd N a (u,x)=_;unfold qd;rw[abi];rfl
   have arj:a.length<=1048576:=by have h1:=c4.length_eq;have o:=Zs k l;have h3:=c8.length_eq;simp at h3;omega
   have CZ:=Na q.2.1 M
   have oY:((k++[(u,x)])++left.filter (λy=>!decide (y=(u,x)))).Perm E:=by rw[List.append_assoc];exact((CZ.append_left _).symm.trans (Ca _)).trans c8
   have aaC:=O.only hk3 (λi D e=>(I i D).2.1 e);have py:=P.trans (hk3.mono (G:=λi=>w.heap.size<=i) (λi _ e=>ad)) (λ_ _ h=>h);have d:=hid (And.intro oY (And.intro Fg (And.intro aaC (And.intro py (And.intro c3 (And.intro og c4))))));have X:=hid (And.intro q.left_eq Fg.left_eq)
   have fY:(left.filter (λy=>!decide (y=(u,x)))).length<left.length:=by have:=CZ.length_eq;simp at this⊢;omega
   have t:=hid I;have p:=hid hs3;clear hs3;clear c8 c4 iR O I P acX acf nL hx2 hb c3 abi og CZ oY aaC py M hv Fg hk3 q;obtain⟨Q,hr1⟩:∃r:Bool,decide (u∈l)=r:=⟨_,aa⟩;obtain⟨S,hr2⟩:∃r:Bool,decide (x∈l)=r:=⟨_,aa⟩;have z:=hid (And.intro hr1 hr2);clear hr1 hr2;have jx:=hid (B.out.2.2.2.aI (cf.aI d.out.2.2.2.1));have T:aE (∀W,au m W->aD ax 190 #[ae A l.length c,J R u] W λe w'=>e=aB (ai Q)/\W=w'):=hid λW dg=>EC A c l u W Q z.out.1 (jx.out.aI dg) hlen;have U:aE (∀W,au m W->aD ax 190 #[ae A l.length c,J R x] W λe w'=>e=aB (ai S)/\W=w'):=hid λW dg=>EC A c l x W S z.out.2 (jx.out.aI dg) hlen;have D4:aE (cut (k++[(u,x)]) l=cut k l++(if u∉l/\x∉l then[(u,x)]else[])):=hid (aom k l u x);by_cases hr:Q=ao/\S=ao
   .obtain⟨rfl,rfl⟩:=hr
    go_wp2_with (first
     |(go_at_call 190;first|((with_reducible refine(T.out _ (av.alloc _ _)).mono ?_);rintro e w' ⟨rfl,rfl⟩)|((with_reducible refine(U.out _ (av.alloc _ _)).mono ?_);rintro e w' ⟨rfl,rfl⟩))
     |(go_at_call 182;refine(Yv C N a s _ 1 _ _ (d.out.2.2.1.aI (au.trans (av.alloc _ _) (av.alloc _ _))) (aw6 (aqV m _ _)) (λe he=>(List.mem_singleton.1 he)▸d.out.2.2.2.2.1) (by rw[vr];omega) (λblk off e D=>by cases e;have h1:=(t.out _ D).2.2;have o:=p.out;omega)).mono ?_;rintro e b8 ⟨rfl,Y,L⟩));have f:au m ((m.alloc (bo #[J R u,J R x] 192)).alloc (bo #[J R u,J R x] 192)):=au.trans (av.alloc _ _) (av.alloc _ _);have acA:=f.size;have aBH:=L.size;rw[d.out.2.2.2.2.2.1]at Y;have n:=(d.out.2.1.only f (λh=>h) (λh=>h)).only L (λh=>by have:=(t.out _ h).1;omega) (λh=>(t.out _ h).2.1 aa);have rm:=(d.out.2.2.2.1.trans f (λ_ _ h=>h.elim)).trans (L.mono (G:=λi=>w.heap.size<=i) (λi _ hi=>(t.out i hi).1)) (λ_ _ h=>h)
    have aaz:∀i,(s i\/(((m.alloc (bo #[J R u,J R x] 192)).alloc (bo #[J R u,J R x] 192)).heap.size<=i/\i<b8.heap.size))->w.heap.size<=i/\i≠w1.heap.size/\i<b8.heap.size:=by
     rintro i (hi|hi);·have h1:=t.out i hi;have o:=p.out;exact⟨h1.1,h1.2.1,ad⟩
     .have o:=p.out;exact⟨ad,ad,hi.2⟩
    have K:aE ((a++[(u,x)]).Perm (cut (k++[(u,x)]) l)):=hid (by rw[D4.out,if_pos ⟨by simpa using z.out.1,by simpa using z.out.2⟩];exact(d.out.2.2.2.2.2.2).append_right _);have j:=hid (And.intro n (And.intro Y (And.intro aaz (And.intro rm n.left_eq))));have H:w1.heap.size<b8.heap.size:=by have o:=p.out;omega
    clear n Y aaz rm L f;go_wp2;go_roundw;case rel=>exact⟨_,_,_,_,d.out.1,K.out,j.out.1,j.out.2.1,j.out.2.2.1,H,j.out.2.2.2.1⟩
    case measure=>rw[j.out.2.2.2.2,X.out.1];exact fY
   .have XJ:=hid hr;clear hr
    have K:aE (a.Perm (cut (k++[(u,x)]) l)):=hid (by
     rw[D4.out,if_neg,kE];·exact d.out.2.2.2.2.2.2
     .rintro⟨fM,a2⟩;exact XJ.out ⟨by rw[<-z.out.1];simpa using fM,by rw[<-z.out.2];simpa using a2⟩);cases Q
    .cases S;·exact absurd ⟨aa,aa⟩ XJ.out
     .go_wp2_with (go_at_call 190;first|((with_reducible refine(T.out _ (av.alloc _ _)).mono ?_);rintro e w' ⟨rfl,rfl⟩)|((with_reducible refine(U.out _ (av.alloc _ _)).mono ?_);rintro e w' ⟨rfl,rfl⟩));have f:au m (m.alloc (bo #[J R u,J R x] 192)):=av.alloc _ _;have acA:=f.size;have n:=d.out.2.1.only f (λh=>h) (λh=>h);have j:=hid (And.intro n (And.intro (d.out.2.2.1.aI f) (And.intro (d.out.2.2.2.1.trans f (λ_ _ h=>h.elim)) n.left_eq)));have H:w1.heap.size<(m.alloc (bo #[J R u,J R x] 192)).heap.size:=by have o:=p.out;omega
      clear n f;go_roundw;case rel=>exact⟨_,_,a,s,d.out.1,K.out,j.out.1,j.out.2.1,λi hi=>by have h1:=t.out i hi;have o:=p.out;exact⟨h1.1,h1.2.1,ad⟩,H,j.out.2.2.1⟩
      case measure=>rw[j.out.2.2.2,X.out.1];exact fY
    .go_wp2_with (go_at_call 190;first|((with_reducible refine(T.out _ (av.alloc _ _)).mono ?_);rintro e w' ⟨rfl,rfl⟩)|((with_reducible refine(U.out _ (av.alloc _ _)).mono ?_);rintro e w' ⟨rfl,rfl⟩));have f:au m (m.alloc (bo #[J R u,J R x] 192)):=av.alloc _ _;have acA:=f.size;have n:=d.out.2.1.only f (λh=>h) (λh=>h);have j:=hid (And.intro n (And.intro (d.out.2.2.1.aI f) (And.intro (d.out.2.2.2.1.trans f (λ_ _ h=>h.elim)) n.left_eq)));have H:w1.heap.size<(m.alloc (bo #[J R u,J R x] 192)).heap.size:=by have o:=p.out;omega
     clear n f;go_roundw;case rel=>exact⟨_,_,a,s,d.out.1,K.out,j.out.1,j.out.2.1,λi hi=>by have h1:=t.out i hi;have o:=p.out;exact⟨h1.1,h1.2.1,ad⟩,H,j.out.2.2.1⟩
     case measure=>rw[j.out.2.2.2,X.out.1];exact fY
def I4(r:Bool)(o:List Int):List Int:=if r=az then o else[]
def aut (b N:Nat) E F A c s w (p:hA w F b N E) (u:dA w A s) (v:s.length<=9223372036854775807) (t:E.length<=1048576)
 o (ho:oH E N s o) r (hr:decide (nN N s o=[])=r):
 aD ax 176 #[ay (ab ⟨b,0,af⟩),ae A s.length c] w λe w'=>∃l z,e=aB (bn #[ae l (I4 r o).length z,ai r])/\dA w' l (I4 r o)/\(∀k off,l=ab ⟨k,off,af⟩->w.heap.size<=k)/\au w w':=by
 have a:=hid (And.intro p (And.intro u ho));clear p u ho;cases r;·have hne:0<(nN N s o).length:=List.length_pos_iff.2 (show nN N s o≠[] by grind);clear hr;go_enter Tryz.func176,Tryz.ntmps176;go_wp2_with fail;go_at_call 250;refine(Uh b N E F A c s w a.out.1 a.out.2.1 v t).mono ?_;rintro e w1 ⟨lF,B,f,o',rfl,j,hn,g,i⟩;obtain rfl:=j.unique a.out.2.2;have m:=λty=>run_len_map g u' ty;rw[Dd]at m;have d:=hid i;clear hn g i j;generalize (nN N s o').length=n at*;go_wp2;go_ret2;exact⟨af,0,aa,dA.nil,(λ_ _ h=>aH),d.out⟩
 .have q:(nN N s o).length=0:=List.length_eq_zero_iff.2 aH;have y:=hid q;clear hr q;go_enter Tryz.func176,Tryz.ntmps176;go_wp2_with fail;go_at_call 250;refine(Uh b N E F A c s w a.out.1 a.out.2.1 v t).mono ?_;rintro e w1 ⟨lF,B,f,o',rfl,j,hn,g,i⟩;obtain rfl:=j.unique a.out.2.2;have m:=λty=>run_len_map g u' ty;rw[Dd,y.out]at m;obtain⟨x,c1,rfl,hi,_,_,hloc⟩:=hn.form;have d:=hid (And.intro hi (And.intro hloc i));clear hn g i j hi hloc;go_wp2;go_ret2;exact⟨x,c1,aa,d.out.1,λk off h=>(d.out.2.1 k _ h).1,d.out.2.2⟩
def Path.perm{E E'}(h:E.Perm E'){u x}:Path E u x↔Path E' u x:=⟨λp=>p.mono (λ_ a=>h.mem_iff.1 a),λp=>p.mono (λ_ a=>h.mem_iff.2 a)⟩
def kT.apw{E}{N:Nat}{s xs}(a:Valid N E)(h:kT E s xs):(gm N).filter (λx=>decide (x∈xs))=xs:=by refine ZV ((Jz N).filter _) h.1 (λx=>?_);rw[nB,decide_eq_true_eq];exact⟨λq=>q.2,λq=>⟨AZ.2 (A7 (a.cut s) ((h.2 x).1 q)),q⟩⟩
def aov{N k}(hk:k<N)(xs:List Int):((gm N).take (k+1)).filter (λx=>decide (x∈xs))=((gm N).take k).filter (λx=>decide (x∈xs))++(if(k:Int)∈xs then[(k:Int)]else[]):=by grind[UI]
def aou(N k)(xs:List Int):(((gm N).take k).filter (λx=>decide (x∈xs))).length<=k:=aH
def aox (b N:Nat) E F A c s w (G:hA w F b N E) (hs:dA w A s) (fG:s.length<=9223372036854775807) (fN:E.length<=1048576)
 xs (hx:kT E s xs):
 aD ax 333 #[ay (ab ⟨b,0,af⟩),ae A s.length c] w λe w'=>∃v,e=aB v/\q5 w w' v xs/\au w w':=by
 have fp:=G.small.2;have S:=G.2.2;have g:=hid (And.intro G (And.intro hs (And.intro hx (And.intro S (hx.apw S)))));obtain⟨i0,jd,hz0,hz1,hz2⟩:=vf Fs;have C:=hid (And.intro jd (And.intro hz0 (And.intro hz1 hz2)));clear G hs hx S jd hz0 hz1 hz2;go_enter func333,ntmps333;go_wp2_with fail;go_at_call 250;refine(Uh b N E F A c s w g.out.1 g.out.2.1 fG fN).mono ?_;rintro e w1 ⟨lF,md,f,o,rfl,ho,hn,Z,hg1⟩;have m:=hid (And.intro ho (And.intro Z (And.intro hg1 hg1.size)));clear ho hn Z hg1;go_wp2_with (go_at_call 361;refine(ayp b N E F A c s w1 (g.out.1.aI m.out.2.2.1) (g.out.2.1.aI m.out.2.2.1) fG fN).mono ?_;rintro e j ⟨X,M,rfl,Y,V,hg2⟩);have Mx:M.length<=1048576:=by have h1:=V.length_eq;have h2:=Zs E s;omega
 have hs2:w.heap.size<=j.heap.size:=by have h1:=m.out.2.2.2;have h2:=hg2.size;omega
 have l:=hid (And.intro Y (And.intro V (And.intro (m.out.2.1.only hg2 (λh=>h)) (And.intro (au.trans m.out.2.2.1 hg2) (m.out.2.1.only hg2 (λh=>h)).lt))));clear Y V hg2;go_wp2_with (go_at_call 303;refine(xu b N _ (g.out.1.aI l.out.2.2.2.1).TD).mono ?_;rintro e bF ⟨rfl,rfl⟩)
 go_loopw [8,23] (λez i wr=>∃k:Nat,k<=N/\i=J R k/\wr.ownsRow w.heap.size 3 1 ez (((gm N).take k).filter (λx=>decide (x∈xs))).length ((((gm N).take k).filter (λx=>decide (x∈xs))).map (J R))/\
  av (λi=>j.heap.size<=i) j wr/\(∀q,ez.ownBlock=ab q->j.heap.size<=q)) (λ_ i _=>N -(c5 i).toNat);case atStart=>exact⟨0,cC _,aa,⟨bg,b1 ⟨aa,bg⟩⟩,av.refl _ _,λq h=>by cases h⟩
 case round=>
  obtain⟨k,hk,rfl,hrow,T,p⟩:=hrel;have R6:=T.size;have a:=hid (And.intro hrow (And.intro T p));clear hrow T p;by_cases hlt:k<N
  .have hb0:(k:Int)<(N:Int):=ad;have U:cO (k:Int):=⟨ad,ad⟩;have P:=hid (aov hlt xs);have hlen:=aou N k xs;have H:=(AV (l.out.2.2.1.only a.out.2.1 (by have:=l.out.2.2.2.2;omega)) U).2;have W:=hid U;clear U;generalize ((gm N).take k).filter (λx=>decide (x∈xs))=L at*;by_cases y:(k:Int)∈nN N s o
   .rw[if_pos y]at H;have t:decide ((k:Int)∈nN N s o)=true:=aH;rw[t]at H;clear y t;obtain⟨r,hr⟩:∃q:Bool,decide ((k:Int)∈xs)=q:=⟨_,aa⟩;have D:=hid hr;clear hr;cases r
    .go_wp2_with (first
      |(go_at_call 362;refine(afa X N k M _ wr (l.out.1.only a.out.2.1 (λi hi h=>ad)) W.out Mx).mono ?_;rintro e I ⟨K,Q,bY,rfl,u,B,z,n⟩;have d:=hid (And.intro u (And.intro B (And.intro z n)));clear u B z n)
      |(go_at_call 190;refine(EC K Q bY k I ao (by rw[<-D.out];congr 1;rw[eq_iff_iff,d.out.2.1.2,g.out.2.2.1.2];exact Path.perm l.out.2.1) d.out.1 d.out.2.2.1).mono ?_;rintro e cR ⟨rfl,rfl⟩));go_roundw;case rel=>exact⟨k+1,ad,by go_num,by rw[P.out,if_neg (by simpa using D.out),kE];exact pH a.out.1 d.out.2.2.2 (λ_ _ h=>h),a.out.2.1.trans d.out.2.2.2 (λ_ _ h=>h.elim),a.out.2.2⟩
     case measure=>grind[c5]
    .go_wp2_with (first
      |(go_at_call 362;refine(afa X N k M _ wr (l.out.1.only a.out.2.1 (λi hi h=>ad)) W.out Mx).mono ?_;rintro e I ⟨K,Q,bY,rfl,u,B,z,n⟩;have aAF:=n.size;have d:=hid (And.intro u (And.intro B (And.intro z n)));clear u B z n)
      |(go_at_call 190;refine(EC K Q bY k I az (by rw[<-D.out];congr 1;rw[eq_iff_iff,d.out.2.1.2,g.out.2.2.1.2];exact Path.perm l.out.2.1) d.out.1 d.out.2.2.1).mono ?_;rintro e cR ⟨rfl,rfl⟩)
      |(at_builtin;go_loud (refine PE _ aa (bj 40) (bj 42) 82 aa w.heap.size 3 i0 _ 1 8 jo C.out.1 C.out.2.1 C.out.2.2.1 C.out.2.2.2 aa ad _ L.length _ aa (pH a.out.1 (au.trans d.out.2.2.2 (av.alloc (F:=λ_=>False) _ _)) (λ_ _ h=>h)) _ 1 1 _ aa aa (Ns _ _ _) (by simp[zG]) (by unfold eB;omega) ad (by simp;omega) ?_;intro xL dv MN H8 _ Fb)));have IN:av (λi=>j.heap.size<=i) (I.alloc (bo #[J R (k:Int)] 3)) dv:=av.of_grownBy H8 (λi e=>b1 (a.out.2.2 i e));have EU:av (λi=>j.heap.size<=i) j dv:=((a.out.2.1.trans d.out.2.2.2 (λ_ _ h=>h.elim)).trans (av.alloc (F:=λi=>j.heap.size<=i) _ _) (λ_ _ h=>h)).trans IN (λ_ _ h=>h)
     have Iu:∀q,xL.ownBlock=ab q->j.heap.size<=q:=λq p=>by
      rcases Fb with h|h;·exact a.out.2.2 q (h.symm.trans p)
      .rw[h]at p;simp at p;omega
     have O:=hid (And.intro MN (And.intro EU Iu));clear MN H8 Fb IN EU Iu;go_wp2;go_roundw;case rel=>exact⟨k+1,ad,by go_num,by rw[P.out,if_pos (by simpa using D.out)];simpa using O.out.1,O.out.2.1,O.out.2.2⟩
     case measure=>grind[c5]
   .rw[if_neg y]at H;have t:decide ((k:Int)∈nN N s o)=false:=aH;rw[t]at H;have kR:aE ((k:Int)∉xs):=hid (λh=>y (g.out.2.2.1.rest g.out.2.2.2.1 m.out.1 h));clear y t;go_wp2;go_roundw;case rel=>exact⟨k+1,ad,by go_num,by rw[P.out,if_neg kR.out,kE];exact a.out.1,a.out.2.1,a.out.2.2⟩
    case measure=>grind[c5]
  .obtain rfl:k=N:=ad;have hrow:=a.out.1;rw[tU (by simp[gm]),g.out.2.2.2.2]at hrow;have cF:=hid hrow;clear hrow;go_wp2;go_ret;exact⟨_,aa,cF.out,au.trans l.out.2.2.2.1 (cf.aI a.out.2.1)⟩
def asS x a A c keep W(hc:W.cell? ⟨a,0,af⟩=ab (ae A keep.length c))(hk:dA W A keep)(h1:keep.length<=9223372036854775807):
 aD ax 335 #[J R x,ay (ab ⟨a,0,af⟩)] W λe w'=>e=aB (ai (decide (x∈keep)))/\∃q,w'=W.drewN q:=by
 have b:=hid hk;clear hk;go_enter func335,ntmps335;go_wp2_with (go_at_call 190;refine(Hw A c _ x W b.out h1).mono ?_;rintro e w1 ⟨rfl,rfl⟩);go_ret;exact⟨aa,0,aa⟩
def aym x a A c ws W(hc:W.cell? ⟨a,0,af⟩=ab (ae A ws.length c))(hk:dA W A ws)(h1:ws.length<=9223372036854775807):
 aD ax 337 #[J R x,ay (ab ⟨a,0,af⟩)] W λe w'=>e=aB (J R (oy ws x))/\W=w':=by
 have b:=hid hk;clear hk;go_enter func337,ntmps337;go_wp2_with (go_at_call 338;refine(ayl A c ws x W b.out h1).mono ?_;rintro e w1 ⟨rfl,rfl⟩);go_ret;exact⟨aa,aa⟩
def amZ{f L}:decide (0<L.length)=(jH f L).isSome:=by
 cases h:jH f L with
 |none=>grind[Re]
 |some v=>
  have:=List.length_pos_of_mem (Rc h);simp[this]
def aph args w:(kB 335 args).run ax w=bf (.enter 335 args) w:=bc
def api args w:(kB 337 args).run ax w=bf (.enter 337 args) w:=bc
def atO (b N:Nat) E F gW ig ws p v s fZ gu keep w (z:hA w F b N E) (D:dA w gW ws) (hr:dA w p s) (hk:dA w fZ keep)
 (IJ:ws.length<=9223372036854775807) (fG:s.length<=9223372036854775807) (vM:keep.length<=9223372036854775807) (fN:E.length<=1048576) xs (hx:kT E s xs) o (ho:jH (oy ws) (kept xs keep)=o) sb (xe:decide (0<xs.length)=sb):
 aD ax 302 #[ay (ab ⟨b,0,af⟩),ae gW ws.length ig,ae p s.length v,ae fZ keep.length gu] w λe w'=>
  e=aB (bn #[J R (o.getD 0),ai o.isSome,ai sb])/\au w w':=by
 have j:=hid (And.intro z (And.intro D (And.intro hr (And.intro hk hx))));have I:=hid ho;have S:decide (0<(xs.length:Int))=sb:=by rw[<-xe];congr 1;rw[eq_iff_iff];omega
 clear z D hr hk hx ho;go_enter func302,ntmps302;go_wp2_with fail;go_at_call 333;have d:aE (au w ((w.alloc (bo #[ae gW ws.length ig] 82)).alloc (bo #[ae fZ keep.length gu] 82))):=hid (au.trans (av.alloc _ _) (av.alloc _ _))
 have n:aE (((w.alloc (bo #[ae gW ws.length ig] 82)).alloc (bo #[ae fZ keep.length gu] 82)).cell? ⟨w.heap.size,0,af⟩=ab (ae gW ws.length ig)/\((w.alloc (bo #[ae gW ws.length ig] 82)).alloc (bo #[ae fZ keep.length gu] 82)).cell? ⟨w.heap.size+1,0,af⟩=ab (ae fZ keep.length gu)):=hid (by
  constructor;·exact(av.alloc (F:=λ_=>False) _ _).cell (fE _ _ 0 _ _ _ (fL w _)) (λh=>h)
  .simp);refine(aox b N E F p v s _ (j.out.1.aI d.out) (j.out.2.2.1.aI d.out) fG fN xs j.out.2.2.2.2).mono ?_;generalize (w.alloc (bo #[ae gW ws.length ig] 82)).alloc (bo #[ae fZ keep.length gu] 82)=aq at*;rintro e w1 ⟨T,rfl,r,hg1⟩;obtain⟨l,c1,rfl,M,P,hl2,hloc⟩:=r.form;have G:xs.length<=9223372036854775807:=by grind[eB]
 have a:=hid (And.intro r (And.intro hg1 (And.intro (au.trans d.out hg1) hloc)));have hs0:=d.out.size;have u:=hid (And.intro (vd _ _ n.out.1) (vd _ _ n.out.2));clear r hg1 hloc M P hl2
 have t:aE (aD ax 334 #[ae l xs.length c1,dI (ed 335) #[] #[ay (ab ⟨w.heap.size+1,0,af⟩)]] w1 λe w'=>∃A c,e=aB (ae A (kept xs keep).length c)/\dA w' A (kept xs keep)/\av (λi=>(ae l xs.length c1).ownBlock=ab i) w1 w'):=hid (by
  refine(aoM 335 #[ay (ab ⟨w.heap.size+1,0,af⟩)] aph (λx=>decide (x∈keep)) _ _ xs w1 a.out.1 G (λW x K=>?_)).mono ?_
  .have hno:∀i,i<aq.heap.size->¬(ae l xs.length c1).ownBlock=ab i:=λi hi h=>by have:=(wN a.out.1 i h).1;omega
   have B:av (λi=>aq.heap.size<=i) aq W:=(au.to a.out.2.1).trans K (λi hi h=>absurd h (hno i hi));refine asS x _ fZ gu _ W (B.cell n.out.2 (by have:=u.out.2;show¬aq.heap.size<=_;omega)) ?_ vM;exact(j.out.2.2.2.1.aI (au.trans d.out (cf.aI B)))
  .rintro e w' ⟨A,c,rfl,h1,_,y⟩;exact⟨A,c,aa,h1,y⟩);go_wp2_with (go_at_call 334;have k:=t.out;with_reducible refine k.mono ?_;clear k;rintro e g ⟨aK,c2,rfl,C,q⟩)
 have hg2:au w g:=by
  have hno:∀i,i<aq.heap.size->¬(ae l xs.length c1).ownBlock=ab i:=λi hi h=>by have:=(wN a.out.1 i h).1;omega
  exact au.trans d.out (cf.aI ((au.to a.out.2.1).trans q (λi hi h=>absurd h (hno i hi))))
 have hcw:g.cell? ⟨w.heap.size,0,af⟩=ab (ae gW ws.length ig):=by refine q.cell (a.out.2.1.cell n.out.1 (λh=>h)) (λh=>?_);have y:=(wN a.out.1 w.heap.size h).1;have Q:w.heap.size<aq.heap.size:=u.out.1;omega
 have m:=hid (And.intro C (And.intro hg2 hcw));have O:(kept xs keep).length<=9223372036854775807:=dT (Ac _ _) G;clear C q hg2 hcw t;generalize kept xs keep=L at*
 have H:aE (aD ax 336 #[ae aK L.length c2,dI (ed 337) #[] #[ay (ab ⟨w.heap.size,0,af⟩)]] g λe w'=>e=aB (bn #[J R (o.getD 0),ai o.isSome])/\g=w'):=hid (by have h:=aw7 337 #[ay (ab ⟨w.heap.size,0,af⟩)] (oy ws) aK c2 L g m.out.1 O api (λx=>aym x w.heap.size gW ig ws g m.out.2.2 (j.out.2.1.aI m.out.2.1) IJ);rw[amZ (f:=oy ws),I.out]at h;exact h);go_wp2_with (go_at_call 336;have k:=H.out;with_reducible refine k.mono ?_;clear k;rintro e U ⟨rfl,rfl⟩);go_ret3;exact⟨aa,m.out.2.1⟩
def Bm(out:List Int)(o:Option Int):List Int:=match o with
 |none=>out
 |some v=>out++[v]
structure xW (W:aQ) (rR cM eQ f' base b:Nat) (gW:Option bT) (ig:Nat) (ws:List Int) (fZ:Option bT) (gu:Nat) (keep out:List Int) (lF:aP):Prop where
 b0:W.cell? ⟨rR,0,af⟩=ab (ay (ab ⟨b,0,af⟩))
 c1:W.cell? ⟨cM,0,af⟩=ab (ae gW ws.length ig)
 c2:W.cell? ⟨eQ,0,af⟩=ab (ae fZ keep.length gu)
 dx:W.heap[f']?=ab (bo #[lF] 82 (0,0))
 row:W.ownsRow base 3 1 lF out.length (out.map (J R))
def xW.only{W c F rR cM eQ f' base b gW ig ws fZ gu keep out lF}(h:xW W rR cM eQ f' base b gW ig ws fZ gu keep out lF)(k:av F W c)(a:∀i,F i->False):
 xW c rR cM eQ f' base b gW ig ws fZ gu keep out lF:=
 ⟨k.cell h.b0 (λe=>a _ e),k.cell h.c1 (λe=>a _ e),k.cell h.c2 (λe=>a _ e),k.heap h.dx (λe=>a _ e),pH h.row k (λ_ _ e=>a _ e)⟩
def aqf{a xL:aP}{base f' n}(hne:∀q,a.ownBlock=ab q->base<=q)(c:xL.ownBlock=a.ownBlock\/xL.ownBlock=ab n)(hn:base<=n)(b:f'<base):xL.ownBlock≠ab f':=aH
def axs (rR cM eQ f' base b N:Nat) E F gW ig ws fZ gu keep out lF W (x:hA W F b N E) (D:dA W gW ws) (hk:dA W fZ keep) (d:xW W rR cM eQ f' base b gW ig ws fZ gu keep out lF)
 (hb:rR<f'/\cM<f'/\eQ<f'/\f'<base/\base<=W.heap.size) (IJ:ws.length<=9223372036854775807) (gU:out.length<=1048576) (vM:keep.length<=9223372036854775807) (fN:E.length<=1048576) xs (hx:kT E out xs) o (ho:jH (oy ws) (kept xs keep)=o):
 aD ax 301 #[ay (ab ⟨rR,0,af⟩),ay (ab ⟨cM,0,af⟩),ay (ab ⟨f',0,af⟩),ay (ab ⟨eQ,0,af⟩)] W λe w'=>
  e=aB (bn #[ai o.isSome,ai (decide (0<xs.length))])/\
  av (λi=>i=f'\/base<=i) W w'/\∃M,xW w' rR cM eQ f' base b gW ig ws fZ gu keep (Bm out o) M:=by
 obtain⟨n,r,rfl,A⟩:=Dp d.row;have hc:=atO b N E F gW ig ws n r out fZ gu keep W x D A hk IJ ad vM fN xs hx o ho _ aa;clear ho x D hk A hx;have w:=hid hc;have c:=hid d;obtain⟨K,z,hz0,hz1,hz2⟩:=vf Fs;have k:=hid (And.intro z (And.intro hz0 (And.intro hz1 hz2)));have T:=d.b0;have U:=d.c1;have V:=d.c2;have L:=p2 d.dx;clear hc d z hz0 hz1 hz2;generalize decide (0<xs.length)=O at*;go_enter func301,ntmps301;cases o with
 |none=>
  go_wp2_with (go_at_call 302;have g:=w.out;with_reducible refine g.mono ?_;clear g;rintro e w1 ⟨rfl,hg1⟩);go_ret2;exact⟨aa,au.to hg1,_,c.out.only hg1 (λ_ h=>h)⟩
 |some v=>
  go_wp2_with (first
   |(go_at_call 302;have g:=w.out;with_reducible refine g.mono ?_;clear g;rintro e w1 ⟨rfl,hg1⟩;have X:=hg1.cell L (λh=>h);have hs1:=hg1.size;have u:=hid hg1;clear hg1)
   |(at_builtin;go_loud (refine PE _ aa (bj 19) (bj 21) 82 aa base 3 K _ 1 8 jo k.out.1 k.out.2.1 k.out.2.2.1 k.out.2.2.2 aa ad _ out.length (out.map (J R)) aa (pH c.out.row (au.trans u.out (av.alloc (F:=λ_=>False) _ _)) (λ_ _ h=>h)) _ 1 1 [J R v] aa aa (Ns _ _ _) (by simp[zG]) (by grind[eB]) ad (by first|omega|(simp;omega)) ?_;intro xL f I y _ B;have S:f'<W.heap.size:=ad;have hne:∀q,(ae n out.length r).ownBlock=ab q->base<=q:=λq h=>(wN c.out.row q h).1;have G:av (λi=>base<=i) (w1.alloc (bo #[J R v] 3)) f:=av.of_grownBy y (λi e=>b1 (hne i e));have s:av (λi=>base<=i) W f:=((au.to u.out).trans (av.alloc (F:=λi=>base<=i) _ _) (λ_ _ h=>h)).trans G (λ_ _ h=>h);have m:f.heap[f']?=ab (bo #[ae n out.length r] 82 (0,0)):=s.heap c.out.dx ad;have C:xL.ownBlock≠ab f':=aqf hne B (by first|omega|(simp;omega)) ad;have Q:=W2 m;have P:=p2 m;have hown:f.ownsRow base 3 1 xL (out.length+1) ((out++[v]).map (J R)):=aH;obtain⟨j,l,H,_⟩:=Dp hown;obtain rfl:xL=ae j (out.length+1) l:=aH;have a:=hid (And.intro hown (And.intro s (And.intro m C)));clear hown I y B G s m C hne H)));go_ret2;refine⟨aa,((a.out.2.1.mono (λi _ h=>cm h)).trans (av.setCell (F:=λi=>i=f'\/base<=i) f (b1 aa) _) (λ_ _ h=>h)),ae j (out.length+1) l,?_⟩;have t:=av.setCell (F:=λi=>i=f') f (p:=⟨f',0,af⟩) aa (ae j (out.length+1) l);exact⟨t.cell (a.out.2.1.cell c.out.b0 aH) aH,t.cell (a.out.2.1.cell c.out.c1 aH) aH,t.cell (a.out.2.1.cell c.out.c2 aH) aH,W4 a.out.2.2.1,by simpa [Bm]using W5 a.out.1 a.out.2.2.2 (ae j (out.length+1) l)⟩
theorem age{E ws keep out xs}(h:k' E ws keep out)(hx:kT E out xs):k' E ws keep (Bm out (jH (oy ws) (kept xs keep))):=by
 cases hb:jH (oy ws) (kept xs keep)with
 |none=>exact h
 |some v=>exact .snoc h hx hb
def ahT(w:aQ)(o:List Int)(r:Bool)(e:Ending)(w':aQ):Prop:=
 ∃a b,e=aB (bn #[ae a (I4 r o).length b,ai r])/\dA w' a (I4 r o)/\(I4 r o).length<=b/\(∀k off,a=ab ⟨k,off,af⟩->w.heap.size<=k)/\au w w'
def auF{w base v m xs}(h:w.ownsRow base 3 1 v m (xs.map (J R))):∃A c,v=ae A xs.length c/\dA w A xs/\xs.length<=c/\∀k off,A=ab ⟨k,off,af⟩->base<=k:=by
 have a:m=xs.length:=by simpa using h.1.symm
 subst a;have b:=h;rcases h.2 with⟨rfl,hz⟩|⟨g,cap,cur,rfl,hb,i,h1,d,e,f⟩;·grind[dA.nil]
 .grind[dA.ot]
def boxes w b gW ig ws fZ gu keep:
 au w ((((w.alloc (bo #[ay (ab ⟨b,0,af⟩)] 179)).alloc (bo #[ae gW ws.length ig] 82)).alloc (bo #[ae fZ keep.length gu] 82)).alloc (bo #[ae af 0 0] 82))/\xW ((((w.alloc (bo #[ay (ab ⟨b,0,af⟩)] 179)).alloc (bo #[ae gW ws.length ig] 82)).alloc (bo #[ae fZ keep.length gu] 82)).alloc (bo #[ae af 0 0] 82)) w.heap.size (w.heap.size+1) (w.heap.size+2) (w.heap.size+3) (w.heap.size+4) b gW ig ws fZ gu keep [] (ae af 0 0)/\((((w.alloc (bo #[ay (ab ⟨b,0,af⟩)] 179)).alloc (bo #[ae gW ws.length ig] 82)).alloc (bo #[ae fZ keep.length gu] 82)).alloc (bo #[ae af 0 0] 82)).heap.size=w.heap.size+4:=by
 have g1:=av.alloc (F:=λ_=>False) w (bo #[ay (ab ⟨b,0,af⟩)] 179);have h1:=fL w (bo #[ay (ab ⟨b,0,af⟩)] 179);generalize j:w.alloc (bo #[ay (ab ⟨b,0,af⟩)] 179)=w1 at*;have k:w1.heap.size=w.heap.size+1:=by rw[<-j];simp
 have g2:=av.alloc (F:=λ_=>False) w1 (bo #[ae gW ws.length ig] 82);have f:=fL w1 (bo #[ae gW ws.length ig] 82);generalize hw2:w1.alloc (bo #[ae gW ws.length ig] 82)=c at*;have l:c.heap.size=w.heap.size+2:=by rw[<-hw2];simp;omega
 have e:=av.alloc (F:=λ_=>False) c (bo #[ae fZ keep.length gu] 82);have g:=fL c (bo #[ae fZ keep.length gu] 82);generalize hw3:c.alloc (bo #[ae fZ keep.length gu] 82)=d at*;have m:d.heap.size=w.heap.size+3:=by rw[<-hw3];simp;omega
 have a:=av.alloc (F:=λ_=>False) d (bo #[ae af 0 0] 82);have i:=fL d (bo #[ae af 0 0] 82);generalize hw4:d.alloc (bo #[ae af 0 0] 82)=o at*;have n:o.heap.size=w.heap.size+4:=by rw[<-hw4];simp;omega
 rw[k]at f;rw[l]at g;rw[m]at i;refine⟨au.trans g1 (au.trans g2 (au.trans e a)),⟨?_,?_,?_,i,⟨bg,b1 ⟨aa,bg⟩⟩⟩,n⟩;·exact(au.trans g2 (au.trans e a)).cell (p2 h1) (λh=>h)
 .exact(au.trans e a).cell (p2 f) (λh=>h)
 .exact a.cell (p2 g) (λh=>h)
set_option maxHeartbeats 2000000 in
def anC (b N:Nat) E F gW ig ws fZ gu keep w (z:hA w F b N E) (hw:dA w gW ws) (hk:dA w fZ keep)
 (IJ:ws.length<=9223372036854775807) (vM:keep.length<=9223372036854775807) (fN:E.length<=1048576) (o xs) (hx:wX E ws keep o xs) r (hr:decide (xs=[])=r):
 aD ax 249 #[ay (ab ⟨b,0,af⟩),ae gW ws.length ig,ae fZ keep.length gu] w (ahT w o r):=by
 have fp:=z.small.2;have l:=hid (And.intro z (And.intro hw (And.intro hk (And.intro hx hr))));have C:=hid z.2.2;have vS:∀(L:Fn) (first cap:Array aP) (w:aQ),(Instr.makeFunc L first cap).run ax w=bf (dI L first cap) w:=λ_ _ _ _=>aa;have y:=hid (boxes w b gW ig ws fZ gu keep);clear z hw hk hx hr;go_enter func249,ntmps249;go_wp2_with fail;go_at_call 301;clear vS;generalize (((w.alloc (bo #[ay (ab ⟨b,0,af⟩)] 179)).alloc (bo #[ae gW ws.length ig] 82)).alloc (bo #[ae fZ keep.length gu] 82)).alloc (bo #[ae af 0 0] 82)=aq at*
 have J:aE (∀(W:aQ) (out:List Int) (lF:aP),av (λi=>i=w.heap.size+3\/w.heap.size+4<=i) aq W->xW W w.heap.size (w.heap.size+1) (w.heap.size+2) (w.heap.size+3) (w.heap.size+4) b gW ig ws fZ gu keep out lF->k' E ws keep out->
  ∃bY q d,kT E out bY/\jH (oy ws) (kept bY keep)=q/\decide (0<bY.length)=d/\aD ax 301 #[ay (ab ⟨w.heap.size,0,af⟩),ay (ab ⟨w.heap.size+1,0,af⟩),ay (ab ⟨w.heap.size+3,0,af⟩),ay (ab ⟨w.heap.size+2,0,af⟩)] W λe w'=>
   e=aB (bn #[ai q.isSome,ai d])/\av (λi=>i=w.heap.size+3\/w.heap.size+4<=i) aq w'/\∃UJ,xW w' w.heap.size (w.heap.size+1) (w.heap.size+2) (w.heap.size+3) (w.heap.size+4) b gW ig ws fZ gu keep (Bm out q) UJ):=hid (λW out lF D kq hch=>by
  obtain⟨bY,p⟩:=HC C.out out;have hsz:=y.out.2.2;have hs:=D.size;have B:av (λi=>w.heap.size+3<=i) w W:=(au.to y.out.1).trans D (λi hi h=>ad);have f:au w W:=B.mono (λi hi h=>ad);refine⟨bY,_,_,p,aa,aa,?_⟩;refine(axs _ _ _ _ _ b N E F gW ig ws fZ gu _ _ lF W (l.out.1.aI f) (l.out.2.1.aI f) (l.out.2.2.1.aI f) kq ⟨ad,ad,ad,ad,ad⟩ IJ (by have:=hch.length C.out;omega) vM fN bY p _ aa).mono ?_;rintro e w' ⟨rfl,h1,n⟩;exact⟨aa,D.trans h1 (λ_ _ h=>h),n⟩);obtain⟨bY,q,d,p,Y,V,m⟩:=J.out aq [] _ (av.refl _ _) y.out.2.1 .nil;refine m.mono ?_;clear m;rintro e w1 ⟨rfl,T,ax6,R⟩;have g:=hid (And.intro T (And.intro R (And.intro p (And.intro Y (And.intro V (show k' E ws keep []from .nil))))));clear T R p Y V;go_wp2_with fail;go_loopg [10,11] (2*N+2) (λgk ez iL wr=>∃(out s bY:List Int) (q:Option Int) (d:Bool) (lF:aP),ez=ai q.isSome/\iL=ai d/\aE (av (λi=>i=w.heap.size+3\/w.heap.size+4<=i) aq wr/\xW wr w.heap.size (w.heap.size+1) (w.heap.size+2) (w.heap.size+3) (w.heap.size+4) b gW ig ws fZ gu keep out lF/\out=Bm s q/\k' E ws keep s/\kT E s bY/\jH (oy ws) (kept bY keep)=q/\decide (0<bY.length)=d)/\2*(N -out.length)+(if q.isSome then 1 else 0)<gk);case atStart=>exact⟨_,[],bY,q,d,ax6,aa,aa,hid ⟨g.out.1,g.out.2.1,aa,.nil,g.out.2.2.1,g.out.2.2.2.1,g.out.2.2.2.2.1⟩,aH⟩
 case round=>
  obtain⟨out,s,aCf,c4,aop,lF,rfl,rfl,a,Mz⟩:=hrel;have hch:k' E ws keep out:=by rw[a.out.2.2.1,<-a.out.2.2.2.2.2.1];exact age a.out.2.2.2.1 a.out.2.2.2.2.1
  cases c4 with
  |some v=>
   obtain⟨ayB,G,aoq,ac1,Z,X,m⟩:=J.out wr out lF a.out.1 a.out.2.1 hch;have ac:=hid m;have H:=hid (And.intro ac1 (And.intro Z X));have AQ:(Bm out G).length<=N:=(by grind[age]:k' E ws keep (Bm out G)).length C.out;have I:=hid hch;clear m ac1 Z X hch;simp only[Option.isSome_some,if_true]at Mz;go_wp2_with (go_at_call 301;have K:=ac.out;with_reducible refine K.mono ?_;clear K;rintro e bF ⟨rfl,U,ax7,S⟩);have u:=hid (And.intro U S);clear U S;cases G with
   |none=>
    go_roundg (2*(N -out.length)+1);case measure=>omega
    case rel=>exact⟨out,_,_,_,_,_,aa,aa,hid ⟨u.out.1,u.out.2,aa,I.out,H.out⟩,bg⟩
   |some v3=>
    simp only[Bm,List.length_append,vr]at AQ;go_roundg (2*(N -out.length));case measure=>omega
    case rel=>exact⟨out++[v3],out,ayB,ab v3,aoq,ax7,aa,aa,hid ⟨u.out.1,u.out.2,aa,I.out,H.out⟩,aH⟩
  |none=>
   obtain⟨h1,n,h3,M,O,P,Q⟩:=a.out;obtain rfl:out=s:=h3;obtain⟨rfl,rfl⟩:=l.out.2.2.2.1.unique ⟨M,O,P⟩
   have db:aop=!r:=by
    rw[<-Q,<-l.out.2.2.2.2];cases xs with
    |nil=>rfl
    |cons x t=>simp
   have B:av (λi=>w.heap.size+3<=i) w wr:=(au.to y.out.1).trans h1 (λi hi h=>ad);have f:au w wr:=B.mono (λi hi h=>ad);have jT:=p2 n.dx;obtain⟨A,c,rfl,hi,hc,hloc⟩:=auF n.row;have j:=hid (And.intro hi (And.intro hc (And.intro (λk off e=>dT ad (hloc k off e):∀k off,A=ab ⟨k,off,af⟩->w.heap.size<=k) f)));subst db;clear hch h1 n M O P Q B f hi hc hloc a;cases r;·go_wp2;go_ret2;exact⟨af,0,aa,dA.nil,b9 _,(λ_ _ h=>aH),j.out.2.2.2⟩
   .go_wp2;go_ret2;exact⟨A,c,aa,j.out.1,j.out.2.1,j.out.2.2.1,j.out.2.2.2⟩
end G
end Go.Proofs.YtcmhplknoglbkaaGreat
