/- Part 7 of the proof of TopConfinedSaid. -/
import Derived.OrdersHeld
import Derived.StillTail
import Derived.RegionTactic
import Derived.Below
import Derived.Shelf.SlSortCmp.NoneTotal
import Derived.RangeFuncNested
import Derived.RangeFuncBound
import Derived.RangeFuncCalls
import Derived.RangeFuncLeaves
import Derived.RangeFuncBox
import Derived.RangeFuncWrites
import Derived.Shelf.Abstract
import Derived.Shelf.RegionOpen
import Derived.OwnWalkIn
import Derived.TacticsInMore
import Derived.LoopNIn
import Derived.LoopIn
import Derived.Maps.AppendAt
import Derived.Lib.SlicesCompact
import Derived.Deep.LoopGhost
import Derived.Test.YtcmhplknoglbkaaGreatQf0
import Derived.Test.YtcmhplknoglbkaaGreatQf3
import Derived.Test.YtcmhplknoglbkaaGreatQf6
set_option linter.all false
set_option maxRecDepth 100000
set_option maxHeartbeats 4000000
open Go.Proofs.Tryz
open Array renaming replicate_succ->qI,replicate_zero->qJ
open Bool renaming false->ao,true->az
open Function renaming comp_def->Kz
open Go renaming Addr->bT,Calls->aC,CallsIn->rW,Program->ew,Value->aO,World->aP,bodyPost_ret->c8,callFunc->kB,callsIn_of_wp->D6,callsIn_wide->sY,cell_of_one->pY,cell_of_row->fH,free_of_one->Xj,heap_alloc_new->fO,info_parts->vh,maxLen->eG,one_setCell->Xl,ownsRow_setCell_other->Xm,ready_mono->Xn,results_none->K1,undef->a1,wpIn_wide->yn,wpList_append_own_at->PR
open Go.Builtin renaming len_->ah0
open Go.Departure renaming mixedOrders->KC
open Go.Ending renaming returned->aB
open Go.Exit renaming normal->sU,panic->tM
open Go.Fence renaming wide->mP
open Go.Fn renaming func->eu
open Go.Instr renaming lookup->qN
open Go.IntKind renaming i64->R
open Go.KeepsOthers renaming alloc->azD,of_grownBy->azE,setCell->azF
open Go.Obj renaming cells->bp,map->iT
open Go.Operand renaming tmp->bj
open Go.Proofs.AnyE renaming slices_DeleteFunc->azJ
open Go.Proofs.AnyF renaming slices_SortFunc_none->aie
open Go.Proofs.Tryz renaming func338->We,ntmps338->WB,prog->ax,underlying118->vb,underlying303->BS,underlying467->WZ,underlying82->jo
open Go.Proofs renaming intOf->c'
open Go.Region renaming Mode->PC,binds->yi,ready->sX,waitsFor->aj9
open Go.Result renaming ok->bf
open Go.RowKit renaming Hid->aE,run_makeMap->PG
open Go.Sort renaming ahead->KW
open Go.Value renaming agg->ar,bool->ai,func->dS,int->J,map->dP,oneCell'->zV,ownBlock->yk,pointer->ay,slice->ae,tuple->bo
open Go.World renaming block_lt_of_cell?->vf,cell?->zW,frozen?->wK,size_alloc->zX
open Go.World.ownsRow renaming lt->wL
open List renaming Nodup->alQ,append_inj'->QU,append_nil->kR,append_toArray->q1,concat_eq_append->alT,cons_append->p4,countP_cons->Hk,countP_le_length->QV,eq_nil_iff_forall_not_mem->Eu,eq_nil_of_length_eq_zero->j8,eq_nil_or_concat->Lr,filter_append->s8,filter_cons->Hm,filter_filter->QY,filter_nil->Ys,getElem?_eq_getElem->cF,getElem?_eq_some_iff->eM,getElem?_of_mem->Q2,getElem?_take->q2,length->q3,length_cons->jV,length_filter_le->Al,length_nil->mT,length_singleton->yH,length_take->oe,mem_append->iX,mem_cons->gD,mem_cons_of_mem->p5,mem_cons_self->s',mem_filter->nz,mem_iff_getElem->Yx,mem_iff_getElem?->p6,mem_of_getElem?->cW,nil_append->l0,nodup_append->yI,pairwise_and_iff->al1,pairwise_cons->wX,pairwise_iff_getElem->mv,pairwise_map->yJ,push_toArray->q4,size_toArray->iY,take_add_one->gx,take_append_drop->oJ,take_length->ll,take_of_length_le->ub
open List.Pairwise renaming filter->Yn
open List.Perm renaming refl->Cc
open Nat renaming le_refl->b7,le_trans->eb,lt_or_eq_of_le->Q8,strongRecOn->Ra,zero_add->js,zero_le->cB
open Option renaming getD_some->vB,none->af,some->ab
open Option.some renaming inj->Lx,injEq->wZ
open Or renaming inl->bZ,inr->cc
namespace Go.Proofs.YtcmhplknoglbkaaGreat
section
section
variable {P:ew} {ops:Array Oper} {Q:Exit->Act->aP->Prop} {md:PC} {S:aP->Prop} {d:Nat}
def wo(P:ew)(md:PC)(ops:Array Oper)(Q:Exit->Act->aP->Prop)(S:aP->Prop)(d:Nat):Nat->Array Bool->Act->aP->Prop
 |0,b,a,w=>sX md ops b=[]/\Q sU a w
 |e+1,b,a,w=>
  (sX md ops b=[]->Q sU a w)/\
  ∀i∈sX md ops b,wpOp P ops Q i (λc w'=>(i≠d->S w')/\wo P md ops Q S d e (b.setIfInBounds i az) c w') a w
def ag3:∀(b) c a w,wo P md ops Q S d b c a w->wpAny P md ops Q b c a w
 |0,_,_,_,h=>h
 |b+1,_,_,_,h=>⟨h.1,λi hi=>wpOp_mono (λe w' f=>ag3 b _ e w' f.2) (h.2 i hi)⟩
def ayx {i oi v} (hi:ops[i]?=ab oi) (u:∀(j:Nat) o cs b,ops[j]?=ab o->o.op≠.select cs b)
 (hd:aj9 md ops d i=az) (E7:∀c a w,Q (tM c) (a.put oi.dst v) w->Q (tM c) a w):
 ∀(n) f a w,
  (∀j g,ops[j]?=ab g->j≠i->f.getD j az=ao->(∀e∈g.after,yi md e=az->e.on≠i)->oi.apart ops g=az)->
  i∈sX md ops f->YieldsIf P ops S oi v a->S w->
  wo P md ops Q S d n (f.setIfInBounds i az) (a.put oi.dst v) w->wo P md ops Q S d (n+1) f a w:=by
 intro n;induction n with
 |zero=>
  intro f a w _ hr r p m;refine⟨λh=>aG,λj q=>?_⟩;by_cases l:j=i;·subst l;exact r.wpOp hi p ⟨λ_=>p,m⟩
  .have:=Xn q l;rw[m.1]at this;cases this
 |succ n G=>
  intro f a w t hr r p m;refine⟨λh=>aG,λj q=>?_⟩;by_cases l:j=i;·subst l;exact r.wpOp hi p ⟨λ_=>p,m⟩
  .have h1:=m.2 j (Xn q l);obtain⟨y,g,s,hall⟩:=mem_ready.1 q;have A:∀e∈g.after,yi md e=az->e.on≠i:=λe C hb D=>by grind[mem_ready]
   have F:j≠d:=by grind[Region.waitsFor_spec]
   have B:=wpOp_putIf s (t j g s l y A) (λcs b=>u i oi cs b hi) (λcs b=>u j g cs b s) E7 r h1
   have E:∀k ok,ops[k]?=ab ok->k≠i->(f.setIfInBounds j az).getD k az=ao->
    (∀e∈ok.after,yi md e=az->e.on≠i)->oi.apart ops ok=true:=λk ok hk z x hno=>by
    refine t k ok hk z ?_ hno;by_cases hjk:j=k;·grind
    .rw[getD_set_ne az hjk]at x;exact x
   grind[wpOp_mono,Xn,Array.setIfInBounds_comm]
def Bz {i oi v e b a w} (hi:ops[i]?=ab oi)
 (hs:Region.noSelect ops=az) (hf:Region.free md ops b i=az) (hr:(sX md ops b).contains i=az) (hd:aj9 md ops d i=az)
 (E7:∀c a w,Q (tM c) (a.put oi.dst v) w->Q (tM c) a w) (hy:YieldsIf P ops S oi v a) (hS:S w)
 (h:wo P md ops Q S d e (b.setIfInBounds i az) (a.put oi.dst v) w):wo P md ops Q S d (e+1) b a w:=
 ayx hi (Region.noSelect_spec hs) hd E7 e b a w (Region.free_spec hi hf) aG hy hS h
def pS(P:ew)(md:PC)(ops:Array Oper)(Q:Exit->Act->aP->Prop)(S:aP->Prop)(d:Nat)(c:Nat)(e:Array Bool)(a:Act)(w:aP)(rs:List Nat):Prop:=
 ∀i∈rs,wpOp P ops Q i (λb w'=>(i≠d->S w')/\wo P md ops Q S d c (e.setIfInBounds i az) b w') a w
theorem pS.nil{b c a w}:pS P md ops Q S d b c a w []:=λ_ h=>by grind
def pS.cons {c f a w i o rs} (ho:ops[i]?=ab o) (m:Region.wanted o (yielded ops a.tmps)=az)
 (h:∀b:Act->aP->Prop,aE (∀a w,(i≠d->S w)->wo P md ops Q S d c (f.setIfInBounds i az) a w->b a w)->Oper.wp P o a w b Q)
 (hs:pS P md ops Q S d c f a w rs):pS P md ops Q S d c f a w (i::rs):=λj e=>by
 rcases gD.1 e with rfl|e;·refine wpOp_step ho (λb g=>?_);rw[if_pos m];exact h b (λa w k l=>g a w ⟨k,l⟩)
 .exact hs j e
def JO {rs c b a w} (hr:sX md ops b=rs) (hne:rs≠[])
 (h:pS P md ops Q S d c b a w rs):wo P md ops Q S d (c+1) b a w:=⟨λe=>absurd (hr▸e) hne,hr▸h⟩
def ayw{b a w}(hr:sX md ops b=[])(h:Q sU a w):∀c,wo P md ops Q S d c b a w
 |0=>⟨hr,h⟩
 |_+1=>⟨λ_=>h,aG⟩
def ayD {id a w} (c:P.follows KC=az) d S (b:S w.drew)
 (h:S w.drew->wo P .any ops Q S d ops.size (Array.replicate ops.size ao) a w.drew):(Code.region id ops az).wp P Q a w:=
 wp_region_any c (ag3 _ _ _ _ (h b))
end
end
open Go.RowKit Go.MapKept
def aso:(ax.info? 413).map (λi=>(i.zero,i.size,i.bytes))=ab (ab (ar #[J R 0,J R 0,J R 0]),3,24):=aw
def aqe{l:List (Int×Int)}{k e}(hk:l[k]?=ab e)(h:∀x∈l.take k,eX x/\0<x.2)(a:eX e/\0<e.2):∀x∈l.take (k+1),eX x/\0<x.2:=by grind[gx]
def aeW{F w w'}{base e size:Nat}{v m xs}(h:w.ownsRow base e size v m xs)(k:av F w w')(hn:∀i,v.ownBlock=ab i->¬F i):w'.ownsRow base e size v m xs:=by
 refine⟨h.1,?_⟩;rcases h.2 with h2|⟨g,cap,cur,rfl,hb,hh,r⟩;·grind
 .exact cc ⟨g,_,_,aa,hb,k.heap hh (hn g aa),r⟩
def aeV{w:aP}{base e n:Nat}{v xs}(h:w.ownsRow base e 3 v n xs):∃A c,v=ae A n c:=by
 rcases h.2 with⟨rfl,rfl⟩|⟨g,cap,cur,rfl,_⟩;·simp
 .simp
def aac:∀(t) k,(xa k t).Pairwise (λx y=>x.2<y.2)
 |[],_=>.nil
 |e::t,k=>by
  refine wX.2 ⟨λy a=>?_,aac t (k+1)⟩;obtain⟨i,hi⟩:=p6.1 a;rw[R4]at hi;cases he:t[i]? with
  |none=>rw[he]at hi;cases hi
  |some b=>
   rw[he]at hi;simp only[Option.map_some,wZ]at hi;subst hi;show(k:Int)<((k+1+i:Nat):Int);omega
def apx l:(iJ l).Nodup:=(aac l 0).imp (λh e=>aG)
def aes{l}{k:Nat}{e}(hk:l[k]?=ab e)(h:¬(eX e/\0<e.2)):¬∃S,S.Perm (iJ l)/\j4 S:=by rintro⟨S,hp,hg⟩;have a:(e,(k:Int))∈S:=hp.mem_iff.2 (A4.2 ⟨k,hk,aa⟩);exact h (hg.2 _ a)
def aqd{S}(c:S.Pairwise (λx y=>x.1.1<=y.1.1))(hv:∀x∈S,eX x.1/\0<x.1.2)(h:∀i x y,S[i]?=ab x->S[i+1]?=ab y->x.1.1+x.1.2<=y.1.1):j4 S:=by
 refine⟨mv.2 λi j hi b a=>?_,hv⟩;have h1:=h i S[i] S[i+1] (cF hi) (cF ad);rcases Q8 (show i+1<=j from a)with hlt|e;·have d:=mv.1 c (i+1) j ad b hlt;omega
 .grind
def atU{l}{c:List jS}(d:c.Perm (iJ l))(q:c.Pairwise (λx y=>x.1.1<=y.1.1)){i x y}(hx:c[i]?=ab x)(g:c[i+1]?=ab y)(hlt:y.1.1<x.1.1+x.1.2):¬∃S,S.Perm (iJ l)/\j4 S:=by
 rintro⟨S,hp,hg⟩;have p:c.Nodup:=d.nodup_iff.2 (apx l);obtain⟨hi,r⟩:=eM.1 hx;obtain⟨o,s⟩:=eM.1 g;have hne:x≠y:=by grind[mv]
 have hle:x.1.1<=y.1.1:=by grind[mv]
 have m:x∈S:=(d.trans hp.symm).mem_iff.1 (cW hx);have j:y∈S:=(d.trans hp.symm).mem_iff.1 (cW g);obtain⟨a,e,f⟩:=Yx.1 m;obtain⟨b,hb,k⟩:=Yx.1 j;have n:=(hg.2 y j).2;rcases Nat.lt_trichotomy a b with h|h|h;·have:=mv.1 hg.1 a b e hb h;rw[f,k]at this;omega
 .grind
 .have:=mv.1 hg.1 b a hb e h;rw[f,k]at this;omega
def atP{w:aP}{b x y z t}(h:w.heap[b]?=ab (bp #[x,y,z] t (0,0))):∀j u,[x,y,z][j]?=ab u->w.cell? ((⟨b,0,af⟩:bT).add j)=ab u:=by grind[Addr.add,zW]
def axs A c f w:aC ax 307 #[ae A 0 c,f] w λe w'=>e=aB (bo #[])/\w'=w:=aie Tryz.adV A c f w
section
attribute [local go_sem] Oper.semAt_some
abbrev Part:=Int×(Int×Int)
def parts(e:Int×Int)(S:List jS):List Part:=(S.filter (λx=>meets x.1 e)).map (λx=>(x.2,mh x.1 e))
def ae8{e}{S:List jS}{k x}(hx:S[k]?=ab x)(h:meets x.1 e=az):parts e (S.take (k+1))=parts e (S.take k)++[(x.2,mh x.1 e)]:=by grind[gx,parts]
theorem ae5{e S}(h:∀x∈S,meets x.1 e=ao):parts e S=[]:=by grind[parts,List.filter_eq_nil_iff]
def auX{e S k}(h:∀i x,k<=i->S[i]?=ab x->meets x.1 e=ao):parts e (S.take k)=parts e S:=by
 have h1:parts e S=parts e (S.take k)++parts e (S.drop k):=by grind[parts,oJ]
 grind[ae5,p6]
def auW{c d S k}(h:IsCut S.length (uV S c) k):parts (c,d) (S.take k)=[]:=by
 refine ae5 (λx hx=>?_);obtain⟨i,hi⟩:=p6.1 hx;rw[q2]at hi;split at hi;·rename_i hik;have:=h.before hi hik;grind[meets]
 .grind
def ae6{c d S k x}(a:j4 S)(hk:c<x.1.1+x.1.2)(hx:S[k]?=ab x)(e:meets x.1 (c,d)=ao):parts (c,d) (S.take k)=parts (c,d) S:=by
 refine auX (λi y hi b=>?_);have f:=(a.at hx).2;simp only[meets,decide_eq_false_iff_not]at e⊢;rcases Q8 hi with h|h;·have h1:=a.lt hx b h;have g:=(a.at b).2;omega
 grind
def ae4{e}{S:List jS}{k x}(hx:S[k]?=ab x):(parts e (S.take k)).length<S.length:=by grind[parts]
def ae7 e S k:parts e (S.take k)<+:parts e S:=by grind[parts]
def agM{e:Ending}{A B}(h:(e=aB (ai az)/\A)\/(e=aB (ai ao)/\B)):∃a,e=aB (ai a)/\(a=az->A)/\(a=ao->B):=aG
def aqh{w w'}(h:au w w'):w.grownBy w' none:=⟨h.1,h.2,h.3,h.4,λk hk _=>h.5 k hk (λh=>h)⟩
set_option maxHeartbeats 4000000 in
def auC n (hn:1<=n) jm (l O C p) S (c d) (nb:eX (c,d)) (hS:j4 S) (D vr:List Part->aP->Prop)
 (AN:∀pre x W,D pre W->pre.length<S.length->YieldAt mP (n -1) ax l #[J R x.1,ar #[J R x.2.1,J R x.2.2]] W λe a=>(e=aB (ai az)/\D (pre++[x]) a/\av jm W a)\/(e=aB (ai ao)/\vr (pre++[x]) a))
 W (pw:∀pre ih fh,D pre ih->au ih fh->D pre fh)
 (gP:aE (∀a,av jm W a->oG a p S/\a.cell? ⟨O,0,af⟩=ab (ay (ab ⟨p,0,af⟩))/\a.cell? ⟨C,0,af⟩=ab (J R c)/\a.cell? ⟨C,1,af⟩=ab (J R d))) (h0:D [] W):
 rW mP n ax 309 #[dS (.yield l) #[] #[],ay (ab ⟨O,0,af⟩),ay (ab ⟨C,0,af⟩)] W λe a=>(∃v,e=aB v)/\(D (parts (c,d) S) a\/∃pre,pre<+:parts (c,d) S/\vr pre a):=by
 have ny:=hid AN;have K:=hid pw;have T:=hid (And.intro hS nb);have rZ:=hid h0;have aBy:ax.follows KC=true:=aw;obtain⟨E,z,fk,kr⟩:=gP.out W (av.refl _ _);have hlen:=E;obtain⟨_,_,_,_,hl⟩:=hlen;have X:=hid (amt p S c W E hS);clear E AN pw hS nb h0;refine D6 Tryz.func309 aa trivial ?_ aa;simp only[ntmps309,iY,jV,mT,qI,qJ,q4,q1,l0,p4];gi_wp2_with (first|(refine⟨trivial,?_⟩;gi_at_call 310;have f:=sY (n:=n -1).2 X.out;with_reducible refine f.mono ?_;clear f;rintro e w1 ⟨k,rfl,V,hg1⟩)|(gi_at_call 310;have f:=(callsIn_wide (n:=n -1)).2 X.out;with_reducible refine f.mono ?_;clear f;rintro e w1 ⟨k,rfl,V,hg1⟩));have P:=hid (And.intro V hg1);have ara:=V.1;clear V hg1 X z fk kr;gi_loopw [4] (λi wr=>∃z:Nat,z<=S.length/\k<=z/\i=J R z/\aE (D (parts (c,d) (S.take z)) wr/\av jm W wr)) (λi _=>S.length -(c' i).toNat);case atStart=>exact⟨k,ara,b7 _,aa,hid ⟨by rw[auW P.out.1];exact K.out _ _ _ rZ.out P.out.2,P.out.2.mono (λ_ _ h=>h.elim)⟩⟩
 case round=>
  obtain⟨q,hq,zf,rfl,w⟩:=hrel;obtain⟨E,z,fk,kr⟩:=gP.out wr w.out.2;have Q:=hid E;by_cases hlt:q<S.length
  .have hb0:(q:Int)<(S.length:Int):=ad;obtain⟨x,hx⟩:∃x,S[q]?=ab x:=⟨_,cF hlt⟩;obtain⟨b,o,pt,cK,cI,iQ,qy⟩:=E.at hx;have U:=hid (And.intro hx (And.intro (P.out.1.behind hx zf) (T.out.1.at hx)));obtain⟨⟨cX,bk⟩,iw⟩:=x;simp only at cI iQ qy
   have y:aE (∀w',au wr w'->w'.cell? ⟨O,0,af⟩=ab (ay (ab ⟨p,0,af⟩))/\w'.cell? ⟨C,0,af⟩=ab (J R c)/\w'.cell? ⟨C,1,af⟩=ab (J R d)/\w'.cell? ⟨p,0,af⟩=ab (ae (ab ⟨b,o,af⟩) S.length pt)/\w'.cell? ⟨b,o+q*3,af⟩=ab (J R cX)/\w'.cell? ⟨b,o+q*3+1,af⟩=ab (J R bk)/\w'.cell? ⟨b,o+q*3+2,af⟩=ab (J R iw)):=
    hid (λw' h=>⟨h.cell z (λh=>h),h.cell fk (λh=>h),h.cell kr (λh=>h),h.cell cK (λh=>h),h.cell cI (λh=>h),h.cell iQ (λh=>h),h.cell qy (λh=>h)⟩)
   have M:aE (∀w1 B u v,au wr w1->wr.heap.size<=B->au wr ((w1.setCell ⟨B,0,af⟩ u).setCell ⟨B,1,af⟩ v)):=hid (λw1 B u v h kn=>by have q:=(h.mono (G:=λi=>i=B) (λ_ _ h=>h.elim)).trans ((av.setCell (F:=λi=>i=B) w1 (p:=⟨B,0,af⟩) aa u).trans (av.setCell (F:=λi=>i=B) _ (p:=⟨B,1,af⟩) aa v) (λ_ _ h=>h)) (λ_ _ h=>h);exact q.mono (λi hi h=>ad))
   have Y:aE (∀w',au (wr.drew.alloc (bp #[J R 0,J R 0] 35)) w'->w'.frozen? ⟨wr.heap.size,0,af⟩=ao/\w'.frozen? ⟨wr.heap.size,1,af⟩=ao/\w'.cell? ⟨wr.heap.size,0,af⟩=ab (J R 0)/\w'.cell? ⟨wr.heap.size,1,af⟩=ab (J R 0)):=hid (λw' hw'=>by have g4:=hw'.heap (fO wr.drew (bp #[J R 0,J R 0] 35)) (λh=>h);have g5:w'.heap[wr.heap.size]?=ab (bp #[J R 0,J R 0] 35 (0,0)):=g4;grind[wK,zW]);have ff:aE (∀a,aC ax 202 #[ar #[J R cX,J R bk],ar #[J R c,J R d]] a λe w'=>e=aB (bo #[gT (mh (cX,bk) (c,d)),ai (meets (cX,bk) (c,d))])/\au a w'):=hid (λa=>NQ cX bk c d a U.out.2.2.1 T.out.2);have b1:aE (∀gr g,mh (cX,bk) (c,d)=(gr,g)->∀Un:Nat,Un=q->True):=hid (λ_ _ _ _ _=>trivial);have H:aE (S[q]?=ab ((cX,bk),iw)):=hid U.out.1;obtain⟨m,hm⟩:∃m:Bool,meets (cX,bk) (c,d)=m:=⟨_,aa⟩;obtain⟨gr,g,eS⟩:∃gr g:Int,mh (cX,bk) (c,d)=(gr,g):=⟨_,_,aa⟩;have t:=hid (And.intro hm eS)
   have Qu:aE (∀a,aC ax 202 #[ar #[J R cX,J R bk],ar #[J R c,J R d]] a λe w'=>e=aB (bo #[ar #[J R gr,J R g],ai m])/\au a w'):=hid (λa=>by have h:=ff.out a;rw[hm,eS]at h;exact h);clear hx E hm eS ff b1 cK cI iQ qy;gi_wp2_with (first|(refine⟨trivial,?_⟩;gi_at_call 311;have f:=sY (n:=n -1).2 (xA p S wr Q.out);with_reducible refine f.mono ?_;clear f;rintro e aU ⟨rfl,rfl⟩)|(gi_at_call 311;have f:=(callsIn_wide (n:=n -1)).2 (xA p S wr Q.out);with_reducible refine f.mono ?_;clear f;rintro e aU ⟨rfl,rfl⟩));refine yn.2 ?_
   go_region_held3 (λw'=>w'.cell? ⟨O,0,af⟩=ab (ay (ab ⟨p,0,af⟩))/\w'.cell? ⟨C,0,af⟩=ab (J R c)/\w'.cell? ⟨C,1,af⟩=ab (J R d)/\w'.cell? ⟨p,0,af⟩=ab (ae (ab ⟨b,o,af⟩) S.length pt)/\w'.cell? ⟨b,o+q*3,af⟩=ab (J R cX)/\w'.cell? ⟨b,o+q*3+1,af⟩=ab (J R bk)/\w'.cell? ⟨b,o+q*3+2,af⟩=ab (J R iw))
    (first
      |exact y.out _ (av.drew _)
      |exact y.out _ s
      |exact y.out _ (au.trans (av.drew _) (av.alloc _ _))
      |exact y.out _ (au.trans s (av.alloc _ _))
      |exact y.out _ (M.out _ _ _ _ s (b7 _))
      |exact y.out _ (M.out _ _ _ _ (au.trans s (av.alloc _ _)) s.size))
    (first
      |(go_at_call 202;refine(Qu.out _).mono ?_;rintro e A ⟨rfl,ha0⟩;(have s:au wr A:=(by first|exact au.trans (av.drew _) ha0|exact au.trans (au.trans (av.drew _) (av.alloc _ _)) ha0));(try(have hz:=Y.out _ ha0;obtain⟨fV,z2,z3,z4⟩:=hz))))
   .have N:=yU A (J R gr) (J R g) 35;have j:=hid (au.trans s (av.alloc (F:=λ_=>False) A (bp #[J R gr,J R g] 35)));have I:=hid N;clear N ha0 s M Y Qu;generalize A.alloc (bp #[J R gr,J R g] 35)=r at*;generalize A.heap.size=B at*;cases m with
    |false=>
     gi_wp2_with fail;refine yn.2 ?_;go_quiet (fail);gi_wp2;refine c8 (K1 aa _ _ _) aa ?_;refine⟨⟨_,aa⟩,bZ ?_⟩;have h:=ae6 T.out.1 U.out.2.1 H.out t.out.1;rw[<-h];exact K.out _ _ _ w.out.1 (au.trans j.out (av.drewN _ _))
    |true=>
     obtain⟨fn,tmps,assign,body,hy,fj⟩:=ny.out (parts (c,d) (S.take q)) (iw,(gr,g)) r.drew (K.out _ _ _ w.out.1 (au.trans j.out (av.drew _))) (ae4 H.out);dsimp only at hy;obtain⟨mq,bx,c5,hG,np,Kf,Kg⟩:=y.out _ (au.trans j.out (av.drew _));have BB:r.drew.cell? ⟨B,0,af⟩=ab (J R gr):=I.out.1;have Kh:r.drew.cell? ⟨B,1,af⟩=ab (J R g):=I.out.2;have L:=hid (ae8 H.out t.out.1);have Z:aE (av jm W r.drew):=hid (w.out.2.trans ((au.trans j.out (av.drew _)).mono (λ_ _ h=>h.elim)) (λ_ _ h=>h));gi_wp2_with fail;gi_region_with_o (refine fj.mono ?_;intro e Co hp;obtain⟨q',rfl,Fw,IE⟩:=agM hp)
     all_goals
      cases q' with
      |true=>
       gi_wp2;go_roundw
       case rel=>
        have h:=Fw aa;refine⟨q+1,ad,ad,bc,hid ⟨?_,Z.out.trans h.2 (λ_ _ h=>h)⟩⟩;rw[L.out,t.out.2];exact h.1
       case measure=>simp[c'];omega
      |false=>
       gi_wp2;refine c8 (K1 aa _ _ _) aa ?_;refine⟨⟨_,aa⟩,cc ⟨_,?_,IE (by first|rfl|trivial)⟩⟩;have h:=ae7 (c,d) S (q+1);rw[L.out,t.out.2]at h;exact h
   .have N:=UI A wr.heap.size (J R 0) (J R 0) (J R gr) (J R g) z3 z4;have j:=hid (M.out A wr.heap.size (J R gr) (J R g) s (b7 _));have I:=hid N;clear N ha0 s fV z2 z3 z4 M Y Qu;generalize (A.setCell ⟨wr.heap.size,0,af⟩ (J R gr)).setCell ⟨wr.heap.size,1,af⟩ (J R g)=r at*;generalize wr.heap.size=B at*;cases m with
    |false=>
     gi_wp2_with fail;refine yn.2 ?_;go_quiet (fail);gi_wp2;refine c8 (K1 aa _ _ _) aa ?_;refine⟨⟨_,aa⟩,bZ ?_⟩;have h:=ae6 T.out.1 U.out.2.1 H.out t.out.1;rw[<-h];exact K.out _ _ _ w.out.1 (au.trans j.out (av.drewN _ _))
    |true=>
     obtain⟨fn,tmps,assign,body,hy,fj⟩:=ny.out (parts (c,d) (S.take q)) (iw,(gr,g)) r.drew (K.out _ _ _ w.out.1 (au.trans j.out (av.drew _))) (ae4 H.out);dsimp only at hy;obtain⟨mq,bx,c5,hG,np,Kf,Kg⟩:=y.out _ (au.trans j.out (av.drew _));have BB:r.drew.cell? ⟨B,0,af⟩=ab (J R gr):=I.out.1;have Kh:r.drew.cell? ⟨B,1,af⟩=ab (J R g):=I.out.2;have L:=hid (ae8 H.out t.out.1);have Z:aE (av jm W r.drew):=hid (w.out.2.trans ((au.trans j.out (av.drew _)).mono (λ_ _ h=>h.elim)) (λ_ _ h=>h));gi_wp2_with fail;gi_region_with_o (refine fj.mono ?_;intro e Co hp;obtain⟨q',rfl,Fw,IE⟩:=agM hp)
     all_goals
      cases q' with
      |true=>
       gi_wp2;go_roundw
       case rel=>
        have h:=Fw aa;refine⟨q+1,ad,ad,bc,hid ⟨?_,Z.out.trans h.2 (λ_ _ h=>h)⟩⟩;rw[L.out,t.out.2];exact h.1
       case measure=>simp[c'];omega
      |false=>
       gi_wp2;refine c8 (K1 aa _ _ _) aa ?_;refine⟨⟨_,aa⟩,cc ⟨_,?_,IE (by first|rfl|trivial)⟩⟩;have h:=ae7 (c,d) S (q+1);rw[L.out,t.out.2]at h;exact h
  .obtain rfl:q=S.length:=ad;gi_wp2_with (first|(refine⟨trivial,?_⟩;gi_at_call 311;have f:=sY (n:=n -1).2 (xA p S wr Q.out);with_reducible refine f.mono ?_;clear f;rintro e aU ⟨rfl,rfl⟩)|(gi_at_call 311;have f:=(callsIn_wide (n:=n -1)).2 (xA p S wr Q.out);with_reducible refine f.mono ?_;clear f;rintro e aU ⟨rfl,rfl⟩));go_end0;exact⟨⟨_,aa⟩,bZ (by have h:=w.out.1;rw[ll]at h;exact h)⟩
def auD n q(c d)w:
 rW mP n ax 252 #[ay q,ar #[J R c,J R d]] w λe w'=>e=aB (dS (eu 309) #[] #[ay (ab ⟨w.heap.size,0,af⟩),ay (ab ⟨w.heap.size+1,0,af⟩)])/\w'=(w.alloc (bp #[ay q] 295)).alloc (bp #[J R c,J R d] 35):=by
 refine D6 func252 aa trivial ?_ aa;simp only[ntmps252,iY,jV,mT,qI,qJ,q4,q1,l0,p4];gi_wp2;go_ret;exact⟨aa,aa⟩
theorem asQ{w w' jm p S}(h:oG w p S)(k:av jm w w')(a:∀i,i<w.heap.size->¬jm i):oG w' p S:=
 h.aH (k.mono (λi hi h=>(a i hi h).elim))
def aud{jm A B C}(h:av jm A B)(k:av jm B C):av jm A C:=h.trans k (λ_ _ h=>h)
def auc{jm s}(a:∀i,s<=i->jm i)W l(o o')(b:s<=l)(_:W.heap[l]?=ab o)(_:o.isCells=ao)(_:o.isWalk=ao):av jm W (W.putObj l o'):=by have g:=grownBy_putObj' W l o';exact⟨g.1,g.2,g.3,g.4,λk hk hn=>g.5 k hk (λe=>aG)⟩
def auF n (hn:1<=n) jm (i f p) S (c d) (v:eX (c,d)) (u:j4 S) w
 (gP:aE (∀a,av jm w a->oG a p S/\a.cell? ⟨i,0,af⟩=ab (ay (ab ⟨p,0,af⟩))/\a.cell? ⟨f,0,af⟩=ab (J R c)/\a.cell? ⟨f,1,af⟩=ab (J R d))):
 SeqStopsK mP n ax 309 #[ay (ab ⟨i,0,af⟩),ay (ab ⟨f,0,af⟩)] (λx:Part=>#[J R x.1,ar #[J R x.2.1,J R x.2.2]]) (av jm) (λbV=>bV=parts (c,d) S) (λpre=>pre<+:parts (c,d) S) S.length w:=λl j m W b t _ y s=>by
 have z:au w W:=⟨b.os,b.tape,b.output,b.size,λk hk _=>b.block k hk⟩;refine(auC n hn jm l i f p S c d v u j m y W (λpre o q h g=>t pre o q af h (aqh g) (λr e=>aG)) (hid (λa h=>gP.out a ((z.mono (λ_ _ h=>h.elim)).trans h (λ_ _ h=>h)))) s).mono ?_;simp
end
section
open Go.RowKit Go.MapKept Go.Shelf Go.Maps
attribute [local go_sem] Oper.semAt_some
def Tt:(ax.info? 3).map (λi=>(i.zero,i.size,i.bytes))=ab (ab (J R 0),1,8):=aw
def O4(w aq:aP)(v:aO)(t:TypeId)(q:Option bT)(c d:Int):Prop:=
 au w aq/\aq.heap.size=w.heap.size+4/\aq.heap[w.heap.size+1]?=ab (bp #[v] t (0,0))/\aq.cell? ⟨w.heap.size+2,0,af⟩=ab (ay q)/\aq.cell? ⟨w.heap.size+3,0,af⟩=ab (J R c)/\aq.cell? ⟨w.heap.size+3,1,af⟩=ab (J R d)
def ap7 w v t q(c d)aq(e:aq=(((w.alloc (bp #[J R c,J R d] 35)).alloc (bp #[v] t)).alloc (bp #[ay q] 295)).alloc (bp #[J R c,J R d] 35)):
 O4 w aq v t q c d:=by
 subst e;have g2:=fO (w.alloc (bp #[J R c,J R d] 35)) (bp #[v] t);have b:=fO ((w.alloc (bp #[J R c,J R d] 35)).alloc (bp #[v] t)) (bp #[ay q] 295);have a:=fO (((w.alloc (bp #[J R c,J R d] 35)).alloc (bp #[v] t)).alloc (bp #[ay q] 295)) (bp #[J R c,J R d] 35);simp only[zX]at g2 b a;refine⟨au.trans (au.trans (au.trans (av.alloc _ _) (av.alloc _ _)) (av.alloc _ _)) (av.alloc _ _),bc,(au.trans (av.alloc _ _) (av.alloc _ _)).heap g2 (λh=>h),(av.alloc (F:=λ_=>False) _ _).cell (pY b) (λh=>h),?_,?_⟩;·exact fH _ _ 0 _ _ _ a
 .exact fH _ _ 1 _ _ _ a
theorem aeU{w:aP}{base e size:Nat}{v m xs}(h:w.ownsRow base e size v m xs){j o}(a:v.ownBlock=ab j)(ho:w.heap[j]?=ab o):o.isCells=true:=by
 rcases h.2 with⟨rfl,_⟩|⟨g,cap,cur,rfl,_,hh,_⟩;·cases a
 .have hj':g=j:=by grind[yk]
  subst hj';rw[hh]at ho;cases ho;rfl
def auO{w w':aP}{base e size:Nat}{v m xs row}(h:w.ownsRow base e size v m xs)(g:w.grownBy w' row)(hr:∀r,row=ab r->∃o,w.heap[r]?=ab o/\o.isCells=ao):w'.ownsRow base e size v m xs:=by refine aeW h (av.of_grownBy (F:=λi=>row=ab i) g (λk hk=>bZ hk)) (λi hi a=>?_);grind[aeU]
def Dw{w:aP}{base a e size:Nat}{v m xs}(h:w.ownsRow base e size v m xs)(hb:a<=base):w.ownsRow a e size v m xs:=by
 refine⟨h.1,?_⟩;rcases h.2 with h2|⟨g,cap,cur,h3,h4,h5⟩;·grind
 .exact cc ⟨g,_,_,h3,eb hb h4,h5⟩
def jm(s:Nat)(i:Nat):Prop:=i=s+1\/s+4<=i
def ae3 e S:(parts e S).length<=S.length:=by grind[parts]
def ap9{w aq p S c d v t}(m:oG w p S)(b:O4 w aq v t (ab ⟨p,0,af⟩) c d):
 ∀a,av (jm w.heap.size) aq a->oG a p S/\a.cell? ⟨w.heap.size+1+1,0,af⟩=ab (ay (ab ⟨p,0,af⟩))/\a.cell? ⟨w.heap.size+1+1+1,0,af⟩=ab (J R c)/\a.cell? ⟨w.heap.size+1+1+1,1,af⟩=ab (J R d):=λa h=>by
 obtain⟨e,j,k,f,g,i⟩:=b;refine⟨?_,h.cell f (by grind[jm]),h.cell g (by grind[jm]),h.cell i (by grind[jm])⟩;have l:av (jm w.heap.size) w a:=(e.mono (λ_ _ h=>h.elim)).trans h (λ_ _ h=>h);grind[asQ,jm]
def aaB{w aq:aP}(a:aq.heap.size=w.heap.size+4):∀(W) l (o o'),aq.heap.size<=l->W.heap[l]?=ab o->o.isCells=ao->o.isWalk=ao->av (jm w.heap.size) W (W.putObj l o'):=
 auc (λi hi=>cc ad)
def ap8{w aq W}(g:au w aq)(h:av (jm w.heap.size) aq W):au w W:=
 ((g.mono (G:=jm w.heap.size) (λ_ _ h=>h.elim)).trans h (λ_ _ h=>h)).mono (λi hi h=>by grind[jm])
set_option maxHeartbeats 2000000 in
def atA n (hn:3<=n) q ps N (B:N<=1048576) (c d) w
 (j6:aE (∀aq:aP,O4 w aq (ae af 0 0) 82 q c d->SeqStopsK mP (n -1) ax 309 #[ay (ab ⟨w.heap.size+1+1,0,af⟩),ay (ab ⟨w.heap.size+1+1+1,0,af⟩)] (λx:Part=>#[J R x.1,ar #[J R x.2.1,J R x.2.2]]) (av (jm w.heap.size)) (λbV=>bV=ps) (λpre=>pre<+:ps) N aq)):
 rW mP n ax 181 #[ay q,ar #[J R c,J R d]] w λe s=>∃v,e=aB v/\s.ownsRow w.heap.size 3 1 v ps.length (ps.map (λx=>J R x.1))/\au w s:=by
 have h1:1<=n:=ad;have O:1<=n -1:=ad;obtain⟨I,hi,hz0,hz1,hz2⟩:=vh Tt;have g:=hid (And.intro hi (And.intro hz0 (And.intro hz1 hz2)));clear hi hz0 hz1 hz2;refine callsIn_of_wp_marks func181 aa trivial ?_ aa;simp only[ntmps181,iY,jV,mT,qI,qJ,q4,q1,l0,p4];gi_wp2_with (refine⟨trivial,?_⟩;gi_at_call 252;refine(auD _ _ _ _ _).mono ?_;rintro e w' ⟨rfl,rfl⟩);obtain⟨aq,u⟩:∃aq,aq=(((w.alloc (bp #[J R c,J R d] 35)).alloc (bp #[ae af 0 0] 82)).alloc (bp #[ay q] 295)).alloc (bp #[J R c,J R d] 35):=⟨_,aa⟩;have m:=hid (ap7 w _ _ _ c d aq u);rw[<-u];clear u;have hsz:=m.out.2.1;have G:aE (N<=1048576):=hid B;clear B;have E:aE ((aq.heap[w.heap.size+1]?=ab (bp #[ae af 0 0] 82 (0,0)))):=hid m.out.2.2.1
 refine wpIn_rangeFunc_ownG aa h1 (gf:=309) (lb:=_) aa trivial (enters_of Tryz.func309 aw aa)
  (j6.out aq m.out) aud (aaB hsz) (Below.refl _ _) (λ_=>aa)
  (λpre W=>(∃v,W.heap[w.heap.size+1]?=ab (bp #[v] 82 (0,0))/\W.ownsRow (w.heap.size+4) 3 1 v pre.length (pre.map (λx=>J R x.1)))/\av (jm w.heap.size) aq W)
  (λ_ _ _=>False)
  (λpre W s row z C hr=>by obtain⟨⟨v,hh,hrow⟩,a⟩:=z;have ho:av (λi=>aq.heap.size<=i) W s:=av.of_grownBy C (λk hk=>bZ (hr k hk).1);exact⟨⟨v,ho.heap hh ad,auO hrow C (λr e=>(hr r e).2)⟩,a.trans ho (λi _ h=>cc ad)⟩)
  (λ_ _ _ _ _ z _ _=>z)
  ⟨⟨_,E.out,World.ownsRow_nil _ _ _ _⟩,av.refl _ _⟩
  (λx=>{tmps:=#[ay q,ar #[J R c,J R d],a1,ay (ab ⟨w.heap.size,0,af⟩),ae af 0 0,ay (ab ⟨w.heap.size+1,0,af⟩),J R x.1,ay q,ar #[J R c,J R d],dS (eu 309) #[] #[ay (ab ⟨w.heap.size+1+1,0,af⟩),ay (ab ⟨w.heap.size+1+1+1,0,af⟩)],J R x.1,ar #[J R x.2.1,J R x.2.2],a1,a1,a1,a1,a1],defers:=[]}) ?assign ?body ?done ?stop
 case assign=>
  intro l x W K f;gi_wp2;exact f
 case body=>
  rintro l pre x W ⟨⟨v,hh,hrow⟩,a⟩ hlt;have hc:=pY hh;have b:=hid (And.intro hh (And.intro hrow a));have Q:w.heap.size+4<=W.heap.size:=by have:=a.size;omega
  have A:=hid (And.intro hlt G.out);clear hh hrow a;gi_wp2_with (gi_at_builtin;refine wpListIn_append_own _ aa _ _ 82 aa (w.heap.size+4) 3 I (J R 0) 1 8 jo g.out.1 g.out.2.1 g.out.2.2.1 g.out.2.2.2 aa aS _ _ _ aa (b.out.2.1.alloc _) ⟨W.heap.size,0,af⟩ 1 1 [J R x.1] aa aa (cell_one_new _ _ _) (by simp[zV]) (by have:=A.out;unfold eG;omega) (by have:=A.out;omega) (by simp;omega) ?_;intro v' w1 hown' hgrow _;obtain⟨M,L,rfl⟩:=ownsRow_succ hown';(have t:aE (av (λi=>w.heap.size+4<=i) W w1):=hid ((av.alloc W _).trans (av.of_grownBy (F:=λi=>w.heap.size+4<=i) hgrow (λk hk=>bZ (wL b.out.2.1 k hk).1)) (λ_ _ h=>h)));(have y:=t.out.heap b.out.1 ad);have hc1:=pY y;have P:=Xj y);refine⟨(((azD W _).trans (azE hgrow (λj o e ho=>aeU (b.out.2.1.alloc _) e ho))).trans (azF _ _ _)).from _,?_,?_⟩;·exact(t.out.mono (λi _ h=>cc h)).trans (av.setCell _ (p:=_) (bZ aa) _) (λ_ _ h=>h)
  .refine⟨⟨_,Xl y,?_⟩,(b.out.2.2.trans (t.out.mono (λi _ h=>cc h)) (λ_ _ h=>h)).trans (av.setCell _ (p:=_) (bZ aa) _) (λ_ _ h=>h)⟩;grind[Xm,wL]
 case done=>
  rintro D bV W H rfl ⟨⟨v,hh,hrow⟩,a⟩ f;have hc:=pY hh;gi_wp2;refine⟨bc,bZ ⟨_,_,aa,run_takeDeferred f,?_⟩⟩;exact⟨_,results_tmp aa _ _ _,v,aa,Dw (ownsRow_putObj hrow _ f aa) ad,ap8 m.out.1 (a.trans (aaB hsz W D _ _ H f aa aa) (λ_ _ h=>h))⟩
 case stop=>simp
def atz p S(c d)w(b:oG w p S)(g:j4 S)(i:eX (c,d)):
 aC ax 181 #[ay (ab ⟨p,0,af⟩),ar #[J R c,J R d]] w λe a=>∃v,e=aB v/\a.ownsRow w.heap.size 3 1 v (parts (c,d) S).length ((parts (c,d) S).map (λx=>J R x.1))/\au w a:=
 (sY (n:=3)).1 (atA 3 (b7 _) _ _ S.length (by obtain⟨_,_,_,_,h⟩:=b;exact h) c d w (hid (λaq f=>auF 2 ad (jm w.heap.size) _ _ p S c d i g aq (hid (ap9 b f)))))
def ik(l:List Part):Int:=l.foldl (λn x=>RowKit.wrap64 (n+x.2.2)) 0
end
namespace G
def aqW(w:aP)(o o'):((w.alloc o).alloc o').heap[w.heap.size+1]?=ab o':=by grind[fO,zX]
abbrev cj(w w':aP):Prop:=av (λi=>w.heap.size<=i) w w'
def cj.aH{w w'}(h:cj w w'):au w w':=⟨h.os,h.tape,h.output,h.size,λk hk _=>h.block k hk ad⟩
def Dx{w base v m xs}(h:w.ownsRow base 3 1 v m (xs.map (J R))):∃A c,v=ae A xs.length c/\dy w A xs:=by
 have a:m=xs.length:=by simpa using h.1.symm
 subst a;rcases h.2 with⟨rfl,hz⟩|⟨g,cap,cur,rfl,_⟩;·grind[dy.nil]
 .grind[dy.ow]
def Dw{w:aP}{base a e size:Nat}{v m xs}(h:w.ownsRow base e size v m xs)(hb:a<=base):w.ownsRow a e size v m xs:=by
 refine⟨h.1,?_⟩;rcases h.2 with h2|⟨g,cap,cur,rfl,hg,r⟩;·grind
 .exact cc ⟨g,_,_,aa,eb hb hg,r⟩
def q5.from{w w1 w' v xs}(h:q5 w1 w' v xs)(a:w.heap.size<=w1.heap.size):q5 w w' v xs:=Dw h a
def mg(E:List (Int×Int))(v:Int):List Int:=rG (succ E v)
def nf(E:List (Int×Int))(v:Int):List Int:=rG (pred E v)
set_option maxHeartbeats 400000 in
def auA b(n v)E F w(h:hL w F b n E)(hv:cN v)(k:E.length<=1099511627776):
 aC ax 92 #[ay (ab ⟨b,0,af⟩),J R v] w λe w'=>∃r,e=aB r/\q5 w w' r (mg E v)/\au w w':=by
 obtain⟨⟨fT,mo,fN,e2,eW,g⟩,_⟩:=h;have j:=fH _ _ 2 _ _ _ g.blk;simp at j;have hlk:=(g.out.lookup pC BS Gq hv).1;obtain⟨A,c,a,d⟩:=Dx (g.Jg v);rw[a]at hlk;replace hlk:(qN 303 (dP (ab mo)) (J R v) ao).run ax w=bf (ae A (succ E v).length c) w:=hlk;have hlen:=JE E v;have f:=hid d;clear a d g;go_enter func92,ntmps92
 go_wp2_with (first
  |(go_at_call 184;refine(agV A _ c w).mono ?_;rintro e w' ⟨rfl,rfl⟩)
  |(go_at_call 183;refine(agu _ c A _ ad _ (fH _ _ 0 _ _ _ (fO w _)) (f.out.aH (av.alloc w _))).mono ?_;rintro e w' ⟨r,rfl,hr,i⟩));go_ret;exact⟨r,aa,hr.from bc,au.trans (av.alloc w _) i⟩
set_option maxHeartbeats 400000 in
def ash b(n v)E F w(h:hL w F b n E)(hv:cN v)(k:E.length<=1099511627776):
 aC ax 304 #[ay (ab ⟨b,0,af⟩),J R v] w λe w'=>∃r,e=aB r/\q5 w w' r (nf E v)/\au w w':=by
 obtain⟨⟨fT,mo,fN,e2,eW,g⟩,_⟩:=h;have j:=fH _ _ 3 _ _ _ g.blk;simp at j;have hlk:=(g.ng.lookup pC BS Gq hv).1;obtain⟨A,c,a,d⟩:=Dx (g.Tv v);rw[a]at hlk;replace hlk:(qN 303 (dP (ab fN)) (J R v) ao).run ax w=bf (ae A (pred E v).length c) w:=hlk;have hlen:=Uk E v;have f:=hid d;clear a d g;go_enter func304,ntmps304
 go_wp2_with (first
  |(go_at_call 184;refine(agV A _ c w).mono ?_;rintro e w' ⟨rfl,rfl⟩)
  |(go_at_call 183;refine(agu _ c A _ ad _ (fH _ _ 0 _ _ _ (fO w _)) (f.out.aH (av.alloc w _))).mono ?_;rintro e w' ⟨r,rfl,hr,i⟩));go_ret;exact⟨r,aa,hr.from bc,au.trans (av.alloc w _) i⟩
def run_len_map{P w fx enc}{ok:fx->Prop}{m a}(h:ee w m enc ok a){t k e}(d:P.underlying t=ab (.map k e))ty:(ah0 #[t] ty #[dP (ab m)]).run P w=bf (J R a.length) w:=by
 obtain⟨es,f,hb,_,_,b,_⟩:=h;have c:es.size=a.length:=by have:=congrArg q3 b;simpa using this
 rw[<-c];simp[ah0,run_underlying d,MapKept.run_getObj_map hb,goInt,Result.andThen]
def sG(seen:List Int):List (Int×aO):=seen.map (λx=>(x,ai az))
theorem af4 seen x:en (sG seen) x=if x∈seen then ab (ai az)else none:=by
 unfold sG;by_cases h:x∈seen
 .rw[if_pos h];unfold en;induction seen with
  |nil=>grind
  |cons y r a=>grind
 grind[Nz]
def awV{seen x}(h:x∉seen):kc (sG seen) x (ai az)=sG (seen++[x]):=by grind[sG,I9,af4,NA]
def af5 seen:(sG seen).map (·.1)=seen:=by simp[sG,Kz]
def auM{w:aP}{base g m cap xs x}(h:w.ownsRow base 3 1 (ae (ab ⟨g,0,af⟩) (m+1) cap) (m+1) ((xs++[x]).map (J R)))(j:xs.length=m):
 w.ownsRow base 3 1 (ae (ab ⟨g,0,af⟩) m cap) m (xs.map (J R))/\w.cell? ⟨g,m,af⟩=ab (J R x)/\m+1<=cap:=by
 have hcell:=h.cells (g:=g) aa m (J R x) aG;rw[mW,js]at hcell;rcases h.2 with⟨hv,_⟩|⟨f,e,cur,hv,hb,d,h1,a,b,c⟩;·omega
 .cases hv;refine⟨⟨aG,cc ⟨g,_,_,aa,hb,d,ad,a,b,?_⟩⟩,hcell,h1⟩;have i:=congrArg (List.take m) c;grind
def lenOf:aO->Nat|.slice _ n _=>n|_=>0
def Nw(w:aP)(b:Nat):Nat:=match w.heap[b]? with|some (iT es _)=>es.size|_=>0
def _root_.Go.Proofs.YtcmhplknoglbkaaGreat.ee.size{w b a}(h:ee w b encI cN a):Nw w b=a.length:=by obtain⟨es,c,hb,_,_,d,_⟩:=h;have:=congrArg q3 d;simp only[Nw,hb];simpa using this
def avB b(n v)E F w(fE:hL w F b n E)(hv:cN v)(fp:E.length<=1048576):
 aC ax 362 #[ay (ab ⟨b,0,af⟩),J R v] w λe w'=>∃r xs,e=aB r/\q5 w w' r xs/\Yl E v xs/\au w w':=by
 obtain⟨⟨fT,mo,fN,e2,eW,g⟩,eB,hval⟩:=fE;have l8:=g.n0;have oo:=g.mH;have fK:=@PG ax;have I:=g.only (av.alloc (F:=λ_=>False) w (iT #[] 0)) (λ_ _ h=>h);have vU:=ee.made w encI cN;have S:=fH _ _ 2 _ _ _ I.blk;simp at S;have hlk:=(I.out.lookup pC BS Gq hv).1;obtain⟨V,b0,l7,aa1⟩:=Dx (I.Jg v);rw[l7]at hlk;replace hlk:(qN 303 (dP (ab mo)) (J R v) ao).run ax (w.alloc (iT #[] 0))=bf (ae V (succ E v).length b0) (w.alloc (iT #[] 0)):=hlk;have ark:=JE E v;have Y:=hid aa1;have G6:=hid vU;have B:=hid (And.intro g (And.intro eB hval));have H:n.toNat*(E.length+1)<=1048576*1048577:=Nat.mul_le_mul ad ad;clear l7 aa1 vU I g eB hval;go_enter func362,ntmps362;go_wp2_with fail;go_step3;go_wp2_with (go_at_call 380;refine(anQ V b0 _ _ Y.out ad).mono ?_;rintro e w1 ⟨fa,rfl,hr1,hg1⟩);obtain⟨W,c1,rfl,_⟩:=Dx hr1;have alk:=hid (Dw hr1 (cB _));have Eh:aE (∀i,(ae W (succ E v).length c1).ownBlock=ab i->w.heap.size<i):=hid (λi hi=>by have:=(hr1.lt i hi).1;simp at this;omega);have G':aE (av (λi=>w.heap.size<=i) w w1):=hid ((av.alloc _ _).trans hg1 (λ_ _ h=>h.elim));have akW:=hid (G6.out.only hg1 (λh=>h));clear hr1 hg1 hlk S Y G6 fK;go_step3;go_wp2_with fail;obtain⟨i0,jc,hz0,hz1,hz2⟩:=vh FD;have C:=hid (And.intro jc (And.intro hz0 (And.intro hz1 hz2)));clear jc hz0 hz1 hz2;have X:aE (∀wr,av (λi=>w.heap.size<=i) w wr->kL wr F b n E E E fT mo fN e2 eW):=hid λwr f=>B.out.1.only (cj.aH f) (λ_ _ h=>h)
 go_loopw [6] (λT wr=>∃seen st A m c,T=ae A m c/\aE (st.length=m)/\wr.ownsRow 0 3 1 (ae A m c) m (st.map (J R))/\(∀i,(ae A m c).ownBlock=ab i->w.heap.size<i)/\
  ee wr w.heap.size encI cN (sG seen)/\tK E v seen st/\av (λi=>w.heap.size<=i) w wr/\(n.toNat -seen.length)*(E.length+1)+m<=n.toNat*(E.length+1)+E.length)
  (λT wr=>(n.toNat -Nw wr w.heap.size)*(E.length+1)+lenOf T);case atStart=>exact⟨[],succ E v,W,_,c1,aa,hid aa,alk.out,Eh.out,akW.out,tK.start E v,G'.out,aG⟩
 case round=>
  obtain⟨seen,st,A,m,c,rfl,hlen,hrow,K,o,d,f,z⟩:=hrel;have N:=X.out wr f;rcases Lr st with rfl|⟨L,x,rfl⟩
  .obtain rfl:m=0:=hlen.out.symm;have D:=hid (And.intro hrow (And.intro o (And.intro d f)))
   have acX:seen.length*8<=140737488351232:=by have h1:=FN (n:=n.toNat) d.A7 (λy Q=>by have:=Bb B.out.2.2 (d.path y (bZ Q));omega);omega
   have Ah:=hid acX;clear hrow o d f N acX z H ark K hlen
   go_wp2_with (first
    |(go_at_call 381;refine(TB _ wr).mono ?_;rintro e w' ⟨rfl,rfl⟩)
    |(go_at_call 183;refine(axp _ _ _ (by simpa [sG]using Ah.out) _ (fH _ _ 0 _ _ _ (fO wr _)) (D.out.2.1.only (av.alloc (F:=λ_=>False) wr _) (λh=>h))).mono ?_;rintro e w' ⟨r,rfl,hr,hg⟩));rw[Exit.noGoto_ret];go_ret;have aa9:=D.out.2.2.2;refine⟨r,_,aa,hr.from (by have:=aa9.size;simp;omega),⟨?_,λy=>?_⟩,?_⟩;·rw[af5];refine((al1.2 ⟨Od _,(zG _).nodup_iff.2 D.out.2.2.1.A7⟩)).imp (λh=>ad)
   .rw[af5,(zG _).mem_iff];exact D.out.2.2.1.done y
   .exact au.trans (cj.aH aa9) (au.trans (av.alloc wr _) hg)
  .simp only[alT]at hrow d hlen;obtain⟨l,rfl⟩:∃l,m=l+1:=⟨L.length,by have:=hlen.out;simp at this;omega⟩;have O:aE (L.length=l):=hid (by have:=hlen.out;simp at this;omega)
   obtain⟨k,rfl⟩:∃k,A=ab ⟨k,0,af⟩:=by
    rcases hrow.2 with⟨_,h0⟩|⟨ir,oO,cur,hv,_⟩;·omega
    .grind
   obtain⟨hrow',hcell,E9⟩:=auM hrow O.out;have hrg:=Bb B.out.2.2 (d.path x (cc bc));have P:cN x:=⟨ad,ad⟩;have p:=(o.lookup pC WZ Vi P).1;rw[af4]at p;have uE:l+1<=1099513724928:=ad;have hgb:w.heap.size<k:=K k aa;by_cases hx:x∈seen
   .rw[if_pos hx]at p;replace p:(qN 467 (dP (ab w.heap.size)) (J R x) ao).run ax wr=bf (ai az) wr:=p;have j:=hid (And.intro hrow' (And.intro o (And.intro (d.skip hx) f)));have M:=hid z;clear hrow hrow' o d f z N hlen hx K H;go_wp2;go_roundw;case rel=>exact⟨_,_,_,_,_,aa,O,j.out.1,λi hi=>by cases hi;exact hgb,j.out.2.1,j.out.2.2.1,j.out.2.2.2,by have:=M.out;omega⟩
    case measure=>simp[lenOf]
   .rw[if_neg hx]at p;replace p:(qN 467 (dP (ab w.heap.size)) (J R x) ao).run ax wr=bf (ai ao) wr:=p;have G:=d.visit hx
    have hle:seen.length+1<=n.toNat:=by have:=FN (n:=n.toNat) G.A7 (λy Q=>by have:=Bb B.out.2.2 (G.path y (bZ Q));omega);simpa using this
    have hlx:=JE E x;have aci:=aoT (n:=n.toNat) (s:=seen.length) (t:=l) ad hlx
    have alm:aE (∀a,wr.grownBy a (ab w.heap.size)->ee a w.heap.size encI cN (kc (sG seen) x (ai az))->∃q dz,a.cell? ⟨b,2,af⟩=ab (dP (ab mo))/\
     (qN 303 (dP (ab mo)) (J R x) ao).run ax a=bf (ae q (succ E x).length dz) a/\aE (dy a q (succ E x))/\
     aE (a.ownsRow 0 3 1 (ae (ab ⟨k,0,af⟩) l c) l (L.map (J R)))/\aE (ee a w.heap.size encI cN (sG (seen++[x])))/\aE (av (λi=>w.heap.size<=i) w a)):=hid λa hg2 u=>by
     have hk:av (λi=>i=w.heap.size) wr a:=av.of_grownBy hg2 (λi e=>aG);have nI:av (λi=>w.heap.size<=i) w a:=f.trans hk (λi hi h=>ad);have g2:=X.out a nI;have S:=fH _ _ 2 _ _ _ g2.blk;have hl2:=(g2.out.lookup pC BS Gq P).1;obtain⟨q,dz,Sd,aqw⟩:=Dx (g2.Jg x);rw[Sd]at hl2;rw[awV hx]at u;exact⟨q,dz,aG,hl2,hid aqw,hid (pG hrow' hk (λi hi e=>by cases hi;exact absurd (show k=w.heap.size from e) ad)),hid u,hid nI⟩
    have dH:=hid hx;have cn:=hid o;have Ek:=hid hrow';have fe:=hid G;have yy:=hid f;have M:=hid z;have p1:=hid hle;have Z:=hid aci;have azX:=hid H;clear hrow hrow' o d G f z N hlen hx K H hle aci
    go_wp2_with (first
     |(at_mapUpdate;refine JP aa _ _ _ aa pC WZ cn.out (by have:=p1.out;unfold eG;simp[sG];omega) aa P aa (ai _) aa ?_;intro a u hg2 hs2;obtain⟨q,dz,cK,cI,iQ,qy,Bf,DB⟩:=alm.out a hg2 u;clear u hg2 hs2)
     |(at_builtin;refine ag4 _ aa (bj 37) (bj 43) 82 aa 0 3 i0 _ 1 8 jo C.out.1 C.out.2.1 C.out.2.2.1 C.out.2.2.2 aa ad k l c (L.map (J R)) aa qy.out q (succ E x).length dz ((succ E x).map (J R)) aa (dy.cells iQ.out) (T4 _) (by grind[eG]) ad bc ?_;intro g3 lL U IA Ij abv acr));have hk3:av (λi=>i=k) a U:=av.of_grownBy Ij (λi e=>aG);have px:av (λi=>w.heap.size<=i) w U:=DB.out.trans hk3 (λi hi h=>ad)
    have hg3:w.heap.size<g3:=by have h1:=DB.out.size;have h2:=Bf.out.lt;rcases abv with h|h<;>omega
    have H0:ee U w.heap.size encI cN (sG (seen++[x])):=Bf.out.only hk3 (λe=>ad);have j:=hid (And.intro IA (And.intro H0 px));have akG:=hid hg3;clear IA Ij abv acr hk3 px H0 hg3 cK cI;go_wp2;go_roundw
    case rel=>
     refine⟨_,_,_,_,_,aa,hid (by have:=O.out;simp;omega),by rw[List.map_append];exact j.out.1,λi hi=>by cases hi;exact akG.out,j.out.2.1,fe.out,j.out.2.2,?_⟩;have h1:=M.out;have h2:=Z.out;grind
    case measure=>
     have h2:=Z.out;have bF:=ee.size j.out.2.1;have cq:=ee.size cn.out;grind[sG,lenOf]
abbrev Valid(n:Int)(E:List (Int×Int)):Prop:=∀e∈E,(0<=e.1/\e.1<n)/\(0<=e.2/\e.2<n)/\e.1≠e.2
theorem UY(N k)(h:k<N):(gv N).take (k+1)=(gv N).take k++[(k:Int)]:=by grind[gx,gv]
def ND(w:aP)x t:∀j u,[x][j]?=ab u->(w.alloc (bp #[x] t)).cell? ((⟨w.heap.size,0,af⟩:bT).add j)=ab u:=by
 intro j u h;rw[mW,js];match j with
 |0=>
  simp at h;subst h;exact fH _ _ 0 _ _ _ (fO w _)
 |j+1=>grind
def hL.TR{w F b n E}(h:hL w F b n E):w.cell? ⟨b,0,af⟩=ab (J R n):=by obtain⟨⟨fT,mo,fN,e2,eW,g⟩,_⟩:=h;exact fH _ _ 0 _ _ _ g.blk
def EN A c xs x w r(h:decide (x∈xs)=r)(hx:dy w A xs)(h1:xs.length<=9223372036854775807):
 aC ax 190 #[ae A xs.length c,J R x] w λe w'=>e=aB (ai r)/\w=w':=by grind[HG]
def aei{E u x}:x∈mg E u↔(u,x)∈E:=(zG _).mem_iff.trans I7
theorem TN{E u x}:u∈nf E x↔(u,x)∈E:=(zG _).mem_iff.trans atE
def auz E u:(mg E u).length<=E.length:=by grind[mg,Oc,JE]
def adw E u:(nf E u).length<=E.length:=by grind[nf,Oc,Uk]
def aft b(n v)E F w(a:hL w F b n E)(hv:cN v)(d:E.length<=1048576):
 aC ax 362 #[ay (ab ⟨b,0,af⟩),J R v] w λe w'=>∃A c xs,e=aB (ae A xs.length c)/\dy w' A xs/\Yl E v xs/\xs.length<=9223372036854775807/\au w w':=by
 refine(avB b n v E F w a hv d).mono ?_;rintro e w' ⟨r,bV,rfl,hn,hr,f⟩;obtain⟨A,c,rfl,hi,h1,g,_⟩:=hn.form;exact⟨A,c,bV,aa,hi,hr,by grind[eG],f⟩
def axD{E}(b:E.Nodup)u:(succ E u).Nodup:=by unfold succ alQ;rw[yJ];refine(Yn _ b).imp_of_mem (λ{a c} d hc h e=>h ?_);grind
def ave{E}(b:E.Nodup)u:(pred E u).Nodup:=by unfold pred alQ;rw[yJ];refine(Yn _ b).imp_of_mem (λ{a c} d hc h e=>h ?_);grind
def axk{xs}(h:xs.Nodup):(rG xs).Pairwise (·<·):=
 (al1.2 ⟨Od xs,(zG xs).nodup_iff.2 h⟩).imp (λh=>ad)
def cut(E:List (Int×Int))(s:List Int):List (Int×Int):=E.filter (λe=>decide (e.1∉s/\e.2∉s))
theorem uP{E s u x}:(u,x)∈cut E s↔(u,x)∈E/\u∉s/\x∉s:=by simp[cut]
def HJ E:cut E []=E:=by simp[cut]
theorem Path.mono{E E'}(h:∀e,e∈E->e∈E'){u x}(p:Path E u x):Path E' u x:=by
 induction p with
 |one e=>exact .one (h _ e)
 |more _ e a=>exact .more a (h _ e)
def Path.last{E u x}(p:Path E u x):∃y,(y,x)∈E:=by
 cases p with
 |one e=>grind
 |more _ e=>grind
def Ar(E:List (Int×Int))(N:Nat)(s out:List Int)(v:Int):Prop:=(0<=v/\v<N)/\v∉s/\v∉out/\∀u,(u,v)∈E->u∈s\/u∈out
def QS(E:List (Int×Int))(N:Nat)(s out:List Int)(v:Int):Prop:=Ar E N s out v/\∀u,Ar E N s out u->v<=u
inductive lj (E:List (Int×Int)) (N:Nat) (s:List Int):List Int->Prop where
 |nil:lj E N s []
 |snoc {out:List Int} {v:Int} (h:lj E N s out) (l:QS E N s out v):lj E N s (out++[v])
def oH(E:List (Int×Int))(N:Nat)(s out:List Int):Prop:=lj E N s out/\∀v,¬Ar E N s out v
section
variable {E:List (Int×Int)} {N:Nat} {s out:List Int}
def lj.at{l}(h:lj E N s l):∀p a t,l=p++a::t->QS E N s p a:=by
 induction h with
 |nil=>intro p a t e;cases p<;>cases e
 |snoc h l b=>
  intro p a t e;rcases Lr t with rfl|⟨b8,z,rfl⟩;·grind[QU]
  grind[QU]
def lj.ahead{l d}(h:lj E N s l)(b:oH E N s d):l<+:d:=by
 induction h with
 |nil=>simp
 |snoc h l e=>
  obtain⟨t,rfl⟩:=e;cases t with
  |nil=>rw[kR]at b;exact absurd l.1 (b.2 _)
  |cons a t=>
   have c:=b.1.at _ a t aa;have bF:=l.2 _ c.1;have cq:=c.2 _ l.1;obtain rfl:=Int.le_antisymm bF cq;exact⟨t,bc⟩
def oH.unique{l c}(h:oH E N s l)(b:oH E N s c):l=c:=by
 obtain⟨t,rfl⟩:=h.1.ahead b;cases t with
 |nil=>simp
 |cons a t=>exact absurd (b.1.at _ a t aa).1 (h.2 _)
def lj.nodup{l}(h:lj E N s l):l.Nodup/\∀v∈l,(0<=v/\v<N)/\v∉s:=by
 induction h with
 |nil=>simp
 |snoc h l d=>
  refine⟨yI.2 ⟨d.1,bc,?_⟩,?_⟩
  .intro a c b hb e;obtain rfl:b=_:=by simpa using hb
   exact l.1.2.2.1 (e▸c)
  .intro v hv;rcases iX.1 hv with hv|hv;·grind
   .obtain rfl:v=_:=by simpa using hv
    exact⟨l.1.1,l.1.2.1⟩
def lj.length{l}(h:lj E N s l):l.length<=N:=FN h.nodup.1 (λx hx=>(h.nodup.2 x hx).1)
def afv{v}(h:Ar E N s out v):∃u,QS E N s out u:=by
 generalize hk:v.toNat=k;induction k using Ra generalizing v with
 |_ k b=>
  by_cases a:∃u,Ar E N s out u/\u<v;·obtain⟨u,hr,hlt⟩:=a;have c:=hr.1.1;exact b _ ad hr aa
  .exact⟨v,h,λu hr=>aG⟩
def auw k:∀{out},lj E N s out->N -out.length<=k->∃o,oH E N s o:=by
 induction k with
 |zero=>
  intro out h hk;refine⟨out,h,λv hv=>?_⟩;obtain⟨u,a⟩:=afv hv;have:=(lj.snoc h a).length;simp at this;omega
 |succ k b=>
  intro out h hk;by_cases hr:∃v,Ar E N s out v;·obtain⟨v,hv⟩:=hr;obtain⟨u,a⟩:=afv hv;have:=(lj.snoc h a).length;simp at this;exact b (lj.snoc h a) aG
  .exact⟨_,h,λv hv=>hr ⟨v,hv⟩⟩
def aeS E N s:∃o,oH E N s o:=auw N .nil bc
def lj.Mf{l}(h:lj E N s l){u x}(a:(u,x)∈E)(b:u∉s)(hx:x∈l):u∈l/\l.idxOf u<l.idxOf x:=by obtain⟨p,t,rfl,c⟩:=List.eq_append_cons_of_mem hx;have d:=((h.at p x t aa).1.2.2.2 u a).resolve_left b;grind
def lj.path{l}(h:lj E N s l){u x}(p:Path (cut E s) u x)(hx:x∈l):u∈l/\l.idxOf u<l.idxOf x:=by
 induction p with
 |one e=>exact h.Mf (uP.1 e).1 (uP.1 e).2.1 hx
 |more p e b=>
  have h1:=h.Mf (uP.1 e).1 (uP.1 e).2.1 hx;have a:=b h1.1;exact⟨a.1,ad⟩
def lj.aer{l}(h:lj E N s l){x}(p:Path (cut E s) x x):x∉l:=λhx=>by have:=(h.path p hx).2;omega
def ZF{f:Type}{p q a}:∀{l:List f},(∀x∈l,p x=az->q x=az)->a∈l->p a=ao->q a=az->l.countP p<l.countP q
 |[],_,c,_,_=>by grind
 |b::r,h,c,d,e=>by
  have g:r.countP p<=r.countP q:=List.countP_mono_left (λx hx=>h x (p5 _ hx));rw[Hk,Hk];rcases gD.1 c with rfl|c;·grind
  .have:=ZF (λx hx=>h x (p5 _ hx)) c d e;grind
def aoA{S:Int->Prop}(hr:∀x,S x->0<=x/\x<(N:Int))(e:∀x,S x->∃u,S u/\(u,x)∈E){x}(hx:S x):∃c,S c/\Path E c c:=by
 classical
 generalize hk:(gv N).countP (λz=>decide (S z/\Path E z x))=k;induction k using Ra generalizing x with
 |_ k f=>
  obtain⟨u,b,d⟩:=e x hx;by_cases hc:Path E u u;·grind
  .refine f _ ?_ b aa;rw[<-hk];refine ZF (a:=u) (λz _ hz=>?_) (A6.2 (hr u b)) ?_ ?_;·simp only[decide_eq_true_eq]at hz⊢;exact⟨hz.1,.more hz.2 d⟩
   .grind
   .simp;exact⟨b,.one d⟩
def oH.left(e:Valid N E){l}(h:oH E N s l){v}(hv:0<=v/\v<(N:Int))(d:v∉s)(a:v∉l):∃c,c∉l/\Path (cut E s) c c:=by
 obtain⟨c,hc,b⟩:=aoA (E:=cut E s) (N:=N) (S:=λx=>(0<=x/\x<(N:Int))/\x∉s/\x∉l) (λx hx=>hx.1) (λx hx=>by
  by_cases g:∃u,(u,x)∈E/\u∉s/\u∉l;·grind[uP]
  .refine absurd ⟨hx.1,hx.2.1,hx.2.2,λu f=>?_⟩ (h.2 x);grind) ⟨hv,d,a⟩;exact⟨c,hc.2.2,b⟩
theorem Valid.cut{N}(a:Valid N E)s:Valid N (cut E s):=λe b=>a e (nz.1 b).1
def kP(E:List (Int×Int))(s xs:List Int):Prop:=xs.Pairwise (·<·)/\∀x,x∈xs↔Path (cut E s) x x
def kP.unique{xs bV}(h:kP E s xs)(k:kP E s bV):xs=bV:=aaf h.1 k.1 (λx=>(h.2 x).trans (k.2 x).symm)
def HK(a:Valid N E)s:∃xs,kP E s xs:=by
 classical
 refine⟨(gv N).filter (λx=>decide (Path (cut E s) x x)),(JL N).filter _,λx=>?_⟩;rw[nz,decide_eq_true_eq];exact⟨λh=>h.2,λh=>⟨A6.2 (Bb (a.cut s) h),h⟩⟩
def nQ(N:Nat)(s out:List Int):List Int:=(gv N).filter (λv=>!decide (v∈s)&&!decide (v∈out))
def Ny{v}:v∈nQ N s out↔(0<=v/\v<(N:Int))/\v∉s/\v∉out:=by simp[nQ,A6]
def oH.afA(b:Valid N E){l xs}(h:oH E N s l)(hx:kP E s xs):nQ N s l=[]↔xs=[]:=by
 constructor;·intro hr;refine Eu.2 (λx i=>?_);have a:=(hx.2 x).1 i;have g:=h.1.aer a;obtain⟨y,j⟩:=a.last;have:x∈nQ N s l:=Ny.2 ⟨Bb (b.cut s) a,(uP.1 j).2.2,g⟩;rw[hr]at this;cases this
 .intro f;refine Eu.2 (λv hv=>?_);obtain⟨h1,d,e⟩:=Ny.1 hv;obtain⟨c,_,a⟩:=h.left b h1 d e;have:=(hx.2 c).2 a;rw[f]at this;cases this
def kP.rest(b:Valid N E){l xs}(h:oH E N s l)(hx:kP E s xs){v}(hv:v∈xs):v∈nQ N s l:=by have a:=(hx.2 v).1 hv;obtain⟨y,c⟩:=a.last;exact Ny.2 ⟨Bb (b.cut s) a,(uP.1 c).2.2,h.1.aer a⟩
end
def oA(ws:List Int)(v:Int):Int:=if 0<=v/\v<(ws.length:Int)then ws[v.toNat]?.getD 0 else 0
def Cu(f:Int->Int)(o:Option Int)(x:Int):Option Int:=match o with
 |none=>ab x
 |some y=>if f x<f y then ab x else ab y
def jK(f:Int->Int)(L:List Int):Option Int:=L.foldl (Cu f) af
def am3 f:jK f []=none:=rfl
theorem Ru f L x:jK f (L++[x])=Cu f (jK f L) x:=by grind[jK]
def Ze f o x:∃y,Cu f o x=ab y/\(y=x\/o=ab y):=by unfold Cu;grind
def axf{p:List Int->Prop}(a:p [])(h1:∀L x,p L->p (L++[x]))L:p L:=by
 have:∀n:Nat,∀L:List Int,L.length=n->p L:=by
  intro n;induction n with
  |zero=>grind
  |succ n b=>
   intro L h;rcases Lr L with rfl|⟨t,z,rfl⟩;·omega
   grind
 exact this _ L aa
def Rs{f L v}:jK f L=ab v->v∈L:=by revert v;refine axf (p:=λL=>∀{v},jK f L=ab v->v∈L) (λh=>by cases h) (λL x b v h=>?_) L;rw[Ru]at h;obtain⟨y,e,a⟩:=Ze f (jK f L) x;grind
theorem Rt{f L}:jK f L=af↔L=[]:=by
 rcases Lr L with rfl|⟨t,z,rfl⟩;·simp[am3]
 .rw[alT,Ru];obtain⟨y,e,_⟩:=Ze f (jK f t) z;rw[e];simp
def kept(xs keep:List Int):List Int:=xs.filter (λv=>!decide (v∈keep))
def TO{xs keep v}:v∈kept xs keep↔v∈xs/\v∉keep:=by simp[kept]
inductive k' (E:List (Int×Int)) (ws keep:List Int):List Int->Prop where
 |nil:k' E ws keep []
 |snoc {out xs:List Int} {v:Int} (h:k' E ws keep out) (hx:kP E out xs) (hb:jK (oA ws) (kept xs keep)=ab v):k' E ws keep (out++[v])
def wV(E:List (Int×Int))(ws keep out xs:List Int):Prop:=k' E ws keep out/\kP E out xs/\jK (oA ws) (kept xs keep)=af
section
variable {E:List (Int×Int)} {N:Nat} {ws keep out:List Int}
def k'.at{l}(h:k' E ws keep l):∀p a t,l=p++a::t->∃xs,kP E p xs/\jK (oA ws) (kept xs keep)=ab a:=by
 induction h with
 |nil=>intro p a t e;cases p<;>cases e
 |snoc h hx hb b=>
  intro p a t e;rcases Lr t with rfl|⟨b8,z,rfl⟩;·grind[QU]
  grind[QU]
def k'.ahead{l c f}(h:k' E ws keep l)(b:wV E ws keep c f):l<+:c:=by
 induction h with
 |nil=>simp
 |snoc h hx hb e=>
  obtain⟨t,rfl⟩:=e;cases t with
  |nil=>
   rw[kR]at b;obtain rfl:=hx.unique b.2.1;rw[b.2.2]at hb;cases hb
  |cons a t=>
   obtain⟨bV,d,hb2⟩:=b.1.at _ a t aa;obtain rfl:=hx.unique d;rw[hb]at hb2;obtain rfl:_=a:=by simpa using hb2
   exact⟨t,bc⟩
def wV.unique{l c xs d}(h:wV E ws keep l xs)(b:wV E ws keep c d):l=c/\xs=d:=by
 obtain⟨t,rfl⟩:=h.1.ahead b;cases t with
 |nil=>
  rw[kR]at b⊢;exact⟨aa,h.2.1.unique b.2.1⟩
 |cons a t=>
  obtain⟨bV,e,hb⟩:=b.1.at _ a t aa;obtain rfl:=h.2.1.unique e;rw[h.2.2]at hb;cases hb
def kP.atY{s xs}(h:kP E s xs){v}(hv:v∈xs):v∉s:=by obtain⟨y,a⟩:=((h.2 v).1 hv).last;exact(uP.1 a).2.2
def kP.range{s xs}(a:Valid N E)(h:kP E s xs){v}(hv:v∈xs):0<=v/\v<(N:Int):=Bb (a.cut s) ((h.2 v).1 hv)
def k'.nodup(d:Valid N E){l}(h:k' E ws keep l):l.Nodup/\∀v∈l,0<=v/\v<(N:Int):=by
 induction h with
 |nil=>simp
 |snoc h hx hb g=>
  have c:=(TO.1 (Rs hb)).1;refine⟨yI.2 ⟨g.1,bc,?_⟩,?_⟩
  .intro a f b hb' e;obtain rfl:b=_:=by simpa using hb'
   exact hx.atY c (e▸f)
  .intro v hv;rcases iX.1 hv with hv|hv;·grind
   .obtain rfl:v=_:=by simpa using hv
    exact hx.range d c
def k'.length(a:Valid N E){l}(h:k' E ws keep l):l.length<=N:=FN (h.nodup a).1 (h.nodup a).2
def anL(a:Valid N E)k:∀{out},k' E ws keep out->N -out.length<=k->∃o xs,wV E ws keep o xs:=by
 induction k with
 |zero=>
  intro out h hk;obtain⟨xs,hx⟩:=HK a out;cases hb:jK (oA ws) (kept xs keep)with
  |none=>exact⟨_,xs,h,hx,hb⟩
  |some v=>
   have:=(k'.snoc h hx hb).length a;simp at this;omega
 |succ k b=>
  intro out h hk;obtain⟨xs,hx⟩:=HK a out;cases hb:jK (oA ws) (kept xs keep)with
  |none=>exact⟨_,xs,h,hx,hb⟩
  |some v=>
   have:=(k'.snoc h hx hb).length a;simp at this;exact b (k'.snoc h hx hb) aG
def anK(a:Valid N E)(ws keep):∃o xs,wV E ws keep o xs:=anL a N .nil bc
def Path.axZ{s u x}(p:Path (cut E s) u x):Path E u x:=p.mono (λ_ a=>(nz.1 a).1)
def k'.aov{l a}(h:k' E ws keep l)(b:kP E [] a):∀v∈l,v∈a:=by
 induction h with
 |nil=>simp
 |snoc h hx hb d=>
  intro v hv;rcases iX.1 hv with hv|hv;·grind
  .obtain rfl:v=_:=by simpa using hv
   have c:=(TO.1 (Rs hb)).1;rw[b.2,HJ];exact((hx.2 _).1 c).axZ
end
def ayt ws{k:Nat}(h:k<ws.length):oA ws k=ws[k]?.getD 0:=by grind[oA]
def ag1{ws v}(h:v<0\/(ws.length:Int)<=v):oA ws v=0:=by grind[oA]
set_option maxHeartbeats 400000 in
def ayr A c ws v w(a:dy w A ws)(h1:ws.length<=9223372036854775807):
 aC ax 338 #[ae A ws.length c,J R v] w λe w'=>e=aB (J R (oA ws v))/\w=w':=by
 by_cases d:v<0;·rw[ag1 (bZ d)];have g:decide (v<0)=true:=aG;clear a;go_enter We,WB;go_wp2;go_ret;exact⟨aa,aa⟩
 .have g:decide (v<0)=false:=aG;by_cases f:(ws.length:Int)<=v;·rw[ag1 (cc f)];have h:decide ((ws.length:Int)<=v)=true:=aG;clear a;go_enter We,WB;go_wp2;go_ret;exact⟨aa,aa⟩
  .have h:decide ((ws.length:Int)<=v)=false:=aG;obtain⟨k,rfl⟩:∃k:Nat,v=(k:Int):=⟨v.toNat,ad⟩;have hk:k<ws.length:=ad;rw[ayt ws hk];obtain⟨b,off,rfl,hcell⟩:=a ad;have hc:=hcell k hk;clear hcell;generalize ws[k]?.getD 0=x at*;go_enter We,WB;go_wp2;go_ret;exact⟨aa,aa⟩
def axd (g:Nat) lb f A c L w (cd:dy w A L) (h1:L.length<=9223372036854775807)
 (gE:∀args w,(kB g args).run ax w=bf (.enter g args) w)
 (m:∀x,aC ax g (#[J R x]++lb) w λe w'=>e=aB (J R (f x))/\w=w'):
 aC ax 336 #[ae A L.length c,dS (eu g) #[] lb] w λe w'=>e=aB (bo #[J R ((jK f L).getD 0),ai (decide (0<L.length))])/\w=w':=by
 have h:=hid (And.intro cd m);clear cd m;go_enter func336,ntmps336;go_wp2_with fail;go_loopw [6,11] (λp i wr=>∃k:Nat,k<=L.length/\i=J R k/\p=J R ((jK f (L.take k)).getD 0)/\wr=w) (λ_ i _=>L.length -(c' i).toNat);case atStart=>exact⟨0,cB _,aa,aa,aa⟩
 case round=>
  obtain⟨k,hk,rfl,rfl,rfl⟩:=hrel;by_cases hlt:k<L.length
  .have hb0:(k:Int)<(L.length:Int):=ad;obtain⟨b,off,rfl,hcell⟩:=h.out.1 ad;have hc:=hcell k hlt;obtain⟨x,hx⟩:∃x,L[k]?=ab x:=⟨_,cF hlt⟩;simp only[hx,vB]at hc;have d:aE (jK f (L.take (k+1))=Cu f (jK f (L.take k)) x):=hid (by grind[gx,Ru]);clear hcell hx;by_cases l:k=0
   .have r:((k:Int)==0)=true:=aG;have a:aE (jK f (L.take (k+1))=ab x):=hid (by rw[d.out,l];rfl);clear l;go_wp2;go_roundw;case rel=>exact⟨k+1,ad,by go_num,by rw[a.out];rfl,bc⟩
    case measure=>grind[c']
   .have hne:((k:Int)==0)=false:=beq_eq_false_iff_ne.2 ad
    obtain⟨y,o⟩:∃y,jK f (L.take k)=ab y:=by
     cases hb:jK f (L.take k)with
     |none=>grind[Rt,List.take_eq_nil_iff]
     |some y=>simp
    rw[o]at d⊢;clear o;have c1:=h.out.2 x;have j:=hid (h.out.2 y);by_cases n:f x<f y
    .have q:decide (f x<f y)=true:=aG;have a:aE (jK f (L.take (k+1))=ab x):=hid (by rw[d.out];unfold Cu;simp[n]);go_wp2_with (go_at_fn g;with_reducible refine c1.mono ?_;clear c1;rintro e w' ⟨rfl,rfl⟩;have c2:=j.out);go_wp2_with (go_at_fn g;with_reducible refine c2.mono ?_;clear c2;rintro e w' ⟨rfl,rfl⟩);go_roundw;case rel=>exact⟨k+1,ad,by go_num,by rw[a.out];rfl,bc⟩
     case measure=>grind[c']
    .have q:decide (f x<f y)=false:=aG;have a:aE (jK f (L.take (k+1))=ab y):=hid (by rw[d.out];unfold Cu;simp[n]);go_wp2_with (go_at_fn g;with_reducible refine c1.mono ?_;clear c1;rintro e w' ⟨rfl,rfl⟩;have c2:=j.out);go_wp2_with (go_at_fn g;with_reducible refine c2.mono ?_;clear c2;rintro e w' ⟨rfl,rfl⟩);go_roundw;case rel=>exact⟨k+1,ad,by go_num,by rw[a.out];rfl,bc⟩
     case measure=>grind[c']
  .obtain rfl:k=L.length:=ad;rw[ll];go_wp2;go_ret2;exact⟨aa,aa⟩
def asj f c w:aC ax 363 #[ae af 0 c,f] w λe w'=>e=aB (J R (-1))/\w=w':=by
 go_enter func363,ntmps363;go_wp2_with fail;go_loopw [8] (λi wr=>i=J R 0/\wr=w) (λ_ _=>0);case atStart=>simp
 case round=>
  obtain⟨rfl,rfl⟩:=hrel;go_wp2;go_ret;exact⟨aa,aa⟩
def aoQ f c w:aC ax 334 #[ae af 0 c,f] w λe w'=>e=aB (ae af 0 c)/\w=w':=by go_enter func334,ntmps334;go_wp2_with (go_at_call 363;refine(asj f c w).mono ?_;rintro e w1 ⟨rfl,rfl⟩);go_ret;exact⟨aa,aa⟩
def _root_.Go.Proofs.YtcmhplknoglbkaaGreat.av.putRow F w(blk off)d(hb:F blk):av F w (Sort.putRow (J R) w blk off d):=
 ⟨aa,aa,aa,by grind[Sort.size_putRow],λk _ hn=>by show(w.heap.modify blk _)[k]?=_;rw[Array.getElem?_modify,if_neg (λe:blk=k=>hn (e▸hb))]⟩
def _root_.Go.Proofs.YtcmhplknoglbkaaGreat.av.grow F w os:av F w (Sort.grow w os):=
 ⟨aa,aa,aa,by show w.heap.size<=(w.heap++os).size;rw[Array.size_append];omega,λk hk _=>by show(w.heap++os)[k]?=_;rw[Array.getElem?_append_left hk]⟩
def _root_.Go.Proofs.YtcmhplknoglbkaaGreat.av.ahead F w q:av F w (KW w q):=⟨aa,aa,aa,b7 _,λ_ _ _=>aa⟩
def aoP (g:Nat) lb (l:∀args w,(kB g args).run ax w=bf (.enter g args) w) (p:Int->Bool) base v (xs:List Int) w (hv:w.ownsRow base 3 1 v xs.length (xs.map (J R)))
 (hlen:xs.length<=9223372036854775807)
 (hc:∀W x,av (λi=>v.ownBlock=ab i) w W->aC ax g (#[J R x]++lb) W λe w'=>e=aB (ai (p x))/\∃q,w'=W.drewN q):
 aC ax 334 #[v,dS (eu g) #[] lb] w λe w'=>∃A c,e=aB (ae A (xs.filter (λx=>!p x)).length c)/\dy w' A (xs.filter (λx=>!p x))/\(∀k off,A=ab ⟨k,off,af⟩->v.ownBlock=ab k)/\av (λi=>v.ownBlock=ab i) w w':=by
 rcases hv.2 with⟨rfl,hz⟩|⟨a,cap,cur,rfl,hb,u,h1,o,r,s⟩;·obtain rfl:xs=[]:=j8 hz;refine(aoQ _ 0 w).mono ?_;grind[dy.nil,av.refl]
 .have t:∀j,j<xs.length->w.cell? ⟨a,0+j,af⟩=ab (J R (xs[j]?.getD 0)):=λj b=>by obtain⟨m,C,e,hcc⟩:=dy.ow hv ad;cases e;exact hcc j b
  have f:Sort.Holds (J R) w a 0 xs.toArray:=λj b=>by grind[wK]
  have y:∀{W},av (λi=>yk (ae (ab ⟨a,0,af⟩) xs.length cap)=ab i) w W->True:=λ_=>trivial;have d:(λi=>yk (ae (ab ⟨a,0,af⟩) xs.length cap)=ab i) a:=rfl
  have h:=azJ Tryz.as2 (J R) (λ_=>aa) p g lb l 0 Tryz.zeroValue3 a 0 cap xs.toArray w
   (λW x hbl=>by have:=hc W x ⟨hbl.os,hbl.tape,hbl.output,hbl.size,λk hk _=>hbl.block k hk⟩;exact this)
   (λn os fJ x B=>by have:=hc (Go.Proofs.sortWorld (J R) w a 0 n fJ os) x (((av.ahead _ w n).trans (av.putRow _ _ a 0 fJ d) (λ_ _ h=>h)).trans (av.grow _ _ os) (λ_ _ h=>h));exact this)
   f ad ad;simp only[iY]at h;change aC ax 334 _ _ _ at h;refine h.mono ?_;clear h;rintro e w' ⟨rfl,q,rfl⟩;have hle:=Al (λx=>!p x) xs;refine⟨_,_,rfl,λz=>⟨a,0,rfl,λj b=>?_⟩,(λk off e=>aG),(av.ahead _ w q).trans (av.putRow _ _ a 0 _ d) (λ_ _ h=>h)⟩;have:=(Sort.holds_putRow (J R) (KW w q) a 0 xs.toArray ((xs.filter (λx=>!p x))++List.replicate (xs.length -(xs.filter (λx=>!p x)).length) 0).toArray (Sort.holds_ahead (J R) w q a 0 xs.toArray f) aG j aG).1;rw[this,getElem!_pos _ j aG];simp[b]
section
variable {P:ew} (w:aP)
end
def ZQ E l:(cut E l).length<=E.length:=Al _ _
def ly(a:List Int)(f:Int->Int):List (Int×aO):=a.map (λv=>(v,J R (f v)))
def dI(f:Int->Int)(x y:Int):Int->Int:=λz=>if z=x then y else f z
def asX a f:(ly a f).map (·.1)=a:=by simp[ly,Kz]
def Dj a f:(ly a f).length=a.length:=by simp[ly]
theorem Nk b f x:en (ly b f) x=if x∈b then ab (J R (f x))else none:=by
 unfold en ly;induction b with
 |nil=>simp
 |cons a r c=>grind
theorem adN a f x:sx (ly a f) x=decide (x∈a):=by grind[I9,Nk]
def TC{a f x}(h:x∈a)y:kc (ly a f) x (J R y)=ly a (dI f x y):=by grind[kc,adN,ly,dI,List.map_congr_left]
def asY{a f x}(h:x∉a):kc (ly a f) x (J R (f x))=ly (a++[x]) f:=by grind[NA,adN,ly]
def asW a f x:A3 (ly a f) x=ly (a.filter (λy=>!decide (y=x))) f:=by unfold A3 ly;rw[List.filter_map];rfl
def uq(E:List (Int×Int))(D:List Int)(x:Int):Nat:=(nf E x).countP (λu=>decide (u∈D))
def aoO E D x:uq E D x<=E.length:=eb QV (adw E x)
def ZX{E D x}:uq E D x=0↔∀u,(u,x)∈E->u∉D:=by grind[uq,List.countP_eq_zero,TN]
def aoe{l:List Int}(hn:l.Nodup)v:l.countP (λu=>decide (u=v))=if v∈l then 1 else 0:=by
 induction l with
 |nil=>simp
 |cons a r b=>grind
def countP_split{b:Type}(p q:b->Bool):∀l:List b,l.countP p=l.countP (λx=>p x&&q x)+l.countP (λx=>p x&&!q x)
 |[]=>aa
 |a::r=>by rw[Hk,Hk,Hk,countP_split p q r];cases p a<;>cases q a<;>simp<;>omega
def ZW{E}(a:E.Nodup){D v x}(hv:v∈D):uq E (D.filter (λy=>!decide (y=v))) x+(if x∈mg E v then 1 else 0)=uq E D x:=by
 unfold uq;rw[countP_split (λu=>decide (u∈D)) (λu=>decide (u=v)) _]
 have h1:(nf E x).countP (λu=>decide (u∈D)&&decide (u=v))=if x∈mg E v then 1 else 0:=by
  have hn:(nf E x).Nodup:=(zG _).nodup_iff.2 (ave a x)
  have b:(nf E x).countP (λu=>decide (u=v))=if x∈mg E v then 1 else 0:=by rw[aoe hn v];simp only[TN,aei]
  grind
 grind
def hU(N:Nat)(s:List Int):List Int:=(gv N).filter (λv=>!decide (v∈s))
theorem Nx{N s x}:x∈hU N s↔(0<=x/\x<(N:Int))/\x∉s:=by simp[hU,A6]
structure q0 (E:List (Int×Int)) (N:Nat) (s out D:List Int) (f:Int->Int) (hE:List Int):Prop where
 I1:lj E N s out
 rest:D=(hU N s).filter (λx=>!decide (x∈out))
 ur:∀x∈D,f x=(uq E D x:Int)
 sorted:hE.Pairwise (·<·)
 ready:∀x,x∈hE↔x∈D/\f x=0
structure ph (E:List (Int×Int)) (N:Nat) (s out D:List Int) (v:Int) (T:List Int) (f:Int->Int) (hE:List Int):Prop where
 I1:lj E N s (out++[v])
 rest:D=(hU N s).filter (λx=>!decide (x∈out))
 Ot:v∈D
 ur:∀x∈D,x≠v->f x+(if x∈T then 1 else 0)=(uq E D x:Int)
 sorted:hE.Pairwise (·<·)
 ready:∀x,x∈hE↔(x∈D/\x≠v)/\f x=0
section
variable {E:List (Int×Int)} {N:Nat} {s out D hE T:List Int} {f:Int->Int} {v x:Int}
def q0.mem(h:q0 E N s out D f hE):x∈D↔((0<=x/\x<(N:Int))/\x∉s)/\x∉out:=by rw[h.rest];simp[Nx]
def q0.isReady(e:Valid N E)(h:q0 E N s out D f hE):x∈hE↔Ar E N s out x:=by
 rw[h.ready];constructor
 .rintro⟨hx,hf⟩;have c:=h.ur x hx;rw[hf]at c;have hz:uq E D x=0:=ad;have a:=h.mem.1 hx;refine⟨a.1.1,a.1.2,a.2,λu d=>?_⟩;have hn:=ZX.1 hz u d;have hb:=e _ d;by_cases h1:u∈s;·grind
  .by_cases b:u∈out;·grind
   .exact absurd (h.mem.2 ⟨⟨hb.1,h1⟩,b⟩) hn
 .rintro⟨h1,b,h3,h4⟩;have hx:x∈D:=h.mem.2 ⟨⟨h1,b⟩,h3⟩;refine⟨hx,?_⟩;rw[h.ur x hx,ZX.2 (λu d c=>?_)];·rfl
  .have a:=h.mem.1 c;grind
def q0.start f(a:∀x∈hU N s,f x=(uq E (hU N s) x:Int))hE(hr:hE=(gv N).filter (λx=>decide (x∈hU N s)&&decide (f x=0))):q0 E N s [] (hU N s) f hE:=by subst hr;refine⟨.nil,(List.filter_eq_self.2 (λ_ _=>bc)).symm,a,(JL N).filter _,λx=>?_⟩;grind[A6,Nx]
def q0.pop(a:Valid N E)(h:q0 E N s out D f (v::hE)):ph E N s out D v [] f hE:=by
 obtain⟨g,i⟩:=wX.1 h.sorted;have hv:=(h.ready v).1 (s' ..);refine⟨.snoc h.I1 ⟨(h.isReady a).1 (s' ..),λu d=>?_⟩,h.rest,hv.1,λx hx _=>by simpa using h.ur x hx,i,λx=>?_⟩
 .rcases gD.1 ((h.isReady a).2 d)with rfl|c;·omega
  .grind
 .constructor;·intro hx;have h1:=(h.ready x).1 (p5 _ hx);have b:=g x hx;exact⟨⟨h1.1,ad⟩,h1.2⟩
  .rintro⟨⟨h1,b⟩,h3⟩;rcases gD.1 ((h.ready x).2 ⟨h1,h3⟩)with e|c;·omega
   .omega
def ph.skip(h:ph E N s out D v T f hE)(hx:¬(x∈D/\x≠v)):ph E N s out D v (T++[x]) f hE:=
 {h with
  ur:=λy a hne=>by have:=h.ur y a hne;grind}
def ph.pos(c:E.Nodup)(h:ph E N s out D v T f hE)(hx:x∈D/\x≠v)(ho:x∈mg E v)(b:x∉T):1<=f x/\f x<=E.length:=by have h1:=h.ur x hx.1 hx.2;rw[if_neg b]at h1;have a:=ZW (E:=E) (x:=x) c h.Ot;rw[if_pos ho]at a;have d:=aoO E D x;omega
def ph.aoM(h:ph E N s out D v T f hE)(hx:x∈D/\x≠v)(c:x∉T)(d:1<=f x)(b:f x -1≠0):ph E N s out D v (T++[x]) (dI f x (f x -1)) hE:=
 {h with
  ur:=λy a hne=>by have:=h.ur y a hne;grind[dI]
  ready:=λy=>by rw[h.ready];grind[dI]}
def ZG{l:List Int}(b:l.Pairwise (·<·))x:∀j,j<l.length->(j<l.countP (·<x)↔l[j]?.getD 0<x):=by
 induction l with
 |nil=>simp
 |cons a r e=>
  obtain⟨f,g⟩:=wX.1 b;intro j d;rw[Hk];by_cases c:a<x;·grind
  .grind[List.getElem_mem]
def atD{l i x y}:y∈uN l i x↔y=x\/y∈l:=by grind[uN,oJ]
def asr{l}(e:l.Pairwise (·<·)){x}(hx:x∉l):(uN l (l.countP (·<x)) x).Pairwise (·<·):=by
 have hc:l.countP (·<x)<=l.length:=QV
 have hlt:∀y∈l.take (l.countP (·<x)),y<x:=λy c=>by obtain⟨j,a⟩:=Q2 c;have b:=(eM.1 a).1;rw[oe]at b;have d:j<l.countP (·<x):=ad;rw[q2,if_pos d]at a;have:=(ZG e x j ad).1 d;rwa [a]at this
 have f:∀y∈l.drop (l.countP (·<x)),x<y:=λy c=>by obtain⟨j,a⟩:=Q2 c;rw[List.getElem?_drop]at a;have b:=(eM.1 a).1;have h1:=(ZG e x (l.countP (·<x)+j) b);grind
 grind[uN,wX]
def ph.aoN(h:ph E N s out D v T f hE)(hx:x∈D/\x≠v)(e:x∉T)(d:f x -1=0):ph E N s out D v (T++[x]) (dI f x (f x -1)) (uN hE (hE.countP (·<x)) x):=by
 have b:x∉hE:=λa=>by have:=((h.ready x).1 a).2;omega
 exact{h with
  ur:=λy c hne=>by have:=h.ur y c hne;grind[dI]
  sorted:=asr h.sorted b
  ready:=λy=>by rw[atD,h.ready];grind[dI]}
def ph.done(a:E.Nodup)(h:ph E N s out D v (mg E v) f hE):q0 E N s (out++[v]) (D.filter (λy=>!decide (y=v))) f hE:=by
 refine⟨h.I1,?_,λx hx=>?_,h.sorted,λx=>?_⟩;·rw[h.rest,QY];grind
 .simp only[nz,Bool.not_eq_true',decide_eq_false_iff_not]at hx;have h1:=h.ur x hx.1 hx.2;have b:=ZW (E:=E) (x:=x) a h.Ot;grind
 .rw[h.ready];simp
def q0.final(a:Valid N E)(h:q0 E N s out D f []):oH E N s out/\D=nQ N s out:=by refine⟨⟨h.I1,λv hv=>by have:=(h.isReady a).2 hv;cases this⟩,?_⟩;rw[h.rest];unfold hU nQ;rw[QY];refine List.filter_congr (λx _=>?_);rw[Bool.and_comm]
def q0.small(h:q0 E N s out D f hE):D.length<=N/\out.length<=N/\hE.length<=N:=by refine⟨?_,h.I1.length,FN (Dl h.sorted) (λx hx=>(h.mem.1 ((h.ready x).1 hx).1).1.1)⟩;rw[h.rest];refine eb (Al _ _) (eb (Al _ _) ?_);simp[gv]
def ph.small(h:ph E N s out D v T f hE):hE.length<=N:=by refine FN (Dl h.sorted) (λx hx=>?_);have a:=((h.ready x).1 hx).1.1;rw[h.rest]at a;exact(Nx.1 (nz.1 a).1).1
end
def Vk w:(zeroValue 3).run ax w=bf (J R 0) w:=aw
def hL.small{w F b n E}(h:hL w F b n E):0<=n/\n<=1048576:=by obtain⟨⟨fT,mo,fN,e2,eW,g⟩,_⟩:=h;exact⟨g.n0,g.mH⟩
def A2{w b a f}(d:ee w b encI cN (ly a f)){x}(hx:cN x):
 (qN 118 (dP (ab b)) (J R x) ao).run ax w=bf (if x∈a then J R (f x)else J R 0) w/\
 (qN 118 (dP (ab b)) (J R x) az).run ax w=bf (bo #[if x∈a then J R (f x)else J R 0,ai (decide (x∈a))]) w:=by
 have h:=d.lookup pC vb Vk hx;rw[Nk]at h;by_cases c:x∈a;·simp only[c,if_true,decide_true]at h⊢;exact h
 .simp only[c,if_false,decide_false]at h⊢;exact h
def asi b(n v)E F w(a:hL w F b n E)(hv:cN v)(d:E.length<=1099511627776):
 aC ax 304 #[ay (ab ⟨b,0,af⟩),J R v] w λe w'=>∃A c,e=aB (ae A (nf E v).length c)/\dy w' A (nf E v)/\(∀k off,A=ab ⟨k,off,af⟩->w.heap.size<=k)/\au w w':=by
 refine(ash b n v E F w a hv d).mono ?_;rintro e w' ⟨r,rfl,hn,f⟩;obtain⟨A,c,rfl,hi,_,_,g⟩:=hn.form;exact⟨A,c,rfl,hi,λk off e=>(g k _ e).1,f⟩
def auB b(n v)E F w(a:hL w F b n E)(hv:cN v)(d:E.length<=1099511627776):
 aC ax 92 #[ay (ab ⟨b,0,af⟩),J R v] w λe w'=>∃A c,e=aB (ae A (mg E v).length c)/\dy w' A (mg E v)/\(∀k off,A=ab ⟨k,off,af⟩->w.heap.size<=k/\k<w'.heap.size)/\au w w':=by
 refine(auA b n v E F w a hv d).mono ?_;rintro e w' ⟨r,rfl,hn,f⟩;obtain⟨A,c,rfl,hi,_,_,g⟩:=hn.form;exact⟨A,c,aa,hi,g,f⟩
def Uv(b N:Nat)E F A c s w(fE:hL w F b N E)(hs:dy w A s)(fL:s.length<=9223372036854775807)(fp:E.length<=1048576):
 aC ax 250 #[ay (ab ⟨b,0,af⟩),ae A s.length c] w λe w'=>∃lD md f o,e=aB (bo #[lD,dP (ab md)])/\oH E N s o/\q5 w w' lD o/\ee w' md encI cN (ly (nQ N s o) f)/\au w w':=by
 have d':=fE.small.2;have fK:=@PG ax;have nh:(w.alloc (iT #[] 0)).cell? ⟨b,0,af⟩=ab (J R N):=(fE.aH (av.alloc (F:=λ_=>False) w (iT #[] 0))).TR;have X:=hid (And.intro fE hs);have G6:aE (ee (w.alloc (iT #[] 0)) w.heap.size encI cN (ly [] (λ_=>0))):=hid (ee.made w encI cN);obtain⟨i0,jc,hz0,hz1,hz2⟩:=vh FD;have dw:=hid (And.intro jc (And.intro hz0 (And.intro hz1 hz2)));clear fE hs jc hz0 hz1 hz2;go_enter func250,ntmps250;go_wp2_with (go_at_call 303;refine(xA b N _ nh).mono ?_;rintro e w1 ⟨rfl,rfl⟩);clear nh fK;have X4:aE (av (λi=>w.heap.size<=i) w (w.alloc (iT #[] 0))):=hid (av.alloc _ _);generalize w.alloc (iT #[] 0)=w1 at*;go_loopw [28] (λi wr=>∃k:Nat,k<=N/\i=J R k/\ee wr w.heap.size encI cN (ly (((gv N).take k).filter (λv=>!decide (v∈s))) (λ_=>0))/\av (λi=>w.heap.size<=i) w wr) (λi _=>N -(c' i).toNat);case atStart=>exact⟨0,cB _,aa,by simpa using G6.out,X4.out⟩
 case round=>
  obtain⟨k,hk,rfl,p,I⟩:=hrel;have C:=hid (And.intro p I);clear G6 X4;by_cases hlt:k<N
  .have hb0:(k:Int)<(N:Int):=ad;have uK:=hid (UY N k hlt);obtain⟨r,hr⟩:∃r:Bool,decide ((k:Int)∈s)=r:=⟨_,aa⟩;have S:=hid hr
   have k1:aE ((k:Int)∉((gv N).take k).filter (λv=>!decide (v∈s))):=hid (λh=>by have:=(nz.1 h).1;obtain⟨j,hj⟩:=Q2 this;have CX:=(eM.1 hj).1;rw[oe]at CX;rw[q2,if_pos ad]at hj;obtain⟨cK,cI⟩:=eM.1 hj;simp[gv]at cI;omega);have hlen:(((gv N).take k).filter (λv=>!decide (v∈s))).length<=k:=eb (Al _ _) (by rw[oe];omega);have V:cN (k:Int):=⟨ad,ad⟩;have nw:=hid V;clear hr p I V;generalize cd:((gv N).take k).filter (λv=>!decide (v∈s))=L at*;cases r
   .have kN:aE (((gv N).take (k+1)).filter (λv=>!decide (v∈s))=L++[(k:Int)]):=hid (by rw[uK.out,s8,cd];have:=S.out;simp only[Hm,Ys,this];rfl);clear cd
    go_wp2_with (first
     |(go_at_call 190;refine(EN A c s k wr _ S.out (X.out.2.aH (cj.aH C.out.2)) fL).mono ?_;rintro e aU ⟨rfl,rfl⟩)
     |(at_mapUpdate;refine JP aa _ _ _ aa pC vb C.out.1 (by rw[Dj];unfold eG;omega) aa nw.out aa (J _ 0) aa ?_;intro aU jX hg2 hs2));rw[asY (f:=λ_=>0) k1.out]at jX;have W:=hid (And.intro jX (C.out.2.trans (av.of_grownBy (F:=λi=>w.heap.size<=i) hg2 (λi e=>bZ (by cases e;exact b7 _))) (λ_ _ h=>h)));clear jX hg2 hs2;go_wp2;go_roundw;case rel=>exact⟨_,ad,by go_num,kN.out▸W.out.1,W.out.2⟩
    case measure=>simp[c'];omega
   .have kN:aE (((gv N).take (k+1)).filter (λv=>!decide (v∈s))=L):=hid (by rw[uK.out,s8,cd];have:=S.out;simp only[Hm,Ys,this];simp);clear cd;go_wp2_with (go_at_call 190;refine(EN A c s k wr _ S.out (X.out.2.aH (cj.aH C.out.2)) fL).mono ?_;rintro e aU ⟨rfl,rfl⟩);go_roundw;case rel=>exact⟨_,ad,by go_num,kN.out▸C.out.1,C.out.2⟩
    case measure=>simp[c'];omega
  .obtain rfl:k=N:=ad
   have HZ:ee wr w.heap.size encI cN (ly (hU k s) (λ_=>0)):=by have h:=C.out.1;rwa [ub (by simp[gv])]at h
   have H1:=hid C.out.2;clear p I C;go_wp2_with (at_range;refine ag5 aa _ _ _ aa vb HZ aa ?_;intro aU K hg2 hs2);go_frame;rw[asX]at K;have W:=hid (And.intro K hg2);have hz2:=hg2.size;have hz1:=H1.out.size;clear K hg2 HZ;generalize wr.heap.size=r at*;go_loopw [40] (λ_ wr=>∃(left:List Int) (f:Int->Int),Over wr w.heap.size r encI cN (ly (hU k s) f) left/\(∀x∈hU k s,x∉left->f x=(uq E (hU k s) x:Int))/\(∀x∈left,x∈hU k s/\f x=0)/\r<wr.heap.size/\av (λi=>w.heap.size<=i) w wr) (λ_ wr=>wr.rangeLeft w.heap.size r);case atStart=>exact⟨_,λ_=>0,W.out.1,λx h1 h2=>absurd h1 h2,λx h=>⟨h,aa⟩,ad,H1.out.trans W.out.2 (λ_ _ h=>h.elim)⟩
   case round=>
    obtain⟨left,f,K,hdone,ach,aBN,I⟩:=hrel;have C:=hid (And.intro hdone (And.intro ach (And.intro K I)));have Sk:=I.size;clear hdone ach I;obtain⟨M,rfl⟩:∃M:aP,M=wr:=⟨_,aa⟩;go_wp2_with (at_next;refine ag6 aa _ aa pC aa K ?_ ?_)
    .intro h0;subst h0;have cH:aE (∀x∈hU k s,f x=(uq E (hU k s) x:Int)):=hid (λx hx=>C.out.1 x hx bc);have cn:=hid C.out.2.2.1.aed;have aBz:=cn.out.lt;have ff:=hid C.out.2.2.2;clear K C W;go_wp2_with (go_at_call 303;refine(xA b k _ (X.out.1.aH (cj.aH ff.out)).TR).mono ?_;rintro e b9 ⟨rfl,rfl⟩)
     go_loopw [14,66] (λep i wr=>∃j:Nat,j<=k/\i=J R j/\wr.ownsRow M.heap.size 3 1 ep (((gv k).take j).filter (λx=>decide (x∈hU k s)&&decide (f x=0))).length ((((gv k).take j).filter (λx=>decide (x∈hU k s)&&decide (f x=0))).map (J R))/\
      av (λi=>M.heap.size<=i) M wr) (λ_ i _=>k -(c' i).toNat);case atStart=>exact⟨0,cB _,aa,⟨bc,bZ ⟨aa,bc⟩⟩,av.refl _ _⟩
     case round=>
      obtain⟨j,hj,rfl,hrow,Y⟩:=hrel;have h5:=Y.size;by_cases iu:j<k
      .have uK:=hid (UY k j iu);have hb1:(j:Int)<(k:Int):=ad;have B:=(A2 (cn.out.only Y ad) (x:=(j:Int)) ⟨ad,ad⟩).2;have hlen:(((gv k).take j).filter (λx=>decide (x∈hU k s)&&decide (f x=0))).length<=j:=eb (Al _ _) (by rw[oe];omega);have S:=hid (And.intro hrow Y);clear hrow Y;generalize cd:((gv k).take j).filter (λx=>decide (x∈hU k s)&&decide (f x=0))=L at*
       have kN:aE (((gv k).take (j+1)).filter (λx=>decide (x∈hU k s)&&decide (f x=0))=L++if(j:Int)∈hU k s/\f j=0 then[(j:Int)]else[]):=hid (by rw[uK.out,s8,cd];congr 1;simp only[Hm,Ys,Bool.and_eq_true,decide_eq_true_eq]);clear cd;by_cases n:(j:Int)∈hU k s
       .rw[if_pos n]at B;have t:decide ((j:Int)∈hU k s)=true:=by simpa using n
        rw[t]at B;have l:=hid n;clear n t;obtain⟨d,t⟩:=ex (f j);rw[t]at B;by_cases qg:d=0
        .subst qg;have G9:aE (((gv k).take (j+1)).filter (λx=>decide (x∈hU k s)&&decide (f x=0))=L++[(j:Int)]):=hid (by rw[kN.out,if_pos ⟨l.out,t⟩]);clear t;go_wp2_with (at_builtin;go_loud (refine PR _ aa (bj 80) (bj 82) 82 aa M.heap.size 3 i0 _ 1 8 jo dw.out.1 dw.out.2.1 dw.out.2.2.1 dw.out.2.2.2 aa ad _ L.length _ aa (pG S.out.1 (av.alloc (F:=λ_=>False) _ _) (λ_ _ h=>h)) _ 1 1 _ aa aa (ND _ _ _) (by simp[zV]) (by unfold eG;omega) ad (by simp;omega) ?_;intro aCn cV acP abY _ _));have Im:av (λi=>M.heap.size<=i) (wr.alloc (bp #[J R (j:Int)] 3)) cV:=av.of_grownBy abY (λi e=>bZ (S.out.1.lt i e).1);have qT:=hid (And.intro acP ((S.out.2.trans (av.alloc (F:=λi=>M.heap.size<=i) _ _) (λ_ _ h=>h)).trans Im (λ_ _ h=>h)));clear acP abY Im B;go_wp2;go_roundw
         case rel=>
          refine⟨j+1,ad,by go_num,?_,qT.out.2⟩;rw[G9.out];simpa using qT.out.1
         case measure=>simp[c'];omega
        .have hne:(d==0)=false:=by simpa using qg
         have G9:aE (((gv k).take (j+1)).filter (λx=>decide (x∈hU k s)&&decide (f x=0))=L):=hid (by rw[kN.out,if_neg (λh=>qg (t▸h.2)),kR]);have XD:=hid qg;clear t qg;go_wp2;go_roundw;case rel=>exact⟨_,ad,by go_num,G9.out▸S.out.1,S.out.2⟩
         case measure=>simp[c'];omega
       .rw[if_neg n]at B;have t:decide ((j:Int)∈hU k s)=false:=by simpa using n
        rw[t]at B;have G9:aE (((gv k).take (j+1)).filter (λx=>decide (x∈hU k s)&&decide (f x=0))=L):=hid (by rw[kN.out,if_neg (λh=>n h.1),kR]);clear n t;go_wp2;go_roundw;case rel=>exact⟨_,ad,by go_num,G9.out▸S.out.1,S.out.2⟩
        case measure=>simp[c'];omega
      .obtain rfl:j=k:=ad;rw[ub (by simp[gv])]at hrow;have aa5:=q0.start (E:=E) f cH.out _ aa;have P:=hid (And.intro aa5 (And.intro (cn.out.only Y ad) (And.intro (e9.ow hrow) (ff.out.trans Y (λi _ h=>ad)))));have ar5:=ff.out.size;clear hrow aa5 Y cH cn;go_wp2_with fail
       go_loopw [13,14] (λeE Bg wr=>∃(out D:List Int) (g:Int->Int) (hE:List Int),q0 E j s out D g hE/\ee wr w.heap.size encI cN (ly D g)/\wr.ownsRow M.heap.size 3 1 eE out.length (out.map (J R))/\e9 wr M.heap.size Bg hE/\
        (∀q,eE.ownBlock=ab q->Bg.ownBlock≠ab q)/\M.heap.size<=wr.heap.size/\av (λi=>w.heap.size<=i) w wr) (λ_ _ wr=>Nw wr w.heap.size);case atStart=>exact⟨[],_,f,_,P.out.1,P.out.2.1,⟨bc,bZ ⟨aa,bc⟩⟩,P.out.2.2.1,(λq h=>by cases h),h5,P.out.2.2.2⟩
       case round=>
        obtain⟨out,D,g,hE,U,p,hrow,Q,hap,hsz,I⟩:=hrel;have eR:=p.size;rw[Dj]at eR;have hsm:=U.small;cases hE with
        |nil=>
         obtain⟨nr,kV,rfl,_,_⟩:=Q.form;have iM:=U.final X.out.1.2.2;have S:=hid (And.intro iM (And.intro p (And.intro hrow I)));clear iM p hrow I Q hap U P eR;go_wp2;go_ret2;obtain⟨fy,a2,a3,a4⟩:=S.out;rw[fy.2]at a2;exact⟨_,_,g,_,aa,fy.1,Dw a3 ar5,a2,cj.aH a4⟩
        |cons v hE=>
         obtain⟨nr,kV,rfl,_,_⟩:=Q.form;obtain⟨hP,off,rfl,_,aBc,ME,hcell,abl,abk⟩:=Q.tail;unfold eG at ME;have ML:=U.pop X.out.1.2.2;have Df:=(U.mem.1 ML.Ot).1.1;have ec:D.length<=1048576:=ad;have V:cN v:=⟨ad,ad⟩;simp at hsm
         have hlt:(D.filter (λy=>!decide (y=v))).length<D.length:=by
          have eB:D.Nodup:=by rw[U.rest];exact(((Dl (JL j)).filter _).filter _)
          have hl:=(Nl eB ML.Ot).length_eq;rw[jV]at hl;omega
         have hb2:=Q.lt (g:=hP) aa
         have aqM:∃aA aD,(aA=ab ⟨hP,off+1,af⟩\/aA=ab ⟨hP,off,af⟩)/\e9 wr M.heap.size (ae aA hE.length aD) hE/\(1<kV->aA=ab ⟨hP,off+1,af⟩/\aD=kV -1)/\(kV=1->aA=ab ⟨hP,off,af⟩/\aD=0):=by
          by_cases h1:kV=1;·subst h1;exact⟨_,_,cc aa,abk (j8 ad),λh=>ad,λ_=>⟨aa,aa⟩⟩
          .exact⟨_,_,bZ rfl,abl,λ_=>⟨rfl,rfl⟩,λh=>absurd h h1⟩
         obtain⟨aA,aD,aqp,CM,HX,rk⟩:=aqM;have abo:=λq a=>(hap q a:ab hP≠ab q);have ac:=hid (And.intro ML (And.intro CM (And.intro abo (And.intro I (And.intro V eR)))));have Iy:wr.frozen? ⟨hP,off,af⟩=wr.frozen? ⟨hP,off,af⟩:=rfl;have aqC:=p.lt;have uz:(0:Int)<((hE.length:Int)+1):=ad;have oo:(1:Int)<=(hE.length:Int)+1:=ad;clear U ML CM abo I V eR Q hap aqp abl abk Iy;have cn:=hid p;have Ek:=hid hrow;clear p hrow;have hcc:kV=1\/1<kV:=ad;rcases hcc with hc1|hc1;rotate_left;obtain⟨rfl,rfl⟩:=HX hc1;clear HX rk;rotate_left;obtain⟨rfl,rfl⟩:=rk hc1;subst hc1;obtain rfl:hE=[]:=j8 ad;clear HX rk
         all_goals
          go_wp2_with (first
           |(at_delete;refine ayA aa _ _ _ _ aa pC vb cn.out aa ac.out.2.2.2.2.1 aa ?_;intro aU jX hg2 hs2;have hk2:av (λi=>i=w.heap.size) wr aU:=av.of_grownBy hg2 (λi e=>bZ (by cases e;rfl));have W:=hid (And.intro (asW D g v▸jX) (And.intro hk2 (pG Ek.out hk2 (λq a e=>by have:=(Ek.out.lt q a).1;omega))));have lh:=hid hs2;clear jX hg2 hk2 hs2)
           |(at_builtin;go_loud (refine PR _ aa (bj 95) (bj 97) 82 aa M.heap.size 3 i0 _ 1 8 jo dw.out.1 dw.out.2.1 dw.out.2.2.1 dw.out.2.2.2 aa ad _ out.length (out.map (J R)) aa (pG W.out.2.2 (av.alloc (F:=λ_=>False) _ _) (λ_ _ h=>h)) _ 1 1 [J R v] aa aa (ND _ _ _) (by simp[zV]) (by unfold eG;omega) ad (by have:=lh.out;simp;omega) ?_);intro NP bI IA Ij _ aco;have hk3:=av.of_grownBy (F:=λi=>_=ab i) Ij (λi e=>bZ e);have gZ:=hid (And.intro IA (And.intro hk3 aco));clear IA Ij hk3 aco));have hs2:=lh.out;have px:av (λi=>w.heap.size<=i) w bI:=((ac.out.2.2.2.1.trans (W.out.2.1.mono (G:=λi=>w.heap.size<=i) (λi _ e=>ad)) (λ_ _ h=>h)).trans (av.alloc (F:=λi=>w.heap.size<=i) _ _) (λ_ _ h=>h)).trans (gZ.out.2.1.mono (G:=λi=>w.heap.size<=i) (λi _ e=>by have:=(Ek.out.lt i e).1;omega)) (λ_ _ h=>h);have H0:=(W.out.1.only (av.alloc (F:=λ_=>False) aU (bp #[J R v] 3)) (λh=>h)).only gZ.out.2.1 (λe=>by have:=(Ek.out.lt _ e).1;omega);have abi:=((ac.out.2.1.only W.out.2.1 (λq a e=>by have hq':hP=q:=Lx a;omega)).only (av.alloc (F:=λ_=>False) aU (bp #[J R v] 3)) (λ_ _ h=>h)).only gZ.out.2.1 (λq a e=>ac.out.2.2.1 q e a)
          have abr:∀q,NP.ownBlock=ab q->hP≠q:=λq a e=>by
           rcases gZ.out.2.2 with h|h;·exact ac.out.2.2.1 q (h.symm.trans a) (congrArg ab e)
           .rw[h]at a;simp at a;omega
          have hs3:=gZ.out.2.1.size;simp only[zX]at hs3;have T:=hid (And.intro px (And.intro H0 (And.intro abi (And.intro abr (And.intro gZ.out.1 ac.out.1)))));have HB:=hid hb2;have aBO:wr.heap.size<=aU.heap.size:=ad;have nw:=hid ac.out.2.2.2.2.1;have oa:=hid ac.out.2.2.2.2.2;clear px H0 abi abr gZ W ac Ek cn lh hs2 aqC hb2 hcell;go_wp2_with (go_at_call 92;refine(auB b j v E F bI (X.out.1.aH (cj.aH T.out.1)) nw.out ad).mono ?_;rintro e dJ ⟨wu,uf,rfl,ab4,abw,xm⟩);have aAL:=xm.size;have yo:=hid (And.intro ab4 (And.intro abw (And.intro (T.out.1.trans xm (λ_ _ h=>h.elim)) (And.intro (T.out.2.1.only xm (λh=>h)) (And.intro (T.out.2.2.1.only xm (λ_ _ h=>h)) (pG T.out.2.2.2.2.1 xm (λ_ _ h=>h)))))));have gU:=auz E v;have aBk:=HB.out.2;clear ab4 abw xm
          go_loopw [14,103] (λBg i wr=>∃(m:Nat) (H:Int->Int) (xN:List Int),m<=(mg E v).length/\i=J R m/\ph E j s out D v ((mg E v).take m) H xN/\ee wr w.heap.size encI cN (ly (D.filter (λy=>!decide (y=v))) H)/\
           wr.ownsRow M.heap.size 3 1 NP (out.length+1) (out.map (J R)++[J R v])/\dy wr wu (mg E v)/\e9 wr M.heap.size Bg xN/\(∀q,Bg.ownBlock=ab q->NP.ownBlock≠ab q/\∀off,wu≠ab ⟨q,off,af⟩)/\
           dJ.heap.size<=wr.heap.size/\av (λi=>w.heap.size<=i) w wr) (λ_ i _=>(mg E v).length -(c' i).toNat)
          case atStart=>
           refine⟨0,g,_,cB _,aa,T.out.2.2.2.2.2,yo.out.2.2.2.1,yo.out.2.2.2.2.2,yo.out.1,yo.out.2.2.2.2.1,λq a=>?_,b7 _,yo.out.2.2.1⟩;obtain rfl:hP=q:=Lx a;exact⟨λh=>T.out.2.2.2.1 _ h rfl,λoff h=>by have:=(yo.out.2.1 _ off h).1;omega⟩
          case round=>
           obtain⟨m,H,xN,hm,rfl,U,p,hrow,fL,Q,hap,arX,I⟩:=hrel;have f':=p.lt;by_cases rv:m<(mg E v).length
           .have l:=hid (And.intro U (And.intro hrow (And.intro fL (And.intro hap I))));obtain⟨hC,at8,rfl,hcell⟩:=fL ad;have h1:=hcell m rv;obtain⟨x,hx⟩:∃x,(mg E v)[m]?=ab x:=⟨_,cF rv⟩;simp only[hx,vB]at h1;have IY:=cW hx;have Dg:0<=x/\x<(j:Int):=(X.out.1.2.2 _ (aei.1 IY)).2.1;have V:cN x:=⟨ad,ad⟩;have hb1:(m:Int)<((mg E v).length:Int):=ad;have jz:aE ((mg E v).take (m+1)=(mg E v).take m++[x]):=hid (by rw[gx,hx];rfl)
            have adm:x∉(mg E v).take m:=λh=>by have eB:(mg E v).Nodup:=Dl (axk (axD X.out.1.2.1 v));obtain⟨q,a⟩:=Q2 h;have o1:=(eM.1 a).1;rw[oe]at o1;rw[q2,if_pos ad]at a;have:=(List.getElem?_inj ad eB).1 (a.trans hx.symm);omega
            have B:=(A2 p V).2;have hl2:=(A2 p V).1;have Lk:=hid V;have HY:(D.filter (λy=>!decide (y=v))).length<=1048576:=ad;have QH:=hid adm;have alE:=hid IY;clear U hrow fL hap I hcell hx V adm IY;by_cases n:x∈D.filter (λy=>!decide (y=v))
            .rw[if_pos n]at B hl2;have t:decide (x∈D.filter (λy=>!decide (y=v)))=true:=by simpa using n
             rw[t]at B;have Fi:x∈D/\x≠v:=by simpa using n
             have fe:=hid (And.intro n Fi);have k2:=l.out.1.pos X.out.1.2.1 Fi alE.out QH.out;obtain⟨d,qi⟩:=ex (H x);rw[qi]at B hl2 k2;have qU:=hid qi;clear n Fi t qi;obtain⟨OO,iH,rfl,_,_⟩:=Q.form;have xt:=l.out.1.small;have adb:∀q,(ae OO xN.length iH).ownBlock=ab q->M.heap.size<=q/\q<wr.heap.size:=λq a=>Q.lt a;have j7:=hid (And.intro Q adb);clear Q adb;by_cases sl:d=1
             .subst sl
              go_wp2_with (first
               |(at_mapUpdate;refine JP aa _ _ _ aa pC vb p (by rw[Dj];unfold eG;omega) aa Lk.out aa (J R 0) aa ?_;intro dB zg Ii v7;rw[TC fe.out.1]at zg;have C1:=(A2 zg Lk.out).1;rw[if_pos fe.out.1,show dI H x 0 x=0 by simp[dI]]at C1;have C0:av (λi=>i=w.heap.size) wr dB:=av.of_grownBy Ii (λi e=>bZ (by cases e;rfl));have O:=hid (And.intro zg (And.intro C0 (And.intro v7 (j7.out.1.only C0 (λq a e=>by have:=(j7.out.2 q a).1;omega)))));clear zg C0 v7 Ii)
               |(go_at_call 305;refine(N' OO iH xN x dB O.out.2.2.2.lA (l.out.1.sorted.imp (λh=>ad)) ad).mono ?_;rintro e eZ ⟨Up,rfl,NZ,rfl⟩)
               |(go_at_call 306;refine(ast M.heap.size (ae OO xN.length iH) xN (xN.countP (·<x)) x (dB.drewN NZ).heap.size _ (O.out.2.2.2.only (au.trans (av.drewN dB NZ) (av.alloc _ _)) (λ_ _ h=>h)) QV (fO _ _) (λq a e=>by have:=(j7.out.2 q a).2;have h8:=O.out.2.2.1;simp at e;omega) ad (by have h8:=O.out.2.2.1;simp;omega)).mono ?_;rintro e gV ⟨v10,rfl,abh,Fm,ace⟩));have v7:=O.out.2.2.1;have Io:au dB ((dB.drewN NZ).alloc (bp #[J R x] 3)):=au.trans (av.drewN dB NZ) (av.alloc _ _);have acV:=Fm.size;simp at acV;have yC:aE (dI H x (H x -1)=dI H x 0):=hid (by rw[qU.out];rfl);have CK:=l.out.1.aoN fe.out.2 QH.out (by rw[qU.out];rfl);rw[yC.out]at CK;have aa8:=(O.out.1.only Io (λh=>h)).only Fm (λe=>by have:=(j7.out.2 _ e).1;omega);have IK:=pG ((pG (pG l.out.2.1 O.out.2.1 (λq a e=>by have:=(l.out.2.1.lt q a).1;omega)) Io (λ_ _ h=>h))) Fm (λq a e=>(l.out.2.2.2.1 q e).1 a);have IQ:=((l.out.2.2.1.only O.out.2.1 (λq off a e=>by have:=(yo.out.2.1 q off a).1;omega)).only Io (λ_ _ _ h=>h)).only Fm (λq off a e=>(l.out.2.2.2.1 q e).2 off a)
              have abp:∀q,v10.ownBlock=ab q->NP.ownBlock≠ab q/\∀off,ab (⟨hC,at8,af⟩:bT)≠ab ⟨q,off,af⟩:=λq a=>by
               rcases ace with h|⟨ek,h,mB⟩;·exact l.out.2.2.2.1 q (h.symm.trans a)
               .obtain rfl:ek=q:=Lx (h.symm.trans a);simp at mB;refine⟨λe=>?_,λoff e=>?_⟩;·have:=(l.out.2.1.lt _ e).2;omega
                .have:=(yo.out.2.1 _ _ e).2;omega
              have H3:=((l.out.2.2.2.2.trans (O.out.2.1.mono (G:=λi=>w.heap.size<=i) (λi _ e=>ad)) (λ_ _ h=>h)).trans Io (λ_ _ h=>h.elim)).trans (Fm.mono (G:=λi=>w.heap.size<=i) (λi _ e=>by have:=(j7.out.2 _ e).1;omega)) (λ_ _ h=>h);have g':=hid (And.intro CK (And.intro aa8 (And.intro IK (And.intro IQ (And.intro abh (And.intro abp (And.intro (by omega:dJ.heap.size<=gV.heap.size) H3)))))));clear v7 Io acV CK aa8 IK IQ abp H3 abh Fm ace B hl2 C1 p;go_wp2;go_roundw
              case rel=>
               obtain⟨fy,a2,a3,a4,a5,Cq,LG,Rl⟩:=g'.out;exact⟨m+1,_,_,ad,by go_num,jz.out▸fy,a2,a3,a4,a5,Cq,LG,Rl⟩
              case measure=>simp[c'];omega
             .have hne:(d -1==0)=false:=by simp;omega
              have qg:aE (d -1≠0):=hid ad;go_wp2_with (at_mapUpdate;refine JP aa _ _ _ aa pC vb p (by rw[Dj];unfold eG;omega) aa Lk.out aa (J R (d -1)) aa ?_;intro dB zg Ii v7;rw[TC fe.out.1]at zg;have C1:=(A2 zg Lk.out).1;rw[if_pos fe.out.1,show dI H x (d -1) x=d -1 by simp[dI]]at C1;have C0:av (λi=>i=w.heap.size) wr dB:=av.of_grownBy Ii (λi e=>bZ (by cases e;rfl));have O:=hid (And.intro zg (And.intro C0 (And.intro v7 (j7.out.1.only C0 (λq a e=>by have:=(j7.out.2 q a).1;omega)))));clear zg C0 v7 Ii);have v7:=O.out.2.1.size;have CK:=l.out.1.aoM fe.out.2 QH.out (by rw[qU.out];exact k2.1) (by rw[qU.out];exact qg.out);rw[qU.out]at CK;have IK:=pG l.out.2.1 O.out.2.1 (λq a e=>by have:=(l.out.2.1.lt q a).1;omega);have IQ:=l.out.2.2.1.only O.out.2.1 (λq off a e=>by have:=(yo.out.2.1 q off a).1;omega);have H3:=l.out.2.2.2.2.trans (O.out.2.1.mono (G:=λi=>w.heap.size<=i) (λi _ e=>ad)) (λ_ _ h=>h);have g':=hid (And.intro CK (And.intro O.out.1 (And.intro IK (And.intro IQ (And.intro O.out.2.2.2 (And.intro l.out.2.2.2.1 (And.intro (by omega:dJ.heap.size<=dB.heap.size) H3)))))));clear v7 CK IK IQ H3 B hl2 C1 p;go_wp2;go_roundw
              case rel=>
               obtain⟨fy,a2,a3,a4,a5,Cq,LG,Rl⟩:=g'.out;exact⟨m+1,_,_,ad,by go_num,jz.out▸fy,a2,a3,a4,a5,Cq,LG,Rl⟩
              case measure=>simp[c'];omega
            .rw[if_neg n]at B;have t:decide (x∈D.filter (λy=>!decide (y=v)))=false:=by simpa using n
             rw[t]at B;have Fi:¬(x∈D/\x≠v):=by simpa using n
             have Qk:=hid (And.intro (l.out.1.skip Fi) (And.intro p Q));clear n Fi t hl2 p Q;go_wp2;go_roundw;case rel=>exact⟨m+1,H,xN,ad,by go_num,jz.out▸Qk.out.1,Qk.out.2.1,l.out.2.1,l.out.2.2.1,Qk.out.2.2,l.out.2.2.2.1,arX,l.out.2.2.2.2⟩
             case measure=>simp[c'];omega
           .obtain rfl:m=(mg E v).length:=ad;rw[ll]at U;have eR:=p.size;rw[Dj]at eR;have cH:=hid (And.intro (U.done X.out.1.2.1) (And.intro p (And.intro hrow (And.intro Q (And.intro hap (And.intro I eR))))));clear U p hrow fL Q hap I eR;go_wp2;go_roundw
            case rel=>
             obtain⟨fy,a2,a3,a4,a5,Cq,LG⟩:=cH.out;exact⟨_,_,H,xN,fy,a2,by simpa using a3,a4,λq a h=>(a5 q h).1 a,ad,Cq⟩
            case measure=>rw[cH.out.2.2.2.2.2.2,oa.out];exact hlt
    .intro v ayg bI IU Tj Fs hk3 hs3 hen;obtain⟨cK,cI,iQ,qy⟩:=C.out;have M9:=(cI v IU).1;have Df:=(Nx.1 M9).1;rw[Nk,if_pos M9]at Tj;obtain rfl:J R (f v)=ayg:=Lx Tj;dsimp only[encI]at hen⊢;have px:=qy.trans (hk3.mono (G:=λi=>w.heap.size<=i) (λi _ e=>ad)) (λ_ _ h=>h);have V:cN v:=⟨ad,ad⟩
     have gA:(left.filter (λy=>!decide (y=v))).length<left.length:=by have:=(Nl K.2.1 IU).length_eq;simp at this⊢;omega
     have Z:=hid (And.intro IU (And.intro M9 (And.intro Fs (And.intro px (And.intro V (And.intro K.left_eq (Nl K.2.1 IU)))))));have qX:=hid hs3;clear cK cI iQ qy M9 IU Tj Fs hk3 px V K hs3;go_wp2_with (go_at_call 304;refine(asi b k v E F bI (X.out.1.aH (cj.aH Z.out.2.2.2.1)) Z.out.2.2.2.2.1 ad).mono ?_;rintro e b9 ⟨lE,lL,rfl,ab3,hb4,hg4⟩);have aAK:=hg4.size;have acu:∀ek off,lE=ab ⟨ek,off,af⟩->¬(ek=w.heap.size):=λek off e=>by have:=hb4 ek off e;have:=qX.out;omega
     have sr:=Z.out.2.2.1.only hg4 (λh=>h) (λh=>h);have py:=Z.out.2.2.2.1.trans hg4 (λ_ _ h=>h.elim);have za:=(C.out.2.1 v Z.out.1).2;have T:=hid (And.intro ab3 (And.intro acu (And.intro sr (And.intro py za))));have hr4:r<b9.heap.size:=by have:=qX.out;omega
     have aBn:=adw E v;clear ab3 hb4 hg4 acu sr py za hen
     go_loopw [48] (λi wr=>∃(j:Nat) (H:Int->Int),j<=(nf E v).length/\i=J R j/\Over wr w.heap.size r encI cN (ly (hU k s) H) (left.filter (λy=>!decide (y=v)))/\H v=(((nf E v).take j).countP (λu=>decide (u∈hU k s)):Nat)/\
      (∀z,z≠v->H z=f z)/\r<wr.heap.size/\av (λi=>i=w.heap.size) b9 wr) (λi _=>(nf E v).length -(c' i).toNat);case atStart=>exact⟨0,f,cB _,aa,T.out.2.2.1,by simpa using T.out.2.2.2.2,λ_ _=>aa,hr4,av.refl _ _⟩
     case round=>
      obtain⟨j,H,hj,rfl,K,qk,CW,acU,Y⟩:=hrel;have Mt:=K.aed;have Tc:=T.out.1.only Y T.out.2.1;have P:=hid (And.intro K (And.intro CW Y));have aAO:=Y.size;clear CW Y;by_cases iu:j<(nf E v).length
      .obtain⟨hC,off,rfl,hcell⟩:=Tc ad;have h1:=hcell j iu;obtain⟨x,hx⟩:∃x,(nf E v)[j]?=ab x:=⟨_,cF iu⟩;simp only[hx,vB]at h1;have zm:=TN.1 (cW hx);have Dg:=(X.out.1.2.2 _ zm).1;have hb1:(j:Int)<((nf E v).length:Int):=ad;have B:=(A2 Mt (x:=x) ⟨ad,ad⟩).2;have hl2:=(A2 Mt (x:=v) Z.out.2.2.2.2.1).1;rw[if_pos Z.out.2.1,qk]at hl2;have aBb:((nf E v).take j).countP (λu=>decide (u∈hU k s))<=1048576:=eb QV (by rw[oe];omega)
       have z8:aE (((nf E v).take (j+1)).countP (λu=>decide (u∈hU k s))=((nf E v).take j).countP (λu=>decide (u∈hU k s))+if x∈hU k s then 1 else 0):=hid (by rw[gx,hx];simp );have vp:=hid (And.intro hx qk);generalize ((nf E v).take j).countP (λu=>decide (u∈hU k s))=cnt at*;clear hcell Tc hx zm Mt qk;by_cases n:x∈hU k s
       .rw[if_pos n]at B;have l:=hid n;have t:decide (x∈hU k s)=true:=by simpa using n
        rw[t]at B;clear n t;go_wp2_with (at_mapUpdate;refine ayB aa _ _ _ aa pC vb K aa Z.out.2.2.2.2.1 (by rw[Nk,if_pos Z.out.2.1];exact⟨_,aa⟩) aa (J _ _) aa ?_;intro cV S6 Im aBQ);rw[TC Z.out.2.1]at S6;have qT:=hid (And.intro S6 (P.out.2.2.trans Im (λ_ _ h=>h)));clear S6 Im B hl2 K;go_wp2;go_roundw
        case rel=>
         refine⟨j+1,_,ad,by go_num,qT.out.1,?_,λz hz=>?_,ad,qT.out.2⟩;·rw[z8.out,if_pos l.out];simp[dI]
         .unfold dI;rw[if_neg hz];exact P.out.2.1 z hz
        case measure=>simp[c'];omega
       .rw[if_neg n]at B;have l:=hid n;have t:decide (x∈hU k s)=false:=by simpa using n
        rw[t]at B;clear n t;go_wp2;go_roundw;case rel=>exact⟨j+1,H,ad,by go_num,P.out.1,by rw[z8.out,if_neg l.out];exact vp.out.2,P.out.2.1,acU,P.out.2.2⟩
        case measure=>simp[c'];omega
      .obtain rfl:j=(nf E v).length:=ad;have cH:=hid qk;clear qk Tc Mt;go_wp2;go_roundw
       case rel=>
        refine⟨_,H,K,λx hx fq=>?_,λx hx=>?_,acU,T.out.2.2.2.1.trans P.out.2.2 (λi _ e=>ad)⟩
        .by_cases nO:x=v;·subst nO;rw[cH.out,ll];rfl
         .rw[P.out.2.1 x nO];exact C.out.1 x hx (λh=>fq (nz.2 ⟨h,by simpa using nO⟩))
        .obtain⟨fy,a2⟩:=nz.1 hx;have nO:x≠v:=by simpa using a2
         rw[P.out.2.1 x nO];exact C.out.2.1 x fy
       case measure=>rw[P.out.1.left_eq,Z.out.2.2.2.2.2.1];exact gA
def aor{E E'}(h:E.Perm E')l:(cut E l).Perm (cut E' l):=h.filter _
def aoq E l(u x):cut (E++[(u,x)]) l=cut E l++(if u∉l/\x∉l then[(u,x)]else[]):=by grind[cut]
def axc{a de u x t}(h:a.heap[de]?=ab (bp #[J R u,J R x] t (0,0))):kS a (ab ⟨de,0,af⟩) [(u,x)]:=λ_=>by refine⟨de,0,rfl,λj b=>?_⟩;obtain rfl:j=0:=aG;exact⟨fH _ _ 0 _ _ _ h,fH _ _ 1 _ _ _ h⟩
def ayv(b N:Nat)E F A c l w(fE:hL w F b N E)(hl:dy w A l)(hlen:l.length<=9223372036854775807)(fp:E.length<=1048576):
 aC ax 361 #[ay (ab ⟨b,0,af⟩),ae A l.length c] w λe w'=>∃C a,e=aB (ay (ab ⟨C,0,af⟩))/\hL w' (λi=>w.heap.size<=i/\i<w'.heap.size) C N a/\a.Perm (cut E l)/\au w w':=by
 obtain⟨⟨fT,mo,fN,e2,eW,g⟩,eB,ef⟩:=fE;have aqE:=g.n0;have aqF:=g.mH;have nh:=fH _ _ 0 _ _ _ g.blk;simp at nh;have pA:=g.mZ.lt;have B:=hid (And.intro g (And.intro eB (And.intro ef hl)));have hbl:=(Array.getElem?_eq_some_iff.1 g.blk).1;clear g eB ef hl;go_enter func361,ntmps361;go_wp2_with fail;go_at_call 179;refine(aeo N w aqE aqF).mono ?_;rintro e w1 ⟨C,rfl,aaY,hg1⟩
 have eC:w1.cell? ⟨b,1,af⟩=ab (dP (ab fT)):=by have:=hg1.heap B.out.1.blk (λh=>h);simpa using fH _ _ 1 _ _ _ this
 have HZ:=B.out.1.mZ.only hg1 (λh=>h);have hs1:=hg1.size;have H1:=hid (And.intro aaY hg1);clear aaY hg1;go_wp2_with (at_range;refine ag5 aa _ _ _ aa Tryz.underlying302 HZ aa ?_;intro aU q hg2 hs2);go_frame;have V:=hid (And.intro q hg2);clear q hg2 HZ
 go_loopw [19] (λ_ wr=>∃(k left a:List (Int×Int)) (s:Nat->Prop),(k++left).Perm E/\a.Perm (cut k l)/\Over wr fT w1.heap.size vJ rB (E.map (λe=>(e,ai az))) left/\hL wr s C N a/\
  (∀i,s i->w.heap.size<=i/\i≠w1.heap.size/\i<wr.heap.size)/\w1.heap.size<wr.heap.size/\av (λi=>w.heap.size<=i) w wr) (λ_ wr=>wr.rangeLeft fT w1.heap.size)
 case atStart=>
  refine⟨[],E,[],_,bc,ba,?_,H1.out.1.aH V.out.2,?_,ad,au.to (au.trans H1.out.2 V.out.2)⟩;·have h:=V.out.1;rw[List.map_map]at h;simpa [Kz]using h
  .omega
 case round=>
  obtain⟨k,left,a,s,hp,hc,q,E2,hF,Tk,Z⟩:=hrel;have Sk:=Z.size;have dW:=hid (And.intro hp (And.intro hc (And.intro q (And.intro E2 (And.intro hF Z)))));clear hp hc E2 hF Z;go_wp2_with (at_next;refine ag6 aa _ aa Nj aa q ?_ ?_);·intro h0;go_wp2;go_ret;obtain⟨cK,cI,iQ,O,I,P⟩:=dW.out;subst h0;rw[kR]at cK;exact⟨_,_,aa,O.mono (λi hi D=>⟨(I i D).1,hi⟩),cI.trans (aor cK l),cj.aH P⟩
  .intro u x v m M hv Fs hk3 hs3 hen;dsimp only[vJ]at hen⊢;obtain⟨cK,cI,iQ,O,I,P⟩:=dW.out;have adl:(u,x)∈E:=cK.subset (List.mem_append_right _ M);have acE:(k++left).Nodup:=cK.nodup_iff.2 B.out.2.1;have nO:(u,x)∉k:=λh=>(yI.1 acE).2.2 _ h _ M aa;have hx2:(u,x)∉a:=λh=>nO (uP.1 (cI.subset h)).1;have hb:=B.out.2.2.1 _ adl;have c0:rB (u,x):=⟨⟨ad,ad⟩,⟨ad,ad⟩⟩
   have abH:canAdd N a (u,x)=true:=by
    have h1:qt N u=true:=by simpa [qt]using hb.1
    have o:qt N x=true:=by simpa [qt]using hb.2.1
    unfold canAdd;simp only[h1,o,hx2];simpa using hb.2.2
   have oj:jB N a [(u,x)]=a++[(u,x)]:=by show qa N a (u,x)=_;unfold qa;rw[abH];rfl
   have SP:a.length<=1048576:=by have h1:=cI.length_eq;have o:=ZQ k l;have h3:=cK.length_eq;simp at h3;omega
   have C4:=Nl q.2.1 M
   have oZ:((k++[(u,x)])++left.filter (λy=>!decide (y=(u,x)))).Perm E:=by rw[List.append_assoc];exact((C4.append_left _).symm.trans (Cc _)).trans cK
   have aa0:=O.only hk3 (λi D e=>(I i D).2.1 e);have px:=P.trans (hk3.mono (G:=λi=>w.heap.size<=i) (λi _ e=>ad)) (λ_ _ h=>h);have d:=hid (And.intro oZ (And.intro Fs (And.intro aa0 (And.intro px (And.intro c0 (And.intro oj cI))))));have X:=hid (And.intro q.left_eq Fs.left_eq)
   have gA:(left.filter (λy=>!decide (y=(u,x)))).length<left.length:=by have:=C4.length_eq;simp at this⊢;omega
   have t:=hid I;have p:=hid hs3;clear hs3;clear cK cI iQ O I P adl acE nO hx2 hb c0 abH oj C4 oZ aa0 px M hv Fs hk3 q;obtain⟨Q,hr1⟩:∃r:Bool,decide (u∈l)=r:=⟨_,aa⟩;obtain⟨S,hr2⟩:∃r:Bool,decide (x∈l)=r:=⟨_,aa⟩;have z:=hid (And.intro hr1 hr2);clear hr1 hr2;have jy:=hid (B.out.2.2.2.aH (cj.aH d.out.2.2.2.1));have T:aE (∀W,au m W->aC ax 190 #[ae A l.length c,J R u] W λe w'=>e=aB (ai Q)/\W=w'):=hid λW df=>EN A c l u W Q z.out.1 (jy.out.aH df) hlen;have U:aE (∀W,au m W->aC ax 190 #[ae A l.length c,J R x] W λe w'=>e=aB (ai S)/\W=w'):=hid λW df=>EN A c l x W S z.out.2 (jy.out.aH df) hlen;have Ea:aE (cut (k++[(u,x)]) l=cut k l++(if u∉l/\x∉l then[(u,x)]else[])):=hid (aoq k l u x);by_cases hr:Q=ao/\S=ao
   .obtain⟨rfl,rfl⟩:=hr
    go_wp2_with (first
     |(go_at_call 190;first|((with_reducible refine(T.out _ (av.alloc _ _)).mono ?_);rintro e w' ⟨rfl,rfl⟩)|((with_reducible refine(U.out _ (av.alloc _ _)).mono ?_);rintro e w' ⟨rfl,rfl⟩))
     |(go_at_call 182;refine(YO C N a s _ 1 _ _ (d.out.2.2.1.aH (au.trans (av.alloc _ _) (av.alloc _ _))) (axc (aqW m _ _)) (λe he=>(List.mem_singleton.1 he)▸d.out.2.2.2.2.1) (by rw[yH];omega) (λblk off e D=>by cases e;have h1:=(t.out _ D).2.2;have o:=p.out;omega)).mono ?_;rintro e b9 ⟨rfl,Y,L⟩));have f:au m ((m.alloc (bp #[J R u,J R x] 192)).alloc (bp #[J R u,J R x] 192)):=au.trans (av.alloc _ _) (av.alloc _ _);have acW:=f.size;have aBP:=L.size;rw[d.out.2.2.2.2.2.1]at Y;have n:=(d.out.2.1.only f (λh=>h) (λh=>h)).only L (λh=>by have:=(t.out _ h).1;omega) (λh=>(t.out _ h).2.1 aa);have rn:=(d.out.2.2.2.1.trans f (λ_ _ h=>h.elim)).trans (L.mono (G:=λi=>w.heap.size<=i) (λi _ hi=>(t.out i hi).1)) (λ_ _ h=>h)
    have aaX:∀i,(s i\/(((m.alloc (bp #[J R u,J R x] 192)).alloc (bp #[J R u,J R x] 192)).heap.size<=i/\i<b9.heap.size))->w.heap.size<=i/\i≠w1.heap.size/\i<b9.heap.size:=by
     rintro i (hi|hi);·have h1:=t.out i hi;have o:=p.out;exact⟨h1.1,h1.2.1,ad⟩
     .have o:=p.out;exact⟨ad,ad,hi.2⟩
    have K:aE ((a++[(u,x)]).Perm (cut (k++[(u,x)]) l)):=hid (by rw[Ea.out,if_pos ⟨by simpa using z.out.1,by simpa using z.out.2⟩];exact(d.out.2.2.2.2.2.2).append_right _);have j:=hid (And.intro n (And.intro Y (And.intro aaX (And.intro rn n.left_eq))));have H:w1.heap.size<b9.heap.size:=by have o:=p.out;omega
    clear n Y aaX rn L f;go_wp2;go_roundw;case rel=>exact⟨_,_,_,_,d.out.1,K.out,j.out.1,j.out.2.1,j.out.2.2.1,H,j.out.2.2.2.1⟩
    case measure=>rw[j.out.2.2.2.2,X.out.1];exact gA
   .have X3:=hid hr;clear hr
    have K:aE (a.Perm (cut (k++[(u,x)]) l)):=hid (by
     rw[Ea.out,if_neg,kR];·exact d.out.2.2.2.2.2.2
     .rintro⟨fy,a2⟩;exact X3.out ⟨by rw[<-z.out.1];simpa using fy,by rw[<-z.out.2];simpa using a2⟩);cases Q
    .cases S;·exact absurd ⟨aa,aa⟩ X3.out
     .go_wp2_with (go_at_call 190;first|((with_reducible refine(T.out _ (av.alloc _ _)).mono ?_);rintro e w' ⟨rfl,rfl⟩)|((with_reducible refine(U.out _ (av.alloc _ _)).mono ?_);rintro e w' ⟨rfl,rfl⟩));have f:au m (m.alloc (bp #[J R u,J R x] 192)):=av.alloc _ _;have acW:=f.size;have n:=d.out.2.1.only f (λh=>h) (λh=>h);have j:=hid (And.intro n (And.intro (d.out.2.2.1.aH f) (And.intro (d.out.2.2.2.1.trans f (λ_ _ h=>h.elim)) n.left_eq)));have H:w1.heap.size<(m.alloc (bp #[J R u,J R x] 192)).heap.size:=by have o:=p.out;omega
      clear n f;go_roundw;case rel=>exact⟨_,_,a,s,d.out.1,K.out,j.out.1,j.out.2.1,λi hi=>by have h1:=t.out i hi;have o:=p.out;exact⟨h1.1,h1.2.1,ad⟩,H,j.out.2.2.1⟩
      case measure=>rw[j.out.2.2.2,X.out.1];exact gA
    .go_wp2_with (go_at_call 190;first|((with_reducible refine(T.out _ (av.alloc _ _)).mono ?_);rintro e w' ⟨rfl,rfl⟩)|((with_reducible refine(U.out _ (av.alloc _ _)).mono ?_);rintro e w' ⟨rfl,rfl⟩));have f:au m (m.alloc (bp #[J R u,J R x] 192)):=av.alloc _ _;have acW:=f.size;have n:=d.out.2.1.only f (λh=>h) (λh=>h);have j:=hid (And.intro n (And.intro (d.out.2.2.1.aH f) (And.intro (d.out.2.2.2.1.trans f (λ_ _ h=>h.elim)) n.left_eq)));have H:w1.heap.size<(m.alloc (bp #[J R u,J R x] 192)).heap.size:=by have o:=p.out;omega
     clear n f;go_roundw;case rel=>exact⟨_,_,a,s,d.out.1,K.out,j.out.1,j.out.2.1,λi hi=>by have h1:=t.out i hi;have o:=p.out;exact⟨h1.1,h1.2.1,ad⟩,H,j.out.2.2.1⟩
     case measure=>rw[j.out.2.2.2,X.out.1];exact gA
def Je(r:Bool)(o:List Int):List Int:=if r=az then o else[]
def auy (b N:Nat) E F A c s w (p:hL w F b N E) (u:dy w A s) (v:s.length<=9223372036854775807) (t:E.length<=1048576)
 o (ho:oH E N s o) r (hr:decide (nQ N s o=[])=r):
 aC ax 176 #[ay (ab ⟨b,0,af⟩),ae A s.length c] w λe w'=>∃l z,e=aB (bo #[ae l (Je r o).length z,ai r])/\dy w' l (Je r o)/\(∀k off,l=ab ⟨k,off,af⟩->w.heap.size<=k)/\au w w':=by
 have a:=hid (And.intro p (And.intro u ho));clear p u ho;cases r;·have hne:0<(nQ N s o).length:=List.length_pos_iff.2 (show nQ N s o≠[] by grind);clear hr;go_enter Tryz.func176,Tryz.ntmps176;go_wp2_with fail;go_at_call 250;refine(Uv b N E F A c s w a.out.1 a.out.2.1 v t).mono ?_;rintro e w1 ⟨lD,B,f,o',rfl,j,hn,g,i⟩;obtain rfl:=j.unique a.out.2.2;have m:=λty=>run_len_map g vb ty;rw[Dj]at m;have d:=hid i;clear hn g i j;generalize (nQ N s o').length=n at*;go_wp2;go_ret2;exact⟨af,0,aa,dy.nil,(λ_ _ h=>aG),d.out⟩
 .have q:(nQ N s o).length=0:=List.length_eq_zero_iff.2 aG;have y:=hid q;clear hr q;go_enter Tryz.func176,Tryz.ntmps176;go_wp2_with fail;go_at_call 250;refine(Uv b N E F A c s w a.out.1 a.out.2.1 v t).mono ?_;rintro e w1 ⟨lD,B,f,o',rfl,j,hn,g,i⟩;obtain rfl:=j.unique a.out.2.2;have m:=λty=>run_len_map g vb ty;rw[Dj,y.out]at m;obtain⟨x,c1,rfl,hi,_,_,hloc⟩:=hn.form;have d:=hid (And.intro hi (And.intro hloc i));clear hn g i j hi hloc;go_wp2;go_ret2;exact⟨x,c1,aa,d.out.1,λk off h=>(d.out.2.1 k _ h).1,d.out.2.2⟩
def Path.perm{E E'}(h:E.Perm E'){u x}:Path E u x↔Path E' u x:=⟨λp=>p.mono (λ_ a=>h.mem_iff.1 a),λp=>p.mono (λ_ a=>h.mem_iff.2 a)⟩
def kP.apz{E}{N:Nat}{s xs}(a:Valid N E)(h:kP E s xs):(gv N).filter (λx=>decide (x∈xs))=xs:=by refine aaf ((JL N).filter _) h.1 (λx=>?_);rw[nz,decide_eq_true_eq];exact⟨λq=>q.2,λq=>⟨A6.2 (Bb (a.cut s) ((h.2 x).1 q)),q⟩⟩
def aoz{N k}(hk:k<N)(xs:List Int):((gv N).take (k+1)).filter (λx=>decide (x∈xs))=((gv N).take k).filter (λx=>decide (x∈xs))++(if(k:Int)∈xs then[(k:Int)]else[]):=by grind[UY]
def aoy(N k)(xs:List Int):(((gv N).take k).filter (λx=>decide (x∈xs))).length<=k:=aG
def aoB (b N:Nat) E F A c s w (G:hL w F b N E) (hs:dy w A s) (fL:s.length<=9223372036854775807) (fp:E.length<=1048576)
 xs (hx:kP E s xs):
 aC ax 333 #[ay (ab ⟨b,0,af⟩),ae A s.length c] w λe w'=>∃v,e=aB v/\q5 w w' v xs/\au w w':=by
 have d':=G.small.2;have S:=G.2.2;have g:=hid (And.intro G (And.intro hs (And.intro hx (And.intro S (hx.apz S)))));obtain⟨i0,jc,hz0,hz1,hz2⟩:=vh FD;have C:=hid (And.intro jc (And.intro hz0 (And.intro hz1 hz2)));clear G hs hx S jc hz0 hz1 hz2;go_enter func333,ntmps333;go_wp2_with fail;go_at_call 250;refine(Uv b N E F A c s w g.out.1 g.out.2.1 fL fp).mono ?_;rintro e w1 ⟨lD,md,f,o,rfl,ho,hn,Z,hg1⟩;have m:=hid (And.intro ho (And.intro Z (And.intro hg1 hg1.size)));clear ho hn Z hg1;go_wp2_with (go_at_call 361;refine(ayv b N E F A c s w1 (g.out.1.aH m.out.2.2.1) (g.out.2.1.aH m.out.2.2.1) fL fp).mono ?_;rintro e j ⟨X,M,rfl,Y,V,hg2⟩);have MI:M.length<=1048576:=by have h1:=V.length_eq;have h2:=ZQ E s;omega
 have hs2:w.heap.size<=j.heap.size:=by have h1:=m.out.2.2.2;have h2:=hg2.size;omega
 have l:=hid (And.intro Y (And.intro V (And.intro (m.out.2.1.only hg2 (λh=>h)) (And.intro (au.trans m.out.2.2.1 hg2) (m.out.2.1.only hg2 (λh=>h)).lt))));clear Y V hg2;go_wp2_with (go_at_call 303;refine(xA b N _ (g.out.1.aH l.out.2.2.2.1).TR).mono ?_;rintro e bI ⟨rfl,rfl⟩)
 go_loopw [8,23] (λeE i wr=>∃k:Nat,k<=N/\i=J R k/\wr.ownsRow w.heap.size 3 1 eE (((gv N).take k).filter (λx=>decide (x∈xs))).length ((((gv N).take k).filter (λx=>decide (x∈xs))).map (J R))/\
  av (λi=>j.heap.size<=i) j wr/\(∀q,eE.ownBlock=ab q->j.heap.size<=q)) (λ_ i _=>N -(c' i).toNat);case atStart=>exact⟨0,cB _,aa,⟨bc,bZ ⟨aa,bc⟩⟩,av.refl _ _,λq h=>by cases h⟩
 case round=>
  obtain⟨k,hk,rfl,hrow,T,p⟩:=hrel;have Sk:=T.size;have a:=hid (And.intro hrow (And.intro T p));clear hrow T p;by_cases hlt:k<N
  .have hb0:(k:Int)<(N:Int):=ad;have U:cN (k:Int):=⟨ad,ad⟩;have P:=hid (aoz hlt xs);have hlen:=aoy N k xs;have H:=(A2 (l.out.2.2.1.only a.out.2.1 (by have:=l.out.2.2.2.2;omega)) U).2;have W:=hid U;clear U;generalize ((gv N).take k).filter (λx=>decide (x∈xs))=L at*;by_cases y:(k:Int)∈nQ N s o
   .rw[if_pos y]at H;have t:decide ((k:Int)∈nQ N s o)=true:=aG;rw[t]at H;clear y t;obtain⟨r,hr⟩:∃q:Bool,decide ((k:Int)∈xs)=q:=⟨_,aa⟩;have D:=hid hr;clear hr;cases r
    .go_wp2_with (first
      |(go_at_call 362;refine(aft X N k M _ wr (l.out.1.only a.out.2.1 (λi hi h=>ad)) W.out MI).mono ?_;rintro e I ⟨K,Q,bV,rfl,u,B,z,n⟩;have d:=hid (And.intro u (And.intro B (And.intro z n)));clear u B z n)
      |(go_at_call 190;refine(EN K Q bV k I ao (by rw[<-D.out];congr 1;rw[eq_iff_iff,d.out.2.1.2,g.out.2.2.1.2];exact Path.perm l.out.2.1) d.out.1 d.out.2.2.1).mono ?_;rintro e cV ⟨rfl,rfl⟩));go_roundw;case rel=>exact⟨k+1,ad,by go_num,by rw[P.out,if_neg (by simpa using D.out),kR];exact pG a.out.1 d.out.2.2.2 (λ_ _ h=>h),a.out.2.1.trans d.out.2.2.2 (λ_ _ h=>h.elim),a.out.2.2⟩
     case measure=>grind[c']
    .go_wp2_with (first
      |(go_at_call 362;refine(aft X N k M _ wr (l.out.1.only a.out.2.1 (λi hi h=>ad)) W.out MI).mono ?_;rintro e I ⟨K,Q,bV,rfl,u,B,z,n⟩;have aAP:=n.size;have d:=hid (And.intro u (And.intro B (And.intro z n)));clear u B z n)
      |(go_at_call 190;refine(EN K Q bV k I az (by rw[<-D.out];congr 1;rw[eq_iff_iff,d.out.2.1.2,g.out.2.2.1.2];exact Path.perm l.out.2.1) d.out.1 d.out.2.2.1).mono ?_;rintro e cV ⟨rfl,rfl⟩)
      |(at_builtin;go_loud (refine PR _ aa (bj 40) (bj 42) 82 aa w.heap.size 3 i0 _ 1 8 jo C.out.1 C.out.2.1 C.out.2.2.1 C.out.2.2.2 aa ad _ L.length _ aa (pG a.out.1 (au.trans d.out.2.2.2 (av.alloc (F:=λ_=>False) _ _)) (λ_ _ h=>h)) _ 1 1 _ aa aa (ND _ _ _) (by simp[zV]) (by unfold eG;omega) ad (by simp;omega) ?_;intro xX dB MX Ik _ Fo)));have I0:av (λi=>j.heap.size<=i) (I.alloc (bp #[J R (k:Int)] 3)) dB:=av.of_grownBy Ik (λi e=>bZ (a.out.2.2 i e));have E6:av (λi=>j.heap.size<=i) j dB:=((a.out.2.1.trans d.out.2.2.2 (λ_ _ h=>h.elim)).trans (av.alloc (F:=λi=>j.heap.size<=i) _ _) (λ_ _ h=>h)).trans I0 (λ_ _ h=>h)
     have IG:∀q,xX.ownBlock=ab q->j.heap.size<=q:=λq p=>by
      rcases Fo with h|h;·exact a.out.2.2 q (h.symm.trans p)
      .rw[h]at p;simp at p;omega
     have O:=hid (And.intro MX (And.intro E6 IG));clear MX Ik Fo I0 E6 IG;go_wp2;go_roundw;case rel=>exact⟨k+1,ad,by go_num,by rw[P.out,if_pos (by simpa using D.out)];simpa using O.out.1,O.out.2.1,O.out.2.2⟩
     case measure=>grind[c']
   .rw[if_neg y]at H;have t:decide ((k:Int)∈nQ N s o)=false:=aG;rw[t]at H;have kN:aE ((k:Int)∉xs):=hid (λh=>y (g.out.2.2.1.rest g.out.2.2.2.1 m.out.1 h));clear y t;go_wp2;go_roundw;case rel=>exact⟨k+1,ad,by go_num,by rw[P.out,if_neg kN.out,kR];exact a.out.1,a.out.2.1,a.out.2.2⟩
    case measure=>grind[c']
  .obtain rfl:k=N:=ad;have hrow:=a.out.1;rw[ub (by simp[gv]),g.out.2.2.2.2]at hrow;have cH:=hid hrow;clear hrow;go_wp2;go_ret;exact⟨_,aa,cH.out,au.trans l.out.2.2.2.1 (cj.aH a.out.2.1)⟩
def asR x a A c keep W(hc:W.cell? ⟨a,0,af⟩=ab (ae A keep.length c))(hk:dy W A keep)(h1:keep.length<=9223372036854775807):
 aC ax 335 #[J R x,ay (ab ⟨a,0,af⟩)] W λe w'=>e=aB (ai (decide (x∈keep)))/\∃q,w'=W.drewN q:=by
 have b:=hid hk;clear hk;go_enter func335,ntmps335;go_wp2_with (go_at_call 190;refine(HG A c _ x W b.out h1).mono ?_;rintro e w1 ⟨rfl,rfl⟩);go_ret;exact⟨aa,0,aa⟩
def ays x a A c ws W(hc:W.cell? ⟨a,0,af⟩=ab (ae A ws.length c))(hk:dy W A ws)(h1:ws.length<=9223372036854775807):
 aC ax 337 #[J R x,ay (ab ⟨a,0,af⟩)] W λe w'=>e=aB (J R (oA ws x))/\W=w':=by
 have b:=hid hk;clear hk;go_enter func337,ntmps337;go_wp2_with (go_at_call 338;refine(ayr A c ws x W b.out h1).mono ?_;rintro e w1 ⟨rfl,rfl⟩);go_ret;exact⟨aa,aa⟩
def am4{f L}:decide (0<L.length)=(jK f L).isSome:=by
 cases h:jK f L with
 |none=>grind[Rt]
 |some v=>
  have:=List.length_pos_of_mem (Rs h);simp[this]
def apl args w:(kB 335 args).run ax w=bf (.enter 335 args) w:=ba
def apm args w:(kB 337 args).run ax w=bf (.enter 337 args) w:=ba
def atS (b N:Nat) E F gX ik ws p v s gd gz keep w (z:hL w F b N E) (D:dy w gX ws) (hr:dy w p s) (hk:dy w gd keep)
 (IW:ws.length<=9223372036854775807) (fL:s.length<=9223372036854775807) (vP:keep.length<=9223372036854775807) (fp:E.length<=1048576) xs (hx:kP E s xs) o (ho:jK (oA ws) (kept xs keep)=o) sd (xh:decide (0<xs.length)=sd):
 aC ax 302 #[ay (ab ⟨b,0,af⟩),ae gX ws.length ik,ae p s.length v,ae gd keep.length gz] w λe w'=>
  e=aB (bo #[J R (o.getD 0),ai o.isSome,ai sd])/\au w w':=by
 have j:=hid (And.intro z (And.intro D (And.intro hr (And.intro hk hx))));have I:=hid ho;have S:decide (0<(xs.length:Int))=sd:=by rw[<-xh];congr 1;rw[eq_iff_iff];omega
 clear z D hr hk hx ho;go_enter func302,ntmps302;go_wp2_with fail;go_at_call 333;have d:aE (au w ((w.alloc (bp #[ae gX ws.length ik] 82)).alloc (bp #[ae gd keep.length gz] 82))):=hid (au.trans (av.alloc _ _) (av.alloc _ _))
 have n:aE (((w.alloc (bp #[ae gX ws.length ik] 82)).alloc (bp #[ae gd keep.length gz] 82)).cell? ⟨w.heap.size,0,af⟩=ab (ae gX ws.length ik)/\((w.alloc (bp #[ae gX ws.length ik] 82)).alloc (bp #[ae gd keep.length gz] 82)).cell? ⟨w.heap.size+1,0,af⟩=ab (ae gd keep.length gz)):=hid (by
  constructor;·exact(av.alloc (F:=λ_=>False) _ _).cell (fH _ _ 0 _ _ _ (fO w _)) (λh=>h)
  .simp);refine(aoB b N E F p v s _ (j.out.1.aH d.out) (j.out.2.2.1.aH d.out) fL fp xs j.out.2.2.2.2).mono ?_;generalize (w.alloc (bp #[ae gX ws.length ik] 82)).alloc (bp #[ae gd keep.length gz] 82)=aq at*;rintro e w1 ⟨T,rfl,r,hg1⟩;obtain⟨l,c1,rfl,M,P,hl2,hloc⟩:=r.form;have G:xs.length<=9223372036854775807:=by grind[eG]
 have a:=hid (And.intro r (And.intro hg1 (And.intro (au.trans d.out hg1) hloc)));have hs0:=d.out.size;have u:=hid (And.intro (vf _ _ n.out.1) (vf _ _ n.out.2));clear r hg1 hloc M P hl2
 have t:aE (aC ax 334 #[ae l xs.length c1,dS (eu 335) #[] #[ay (ab ⟨w.heap.size+1,0,af⟩)]] w1 λe w'=>∃A c,e=aB (ae A (kept xs keep).length c)/\dy w' A (kept xs keep)/\av (λi=>(ae l xs.length c1).ownBlock=ab i) w1 w'):=hid (by
  refine(aoP 335 #[ay (ab ⟨w.heap.size+1,0,af⟩)] apl (λx=>decide (x∈keep)) _ _ xs w1 a.out.1 G (λW x K=>?_)).mono ?_
  .have hno:∀i,i<aq.heap.size->¬(ae l xs.length c1).ownBlock=ab i:=λi hi h=>by have:=(wL a.out.1 i h).1;omega
   have B:av (λi=>aq.heap.size<=i) aq W:=(au.to a.out.2.1).trans K (λi hi h=>absurd h (hno i hi));refine asR x _ gd gz _ W (B.cell n.out.2 (by have:=u.out.2;show¬aq.heap.size<=_;omega)) ?_ vP;exact(j.out.2.2.2.1.aH (au.trans d.out (cj.aH B)))
  .rintro e w' ⟨A,c,rfl,h1,_,y⟩;exact⟨A,c,aa,h1,y⟩);go_wp2_with (go_at_call 334;have k:=t.out;with_reducible refine k.mono ?_;clear k;rintro e g ⟨aL,c2,rfl,C,q⟩)
 have hg2:au w g:=by
  have hno:∀i,i<aq.heap.size->¬(ae l xs.length c1).ownBlock=ab i:=λi hi h=>by have:=(wL a.out.1 i h).1;omega
  exact au.trans d.out (cj.aH ((au.to a.out.2.1).trans q (λi hi h=>absurd h (hno i hi))))
 have hcw:g.cell? ⟨w.heap.size,0,af⟩=ab (ae gX ws.length ik):=by refine q.cell (a.out.2.1.cell n.out.1 (λh=>h)) (λh=>?_);have y:=(wL a.out.1 w.heap.size h).1;have Q:w.heap.size<aq.heap.size:=u.out.1;omega
 have m:=hid (And.intro C (And.intro hg2 hcw));have O:(kept xs keep).length<=9223372036854775807:=eb (Al _ _) G;clear C q hg2 hcw t;generalize kept xs keep=L at*
 have H:aE (aC ax 336 #[ae aL L.length c2,dS (eu 337) #[] #[ay (ab ⟨w.heap.size,0,af⟩)]] g λe w'=>e=aB (bo #[J R (o.getD 0),ai o.isSome])/\g=w'):=hid (by have h:=axd 337 #[ay (ab ⟨w.heap.size,0,af⟩)] (oA ws) aL c2 L g m.out.1 O apm (λx=>ays x w.heap.size gX ik ws g m.out.2.2 (j.out.2.1.aH m.out.2.1) IW);rw[am4 (f:=oA ws),I.out]at h;exact h);go_wp2_with (go_at_call 336;have k:=H.out;with_reducible refine k.mono ?_;clear k;rintro e U ⟨rfl,rfl⟩);go_ret3;exact⟨aa,m.out.2.1⟩
def Bp(out:List Int)(o:Option Int):List Int:=match o with
 |none=>out
 |some v=>out++[v]
structure x8 (W:aP) (B0 de gY gg base b:Nat) (gX:Option bT) (ik:Nat) (ws:List Int) (gd:Option bT) (gz:Nat) (keep out:List Int) (lD:aO):Prop where
 b0:W.cell? ⟨B0,0,af⟩=ab (ay (ab ⟨b,0,af⟩))
 c1:W.cell? ⟨de,0,af⟩=ab (ae gX ws.length ik)
 c2:W.cell? ⟨gY,0,af⟩=ab (ae gd keep.length gz)
 dz:W.heap[gg]?=ab (bp #[lD] 82 (0,0))
 row:W.ownsRow base 3 1 lD out.length (out.map (J R))
def x8.only{W c F B0 de gY gg base b gX ik ws gd gz keep out lD}(h:x8 W B0 de gY gg base b gX ik ws gd gz keep out lD)(k:av F W c)(a:∀i,F i->False):
 x8 c B0 de gY gg base b gX ik ws gd gz keep out lD:=
 ⟨k.cell h.b0 (λe=>a _ e),k.cell h.c1 (λe=>a _ e),k.cell h.c2 (λe=>a _ e),k.heap h.dz (λe=>a _ e),pG h.row k (λ_ _ e=>a _ e)⟩
def aqj{a xX:aO}{base gg n}(hne:∀q,a.ownBlock=ab q->base<=q)(c:xX.ownBlock=a.ownBlock\/xX.ownBlock=ab n)(hn:base<=n)(b:gg<base):xX.ownBlock≠ab gg:=aG
def axz (B0 de gY gg base b N:Nat) E F gX ik ws gd gz keep out lD W (x:hL W F b N E) (D:dy W gX ws) (hk:dy W gd keep) (d:x8 W B0 de gY gg base b gX ik ws gd gz keep out lD)
 (hb:B0<gg/\de<gg/\gY<gg/\gg<base/\base<=W.heap.size) (IW:ws.length<=9223372036854775807) (gU:out.length<=1048576) (vP:keep.length<=9223372036854775807) (fp:E.length<=1048576) xs (hx:kP E out xs) o (ho:jK (oA ws) (kept xs keep)=o):
 aC ax 301 #[ay (ab ⟨B0,0,af⟩),ay (ab ⟨de,0,af⟩),ay (ab ⟨gg,0,af⟩),ay (ab ⟨gY,0,af⟩)] W λe w'=>
  e=aB (bo #[ai o.isSome,ai (decide (0<xs.length))])/\
  av (λi=>i=gg\/base<=i) W w'/\∃M,x8 w' B0 de gY gg base b gX ik ws gd gz keep (Bp out o) M:=by
 obtain⟨n,r,rfl,A⟩:=Dx d.row;have hc:=atS b N E F gX ik ws n r out gd gz keep W x D A hk IW ad vP fp xs hx o ho _ aa;clear ho x D hk A hx;have w:=hid hc;have c:=hid d;obtain⟨K,z,hz0,hz1,hz2⟩:=vh FD;have k:=hid (And.intro z (And.intro hz0 (And.intro hz1 hz2)));have T:=d.b0;have U:=d.c1;have V:=d.c2;have L:=pY d.dz;clear hc d z hz0 hz1 hz2;generalize decide (0<xs.length)=O at*;go_enter func301,ntmps301;cases o with
 |none=>
  go_wp2_with (go_at_call 302;have g:=w.out;with_reducible refine g.mono ?_;clear g;rintro e w1 ⟨rfl,hg1⟩);go_ret2;exact⟨aa,au.to hg1,_,c.out.only hg1 (λ_ h=>h)⟩
 |some v=>
  go_wp2_with (first
   |(go_at_call 302;have g:=w.out;with_reducible refine g.mono ?_;clear g;rintro e w1 ⟨rfl,hg1⟩;have X:=hg1.cell L (λh=>h);have hs1:=hg1.size;have u:=hid hg1;clear hg1)
   |(at_builtin;go_loud (refine PR _ aa (bj 19) (bj 21) 82 aa base 3 K _ 1 8 jo k.out.1 k.out.2.1 k.out.2.2.1 k.out.2.2.2 aa ad _ out.length (out.map (J R)) aa (pG c.out.row (au.trans u.out (av.alloc (F:=λ_=>False) _ _)) (λ_ _ h=>h)) _ 1 1 [J R v] aa aa (ND _ _ _) (by simp[zV]) (by grind[eG]) ad (by first|omega|(simp;omega)) ?_;intro xX f I y _ B;have S:gg<W.heap.size:=ad;have hne:∀q,(ae n out.length r).ownBlock=ab q->base<=q:=λq h=>(wL c.out.row q h).1;have G:av (λi=>base<=i) (w1.alloc (bp #[J R v] 3)) f:=av.of_grownBy y (λi e=>bZ (hne i e));have s:av (λi=>base<=i) W f:=((au.to u.out).trans (av.alloc (F:=λi=>base<=i) _ _) (λ_ _ h=>h)).trans G (λ_ _ h=>h);have m:f.heap[gg]?=ab (bp #[ae n out.length r] 82 (0,0)):=s.heap c.out.dz ad;have C:xX.ownBlock≠ab gg:=aqj hne B (by first|omega|(simp;omega)) ad;have Q:=Xj m;have P:=pY m;have hown:f.ownsRow base 3 1 xX (out.length+1) ((out++[v]).map (J R)):=aG;obtain⟨j,l,H,_⟩:=Dx hown;obtain rfl:xX=ae j (out.length+1) l:=aG;have a:=hid (And.intro hown (And.intro s (And.intro m C)));clear hown I y B G s m C hne H)));go_ret2;refine⟨aa,((a.out.2.1.mono (λi _ h=>cc h)).trans (av.setCell (F:=λi=>i=gg\/base<=i) f (bZ aa) _) (λ_ _ h=>h)),ae j (out.length+1) l,?_⟩;have t:=av.setCell (F:=λi=>i=gg) f (p:=⟨gg,0,af⟩) aa (ae j (out.length+1) l);exact⟨t.cell (a.out.2.1.cell c.out.b0 aG) aG,t.cell (a.out.2.1.cell c.out.c1 aG) aG,t.cell (a.out.2.1.cell c.out.c2 aG) aG,Xl a.out.2.2.1,by simpa [Bp]using Xm a.out.1 a.out.2.2.2 (ae j (out.length+1) l)⟩
theorem agz{E ws keep out xs}(h:k' E ws keep out)(hx:kP E out xs):k' E ws keep (Bp out (jK (oA ws) (kept xs keep))):=by
 cases hb:jK (oA ws) (kept xs keep)with
 |none=>exact h
 |some v=>exact .snoc h hx hb
def ahX(w:aP)(o:List Int)(r:Bool)(e:Ending)(w':aP):Prop:=
 ∃a b,e=aB (bo #[ae a (Je r o).length b,ai r])/\dy w' a (Je r o)/\(Je r o).length<=b/\(∀k off,a=ab ⟨k,off,af⟩->w.heap.size<=k)/\au w w'
def auK{w base v m xs}(h:w.ownsRow base 3 1 v m (xs.map (J R))):∃A c,v=ae A xs.length c/\dy w A xs/\xs.length<=c/\∀k off,A=ab ⟨k,off,af⟩->base<=k:=by
 have a:m=xs.length:=by simpa using h.1.symm
 subst a;have b:=h;rcases h.2 with⟨rfl,hz⟩|⟨g,cap,cur,rfl,hb,i,h1,d,e,f⟩;·grind[dy.nil]
 .grind[dy.ow]
def boxes w b gX ik ws gd gz keep:
 au w ((((w.alloc (bp #[ay (ab ⟨b,0,af⟩)] 179)).alloc (bp #[ae gX ws.length ik] 82)).alloc (bp #[ae gd keep.length gz] 82)).alloc (bp #[ae af 0 0] 82))/\x8 ((((w.alloc (bp #[ay (ab ⟨b,0,af⟩)] 179)).alloc (bp #[ae gX ws.length ik] 82)).alloc (bp #[ae gd keep.length gz] 82)).alloc (bp #[ae af 0 0] 82)) w.heap.size (w.heap.size+1) (w.heap.size+2) (w.heap.size+3) (w.heap.size+4) b gX ik ws gd gz keep [] (ae af 0 0)/\((((w.alloc (bp #[ay (ab ⟨b,0,af⟩)] 179)).alloc (bp #[ae gX ws.length ik] 82)).alloc (bp #[ae gd keep.length gz] 82)).alloc (bp #[ae af 0 0] 82)).heap.size=w.heap.size+4:=by
 have g1:=av.alloc (F:=λ_=>False) w (bp #[ay (ab ⟨b,0,af⟩)] 179);have h1:=fO w (bp #[ay (ab ⟨b,0,af⟩)] 179);generalize j:w.alloc (bp #[ay (ab ⟨b,0,af⟩)] 179)=w1 at*;have k:w1.heap.size=w.heap.size+1:=by rw[<-j];simp
 have g2:=av.alloc (F:=λ_=>False) w1 (bp #[ae gX ws.length ik] 82);have f:=fO w1 (bp #[ae gX ws.length ik] 82);generalize hw2:w1.alloc (bp #[ae gX ws.length ik] 82)=c at*;have l:c.heap.size=w.heap.size+2:=by rw[<-hw2];simp;omega
 have e:=av.alloc (F:=λ_=>False) c (bp #[ae gd keep.length gz] 82);have g:=fO c (bp #[ae gd keep.length gz] 82);generalize hw3:c.alloc (bp #[ae gd keep.length gz] 82)=d at*;have m:d.heap.size=w.heap.size+3:=by rw[<-hw3];simp;omega
 have a:=av.alloc (F:=λ_=>False) d (bp #[ae af 0 0] 82);have i:=fO d (bp #[ae af 0 0] 82);generalize hw4:d.alloc (bp #[ae af 0 0] 82)=o at*;have n:o.heap.size=w.heap.size+4:=by rw[<-hw4];simp;omega
 rw[k]at f;rw[l]at g;rw[m]at i;refine⟨au.trans g1 (au.trans g2 (au.trans e a)),⟨?_,?_,?_,i,⟨bc,bZ ⟨aa,bc⟩⟩⟩,n⟩;·exact(au.trans g2 (au.trans e a)).cell (pY h1) (λh=>h)
 .exact(au.trans e a).cell (pY f) (λh=>h)
 .exact a.cell (pY g) (λh=>h)
set_option maxHeartbeats 2000000 in
def anJ (b N:Nat) E F gX ik ws gd gz keep w (z:hL w F b N E) (hw:dy w gX ws) (hk:dy w gd keep)
 (IW:ws.length<=9223372036854775807) (vP:keep.length<=9223372036854775807) (fp:E.length<=1048576) (o xs) (hx:wV E ws keep o xs) r (hr:decide (xs=[])=r):
 aC ax 249 #[ay (ab ⟨b,0,af⟩),ae gX ws.length ik,ae gd keep.length gz] w (ahX w o r):=by
 have d':=z.small.2;have l:=hid (And.intro z (And.intro hw (And.intro hk (And.intro hx hr))));have C:=hid z.2.2;have vV:∀(L:Fn) (first cap:Array aO) (w:aP),(Instr.makeFunc L first cap).run ax w=bf (dS L first cap) w:=λ_ _ _ _=>aa;have y:=hid (boxes w b gX ik ws gd gz keep);clear z hw hk hx hr;go_enter func249,ntmps249;go_wp2_with fail;go_at_call 301;clear vV;generalize (((w.alloc (bp #[ay (ab ⟨b,0,af⟩)] 179)).alloc (bp #[ae gX ws.length ik] 82)).alloc (bp #[ae gd keep.length gz] 82)).alloc (bp #[ae af 0 0] 82)=aq at*
 have J:aE (∀(W:aP) (out:List Int) (lD:aO),av (λi=>i=w.heap.size+3\/w.heap.size+4<=i) aq W->x8 W w.heap.size (w.heap.size+1) (w.heap.size+2) (w.heap.size+3) (w.heap.size+4) b gX ik ws gd gz keep out lD->k' E ws keep out->
  ∃bV q d,kP E out bV/\jK (oA ws) (kept bV keep)=q/\decide (0<bV.length)=d/\aC ax 301 #[ay (ab ⟨w.heap.size,0,af⟩),ay (ab ⟨w.heap.size+1,0,af⟩),ay (ab ⟨w.heap.size+3,0,af⟩),ay (ab ⟨w.heap.size+2,0,af⟩)] W λe w'=>
   e=aB (bo #[ai q.isSome,ai d])/\av (λi=>i=w.heap.size+3\/w.heap.size+4<=i) aq w'/\∃UZ,x8 w' w.heap.size (w.heap.size+1) (w.heap.size+2) (w.heap.size+3) (w.heap.size+4) b gX ik ws gd gz keep (Bp out q) UZ):=hid (λW out lD D ko hch=>by
  obtain⟨bV,p⟩:=HK C.out out;have hsz:=y.out.2.2;have hs:=D.size;have B:av (λi=>w.heap.size+3<=i) w W:=(au.to y.out.1).trans D (λi hi h=>ad);have f:au w W:=B.mono (λi hi h=>ad);refine⟨bV,_,_,p,aa,aa,?_⟩;refine(axz _ _ _ _ _ b N E F gX ik ws gd gz _ _ lD W (l.out.1.aH f) (l.out.2.1.aH f) (l.out.2.2.1.aH f) ko ⟨ad,ad,ad,ad,ad⟩ IW (by have:=hch.length C.out;omega) vP fp bV p _ aa).mono ?_;rintro e w' ⟨rfl,h1,n⟩;exact⟨aa,D.trans h1 (λ_ _ h=>h),n⟩);obtain⟨bV,q,d,p,Y,V,m⟩:=J.out aq [] _ (av.refl _ _) y.out.2.1 .nil;refine m.mono ?_;clear m;rintro e w1 ⟨rfl,T,ayd,R⟩;have g:=hid (And.intro T (And.intro R (And.intro p (And.intro Y (And.intro V (show k' E ws keep []from .nil))))));clear T R p Y V;go_wp2_with fail;go_loopg [10,11] (2*N+2) (λgk eE iH wr=>∃(out s bV:List Int) (q:Option Int) (d:Bool) (lD:aO),eE=ai q.isSome/\iH=ai d/\aE (av (λi=>i=w.heap.size+3\/w.heap.size+4<=i) aq wr/\x8 wr w.heap.size (w.heap.size+1) (w.heap.size+2) (w.heap.size+3) (w.heap.size+4) b gX ik ws gd gz keep out lD/\out=Bp s q/\k' E ws keep s/\kP E s bV/\jK (oA ws) (kept bV keep)=q/\decide (0<bV.length)=d)/\2*(N -out.length)+(if q.isSome then 1 else 0)<gk);case atStart=>exact⟨_,[],bV,q,d,ayd,aa,aa,hid ⟨g.out.1,g.out.2.1,aa,.nil,g.out.2.2.1,g.out.2.2.2.1,g.out.2.2.2.2.1⟩,aG⟩
 case round=>
  obtain⟨out,s,aCo,cI,aot,lD,rfl,rfl,a,MK⟩:=hrel;have hch:k' E ws keep out:=by rw[a.out.2.2.1,<-a.out.2.2.2.2.2.1];exact agz a.out.2.2.2.1 a.out.2.2.2.2.1
  cases cI with
  |some v=>
   obtain⟨ayH,G,aou,adp,Z,X,m⟩:=J.out wr out lD a.out.1 a.out.2.1 hch;have ac:=hid m;have H:=hid (And.intro adp (And.intro Z X));have C1:(Bp out G).length<=N:=(by grind[agz]:k' E ws keep (Bp out G)).length C.out;have I:=hid hch;clear m adp Z X hch;simp only[Option.isSome_some,if_true]at MK;go_wp2_with (go_at_call 301;have K:=ac.out;with_reducible refine K.mono ?_;clear K;rintro e bI ⟨rfl,U,aye,S⟩);have u:=hid (And.intro U S);clear U S;cases G with
   |none=>
    go_roundg (2*(N -out.length)+1);case measure=>omega
    case rel=>exact⟨out,_,_,_,_,_,aa,aa,hid ⟨u.out.1,u.out.2,aa,I.out,H.out⟩,bc⟩
   |some v3=>
    simp only[Bp,List.length_append,yH]at C1;go_roundg (2*(N -out.length));case measure=>omega
    case rel=>exact⟨out++[v3],out,ayH,ab v3,aou,aye,aa,aa,hid ⟨u.out.1,u.out.2,aa,I.out,H.out⟩,aG⟩
  |none=>
   obtain⟨h1,n,h3,M,O,P,Q⟩:=a.out;obtain rfl:out=s:=h3;obtain⟨rfl,rfl⟩:=l.out.2.2.2.1.unique ⟨M,O,P⟩
   have dg:aot=!r:=by
    rw[<-Q,<-l.out.2.2.2.2];cases xs with
    |nil=>rfl
    |cons x t=>simp
   have B:av (λi=>w.heap.size+3<=i) w wr:=(au.to y.out.1).trans h1 (λi hi h=>ad);have f:au w wr:=B.mono (λi hi h=>ad);have jY:=pY n.dz;obtain⟨A,c,rfl,hi,hc,hloc⟩:=auK n.row;have j:=hid (And.intro hi (And.intro hc (And.intro (λk off e=>eb ad (hloc k off e):∀k off,A=ab ⟨k,off,af⟩->w.heap.size<=k) f)));subst dg;clear hch h1 n M O P Q B f hi hc hloc a;cases r;·go_wp2;go_ret2;exact⟨af,0,aa,dy.nil,b7 _,(λ_ _ h=>aG),j.out.2.2.2⟩
   .go_wp2;go_ret2;exact⟨A,c,aa,j.out.1,j.out.2.1,j.out.2.2.1,j.out.2.2.2⟩
end G
end Go.Proofs.YtcmhplknoglbkaaGreat
