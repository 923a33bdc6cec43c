/- Part 8 of the proof of TopConflictsSaid. -/
import Derived.OrdersHeld
import Derived.StillTail
import Derived.RegionTactic
import Derived.Below
import Derived.Shelf.SlSortCmp.NoneTotal
import Derived.RangeFuncNested
import Derived.RangeFuncBound
import Derived.RangeFuncCalls
import Derived.RangeFuncLeaves
import Derived.RangeFuncBox
import Derived.RangeFuncWrites
import Derived.Shelf.Abstract
import Derived.Shelf.RegionOpen
import Derived.OwnWalkIn
import Derived.TacticsInMore
import Derived.LoopNIn
import Derived.LoopIn
import Derived.Maps.AppendAt
import Derived.Lib.SlicesCompact
import Derived.Deep.LoopGhost
import Derived.Test.YtcmhplknoglbkaaGreatQx0
import Derived.Test.YtcmhplknoglbkaaGreatQx3
import Derived.Test.YtcmhplknoglbkaaGreatQx7
set_option linter.all false
set_option maxRecDepth 100000
set_option maxHeartbeats 4000000
open Go.Proofs.Tryz
open Array renaming replicate_succ->pC,replicate_zero->pD
open Bool renaming false->ao,true->az
open Function renaming comp_def->JM
open Go renaming Addr->bQ,Calls->aD,CallsIn->ru,Program->ee,Value->aO,World->aM,bodyPost_ret->dp,callFunc->km,callsIn_of_wp->DR,callsIn_wide->sy,cell_of_one->pH,cell_of_row->fu,free_of_one->WJ,heap_alloc_new->fz,info_parts->u5,maxLen->eh,one_setCell->WL,ownsRow_setCell_other->WM,ready_mono->WN,results_none->Kc,undef->a1,wpIn_wide->x',wpList_append_own_at->Pz
open Go.Builtin renaming len_->agx
open Go.Departure renaming mixedOrders->JQ
open Go.Ending renaming returned->aB
open Go.Exit renaming normal->su,panic->tx
open Go.Fence renaming wide->mx
open Go.Fn renaming func->ed
open Go.Instr renaming lookup->qA
open Go.IntKind renaming i64->R
open Go.KeepsOthers renaming alloc->ax3,of_grownBy->ax4,setCell->ax5
open Go.Obj renaming cells->bl,map->iP
open Go.Operand renaming tmp->bj
open Go.Proofs.AnyE renaming slices_DeleteFunc->ax9
open Go.Proofs.AnyF renaming slices_SortFunc_none->agN
open Go.Proofs.Tryz renaming func338->VL,ntmps338->V7,prog->aw,underlying118->sw,underlying303->Bt,underlying467->Wq,underlying82->hR
open Go.Proofs renaming intOf->cO
open Go.Region renaming Mode->Pn,binds->x5,ready->sx,waitsFor->aiA
open Go.Result renaming ok->a6
open Go.RowKit renaming Hid->aE,run_makeMap->J9
open Go.Sort renaming ahead->J'
open Go.Value renaming agg->av,bool->ai,func->dC,int->J,map->dj,oneCell'->zz,ownBlock->x7,pointer->ax,slice->ae,tuple->bm
open Go.World renaming block_lt_of_cell?->u3,cell?->zA,frozen?->wA,size_alloc->zB
open Go.World.ownsRow renaming lt->wB
open List renaming Nodup->aj2,append_inj'->QG,append_nil->j1,append_toArray->pM,concat_eq_append->aj5,cons_append->oZ,countP_cons->QH,countP_le_length->QI,eq_nil_of_length_eq_zero->j2,eq_nil_or_concat->KG,filter_append->tN,filter_cons->Hf,filter_filter->QK,filter_nil->QM,getElem?_eq_getElem->cC,getElem?_eq_some_iff->e5,getElem?_of_mem->QR,getElem?_take->om,length->vk,length_cons->js,length_filter_le->yq,length_nil->l4,length_singleton->rI,length_take->nJ,mem_append->j3,mem_cons->gF,mem_cons_self->rK,mem_filter->pO,mem_iff_getElem->KI,mem_iff_getElem?->qM,mem_of_getElem?->cY,nil_append->lK,nodup_append->yr,pairwise_and_iff->ake,pairwise_cons->vl,pairwise_iff_getElem->l5,pairwise_map->ys,push_toArray->pP,size_toArray->iG,take_add_one->gg,take_append_drop->o1,take_length->kH,take_of_length_le->tQ
open List.Pairwise renaming filter->aj3
open List.Perm renaming refl->BN
open Nat renaming le_refl->b4,le_trans->ea,lt_or_eq_of_le->QX,zero_add->jt,zero_le->cF
open Option renaming getD_some->vo,none->af,some->ab
open Option.some renaming inj->KM,injEq->wR
open Or renaming inl->bM,inr->b8
namespace Go.Proofs.YtcmhplknoglbkaaGreat
section
section
variable {P:ee} {ops:Array Oper} {Q:Exit->Act->aM->Prop} {md:Pn} {S:aM->Prop} {d:Nat}
def wa(P:ee)(md:Pn)(ops:Array Oper)(Q:Exit->Act->aM->Prop)(S:aM->Prop)(d:Nat):Nat->Array Bool->Act->aM->Prop
 |0,b,a,w=>sx md ops b=[]/\Q su a w
 |e+1,b,a,w=>
  (sx md ops b=[]->Q su a w)/\
  ∀i∈sx md ops b,wpOp P ops Q i (λc w'=>(i≠d->S w')/\wa P md ops Q S d e (b.setIfInBounds i az) c w') a w
def afZ:∀(b) c a w,wa P md ops Q S d b c a w->wpAny P md ops Q b c a w
 |0,_,_,_,h=>h
 |b+1,_,_,_,h=>⟨h.1,λi hi=>wpOp_mono (λe w' f=>afZ b _ e w' f.2) (h.2 i hi)⟩
def awH {i oi v} (hi:ops[i]?=ab oi) (u:∀(j:Nat) o cs b,ops[j]?=ab o->o.op≠.select cs b)
 (hd:aiA md ops d i=az) (EJ:∀c a w,Q (tx c) (a.put oi.dst v) w->Q (tx c) a w):
 ∀(n) f a w,
  (∀j g,ops[j]?=ab g->j≠i->f.getD j az=ao->(∀e∈g.after,x5 md e=az->e.on≠i)->oi.apart ops g=az)->
  i∈sx md ops f->YieldsIf P ops S oi v a->S w->
  wa P md ops Q S d n (f.setIfInBounds i az) (a.put oi.dst v) w->wa P md ops Q S d (n+1) f a w:=by
 intro n;induction n with
 |zero=>
  intro f a w _ hr r p m;refine⟨λh=>aF,λj q=>?_⟩;by_cases l:j=i;·subst l;exact r.wpOp hi p ⟨λ_=>p,m⟩
  .have:=WN q l;rw[m.1]at this;cases this
 |succ n G=>
  intro f a w t hr r p m;refine⟨λh=>aF,λj q=>?_⟩;by_cases l:j=i;·subst l;exact r.wpOp hi p ⟨λ_=>p,m⟩
  .have h1:=m.2 j (WN q l);obtain⟨y,g,s,hall⟩:=mem_ready.1 q;have A:∀e∈g.after,x5 md e=az->e.on≠i:=λe C hb D=>by grind[mem_ready]
   have F:j≠d:=by grind[Region.waitsFor_spec]
   have B:=wpOp_putIf s (t j g s l y A) (λcs b=>u i oi cs b hi) (λcs b=>u j g cs b s) EJ r h1
   have E:∀k ok,ops[k]?=ab ok->k≠i->(f.setIfInBounds j az).getD k az=ao->
    (∀e∈ok.after,x5 md e=az->e.on≠i)->oi.apart ops ok=true:=λk ok hk z x hno=>by
    refine t k ok hk z ?_ hno;by_cases hjk:j=k;·grind
    .rw[getD_set_ne az hjk]at x;exact x
   grind[wpOp_mono,WN,Array.setIfInBounds_comm]
def Bc {i oi v e b a w} (hi:ops[i]?=ab oi)
 (hs:Region.noSelect ops=az) (hf:Region.free md ops b i=az) (hr:(sx md ops b).contains i=az) (hd:aiA md ops d i=az)
 (EJ:∀c a w,Q (tx c) (a.put oi.dst v) w->Q (tx c) a w) (hy:YieldsIf P ops S oi v a) (hS:S w)
 (h:wa P md ops Q S d e (b.setIfInBounds i az) (a.put oi.dst v) w):wa P md ops Q S d (e+1) b a w:=
 awH hi (Region.noSelect_spec hs) hd EJ e b a w (Region.free_spec hi hf) aF hy hS h
def pA(P:ee)(md:Pn)(ops:Array Oper)(Q:Exit->Act->aM->Prop)(S:aM->Prop)(d:Nat)(c:Nat)(e:Array Bool)(a:Act)(w:aM)(rs:List Nat):Prop:=
 ∀i∈rs,wpOp P ops Q i (λb w'=>(i≠d->S w')/\wa P md ops Q S d c (e.setIfInBounds i az) b w') a w
theorem pA.nil{b c a w}:pA P md ops Q S d b c a w []:=λ_ h=>by grind
def pA.cons {c f a w i o rs} (ho:ops[i]?=ab o) (m:Region.wanted o (yielded ops a.tmps)=az)
 (h:∀b:Act->aM->Prop,aE (∀a w,(i≠d->S w)->wa P md ops Q S d c (f.setIfInBounds i az) a w->b a w)->Oper.wp P o a w b Q)
 (hs:pA P md ops Q S d c f a w rs):pA P md ops Q S d c f a w (i::rs):=λj e=>by
 rcases gF.1 e with rfl|e;·refine wpOp_step ho (λb g=>?_);rw[if_pos m];exact h b (λa w k l=>g a w ⟨k,l⟩)
 .exact hs j e
def Jr {rs c b a w} (hr:sx md ops b=rs) (hne:rs≠[])
 (h:pA P md ops Q S d c b a w rs):wa P md ops Q S d (c+1) b a w:=⟨λe=>absurd (hr▸e) hne,hr▸h⟩
def awG{b a w}(hr:sx md ops b=[])(h:Q su a w):∀c,wa P md ops Q S d c b a w
 |0=>⟨hr,h⟩
 |_+1=>⟨λ_=>h,aF⟩
def awN {id a w} (c:P.follows JQ=az) d S (b:S w.drew)
 (h:S w.drew->wa P .any ops Q S d ops.size (Array.replicate ops.size ao) a w.drew):(Code.region id ops az).wp P Q a w:=
 wp_region_any c (afZ _ _ _ _ (h b))
end
end
open Go.RowKit Go.MapKept
def aqC:(aw.info? 413).map (λi=>(i.zero,i.size,i.bytes))=ab (ab (av #[J R 0,J R 0,J R 0]),3,24):=ay
def aom{l:List (Int×Int)}{k e}(hk:l[k]?=ab e)(h:∀x∈l.take k,et x/\0<x.2)(a:et e/\0<e.2):∀x∈l.take (k+1),et x/\0<x.2:=by grind[gg]
def adR{F w w'}{base e size:Nat}{v m xs}(h:w.ownsRow base e size v m xs)(k:au F w w')(hn:∀i,v.ownBlock=ab i->¬F i):w'.ownsRow base e size v m xs:=by
 refine⟨h.1,?_⟩;rcases h.2 with h2|⟨g,cap,cur,rfl,hb,hh,r⟩;·grind
 .exact b8 ⟨g,_,_,aa,hb,k.heap hh (hn g aa),r⟩
def adQ{w:aM}{base e n:Nat}{v xs}(h:w.ownsRow base e 3 v n xs):∃A c,v=ae A n c:=by
 rcases h.2 with⟨rfl,rfl⟩|⟨g,cap,cur,rfl,_⟩;·simp
 .simp
def ZA:∀(t) k,(w6 k t).Pairwise (λx y=>x.2<y.2)
 |[],_=>.nil
 |e::t,k=>by
  refine vl.2 ⟨λy a=>?_,ZA t (k+1)⟩;obtain⟨i,hi⟩:=qM.1 a;rw[RQ]at hi;cases he:t[i]? with
  |none=>rw[he]at hi;cases hi
  |some b=>
   rw[he]at hi;simp only[Option.map_some,wR]at hi;subst hi;show(k:Int)<((k+1+i:Nat):Int);omega
def anB l:(iH l).Nodup:=(ZA l 0).imp (λh e=>aF)
def ads{l}{k:Nat}{e}(hk:l[k]?=ab e)(h:¬(et e/\0<e.2)):¬∃S,S.Perm (iH l)/\jW S:=by rintro⟨S,hp,hg⟩;have a:(e,(k:Int))∈S:=hp.mem_iff.2 (AP.2 ⟨k,hk,aa⟩);exact h (hg.2 _ a)
def aol{S}(c:S.Pairwise (λx y=>x.1.1<=y.1.1))(hv:∀x∈S,et x.1/\0<x.1.2)(h:∀i x y,S[i]?=ab x->S[i+1]?=ab y->x.1.1+x.1.2<=y.1.1):jW S:=by
 refine⟨l5.2 λi j hi b a=>?_,hv⟩;have h1:=h i S[i] S[i+1] (cC hi) (cC ad);rcases QX (show i+1<=j from a)with hlt|e;·have d:=l5.1 c (i+1) j ad b hlt;omega
 .grind
def asc{l}{c:List kj}(d:c.Perm (iH l))(q:c.Pairwise (λx y=>x.1.1<=y.1.1)){i x y}(hx:c[i]?=ab x)(g:c[i+1]?=ab y)(hlt:y.1.1<x.1.1+x.1.2):¬∃S,S.Perm (iH l)/\jW S:=by
 rintro⟨S,hp,hg⟩;have p:c.Nodup:=d.nodup_iff.2 (anB l);obtain⟨hi,r⟩:=e5.1 hx;obtain⟨o,s⟩:=e5.1 g;have hne:x≠y:=by grind[l5]
 have hle:x.1.1<=y.1.1:=by grind[l5]
 have m:x∈S:=(d.trans hp.symm).mem_iff.1 (cY hx);have j:y∈S:=(d.trans hp.symm).mem_iff.1 (cY g);obtain⟨a,e,f⟩:=KI.1 m;obtain⟨b,hb,k⟩:=KI.1 j;have n:=(hg.2 y j).2;rcases Nat.lt_trichotomy a b with h|h|h;·have:=l5.1 hg.1 a b e hb h;rw[f,k]at this;omega
 .grind
 .have:=l5.1 hg.1 b a hb e h;rw[f,k]at this;omega
def ar7{w:aM}{b x y z t}(h:w.heap[b]?=ab (bl #[x,y,z] t (0,0))):∀j u,[x,y,z][j]?=ab u->w.cell? ((⟨b,0,af⟩:bQ).add j)=ab u:=by grind[Addr.add,zA]
def avz A c f w:aD aw 307 #[ae A 0 c,f] w λe w'=>e=aB (bm #[])/\w'=w:=agN Tryz.ac1 A c f w
section
attribute [local go_sem] Oper.semAt_some
abbrev Part:=Int×(Int×Int)
def parts(e:Int×Int)(S:List kj):List Part:=(S.filter (λx=>meets x.1 e)).map (λx=>(x.2,kR x.1 e))
def ad3{e}{S:List kj}{k x}(hx:S[k]?=ab x)(h:meets x.1 e=az):parts e (S.take (k+1))=parts e (S.take k)++[(x.2,kR x.1 e)]:=by grind[gg,parts]
theorem ad0{e S}(h:∀x∈S,meets x.1 e=ao):parts e S=[]:=by grind[parts,List.filter_eq_nil_iff]
def atc{e S k}(h:∀i x,k<=i->S[i]?=ab x->meets x.1 e=ao):parts e (S.take k)=parts e S:=by
 have h1:parts e S=parts e (S.take k)++parts e (S.drop k):=by grind[parts,o1]
 grind[ad0,qM]
def atb{c d S k}(h:IsCut S.length (uJ S c) k):parts (c,d) (S.take k)=[]:=by
 refine ad0 (λx hx=>?_);obtain⟨i,hi⟩:=qM.1 hx;rw[om]at hi;split at hi;·rename_i hik;have:=h.before hi hik;grind[meets]
 .grind
def ad1{c d S k x}(a:jW S)(hk:c<x.1.1+x.1.2)(hx:S[k]?=ab x)(e:meets x.1 (c,d)=ao):parts (c,d) (S.take k)=parts (c,d) S:=by
 refine atc (λi y hi b=>?_);have f:=(a.at hx).2;simp only[meets,decide_eq_false_iff_not]at e⊢;rcases QX hi with h|h;·have h1:=a.lt hx b h;have g:=(a.at b).2;omega
 grind
def adZ{e}{S:List kj}{k x}(hx:S[k]?=ab x):(parts e (S.take k)).length<S.length:=by grind[parts]
def ad2 e S k:parts e (S.take k)<+:parts e S:=by grind[parts]
def afG{e:Ending}{A B}(h:(e=aB (ai az)/\A)\/(e=aB (ai ao)/\B)):∃a,e=aB (ai a)/\(a=az->A)/\(a=ao->B):=aF
def aoq{w w'}(h:ar w w'):w.grownBy w' none:=⟨h.1,h.2,h.3,h.4,λk hk _=>h.5 k hk (λh=>h)⟩
set_option maxHeartbeats 4000000 in
def asQ n (hn:1<=n) jb (l O C p) S (c d) (rY:et (c,d)) (hS:jW S) (D vf:List Part->aM->Prop)
 (As:∀pre x W,D pre W->pre.length<S.length->YieldAt mx (n -1) aw l #[J R x.1,av #[J R x.2.1,J R x.2.2]] W λe a=>(e=aB (ai az)/\D (pre++[x]) a/\au jb W a)\/(e=aB (ai ao)/\vf (pre++[x]) a))
 W (qW:∀pre hW eE,D pre hW->ar hW eE->D pre eE)
 (gT:aE (∀a,au jb W a->oj a p S/\a.cell? ⟨O,0,af⟩=ab (ax (ab ⟨p,0,af⟩))/\a.cell? ⟨C,0,af⟩=ab (J R c)/\a.cell? ⟨C,1,af⟩=ab (J R d))) (h0:D [] W):
 ru mx n aw 309 #[dC (.yield l) #[] #[],ax (ab ⟨O,0,af⟩),ax (ab ⟨C,0,af⟩)] W λe a=>(∃v,e=aB v)/\(D (parts (c,d) S) a\/∃pre,pre<+:parts (c,d) S/\vf pre a):=by
 have pL:=hid As;have K:=hid qW;have T:=hid (And.intro hS rY);have rz:=hid h0;have azV:aw.follows JQ=true:=ay;obtain⟨E,z,fH,lC⟩:=gT.out W (au.refl _ _);have hlen:=E;obtain⟨_,_,_,_,hl⟩:=hlen;have X:=hid (akE p S c W E hS);clear E As qW hS rY h0;refine DR Tryz.func309 aa trivial ?_ aa;simp only[ntmps309,iG,js,l4,pC,pD,pP,pM,lK,oZ];gi_wp2_with (first|(refine⟨trivial,?_⟩;gi_at_call 310;have f:=sy (n:=n -1).2 X.out;with_reducible refine f.mono ?_;clear f;rintro e w1 ⟨k,rfl,V,hg1⟩)|(gi_at_call 310;have f:=(callsIn_wide (n:=n -1)).2 X.out;with_reducible refine f.mono ?_;clear f;rintro e w1 ⟨k,rfl,V,hg1⟩));have P:=hid (And.intro V hg1);have apm:=V.1;clear V hg1 X z fH lC;gi_loopw [4] (λi wr=>∃z:Nat,z<=S.length/\k<=z/\i=J R z/\aE (D (parts (c,d) (S.take z)) wr/\au jb W wr)) (λi _=>S.length -(cO i).toNat);case atStart=>exact⟨k,apm,b4 _,aa,hid ⟨by rw[atb P.out.1];exact K.out _ _ _ rz.out P.out.2,P.out.2.mono (λ_ _ h=>h.elim)⟩⟩
 case round=>
  obtain⟨q,hq,abk,rfl,w⟩:=hrel;obtain⟨E,z,fH,lC⟩:=gT.out wr w.out.2;have Q:=hid E;by_cases hlt:q<S.length
  .have hb0:(q:Int)<(S.length:Int):=ad;obtain⟨x,hx⟩:∃x,S[q]?=ab x:=⟨_,cC hlt⟩;obtain⟨b,o,o6,fS,fD,iM,ql⟩:=E.at hx;have U:=hid (And.intro hx (And.intro (P.out.1.behind hx abk) (T.out.1.at hx)));obtain⟨⟨df,br⟩,lh⟩:=x;simp only at fD iM ql
   have y:aE (∀w',ar wr w'->w'.cell? ⟨O,0,af⟩=ab (ax (ab ⟨p,0,af⟩))/\w'.cell? ⟨C,0,af⟩=ab (J R c)/\w'.cell? ⟨C,1,af⟩=ab (J R d)/\w'.cell? ⟨p,0,af⟩=ab (ae (ab ⟨b,o,af⟩) S.length o6)/\w'.cell? ⟨b,o+q*3,af⟩=ab (J R df)/\w'.cell? ⟨b,o+q*3+1,af⟩=ab (J R br)/\w'.cell? ⟨b,o+q*3+2,af⟩=ab (J R lh)):=
    hid (λw' h=>⟨h.cell z (λh=>h),h.cell fH (λh=>h),h.cell lC (λh=>h),h.cell fS (λh=>h),h.cell fD (λh=>h),h.cell iM (λh=>h),h.cell ql (λh=>h)⟩)
   have M:aE (∀w1 B u v,ar wr w1->wr.heap.size<=B->ar wr ((w1.setCell ⟨B,0,af⟩ u).setCell ⟨B,1,af⟩ v)):=hid (λw1 B u v h kd=>by have q:=(h.mono (G:=λi=>i=B) (λ_ _ h=>h.elim)).trans ((au.setCell (F:=λi=>i=B) w1 (p:=⟨B,0,af⟩) aa u).trans (au.setCell (F:=λi=>i=B) _ (p:=⟨B,1,af⟩) aa v) (λ_ _ h=>h)) (λ_ _ h=>h);exact q.mono (λi hi h=>ad))
   have Y:aE (∀w',ar (wr.drew.alloc (bl #[J R 0,J R 0] 35)) w'->w'.frozen? ⟨wr.heap.size,0,af⟩=ao/\w'.frozen? ⟨wr.heap.size,1,af⟩=ao/\w'.cell? ⟨wr.heap.size,0,af⟩=ab (J R 0)/\w'.cell? ⟨wr.heap.size,1,af⟩=ab (J R 0)):=hid (λw' hw'=>by have g4:=hw'.heap (fz wr.drew (bl #[J R 0,J R 0] 35)) (λh=>h);have g5:w'.heap[wr.heap.size]?=ab (bl #[J R 0,J R 0] 35 (0,0)):=g4;grind[wA,zA]);have er:aE (∀a,aD aw 202 #[av #[J R df,J R br],av #[J R c,J R d]] a λe w'=>e=aB (bm #[gI (kR (df,br) (c,d)),ai (meets (df,br) (c,d))])/\ar a w'):=hid (λa=>M6 df br c d a U.out.2.2.1 T.out.2);have bR:aE (∀fB g,kR (df,br) (c,d)=(fB,g)->∀T6:Nat,T6=q->True):=hid (λ_ _ _ _ _=>trivial);have H:aE (S[q]?=ab ((df,br),lh)):=hid U.out.1;obtain⟨m,hm⟩:∃m:Bool,meets (df,br) (c,d)=m:=⟨_,aa⟩;obtain⟨fB,g,ei⟩:∃fB g:Int,kR (df,br) (c,d)=(fB,g):=⟨_,_,aa⟩;have t:=hid (And.intro hm ei)
   have Qe:aE (∀a,aD aw 202 #[av #[J R df,J R br],av #[J R c,J R d]] a λe w'=>e=aB (bm #[av #[J R fB,J R g],ai m])/\ar a w'):=hid (λa=>by have h:=er.out a;rw[hm,ei]at h;exact h);clear hx E hm ei er bR fS fD iM ql;gi_wp2_with (first|(refine⟨trivial,?_⟩;gi_at_call 311;have f:=sy (n:=n -1).2 (xv p S wr Q.out);with_reducible refine f.mono ?_;clear f;rintro e aW ⟨rfl,rfl⟩)|(gi_at_call 311;have f:=(callsIn_wide (n:=n -1)).2 (xv p S wr Q.out);with_reducible refine f.mono ?_;clear f;rintro e aW ⟨rfl,rfl⟩));refine x'.2 ?_
   go_region_held3 (λw'=>w'.cell? ⟨O,0,af⟩=ab (ax (ab ⟨p,0,af⟩))/\w'.cell? ⟨C,0,af⟩=ab (J R c)/\w'.cell? ⟨C,1,af⟩=ab (J R d)/\w'.cell? ⟨p,0,af⟩=ab (ae (ab ⟨b,o,af⟩) S.length o6)/\w'.cell? ⟨b,o+q*3,af⟩=ab (J R df)/\w'.cell? ⟨b,o+q*3+1,af⟩=ab (J R br)/\w'.cell? ⟨b,o+q*3+2,af⟩=ab (J R lh))
    (first
      |exact y.out _ (au.drew _)
      |exact y.out _ s
      |exact y.out _ (ar.trans (au.drew _) (au.alloc _ _))
      |exact y.out _ (ar.trans s (au.alloc _ _))
      |exact y.out _ (M.out _ _ _ _ s (b4 _))
      |exact y.out _ (M.out _ _ _ _ (ar.trans s (au.alloc _ _)) s.size))
    (first
      |(go_at_call 202;refine(Qe.out _).mono ?_;rintro e A ⟨rfl,ha0⟩;(have s:ar wr A:=(by first|exact ar.trans (au.drew _) ha0|exact ar.trans (ar.trans (au.drew _) (au.alloc _ _)) ha0));(try(have hz:=Y.out _ ha0;obtain⟨f',z2,z3,z4⟩:=hz))))
   .have N:=yB A (J R fB) (J R g) 35;have j:=hid (ar.trans s (au.alloc (F:=λ_=>False) A (bl #[J R fB,J R g] 35)));have I:=hid N;clear N ha0 s M Y Qe;generalize A.alloc (bl #[J R fB,J R g] 35)=r at*;generalize A.heap.size=B at*;cases m with
    |false=>
     gi_wp2_with fail;refine x'.2 ?_;go_quiet (fail);gi_wp2;refine dp (Kc aa _ _ _) aa ?_;refine⟨⟨_,aa⟩,bM ?_⟩;have h:=ad1 T.out.1 U.out.2.1 H.out t.out.1;rw[<-h];exact K.out _ _ _ w.out.1 (ar.trans j.out (au.drewN _ _))
    |true=>
     obtain⟨fn,tmps,assign,body,hy,fo⟩:=pL.out (parts (c,d) (S.take q)) (lh,(fB,g)) r.drew (K.out _ _ _ w.out.1 (ar.trans j.out (au.drew _))) (adZ H.out);dsimp only at hy;obtain⟨mN,bF,da,hD,oO,Og,Oh⟩:=y.out _ (ar.trans j.out (au.drew _));have Dq:r.drew.cell? ⟨B,0,af⟩=ab (J R fB):=I.out.1;have Oi:r.drew.cell? ⟨B,1,af⟩=ab (J R g):=I.out.2;have L:=hid (ad3 H.out t.out.1);have Z:aE (au jb W r.drew):=hid (w.out.2.trans ((ar.trans j.out (au.drew _)).mono (λ_ _ h=>h.elim)) (λ_ _ h=>h));gi_wp2_with fail;gi_region_with_o (refine fo.mono ?_;intro e BW hp;obtain⟨pW,rfl,SZ,Ik⟩:=afG hp)
     all_goals
      cases pW with
      |true=>
       gi_wp2;go_roundw
       case rel=>
        have h:=SZ aa;refine⟨q+1,ad,ad,a8,hid ⟨?_,Z.out.trans h.2 (λ_ _ h=>h)⟩⟩;rw[L.out,t.out.2];exact h.1
       case measure=>simp[cO];omega
      |false=>
       gi_wp2;refine dp (Kc aa _ _ _) aa ?_;refine⟨⟨_,aa⟩,b8 ⟨_,?_,Ik (by first|rfl|trivial)⟩⟩;have h:=ad2 (c,d) S (q+1);rw[L.out,t.out.2]at h;exact h
   .have N:=Uq A wr.heap.size (J R 0) (J R 0) (J R fB) (J R g) z3 z4;have j:=hid (M.out A wr.heap.size (J R fB) (J R g) s (b4 _));have I:=hid N;clear N ha0 s f' z2 z3 z4 M Y Qe;generalize (A.setCell ⟨wr.heap.size,0,af⟩ (J R fB)).setCell ⟨wr.heap.size,1,af⟩ (J R g)=r at*;generalize wr.heap.size=B at*;cases m with
    |false=>
     gi_wp2_with fail;refine x'.2 ?_;go_quiet (fail);gi_wp2;refine dp (Kc aa _ _ _) aa ?_;refine⟨⟨_,aa⟩,bM ?_⟩;have h:=ad1 T.out.1 U.out.2.1 H.out t.out.1;rw[<-h];exact K.out _ _ _ w.out.1 (ar.trans j.out (au.drewN _ _))
    |true=>
     obtain⟨fn,tmps,assign,body,hy,fo⟩:=pL.out (parts (c,d) (S.take q)) (lh,(fB,g)) r.drew (K.out _ _ _ w.out.1 (ar.trans j.out (au.drew _))) (adZ H.out);dsimp only at hy;obtain⟨mN,bF,da,hD,oO,Og,Oh⟩:=y.out _ (ar.trans j.out (au.drew _));have Dq:r.drew.cell? ⟨B,0,af⟩=ab (J R fB):=I.out.1;have Oi:r.drew.cell? ⟨B,1,af⟩=ab (J R g):=I.out.2;have L:=hid (ad3 H.out t.out.1);have Z:aE (au jb W r.drew):=hid (w.out.2.trans ((ar.trans j.out (au.drew _)).mono (λ_ _ h=>h.elim)) (λ_ _ h=>h));gi_wp2_with fail;gi_region_with_o (refine fo.mono ?_;intro e BW hp;obtain⟨pW,rfl,SZ,Ik⟩:=afG hp)
     all_goals
      cases pW with
      |true=>
       gi_wp2;go_roundw
       case rel=>
        have h:=SZ aa;refine⟨q+1,ad,ad,a8,hid ⟨?_,Z.out.trans h.2 (λ_ _ h=>h)⟩⟩;rw[L.out,t.out.2];exact h.1
       case measure=>simp[cO];omega
      |false=>
       gi_wp2;refine dp (Kc aa _ _ _) aa ?_;refine⟨⟨_,aa⟩,b8 ⟨_,?_,Ik (by first|rfl|trivial)⟩⟩;have h:=ad2 (c,d) S (q+1);rw[L.out,t.out.2]at h;exact h
  .obtain rfl:q=S.length:=ad;gi_wp2_with (first|(refine⟨trivial,?_⟩;gi_at_call 311;have f:=sy (n:=n -1).2 (xv p S wr Q.out);with_reducible refine f.mono ?_;clear f;rintro e aW ⟨rfl,rfl⟩)|(gi_at_call 311;have f:=(callsIn_wide (n:=n -1)).2 (xv p S wr Q.out);with_reducible refine f.mono ?_;clear f;rintro e aW ⟨rfl,rfl⟩));go_end0;exact⟨⟨_,aa⟩,bM (by have h:=w.out.1;rw[kH]at h;exact h)⟩
def asR n q(c d)w:
 ru mx n aw 252 #[ax q,av #[J R c,J R d]] w λe w'=>e=aB (dC (ed 309) #[] #[ax (ab ⟨w.heap.size,0,af⟩),ax (ab ⟨w.heap.size+1,0,af⟩)])/\w'=(w.alloc (bl #[ax q] 295)).alloc (bl #[J R c,J R d] 35):=by
 refine DR func252 aa trivial ?_ aa;simp only[ntmps252,iG,js,l4,pC,pD,pP,pM,lK,oZ];gi_wp2;go_ret;exact⟨aa,aa⟩
theorem aq5{w w' jb p S}(h:oj w p S)(k:au jb w w')(a:∀i,i<w.heap.size->¬jb i):oj w' p S:=
 h.aG (k.mono (λi hi h=>(a i hi h).elim))
def asu{jb A B C}(h:au jb A B)(k:au jb B C):au jb A C:=h.trans k (λ_ _ h=>h)
def ast{jb s}(a:∀i,s<=i->jb i)W l(o o')(b:s<=l)(_:W.heap[l]?=ab o)(_:o.isCells=ao)(_:o.isWalk=ao):au jb W (W.putObj l o'):=by have g:=grownBy_putObj' W l o';exact⟨g.1,g.2,g.3,g.4,λk hk hn=>g.5 k hk (λe=>aF)⟩
def asT n (hn:1<=n) jb (i f p) S (c d) (v:et (c,d)) (u:jW S) w
 (gT:aE (∀a,au jb w a->oj a p S/\a.cell? ⟨i,0,af⟩=ab (ax (ab ⟨p,0,af⟩))/\a.cell? ⟨f,0,af⟩=ab (J R c)/\a.cell? ⟨f,1,af⟩=ab (J R d))):
 SeqStopsK mx n aw 309 #[ax (ab ⟨i,0,af⟩),ax (ab ⟨f,0,af⟩)] (λx:Part=>#[J R x.1,av #[J R x.2.1,J R x.2.2]]) (au jb) (λct=>ct=parts (c,d) S) (λpre=>pre<+:parts (c,d) S) S.length w:=λl j m W b t _ y s=>by
 have z:ar w W:=⟨b.os,b.tape,b.output,b.size,λk hk _=>b.block k hk⟩;refine(asQ n hn jb l i f p S c d v u j m y W (λpre o q h g=>t pre o q af h (aoq g) (λr e=>aF)) (hid (λa h=>gT.out a ((z.mono (λ_ _ h=>h.elim)).trans h (λ_ _ h=>h)))) s).mono ?_;simp
end
section
open Go.RowKit Go.MapKept Go.Shelf Go.Maps
attribute [local go_sem] Oper.semAt_some
def Tf:(aw.info? 3).map (λi=>(i.zero,i.size,i.bytes))=ab (ab (J R 0),1,8):=ay
def OR(w aq:aM)(v:aO)(t:TypeId)(q:Option bQ)(c d:Int):Prop:=
 ar w aq/\aq.heap.size=w.heap.size+4/\aq.heap[w.heap.size+1]?=ab (bl #[v] t (0,0))/\aq.cell? ⟨w.heap.size+2,0,af⟩=ab (ax q)/\aq.cell? ⟨w.heap.size+3,0,af⟩=ab (J R c)/\aq.cell? ⟨w.heap.size+3,1,af⟩=ab (J R d)
def aoc w v t q(c d)aq(e:aq=(((w.alloc (bl #[J R c,J R d] 35)).alloc (bl #[v] t)).alloc (bl #[ax q] 295)).alloc (bl #[J R c,J R d] 35)):
 OR w aq v t q c d:=by
 subst e;have g2:=fz (w.alloc (bl #[J R c,J R d] 35)) (bl #[v] t);have b:=fz ((w.alloc (bl #[J R c,J R d] 35)).alloc (bl #[v] t)) (bl #[ax q] 295);have a:=fz (((w.alloc (bl #[J R c,J R d] 35)).alloc (bl #[v] t)).alloc (bl #[ax q] 295)) (bl #[J R c,J R d] 35);simp only[zB]at g2 b a;refine⟨ar.trans (ar.trans (ar.trans (au.alloc _ _) (au.alloc _ _)) (au.alloc _ _)) (au.alloc _ _),a8,(ar.trans (au.alloc _ _) (au.alloc _ _)).heap g2 (λh=>h),(au.alloc (F:=λ_=>False) _ _).cell (pH b) (λh=>h),?_,?_⟩;·exact fu _ _ 0 _ _ _ a
 .exact fu _ _ 1 _ _ _ a
theorem adP{w:aM}{base e size:Nat}{v m xs}(h:w.ownsRow base e size v m xs){j o}(a:v.ownBlock=ab j)(ho:w.heap[j]?=ab o):o.isCells=true:=by
 rcases h.2 with⟨rfl,_⟩|⟨g,cap,cur,rfl,_,hh,_⟩;·cases a
 .have hj':g=j:=by grind[x7]
  subst hj';rw[hh]at ho;cases ho;rfl
def as1{w w':aM}{base e size:Nat}{v m xs row}(h:w.ownsRow base e size v m xs)(g:w.grownBy w' row)(hr:∀r,row=ab r->∃o,w.heap[r]?=ab o/\o.isCells=ao):w'.ownsRow base e size v m xs:=by refine adR h (au.of_grownBy (F:=λi=>row=ab i) g (λk hk=>bM hk)) (λi hi a=>?_);grind[adP]
def zd{w:aM}{base a e size:Nat}{v m xs}(h:w.ownsRow base e size v m xs)(hb:a<=base):w.ownsRow a e size v m xs:=by
 refine⟨h.1,?_⟩;rcases h.2 with h2|⟨g,cap,cur,h3,h4,h5⟩;·grind
 .exact b8 ⟨g,_,_,h3,ea hb h4,h5⟩
def jb(s:Nat)(i:Nat):Prop:=i=s+1\/s+4<=i
def adY e S:(parts e S).length<=S.length:=by grind[parts]
def aoe{w aq p S c d v t}(m:oj w p S)(b:OR w aq v t (ab ⟨p,0,af⟩) c d):
 ∀a,au (jb w.heap.size) aq a->oj a p S/\a.cell? ⟨w.heap.size+1+1,0,af⟩=ab (ax (ab ⟨p,0,af⟩))/\a.cell? ⟨w.heap.size+1+1+1,0,af⟩=ab (J R c)/\a.cell? ⟨w.heap.size+1+1+1,1,af⟩=ab (J R d):=λa h=>by
 obtain⟨e,j,k,f,g,i⟩:=b;refine⟨?_,h.cell f (by grind[jb]),h.cell g (by grind[jb]),h.cell i (by grind[jb])⟩;have l:au (jb w.heap.size) w a:=(e.mono (λ_ _ h=>h.elim)).trans h (λ_ _ h=>h);grind[aq5,jb]
def ZX{w aq:aM}(a:aq.heap.size=w.heap.size+4):∀(W) l (o o'),aq.heap.size<=l->W.heap[l]?=ab o->o.isCells=ao->o.isWalk=ao->au (jb w.heap.size) W (W.putObj l o'):=
 ast (λi hi=>b8 ad)
def aod{w aq W}(g:ar w aq)(h:au (jb w.heap.size) aq W):ar w W:=
 ((g.mono (G:=jb w.heap.size) (λ_ _ h=>h.elim)).trans h (λ_ _ h=>h)).mono (λi hi h=>by grind[jb])
set_option maxHeartbeats 2000000 in
def arQ n (hn:3<=n) q ps N (B:N<=1048576) (c d) w
 (kc:aE (∀aq:aM,OR w aq (ae af 0 0) 82 q c d->SeqStopsK mx (n -1) aw 309 #[ax (ab ⟨w.heap.size+1+1,0,af⟩),ax (ab ⟨w.heap.size+1+1+1,0,af⟩)] (λx:Part=>#[J R x.1,av #[J R x.2.1,J R x.2.2]]) (au (jb w.heap.size)) (λct=>ct=ps) (λpre=>pre<+:ps) N aq)):
 ru mx n aw 181 #[ax q,av #[J R c,J R d]] w λe s=>∃v,e=aB v/\s.ownsRow w.heap.size 3 1 v ps.length (ps.map (λx=>J R x.1))/\ar w s:=by
 have h1:1<=n:=ad;have O:1<=n -1:=ad;obtain⟨I,hi,hz0,hz1,hz2⟩:=u5 Tf;have g:=hid (And.intro hi (And.intro hz0 (And.intro hz1 hz2)));clear hi hz0 hz1 hz2;refine callsIn_of_wp_marks func181 aa trivial ?_ aa;simp only[ntmps181,iG,js,l4,pC,pD,pP,pM,lK,oZ];gi_wp2_with (refine⟨trivial,?_⟩;gi_at_call 252;refine(asR _ _ _ _ _).mono ?_;rintro e w' ⟨rfl,rfl⟩);obtain⟨aq,u⟩:∃aq,aq=(((w.alloc (bl #[J R c,J R d] 35)).alloc (bl #[ae af 0 0] 82)).alloc (bl #[ax q] 295)).alloc (bl #[J R c,J R d] 35):=⟨_,aa⟩;have m:=hid (aoc w _ _ _ c d aq u);rw[<-u];clear u;have hsz:=m.out.2.1;have G:aE (N<=1048576):=hid B;clear B;have E:aE ((aq.heap[w.heap.size+1]?=ab (bl #[ae af 0 0] 82 (0,0)))):=hid m.out.2.2.1
 refine wpIn_rangeFunc_ownG aa h1 (gf:=309) (lb:=_) aa trivial (enters_of Tryz.func309 ay aa)
  (kc.out aq m.out) asu (ZX hsz) (Below.refl _ _) (λ_=>aa)
  (λpre W=>(∃v,W.heap[w.heap.size+1]?=ab (bl #[v] 82 (0,0))/\W.ownsRow (w.heap.size+4) 3 1 v pre.length (pre.map (λx=>J R x.1)))/\au (jb w.heap.size) aq W)
  (λ_ _ _=>False)
  (λpre W s row z C hr=>by obtain⟨⟨v,hh,hrow⟩,a⟩:=z;have ho:au (λi=>aq.heap.size<=i) W s:=au.of_grownBy C (λk hk=>bM (hr k hk).1);exact⟨⟨v,ho.heap hh ad,as1 hrow C (λr e=>(hr r e).2)⟩,a.trans ho (λi _ h=>b8 ad)⟩)
  (λ_ _ _ _ _ z _ _=>z)
  ⟨⟨_,E.out,World.ownsRow_nil _ _ _ _⟩,au.refl _ _⟩
  (λx=>{tmps:=#[ax q,av #[J R c,J R d],a1,ax (ab ⟨w.heap.size,0,af⟩),ae af 0 0,ax (ab ⟨w.heap.size+1,0,af⟩),J R x.1,ax q,av #[J R c,J R d],dC (ed 309) #[] #[ax (ab ⟨w.heap.size+1+1,0,af⟩),ax (ab ⟨w.heap.size+1+1+1,0,af⟩)],J R x.1,av #[J R x.2.1,J R x.2.2],a1,a1,a1,a1,a1],defers:=[]}) ?assign ?body ?done ?stop
 case assign=>
  intro l x W K f;gi_wp2;exact f
 case body=>
  rintro l pre x W ⟨⟨v,hh,hrow⟩,a⟩ hlt;have hc:=pH hh;have b:=hid (And.intro hh (And.intro hrow a));have Q:w.heap.size+4<=W.heap.size:=by have:=a.size;omega
  have A:=hid (And.intro hlt G.out);clear hh hrow a;gi_wp2_with (gi_at_builtin;refine wpListIn_append_own _ aa _ _ 82 aa (w.heap.size+4) 3 I (J R 0) 1 8 hR g.out.1 g.out.2.1 g.out.2.2.1 g.out.2.2.2 aa bf _ _ _ aa (b.out.2.1.alloc _) ⟨W.heap.size,0,af⟩ 1 1 [J R x.1] aa aa (cell_one_new _ _ _) (by simp[zz]) (by have:=A.out;unfold eh;omega) (by have:=A.out;omega) (by simp;omega) ?_;intro v' w1 hown' hgrow _;obtain⟨M,L,rfl⟩:=ownsRow_succ hown';(have t:aE (au (λi=>w.heap.size+4<=i) W w1):=hid ((au.alloc W _).trans (au.of_grownBy (F:=λi=>w.heap.size+4<=i) hgrow (λk hk=>bM (wB b.out.2.1 k hk).1)) (λ_ _ h=>h)));(have y:=t.out.heap b.out.1 ad);have hc1:=pH y;have P:=WJ y);refine⟨(((ax3 W _).trans (ax4 hgrow (λj o e ho=>adP (b.out.2.1.alloc _) e ho))).trans (ax5 _ _ _)).from _,?_,?_⟩;·exact(t.out.mono (λi _ h=>b8 h)).trans (au.setCell _ (p:=_) (bM aa) _) (λ_ _ h=>h)
  .refine⟨⟨_,WL y,?_⟩,(b.out.2.2.trans (t.out.mono (λi _ h=>b8 h)) (λ_ _ h=>h)).trans (au.setCell _ (p:=_) (bM aa) _) (λ_ _ h=>h)⟩;grind[WM,wB]
 case done=>
  rintro D ct W H rfl ⟨⟨v,hh,hrow⟩,a⟩ f;have hc:=pH hh;gi_wp2;refine⟨a8,bM ⟨_,_,aa,run_takeDeferred f,?_⟩⟩;exact⟨_,results_tmp aa _ _ _,v,aa,zd (ownsRow_putObj hrow _ f aa) ad,aod m.out.1 (a.trans (ZX hsz W D _ _ H f aa aa) (λ_ _ h=>h))⟩
 case stop=>simp
def arP p S(c d)w(b:oj w p S)(g:jW S)(i:et (c,d)):
 aD aw 181 #[ax (ab ⟨p,0,af⟩),av #[J R c,J R d]] w λe a=>∃v,e=aB v/\a.ownsRow w.heap.size 3 1 v (parts (c,d) S).length ((parts (c,d) S).map (λx=>J R x.1))/\ar w a:=
 (sy (n:=3)).1 (arQ 3 (b4 _) _ _ S.length (by obtain⟨_,_,_,_,h⟩:=b;exact h) c d w (hid (λaq f=>asT 2 ad (jb w.heap.size) _ _ p S c d i g aq (hid (aoe b f)))))
def hY(l:List Part):Int:=l.foldl (λn x=>RowKit.wrap64 (n+x.2.2)) 0
end
namespace G
def ao8(w:aM)(o o'):((w.alloc o).alloc o').heap[w.heap.size+1]?=ab o':=by grind[fz,zB]
abbrev cf(w w':aM):Prop:=au (λi=>w.heap.size<=i) w w'
def cf.aG{w w'}(h:cf w w'):ar w w':=⟨h.os,h.tape,h.output,h.size,λk hk _=>h.block k hk ad⟩
def C2{w base v m xs}(h:w.ownsRow base 3 1 v m (xs.map (J R))):∃A c,v=ae A xs.length c/\c8 w A xs:=by
 have a:m=xs.length:=by simpa using h.1.symm
 subst a;rcases h.2 with⟨rfl,hz⟩|⟨g,cap,cur,rfl,_⟩;·grind[c8.nil]
 .grind[c8.nU]
def zd{w:aM}{base a e size:Nat}{v m xs}(h:w.ownsRow base e size v m xs)(hb:a<=base):w.ownsRow a e size v m xs:=by
 refine⟨h.1,?_⟩;rcases h.2 with h2|⟨g,cap,cur,rfl,hg,r⟩;·grind
 .exact b8 ⟨g,_,_,aa,ea hb hg,r⟩
def qN.from{w w1 w' v xs}(h:qN w1 w' v xs)(a:w.heap.size<=w1.heap.size):qN w w' v xs:=zd h a
def jy(E:List (Int×Int))(v:Int):List Int:=ra (succ E v)
def mF(E:List (Int×Int))(v:Int):List Int:=ra (pred E v)
set_option maxHeartbeats 400000 in
def adN b(n v)E F w(h:gU w F b n E)(hv:c4 v)(k:E.length<=1099511627776):
 aD aw 92 #[ax (ab ⟨b,0,af⟩),J R v] w λe w'=>∃r,e=aB r/\qN w w' r (jy E v)/\ar w w':=by
 obtain⟨⟨fI,mo,fx,eT,eM,g⟩,_⟩:=h;have j:=fu _ _ 2 _ _ _ g.blk;simp at j;have hlk:=(g.out.lookup pj Bt Gh hv).1;obtain⟨A,c,a,d⟩:=C2 (g.I0 v);rw[a]at hlk;replace hlk:(qA 303 (dj (ab mo)) (J R v) ao).run aw w=a6 (ae A (succ E v).length c) w:=hlk;have hlen:=Jl E v;have f:=hid d;clear a d g;go_enter func92,ntmps92
 go_wp2_with (first
  |(go_at_call 184;refine(afR A _ c w).mono ?_;rintro e w' ⟨rfl,rfl⟩)
  |(go_at_call 183;refine(afp _ c A _ ad _ (fu _ _ 0 _ _ _ (fz w _)) (f.out.aG (au.alloc w _))).mono ?_;rintro e w' ⟨r,rfl,hr,i⟩));go_ret;exact⟨r,aa,hr.from a8,ar.trans (au.alloc w _) i⟩
set_option maxHeartbeats 400000 in
def aqw b(n v)E F w(h:gU w F b n E)(hv:c4 v)(k:E.length<=1099511627776):
 aD aw 304 #[ax (ab ⟨b,0,af⟩),J R v] w λe w'=>∃r,e=aB r/\qN w w' r (mF E v)/\ar w w':=by
 obtain⟨⟨fI,mo,fx,eT,eM,g⟩,_⟩:=h;have j:=fu _ _ 3 _ _ _ g.blk;simp at j;have hlk:=(g.mG.lookup pj Bt Gh hv).1;obtain⟨A,c,a,d⟩:=C2 (g.Th v);rw[a]at hlk;replace hlk:(qA 303 (dj (ab fx)) (J R v) ao).run aw w=a6 (ae A (pred E v).length c) w:=hlk;have hlen:=T4 E v;have f:=hid d;clear a d g;go_enter func304,ntmps304
 go_wp2_with (first
  |(go_at_call 184;refine(afR A _ c w).mono ?_;rintro e w' ⟨rfl,rfl⟩)
  |(go_at_call 183;refine(afp _ c A _ ad _ (fu _ _ 0 _ _ _ (fz w _)) (f.out.aG (au.alloc w _))).mono ?_;rintro e w' ⟨r,rfl,hr,i⟩));go_ret;exact⟨r,aa,hr.from a8,ar.trans (au.alloc w _) i⟩
def run_len_map{P w fh enc}{ok:fh->Prop}{m a}(h:dM w m enc ok a){t k e}(d:P.underlying t=ab (.map k e))ty:(agx #[t] ty #[dj (ab m)]).run P w=a6 (J R a.length) w:=by
 obtain⟨es,f,hb,_,_,b,_⟩:=h;have c:es.size=a.length:=by have:=congrArg vk b;simpa using this
 rw[<-c];simp[agx,run_underlying d,MapKept.run_getObj_map hb,goInt,Result.andThen]
def sa(seen:List Int):List (Int×aO):=seen.map (λx=>(x,ai az))
theorem ae0 seen x:dX (sa seen) x=if x∈seen then ab (ai az)else none:=by
 unfold sa;by_cases h:x∈seen
 .rw[if_pos h];unfold dX;induction seen with
  |nil=>grind
  |cons y r a=>grind
 grind[MP]
def au6{seen x}(h:x∉seen):ka (sa seen) x (ai az)=sa (seen++[x]):=by grind[sa,IQ,ae0,MQ]
def ae1 seen:(sa seen).map (·.1)=seen:=by simp[sa,JM]
def asZ{w:aM}{base g m cap xs x}(h:w.ownsRow base 3 1 (ae (ab ⟨g,0,af⟩) (m+1) cap) (m+1) ((xs++[x]).map (J R)))(j:xs.length=m):
 w.ownsRow base 3 1 (ae (ab ⟨g,0,af⟩) m cap) m (xs.map (J R))/\w.cell? ⟨g,m,af⟩=ab (J R x)/\m+1<=cap:=by
 have hcell:=h.cells (g:=g) aa m (J R x) aF;rw[nL,jt]at hcell;rcases h.2 with⟨hv,_⟩|⟨f,e,cur,hv,hb,d,h1,a,b,c⟩;·omega
 .cases hv;refine⟨⟨aF,b8 ⟨g,_,_,aa,hb,d,ad,a,b,?_⟩⟩,hcell,h1⟩;have i:=congrArg (List.take m) c;grind
def lenOf:aO->Nat|.slice _ n _=>n|_=>0
def MM(w:aM)(b:Nat):Nat:=match w.heap[b]? with|some (iP es _)=>es.size|_=>0
def _root_.Go.Proofs.YtcmhplknoglbkaaGreat.dM.size{w b a}(h:dM w b encI c4 a):MM w b=a.length:=by obtain⟨es,c,hb,_,_,d,_⟩:=h;have:=congrArg vk d;simp only[MM,hb];simpa using this
def atW b(n v)E F w(fe:gU w F b n E)(hv:c4 v)(ff:E.length<=1048576):
 aD aw 362 #[ax (ab ⟨b,0,af⟩),J R v] w λe w'=>∃r xs,e=aB r/\qN w w' r xs/\XN E v xs/\ar w w':=by
 obtain⟨⟨fI,mo,fx,eT,eM,g⟩,eN,hval⟩:=fe;have lS:=g.n0;have oC:=g.vU;have e0:=@J9 aw;have I:=g.only (au.alloc (F:=λ_=>False) w (iP #[] 0)) (λ_ _ h=>h);have E3:=dM.made w encI c4;have S:=fu _ _ 2 _ _ _ I.blk;simp at S;have hlk:=(I.out.lookup pj Bt Gh hv).1;obtain⟨V,bZ,lQ,aag⟩:=C2 (I.I0 v);rw[lQ]at hlk;replace hlk:(qA 303 (dj (ab mo)) (J R v) ao).run aw (w.alloc (iP #[] 0))=a6 (ae V (succ E v).length bZ) (w.alloc (iP #[] 0)):=hlk;have apx:=Jl E v;have Y:=hid aag;have GZ:=hid E3;have B:=hid (And.intro g (And.intro eN hval));have H:n.toNat*(E.length+1)<=1048576*1048577:=Nat.mul_le_mul ad ad;clear lQ aag E3 I g eN hval;go_enter func362,ntmps362;go_wp2_with fail;go_step3;go_wp2_with (go_at_call 380;refine(al0 V bZ _ _ Y.out ad).mono ?_;rintro e w1 ⟨eJ,rfl,hr1,hg1⟩);obtain⟨W,c1,rfl,_⟩:=C2 hr1;have ajB:=hid (zd hr1 (cF _));have D3:aE (∀i,(ae W (succ E v).length c1).ownBlock=ab i->w.heap.size<i):=hid (λi hi=>by have:=(hr1.lt i hi).1;simp at this;omega);have G4:aE (au (λi=>w.heap.size<=i) w w1):=hid ((au.alloc _ _).trans hg1 (λ_ _ h=>h.elim));have ajj:=hid (GZ.out.only hg1 (λh=>h));clear hr1 hg1 hlk S Y GZ e0;go_step3;go_wp2_with fail;obtain⟨i0,iX,hz0,hz1,hz2⟩:=u5 Fe;have C:=hid (And.intro iX (And.intro hz0 (And.intro hz1 hz2)));clear iX hz0 hz1 hz2;have X:aE (∀wr,au (λi=>w.heap.size<=i) w wr->kE wr F b n E E E fI mo fx eT eM):=hid λwr f=>B.out.1.only (cf.aG f) (λ_ _ h=>h)
 go_loopw [6] (λT wr=>∃seen st A m c,T=ae A m c/\aE (st.length=m)/\wr.ownsRow 0 3 1 (ae A m c) m (st.map (J R))/\(∀i,(ae A m c).ownBlock=ab i->w.heap.size<i)/\
  dM wr w.heap.size encI c4 (sa seen)/\tv E v seen st/\au (λi=>w.heap.size<=i) w wr/\(n.toNat -seen.length)*(E.length+1)+m<=n.toNat*(E.length+1)+E.length)
  (λT wr=>(n.toNat -MM wr w.heap.size)*(E.length+1)+lenOf T);case atStart=>exact⟨[],succ E v,W,_,c1,aa,hid aa,ajB.out,D3.out,ajj.out,tv.start E v,G4.out,aF⟩
 case round=>
  obtain⟨seen,st,A,m,c,rfl,hlen,hrow,K,o,d,f,z⟩:=hrel;have N:=X.out wr f;rcases KG st with rfl|⟨L,x,rfl⟩
  .obtain rfl:m=0:=hlen.out.symm;have D:=hid (And.intro hrow (And.intro o (And.intro d f)))
   have ab0:seen.length*8<=140737488351232:=by have h1:=Fp (n:=n.toNat) d.IS (λy Q=>by have:=C5 B.out.2.2 (d.path y (bM Q));omega);omega
   have D8:=hid ab0;clear hrow o d f N ab0 z H apx K hlen
   go_wp2_with (first
    |(go_at_call 381;refine(To _ wr).mono ?_;rintro e w' ⟨rfl,rfl⟩)
    |(go_at_call 183;refine(avw _ _ _ (by simpa [sa]using D8.out) _ (fu _ _ 0 _ _ _ (fz wr _)) (D.out.2.1.only (au.alloc (F:=λ_=>False) wr _) (λh=>h))).mono ?_;rintro e w' ⟨r,rfl,hr,hg⟩));rw[Exit.noGoto_ret];go_ret;have aal:=D.out.2.2.2;refine⟨r,_,aa,hr.from (by have:=aal.size;simp;omega),⟨?_,λy=>?_⟩,?_⟩;·rw[ae1];refine((ake.2 ⟨Nu _,(zi _).nodup_iff.2 D.out.2.2.1.IS⟩)).imp (λh=>ad)
   .rw[ae1,(zi _).mem_iff];exact D.out.2.2.1.done y
   .exact ar.trans (cf.aG aal) (ar.trans (au.alloc wr _) hg)
  .simp only[aj5]at hrow d hlen;obtain⟨l,rfl⟩:∃l,m=l+1:=⟨L.length,by have:=hlen.out;simp at this;omega⟩;have O:aE (L.length=l):=hid (by have:=hlen.out;simp at this;omega)
   obtain⟨k,rfl⟩:∃k,A=ab ⟨k,0,af⟩:=by
    rcases hrow.2 with⟨_,h0⟩|⟨il,ou,cur,hv,_⟩;·omega
    .grind
   obtain⟨hrow',hcell,LQ⟩:=asZ hrow O.out;have hrg:=C5 B.out.2.2 (d.path x (b8 a8));have P:c4 x:=⟨ad,ad⟩;have p:=(o.lookup pj Wq UR P).1;rw[ae0]at p;have uu:l+1<=1099513724928:=ad;have hgb:w.heap.size<k:=K k aa;by_cases hx:x∈seen
   .rw[if_pos hx]at p;replace p:(qA 467 (dj (ab w.heap.size)) (J R x) ao).run aw wr=a6 (ai az) wr:=p;have j:=hid (And.intro hrow' (And.intro o (And.intro (d.skip hx) f)));have M:=hid z;clear hrow hrow' o d f z N hlen hx K H;go_wp2;go_roundw;case rel=>exact⟨_,_,_,_,_,aa,O,j.out.1,λi hi=>by cases hi;exact hgb,j.out.2.1,j.out.2.2.1,j.out.2.2.2,by have:=M.out;omega⟩
    case measure=>simp[lenOf]
   .rw[if_neg hx]at p;replace p:(qA 467 (dj (ab w.heap.size)) (J R x) ao).run aw wr=a6 (ai ao) wr:=p;have G:=d.visit hx
    have hle:seen.length+1<=n.toNat:=by have:=Fp (n:=n.toNat) G.IS (λy Q=>by have:=C5 B.out.2.2 (G.path y (bM Q));omega);simpa using this
    have hlx:=Jl E x;have abo:=amX (n:=n.toNat) (s:=seen.length) (t:=l) ad hlx
    have ajC:aE (∀a,wr.grownBy a (ab w.heap.size)->dM a w.heap.size encI c4 (ka (sa seen) x (ai az))->∃q eG,a.cell? ⟨b,2,af⟩=ab (dj (ab mo))/\
     (qA 303 (dj (ab mo)) (J R x) ao).run aw a=a6 (ae q (succ E x).length eG) a/\aE (c8 a q (succ E x))/\
     aE (a.ownsRow 0 3 1 (ae (ab ⟨k,0,af⟩) l c) l (L.map (J R)))/\aE (dM a w.heap.size encI c4 (sa (seen++[x])))/\aE (au (λi=>w.heap.size<=i) w a)):=hid λa hg2 u=>by
     have hk:au (λi=>i=w.heap.size) wr a:=au.of_grownBy hg2 (λi e=>aF);have nc:au (λi=>w.heap.size<=i) w a:=f.trans hk (λi hi h=>ad);have g2:=X.out a nc;have S:=fu _ _ 2 _ _ _ g2.blk;have hl2:=(g2.out.lookup pj Bt Gh P).1;obtain⟨q,eG,RZ,aoG⟩:=C2 (g2.I0 x);rw[RZ]at hl2;rw[au6 hx]at u;exact⟨q,eG,aF,hl2,hid aoG,hid (pr hrow' hk (λi hi e=>by cases hi;exact absurd (show k=w.heap.size from e) ad)),hid u,hid nc⟩
    have dP:=hid hx;have b9:=hid o;have D6:=hid hrow';have fA:=hid G;have yj:=hid f;have M:=hid z;have rE:=hid hle;have Z:=hid abo;have ayn:=hid H;clear hrow hrow' o d G f z N hlen hx K H hle abo
    go_wp2_with (first
     |(at_mapUpdate;refine Js aa _ _ _ aa pj Wq b9.out (by have:=rE.out;unfold eh;simp[sa];omega) aa P aa (ai _) aa ?_;intro a u hg2 hs2;obtain⟨q,eG,fS,fD,iM,ql,AX,C7⟩:=ajC.out a hg2 u;clear u hg2 hs2)
     |(at_builtin;refine af0 _ aa (bj 37) (bj 43) 82 aa 0 3 i0 _ 1 8 hR C.out.1 C.out.2.1 C.out.2.2.1 C.out.2.2.2 aa ad k l c (L.map (J R)) aa ql.out q (succ E x).length eG ((succ E x).map (J R)) aa (c8.cells iM.out) (TQ _) (by grind[eh]) ad a8 ?_;intro g3 kt U Ii H5 aaD abx));have hk3:au (λi=>i=k) a U:=au.of_grownBy H5 (λi e=>aF);have pb:au (λi=>w.heap.size<=i) w U:=C7.out.trans hk3 (λi hi h=>ad)
    have hg3:w.heap.size<g3:=by have h1:=C7.out.size;have h2:=AX.out.lt;rcases aaD with h|h<;>omega
    have HQ:dM U w.heap.size encI c4 (sa (seen++[x])):=AX.out.only hk3 (λe=>ad);have j:=hid (And.intro Ii (And.intro HQ pb));have ai4:=hid hg3;clear Ii H5 aaD abx hk3 pb HQ hg3 fS fD;go_wp2;go_roundw
    case rel=>
     refine⟨_,_,_,_,_,aa,hid (by have:=O.out;simp;omega),by rw[List.map_append];exact j.out.1,λi hi=>by cases hi;exact ai4.out,j.out.2.1,fA.out,j.out.2.2,?_⟩;have h1:=M.out;have h2:=Z.out;grind
    case measure=>
     have h2:=Z.out;have bB:=dM.size j.out.2.1;have bY:=dM.size b9.out;grind[sa,lenOf]
abbrev Valid(n:Int)(E:List (Int×Int)):Prop:=∀e∈E,(0<=e.1/\e.1<n)/\(0<=e.2/\e.2<n)/\e.1≠e.2
theorem UC(N k)(h:k<N):(hC N).take (k+1)=(hC N).take k++[(k:Int)]:=by grind[gg,hC]
def MT(w:aM)x t:∀j u,[x][j]?=ab u->(w.alloc (bl #[x] t)).cell? ((⟨w.heap.size,0,af⟩:bQ).add j)=ab u:=by
 intro j u h;rw[nL,jt];match j with
 |0=>
  simp at h;subst h;exact fu _ _ 0 _ _ _ (fz w _)
 |j+1=>grind
def gU.TD{w F b n E}(h:gU w F b n E):w.cell? ⟨b,0,af⟩=ab (J R n):=by obtain⟨⟨fI,mo,fx,eT,eM,g⟩,_⟩:=h;exact fu _ _ 0 _ _ _ g.blk
def Et A c xs x w r(h:decide (x∈xs)=r)(hx:c8 w A xs)(h1:xs.length<=9223372036854775807):
 aD aw 190 #[ae A xs.length c,J R x] w λe w'=>e=aB (ai r)/\w=w':=by grind[Hy]
theorem IM{E u x}:x∈jy E u↔(u,x)∈E:=(zi _).mem_iff.trans IN
theorem TA{E u x}:u∈mF E x↔(u,x)∈E:=(zi _).mem_iff.trans arW
theorem TV E u:(jy E u).length<=E.length:=by grind[jy,Nt,Jl]
def acB E u:(mF E u).length<=E.length:=by grind[mF,Nt,T4]
def aer b(n v)E F w(a:gU w F b n E)(hv:c4 v)(d:E.length<=1048576):
 aD aw 362 #[ax (ab ⟨b,0,af⟩),J R v] w λe w'=>∃A c xs,e=aB (ae A xs.length c)/\c8 w' A xs/\XN E v xs/\xs.length<=9223372036854775807/\ar w w':=by
 refine(atW b n v E F w a hv d).mono ?_;rintro e w' ⟨r,ct,rfl,hn,hr,f⟩;obtain⟨A,c,rfl,hi,h1,g,_⟩:=hn.form;exact⟨A,c,ct,aa,hi,hr,by grind[eh],f⟩
def avL{E}(b:E.Nodup)u:(succ E u).Nodup:=by unfold succ aj2;rw[ys];refine(aj3 _ b).imp_of_mem (λ{a c} d hc h e=>h ?_);grind
def atx{E}(b:E.Nodup)u:(pred E u).Nodup:=by unfold pred aj2;rw[ys];refine(aj3 _ b).imp_of_mem (λ{a c} d hc h e=>h ?_);grind
def avr{xs}(h:xs.Nodup):(ra xs).Pairwise (·<·):=
 (ake.2 ⟨Nu xs,(zi xs).nodup_iff.2 h⟩).imp (λh=>ad)
def cut(E:List (Int×Int))(s:List Int):List (Int×Int):=E.filter (λe=>decide (e.1∉s/\e.2∉s))
def CV{E s u x}:(u,x)∈cut E s↔(u,x)∈E/\u∉s/\x∉s:=by simp[cut]
def amv E:cut E []=E:=by simp[cut]
theorem Path.mono{E E'}(h:∀e,e∈E->e∈E'){u x}(p:Path E u x):Path E' u x:=by
 induction p with
 |one e=>exact .one (h _ e)
 |more _ e a=>exact .more a (h _ e)
def Path.last{E u x}(p:Path E u x):∃y,(y,x)∈E:=by
 cases p with
 |one e=>grind
 |more _ e=>grind
def Hm(E:List (Int×Int))(N:Nat)(s out:List Int)(v:Int):Prop:=(0<=v/\v<N)/\v∉s/\v∉out/\∀u,(u,v)∈E->u∈s\/u∈out
def XP(E:List (Int×Int))(N:Nat)(s out:List Int)(v:Int):Prop:=Hm E N s out v/\∀u,Hm E N s out u->v<=u
inductive mV (E:List (Int×Int)) (N:Nat) (s:List Int):List Int->Prop where
 |nil:mV E N s []
 |snoc {out:List Int} {v:Int} (h:mV E N s out) (l:XP E N s out v):mV E N s (out++[v])
def wL(E:List (Int×Int))(N:Nat)(s out:List Int):Prop:=mV E N s out/\∀v,¬Hm E N s out v
section
variable {E:List (Int×Int)} {N:Nat} {s out:List Int}
def mV.at{l}(h:mV E N s l):∀p a t,l=p++a::t->XP E N s p a:=by
 induction h with
 |nil=>intro p a t e;cases p<;>cases e
 |snoc h l b=>
  intro p a t e;rcases KG t with rfl|⟨b7,z,rfl⟩;·grind[QG]
  grind[QG]
def mV.ahead{l d}(h:mV E N s l)(b:wL E N s d):l<+:d:=by
 induction h with
 |nil=>simp
 |snoc h l e=>
  obtain⟨t,rfl⟩:=e;cases t with
  |nil=>rw[j1]at b;exact absurd l.1 (b.2 _)
  |cons a t=>
   have c:=b.1.at _ a t aa;have bB:=l.2 _ c.1;have bY:=c.2 _ l.1;obtain rfl:=Int.le_antisymm bB bY;exact⟨t,a8⟩
def wL.unique{l c}(h:wL E N s l)(b:wL E N s c):l=c:=by
 obtain⟨t,rfl⟩:=h.1.ahead b;cases t with
 |nil=>simp
 |cons a t=>exact absurd (b.1.at _ a t aa).1 (h.2 _)
def mV.nodup{l}(h:mV E N s l):l.Nodup/\∀v∈l,(0<=v/\v<N)/\v∉s:=by
 induction h with
 |nil=>simp
 |snoc h l d=>
  refine⟨yr.2 ⟨d.1,a8,?_⟩,?_⟩
  .intro a c b hb e;obtain rfl:b=_:=by simpa using hb
   exact l.1.2.2.1 (e▸c)
  .intro v hv;rcases j3.1 hv with hv|hv;·grind
   .obtain rfl:v=_:=by simpa using hv
    exact⟨l.1.1,l.1.2.1⟩
def mV.length{l}(h:mV E N s l):l.length<=N:=Fp h.nodup.1 (λx hx=>(h.nodup.2 x hx).1)
def mV.Lu{l}(h:mV E N s l){u x}(a:(u,x)∈E)(b:u∉s)(hx:x∈l):u∈l/\l.idxOf u<l.idxOf x:=by obtain⟨p,t,rfl,c⟩:=List.eq_append_cons_of_mem hx;have d:=((h.at p x t aa).1.2.2.2 u a).resolve_left b;grind
def mV.path{l}(h:mV E N s l){u x}(p:Path (cut E s) u x)(hx:x∈l):u∈l/\l.idxOf u<l.idxOf x:=by
 induction p with
 |one e=>exact h.Lu (CV.1 e).1 (CV.1 e).2.1 hx
 |more p e b=>
  have h1:=h.Lu (CV.1 e).1 (CV.1 e).2.1 hx;have a:=b h1.1;exact⟨a.1,ad⟩
def mV.asa{l}(h:mV E N s l){x}(p:Path (cut E s) x x):x∉l:=λhx=>by have:=(h.path p hx).2;omega
theorem Valid.cut{N}(a:Valid N E)s:Valid N (cut E s):=λe b=>a e (pO.1 b).1
def lJ(E:List (Int×Int))(s xs:List Int):Prop:=xs.Pairwise (·<·)/\∀x,x∈xs↔Path (cut E s) x x
def lJ.unique{xs ct}(h:lJ E s xs)(k:lJ E s ct):xs=ct:=ZD h.1 k.1 (λx=>(h.2 x).trans (k.2 x).symm)
def amD(a:Valid N E)s:∃xs,lJ E s xs:=by
 classical
 refine⟨(hC N).filter (λx=>decide (Path (cut E s) x x)),(NG N).filter _,λx=>?_⟩;rw[pO,decide_eq_true_eq];exact⟨λh=>h.2,λh=>⟨Fy.2 (C5 (a.cut s) h),h⟩⟩
def q7(N:Nat)(s out:List Int):List Int:=(hC N).filter (λv=>!decide (v∈s)&&!decide (v∈out))
def arX{v}:v∈q7 N s out↔(0<=v/\v<(N:Int))/\v∉s/\v∉out:=by simp[q7,Fy]
def lJ.rest(b:Valid N E){l xs}(h:wL E N s l)(hx:lJ E s xs){v}(hv:v∈xs):v∈q7 N s l:=by have a:=(hx.2 v).1 hv;obtain⟨y,c⟩:=a.last;exact arX.2 ⟨C5 (b.cut s) a,(CV.1 c).2.2,h.1.asa a⟩
end
def py(ws:List Int)(v:Int):Int:=if 0<=v/\v<(ws.length:Int)then ws[v.toNat]?.getD 0 else 0
def B1(f:Int->Int)(o:Option Int)(x:Int):Option Int:=match o with
 |none=>ab x
 |some y=>if f x<f y then ab x else ab y
def j4(f:Int->Int)(L:List Int):Option Int:=L.foldl (B1 f) af
def ali f:j4 f []=none:=rfl
theorem Rf f L x:j4 f (L++[x])=B1 f (j4 f L) x:=by grind[j4]
def YE f o x:∃y,B1 f o x=ab y/\(y=x\/o=ab y):=by unfold B1;grind
def avm{p:List Int->Prop}(a:p [])(h1:∀L x,p L->p (L++[x]))L:p L:=by
 have:∀n:Nat,∀L:List Int,L.length=n->p L:=by
  intro n;induction n with
  |zero=>grind
  |succ n b=>
   intro L h;rcases KG L with rfl|⟨t,z,rfl⟩;·omega
   grind
 exact this _ L aa
def YB{f L v}:j4 f L=ab v->v∈L:=by revert v;refine avm (p:=λL=>∀{v},j4 f L=ab v->v∈L) (λh=>by cases h) (λL x b v h=>?_) L;rw[Rf]at h;obtain⟨y,e,a⟩:=YE f (j4 f L) x;grind
theorem YC{f L}:j4 f L=af↔L=[]:=by
 rcases KG L with rfl|⟨t,z,rfl⟩;·simp[ali]
 .rw[aj5,Rf];obtain⟨y,e,_⟩:=YE f (j4 f t) z;rw[e];simp
def kept(xs keep:List Int):List Int:=xs.filter (λv=>!decide (v∈keep))
def arV{xs keep v}:v∈kept xs keep↔v∈xs/\v∉keep:=by simp[kept]
inductive ny (E:List (Int×Int)) (ws keep:List Int):List Int->Prop where
 |nil:ny E ws keep []
 |snoc {out xs:List Int} {v:Int} (h:ny E ws keep out) (hx:lJ E out xs) (hb:j4 (py ws) (kept xs keep)=ab v):ny E ws keep (out++[v])
def zS(E:List (Int×Int))(ws keep out xs:List Int):Prop:=ny E ws keep out/\lJ E out xs/\j4 (py ws) (kept xs keep)=af
section
variable {E:List (Int×Int)} {N:Nat} {ws keep out:List Int}
def ny.at{l}(h:ny E ws keep l):∀p a t,l=p++a::t->∃xs,lJ E p xs/\j4 (py ws) (kept xs keep)=ab a:=by
 induction h with
 |nil=>intro p a t e;cases p<;>cases e
 |snoc h hx hb b=>
  intro p a t e;rcases KG t with rfl|⟨b7,z,rfl⟩;·grind[QG]
  grind[QG]
def ny.ahead{l c f}(h:ny E ws keep l)(b:zS E ws keep c f):l<+:c:=by
 induction h with
 |nil=>simp
 |snoc h hx hb e=>
  obtain⟨t,rfl⟩:=e;cases t with
  |nil=>
   rw[j1]at b;obtain rfl:=hx.unique b.2.1;rw[b.2.2]at hb;cases hb
  |cons a t=>
   obtain⟨ct,d,hb2⟩:=b.1.at _ a t aa;obtain rfl:=hx.unique d;rw[hb]at hb2;obtain rfl:_=a:=by simpa using hb2
   exact⟨t,a8⟩
def zS.unique{l c xs d}(h:zS E ws keep l xs)(b:zS E ws keep c d):l=c/\xs=d:=by
 obtain⟨t,rfl⟩:=h.1.ahead b;cases t with
 |nil=>
  rw[j1]at b⊢;exact⟨aa,h.2.1.unique b.2.1⟩
 |cons a t=>
  obtain⟨ct,e,hb⟩:=b.1.at _ a t aa;obtain rfl:=h.2.1.unique e;rw[h.2.2]at hb;cases hb
def lJ.ash{s xs}(h:lJ E s xs){v}(hv:v∈xs):v∉s:=by obtain⟨y,a⟩:=((h.2 v).1 hv).last;exact(CV.1 a).2.2
def lJ.range{s xs}(a:Valid N E)(h:lJ E s xs){v}(hv:v∈xs):0<=v/\v<(N:Int):=C5 (a.cut s) ((h.2 v).1 hv)
def ny.nodup(d:Valid N E){l}(h:ny E ws keep l):l.Nodup/\∀v∈l,0<=v/\v<(N:Int):=by
 induction h with
 |nil=>simp
 |snoc h hx hb g=>
  have c:=(arV.1 (YB hb)).1;refine⟨yr.2 ⟨g.1,a8,?_⟩,?_⟩
  .intro a f b hb' e;obtain rfl:b=_:=by simpa using hb'
   exact hx.ash c (e▸f)
  .intro v hv;rcases j3.1 hv with hv|hv;·grind
   .obtain rfl:v=_:=by simpa using hv
    exact hx.range d c
def ny.length(a:Valid N E){l}(h:ny E ws keep l):l.length<=N:=Fp (h.nodup a).1 (h.nodup a).2
end
def awD ws{k:Nat}(h:k<ws.length):py ws k=ws[k]?.getD 0:=by grind[py]
def afX{ws v}(h:v<0\/(ws.length:Int)<=v):py ws v=0:=by grind[py]
set_option maxHeartbeats 400000 in
def awB A c ws v w(a:c8 w A ws)(h1:ws.length<=9223372036854775807):
 aD aw 338 #[ae A ws.length c,J R v] w λe w'=>e=aB (J R (py ws v))/\w=w':=by
 by_cases d:v<0;·rw[afX (bM d)];have g:decide (v<0)=true:=aF;clear a;go_enter VL,V7;go_wp2;go_ret;exact⟨aa,aa⟩
 .have g:decide (v<0)=false:=aF;by_cases f:(ws.length:Int)<=v;·rw[afX (b8 f)];have h:decide ((ws.length:Int)<=v)=true:=aF;clear a;go_enter VL,V7;go_wp2;go_ret;exact⟨aa,aa⟩
  .have h:decide ((ws.length:Int)<=v)=false:=aF;obtain⟨k,rfl⟩:∃k:Nat,v=(k:Int):=⟨v.toNat,ad⟩;have hk:k<ws.length:=ad;rw[awD ws hk];obtain⟨b,off,rfl,hcell⟩:=a ad;have hc:=hcell k hk;clear hcell;generalize ws[k]?.getD 0=x at*;go_enter VL,V7;go_wp2;go_ret;exact⟨aa,aa⟩
def avl (g:Nat) lb f A c L w (cz:c8 w A L) (h1:L.length<=9223372036854775807)
 (gq:∀args w,(km g args).run aw w=a6 (.enter g args) w)
 (m:∀x,aD aw g (#[J R x]++lb) w λe w'=>e=aB (J R (f x))/\w=w'):
 aD aw 336 #[ae A L.length c,dC (ed g) #[] lb] w λe w'=>e=aB (bm #[J R ((j4 f L).getD 0),ai (decide (0<L.length))])/\w=w':=by
 have h:=hid (And.intro cz m);clear cz m;go_enter func336,ntmps336;go_wp2_with fail;go_loopw [6,11] (λp i wr=>∃k:Nat,k<=L.length/\i=J R k/\p=J R ((j4 f (L.take k)).getD 0)/\wr=w) (λ_ i _=>L.length -(cO i).toNat);case atStart=>exact⟨0,cF _,aa,aa,aa⟩
 case round=>
  obtain⟨k,hk,rfl,rfl,rfl⟩:=hrel;by_cases hlt:k<L.length
  .have hb0:(k:Int)<(L.length:Int):=ad;obtain⟨b,off,rfl,hcell⟩:=h.out.1 ad;have hc:=hcell k hlt;obtain⟨x,hx⟩:∃x,L[k]?=ab x:=⟨_,cC hlt⟩;simp only[hx,vo]at hc;have d:aE (j4 f (L.take (k+1))=B1 f (j4 f (L.take k)) x):=hid (by grind[gg,Rf]);clear hcell hx;by_cases l:k=0
   .have r:((k:Int)==0)=true:=aF;have a:aE (j4 f (L.take (k+1))=ab x):=hid (by rw[d.out,l];rfl);clear l;go_wp2;go_roundw;case rel=>exact⟨k+1,ad,by go_num,by rw[a.out];rfl,a8⟩
    case measure=>grind[cO]
   .have hne:((k:Int)==0)=false:=beq_eq_false_iff_ne.2 ad
    obtain⟨y,o⟩:∃y,j4 f (L.take k)=ab y:=by
     cases hb:j4 f (L.take k)with
     |none=>grind[YC,List.take_eq_nil_iff]
     |some y=>simp
    rw[o]at d⊢;clear o;have c1:=h.out.2 x;have j:=hid (h.out.2 y);by_cases n:f x<f y
    .have q:decide (f x<f y)=true:=aF;have a:aE (j4 f (L.take (k+1))=ab x):=hid (by rw[d.out];unfold B1;simp[n]);go_wp2_with (go_at_fn g;with_reducible refine c1.mono ?_;clear c1;rintro e w' ⟨rfl,rfl⟩;have c2:=j.out);go_wp2_with (go_at_fn g;with_reducible refine c2.mono ?_;clear c2;rintro e w' ⟨rfl,rfl⟩);go_roundw;case rel=>exact⟨k+1,ad,by go_num,by rw[a.out];rfl,a8⟩
     case measure=>grind[cO]
    .have q:decide (f x<f y)=false:=aF;have a:aE (j4 f (L.take (k+1))=ab y):=hid (by rw[d.out];unfold B1;simp[n]);go_wp2_with (go_at_fn g;with_reducible refine c1.mono ?_;clear c1;rintro e w' ⟨rfl,rfl⟩;have c2:=j.out);go_wp2_with (go_at_fn g;with_reducible refine c2.mono ?_;clear c2;rintro e w' ⟨rfl,rfl⟩);go_roundw;case rel=>exact⟨k+1,ad,by go_num,by rw[a.out];rfl,a8⟩
     case measure=>grind[cO]
  .obtain rfl:k=L.length:=ad;rw[kH];go_wp2;go_ret2;exact⟨aa,aa⟩
def aqy f c w:aD aw 363 #[ae af 0 c,f] w λe w'=>e=aB (J R (-1))/\w=w':=by
 go_enter func363,ntmps363;go_wp2_with fail;go_loopw [8] (λi wr=>i=J R 0/\wr=w) (λ_ _=>0);case atStart=>simp
 case round=>
  obtain⟨rfl,rfl⟩:=hrel;go_wp2;go_ret;exact⟨aa,aa⟩
def amV f c w:aD aw 334 #[ae af 0 c,f] w λe w'=>e=aB (ae af 0 c)/\w=w':=by go_enter func334,ntmps334;go_wp2_with (go_at_call 363;refine(aqy f c w).mono ?_;rintro e w1 ⟨rfl,rfl⟩);go_ret;exact⟨aa,aa⟩
def _root_.Go.Proofs.YtcmhplknoglbkaaGreat.au.putRow F w(blk off)d(hb:F blk):au F w (Sort.putRow (J R) w blk off d):=
 ⟨aa,aa,aa,by grind[Sort.size_putRow],λk _ hn=>by show(w.heap.modify blk _)[k]?=_;rw[Array.getElem?_modify,if_neg (λe:blk=k=>hn (e▸hb))]⟩
def _root_.Go.Proofs.YtcmhplknoglbkaaGreat.au.grow F w os:au F w (Sort.grow w os):=
 ⟨aa,aa,aa,by show w.heap.size<=(w.heap++os).size;rw[Array.size_append];omega,λk hk _=>by show(w.heap++os)[k]?=_;rw[Array.getElem?_append_left hk]⟩
def _root_.Go.Proofs.YtcmhplknoglbkaaGreat.au.ahead F w q:au F w (J' w q):=⟨aa,aa,aa,b4 _,λ_ _ _=>aa⟩
def amU (g:Nat) lb (l:∀args w,(km g args).run aw w=a6 (.enter g args) w) (p:Int->Bool) base v (xs:List Int) w (hv:w.ownsRow base 3 1 v xs.length (xs.map (J R)))
 (hlen:xs.length<=9223372036854775807)
 (hc:∀W x,au (λi=>v.ownBlock=ab i) w W->aD aw g (#[J R x]++lb) W λe w'=>e=aB (ai (p x))/\∃q,w'=W.drewN q):
 aD aw 334 #[v,dC (ed g) #[] lb] w λe w'=>∃A c,e=aB (ae A (xs.filter (λx=>!p x)).length c)/\c8 w' A (xs.filter (λx=>!p x))/\(∀k off,A=ab ⟨k,off,af⟩->v.ownBlock=ab k)/\au (λi=>v.ownBlock=ab i) w w':=by
 rcases hv.2 with⟨rfl,hz⟩|⟨a,cap,cur,rfl,hb,u,h1,o,r,s⟩;·obtain rfl:xs=[]:=j2 hz;refine(amV _ 0 w).mono ?_;grind[c8.nil,au.refl]
 .have t:∀j,j<xs.length->w.cell? ⟨a,0+j,af⟩=ab (J R (xs[j]?.getD 0)):=λj b=>by obtain⟨m,C,e,hcc⟩:=c8.nU hv ad;cases e;exact hcc j b
  have f:Sort.Holds (J R) w a 0 xs.toArray:=λj b=>by grind[wA]
  have y:∀{W},au (λi=>x7 (ae (ab ⟨a,0,af⟩) xs.length cap)=ab i) w W->True:=λ_=>trivial;have d:(λi=>x7 (ae (ab ⟨a,0,af⟩) xs.length cap)=ab i) a:=rfl
  have h:=ax9 Tryz.arf (J R) (λ_=>aa) p g lb l 0 Tryz.zeroValue3 a 0 cap xs.toArray w
   (λW x hbl=>by have:=hc W x ⟨hbl.os,hbl.tape,hbl.output,hbl.size,λk hk _=>hbl.block k hk⟩;exact this)
   (λn os gZ x B=>by have:=hc (Go.Proofs.sortWorld (J R) w a 0 n gZ os) x (((au.ahead _ w n).trans (au.putRow _ _ a 0 gZ d) (λ_ _ h=>h)).trans (au.grow _ _ os) (λ_ _ h=>h));exact this)
   f ad ad;simp only[iG]at h;change aD aw 334 _ _ _ at h;refine h.mono ?_;clear h;rintro e w' ⟨rfl,q,rfl⟩;have hle:=yq (λx=>!p x) xs;refine⟨_,_,rfl,λz=>⟨a,0,rfl,λj b=>?_⟩,(λk off e=>aF),(au.ahead _ w q).trans (au.putRow _ _ a 0 _ d) (λ_ _ h=>h)⟩;have:=(Sort.holds_putRow (J R) (J' w q) a 0 xs.toArray ((xs.filter (λx=>!p x))++List.replicate (xs.length -(xs.filter (λx=>!p x)).length) 0).toArray (Sort.holds_ahead (J R) w q a 0 xs.toArray f) aF j aF).1;rw[this,getElem!_pos _ j aF];simp[b]
section
variable {P:ee} (w:aM)
end
def Za E l:(cut E l).length<=E.length:=yq _ _
def k8(a:List Int)(f:Int->Int):List (Int×aO):=a.map (λv=>(v,J R (f v)))
def dw(f:Int->Int)(x y:Int):Int->Int:=λz=>if z=x then y else f z
def ara a f:(k8 a f).map (·.1)=a:=by simp[k8,JM]
def CR a f:(k8 a f).length=a.length:=by simp[k8]
theorem My b f x:dX (k8 b f) x=if x∈b then ab (J R (f x))else none:=by
 unfold dX k8;induction b with
 |nil=>simp
 |cons a r c=>grind
theorem acT a f x:r8 (k8 a f) x=decide (x∈a):=by grind[IQ,My]
def Tp{a f x}(h:x∈a)y:ka (k8 a f) x (J R y)=k8 a (dw f x y):=by grind[ka,acT,k8,dw,List.map_congr_left]
def arb{a f x}(h:x∉a):ka (k8 a f) x (J R (f x))=k8 (a++[x]) f:=by grind[MQ,acT,k8]
def aq9 a f x:AO (k8 a f) x=k8 (a.filter (λy=>!decide (y=x))) f:=by unfold AO k8;rw[List.filter_map];rfl
def ud(E:List (Int×Int))(D:List Int)(x:Int):Nat:=(mF E x).countP (λu=>decide (u∈D))
def amT E D x:ud E D x<=E.length:=ea QI (acB E x)
def Zj{E D x}:ud E D x=0↔∀u,(u,x)∈E->u∉D:=by grind[ud,List.countP_eq_zero,TA]
def amj{l:List Int}(hn:l.Nodup)v:l.countP (λu=>decide (u=v))=if v∈l then 1 else 0:=by
 induction l with
 |nil=>simp
 |cons a r b=>grind
def countP_split{b:Type}(p q:b->Bool):∀l:List b,l.countP p=l.countP (λx=>p x&&q x)+l.countP (λx=>p x&&!q x)
 |[]=>aa
 |a::r=>by rw[QH,QH,QH,countP_split p q r];cases p a<;>cases q a<;>simp<;>omega
def Zi{E}(a:E.Nodup){D v x}(hv:v∈D):ud E (D.filter (λy=>!decide (y=v))) x+(if x∈jy E v then 1 else 0)=ud E D x:=by
 unfold ud;rw[countP_split (λu=>decide (u∈D)) (λu=>decide (u=v)) _]
 have h1:(mF E x).countP (λu=>decide (u∈D)&&decide (u=v))=if x∈jy E v then 1 else 0:=by
  have hn:(mF E x).Nodup:=(zi _).nodup_iff.2 (atx a x)
  have b:(mF E x).countP (λu=>decide (u=v))=if x∈jy E v then 1 else 0:=by rw[amj hn v];simp only[TA,IM]
  grind
 grind
def hI(N:Nat)(s:List Int):List Int:=(hC N).filter (λv=>!decide (v∈s))
theorem MN{N s x}:x∈hI N s↔(0<=x/\x<(N:Int))/\x∉s:=by simp[hI,Fy]
structure qL (E:List (Int×Int)) (N:Nat) (s out D:List Int) (f:Int->Int) (gP:List Int):Prop where
 IF:mV E N s out
 rest:D=(hI N s).filter (λx=>!decide (x∈out))
 ue:∀x∈D,f x=(ud E D x:Int)
 sorted:gP.Pairwise (·<·)
 ready:∀x,x∈gP↔x∈D/\f x=0
structure oY (E:List (Int×Int)) (N:Nat) (s out D:List Int) (v:Int) (T:List Int) (f:Int->Int) (gP:List Int):Prop where
 IF:mV E N s (out++[v])
 rest:D=(hI N s).filter (λx=>!decide (x∈out))
 NH:v∈D
 ue:∀x∈D,x≠v->f x+(if x∈T then 1 else 0)=(ud E D x:Int)
 sorted:gP.Pairwise (·<·)
 ready:∀x,x∈gP↔(x∈D/\x≠v)/\f x=0
section
variable {E:List (Int×Int)} {N:Nat} {s out D gP T:List Int} {f:Int->Int} {v x:Int}
def qL.mem(h:qL E N s out D f gP):x∈D↔((0<=x/\x<(N:Int))/\x∉s)/\x∉out:=by rw[h.rest];simp[MN]
def qL.isReady(e:Valid N E)(h:qL E N s out D f gP):x∈gP↔Hm E N s out x:=by
 rw[h.ready];constructor
 .rintro⟨hx,hf⟩;have c:=h.ue x hx;rw[hf]at c;have hz:ud E D x=0:=ad;have a:=h.mem.1 hx;refine⟨a.1.1,a.1.2,a.2,λu d=>?_⟩;have hn:=Zj.1 hz u d;have hb:=e _ d;by_cases h1:u∈s;·grind
  .by_cases b:u∈out;·grind
   .exact absurd (h.mem.2 ⟨⟨hb.1,h1⟩,b⟩) hn
 .rintro⟨h1,b,h3,h4⟩;have hx:x∈D:=h.mem.2 ⟨⟨h1,b⟩,h3⟩;refine⟨hx,?_⟩;rw[h.ue x hx,Zj.2 (λu d c=>?_)];·rfl
  .have a:=h.mem.1 c;grind
def qL.start f(a:∀x∈hI N s,f x=(ud E (hI N s) x:Int))gP(hr:gP=(hC N).filter (λx=>decide (x∈hI N s)&&decide (f x=0))):qL E N s [] (hI N s) f gP:=by subst hr;refine⟨.nil,(List.filter_eq_self.2 (λ_ _=>a8)).symm,a,(NG N).filter _,λx=>?_⟩;grind[Fy,MN]
def qL.pop(a:Valid N E)(h:qL E N s out D f (v::gP)):oY E N s out D v [] f gP:=by
 obtain⟨g,i⟩:=vl.1 h.sorted;have hv:=(h.ready v).1 (rK ..);refine⟨.snoc h.IF ⟨(h.isReady a).1 (rK ..),λu d=>?_⟩,h.rest,hv.1,λx hx _=>by simpa using h.ue x hx,i,λx=>?_⟩
 .rcases gF.1 ((h.isReady a).2 d)with rfl|c;·omega
  .grind
 .constructor;·intro hx;have h1:=(h.ready x).1 (List.mem_cons_of_mem _ hx);have b:=g x hx;exact⟨⟨h1.1,ad⟩,h1.2⟩
  .rintro⟨⟨h1,b⟩,h3⟩;rcases gF.1 ((h.ready x).2 ⟨h1,h3⟩)with e|c;·omega
   .omega
def oY.skip(h:oY E N s out D v T f gP)(hx:¬(x∈D/\x≠v)):oY E N s out D v (T++[x]) f gP:=
 {h with
  ue:=λy a hne=>by have:=h.ue y a hne;grind}
def oY.pos(c:E.Nodup)(h:oY E N s out D v T f gP)(hx:x∈D/\x≠v)(ho:x∈jy E v)(b:x∉T):1<=f x/\f x<=E.length:=by have h1:=h.ue x hx.1 hx.2;rw[if_neg b]at h1;have a:=Zi (E:=E) (x:=x) c h.NH;rw[if_pos ho]at a;have d:=amT E D x;omega
def oY.amR(h:oY E N s out D v T f gP)(hx:x∈D/\x≠v)(c:x∉T)(d:1<=f x)(b:f x -1≠0):oY E N s out D v (T++[x]) (dw f x (f x -1)) gP:=
 {h with
  ue:=λy a hne=>by have:=h.ue y a hne;grind[dw]
  ready:=λy=>by rw[h.ready];grind[dw]}
def Y3{l:List Int}(b:l.Pairwise (·<·))x:∀j,j<l.length->(j<l.countP (·<x)↔l[j]?.getD 0<x):=by
 induction l with
 |nil=>simp
 |cons a r e=>
  obtain⟨f,g⟩:=vl.1 b;intro j d;rw[QH];by_cases c:a<x;·grind
  .grind[List.getElem_mem]
def arU{l i x y}:y∈uA l i x↔y=x\/y∈l:=by grind[uA,o1]
def aqG{l}(e:l.Pairwise (·<·)){x}(hx:x∉l):(uA l (l.countP (·<x)) x).Pairwise (·<·):=by
 have hc:l.countP (·<x)<=l.length:=QI
 have hlt:∀y∈l.take (l.countP (·<x)),y<x:=λy c=>by obtain⟨j,a⟩:=QR c;have b:=(e5.1 a).1;rw[nJ]at b;have d:j<l.countP (·<x):=ad;rw[om,if_pos d]at a;have:=(Y3 e x j ad).1 d;rwa [a]at this
 have f:∀y∈l.drop (l.countP (·<x)),x<y:=λy c=>by obtain⟨j,a⟩:=QR c;rw[List.getElem?_drop]at a;have b:=(e5.1 a).1;have h1:=(Y3 e x (l.countP (·<x)+j) b);grind
 grind[uA,vl]
def oY.amS(h:oY E N s out D v T f gP)(hx:x∈D/\x≠v)(e:x∉T)(d:f x -1=0):oY E N s out D v (T++[x]) (dw f x (f x -1)) (uA gP (gP.countP (·<x)) x):=by
 have b:x∉gP:=λa=>by have:=((h.ready x).1 a).2;omega
 exact{h with
  ue:=λy c hne=>by have:=h.ue y c hne;grind[dw]
  sorted:=aqG h.sorted b
  ready:=λy=>by rw[arU,h.ready];grind[dw]}
def oY.done(a:E.Nodup)(h:oY E N s out D v (jy E v) f gP):qL E N s (out++[v]) (D.filter (λy=>!decide (y=v))) f gP:=by
 refine⟨h.IF,?_,λx hx=>?_,h.sorted,λx=>?_⟩;·rw[h.rest,QK];grind
 .simp only[pO,Bool.not_eq_true',decide_eq_false_iff_not]at hx;have h1:=h.ue x hx.1 hx.2;have b:=Zi (E:=E) (x:=x) a h.NH;grind
 .rw[h.ready];simp
def qL.final(a:Valid N E)(h:qL E N s out D f []):wL E N s out/\D=q7 N s out:=by refine⟨⟨h.IF,λv hv=>by have:=(h.isReady a).2 hv;cases this⟩,?_⟩;rw[h.rest];unfold hI q7;rw[QK];refine List.filter_congr (λx _=>?_);rw[Bool.and_comm]
def qL.small(h:qL E N s out D f gP):D.length<=N/\out.length<=N/\gP.length<=N:=by refine⟨?_,h.IF.length,Fp (Fq h.sorted) (λx hx=>(h.mem.1 ((h.ready x).1 hx).1).1.1)⟩;rw[h.rest];refine ea (yq _ _) (ea (yq _ _) ?_);simp[hC]
def oY.small(h:oY E N s out D v T f gP):gP.length<=N:=by refine Fp (Fq h.sorted) (λx hx=>?_);have a:=((h.ready x).1 hx).1.1;rw[h.rest]at a;exact(MN.1 (pO.1 a).1).1
end
def Ol w:(zeroValue 3).run aw w=a6 (J R 0) w:=ay
def gU.small{w F b n E}(h:gU w F b n E):0<=n/\n<=1048576:=by obtain⟨⟨fI,mo,fx,eT,eM,g⟩,_⟩:=h;exact⟨g.n0,g.vU⟩
def AN{w b a f}(d:dM w b encI c4 (k8 a f)){x}(hx:c4 x):
 (qA 118 (dj (ab b)) (J R x) ao).run aw w=a6 (if x∈a then J R (f x)else J R 0) w/\
 (qA 118 (dj (ab b)) (J R x) az).run aw w=a6 (bm #[if x∈a then J R (f x)else J R 0,ai (decide (x∈a))]) w:=by
 have h:=d.lookup pj sw Ol hx;rw[My]at h;by_cases c:x∈a;·simp only[c,if_true,decide_true]at h⊢;exact h
 .simp only[c,if_false,decide_false]at h⊢;exact h
def aqx b(n v)E F w(a:gU w F b n E)(hv:c4 v)(d:E.length<=1099511627776):
 aD aw 304 #[ax (ab ⟨b,0,af⟩),J R v] w λe w'=>∃A c,e=aB (ae A (mF E v).length c)/\c8 w' A (mF E v)/\(∀k off,A=ab ⟨k,off,af⟩->w.heap.size<=k)/\ar w w':=by
 refine(aqw b n v E F w a hv d).mono ?_;rintro e w' ⟨r,rfl,hn,f⟩;obtain⟨A,c,rfl,hi,_,_,g⟩:=hn.form;exact⟨A,c,rfl,hi,λk off e=>(g k _ e).1,f⟩
def asP b(n v)E F w(a:gU w F b n E)(hv:c4 v)(d:E.length<=1099511627776):
 aD aw 92 #[ax (ab ⟨b,0,af⟩),J R v] w λe w'=>∃A c,e=aB (ae A (jy E v).length c)/\c8 w' A (jy E v)/\(∀k off,A=ab ⟨k,off,af⟩->w.heap.size<=k/\k<w'.heap.size)/\ar w w':=by
 refine(adN b n v E F w a hv d).mono ?_;rintro e w' ⟨r,rfl,hn,f⟩;obtain⟨A,c,rfl,hi,_,_,g⟩:=hn.form;exact⟨A,c,aa,hi,g,f⟩
def Ue(b N:Nat)E F A c s w(fe:gU w F b N E)(hs:c8 w A s)(gB:s.length<=9223372036854775807)(ff:E.length<=1048576):
 aD aw 250 #[ax (ab ⟨b,0,af⟩),ae A s.length c] w λe w'=>∃la md f o,e=aB (bm #[la,dj (ab md)])/\wL E N s o/\qN w w' la o/\dM w' md encI c4 (k8 (q7 N s o) f)/\ar w w':=by
 have dU:=fe.small.2;have e0:=@J9 aw;have mH:(w.alloc (iP #[] 0)).cell? ⟨b,0,af⟩=ab (J R N):=(fe.aG (au.alloc (F:=λ_=>False) w (iP #[] 0))).TD;have X:=hid (And.intro fe hs);have GZ:aE (dM (w.alloc (iP #[] 0)) w.heap.size encI c4 (k8 [] (λ_=>0))):=hid (dM.made w encI c4);obtain⟨i0,iX,hz0,hz1,hz2⟩:=u5 Fe;have dy:=hid (And.intro iX (And.intro hz0 (And.intro hz1 hz2)));clear fe hs iX hz0 hz1 hz2;go_enter func250,ntmps250;go_wp2_with (go_at_call 303;refine(xv b N _ mH).mono ?_;rintro e w1 ⟨rfl,rfl⟩);clear mH e0;have Xn:aE (au (λi=>w.heap.size<=i) w (w.alloc (iP #[] 0))):=hid (au.alloc _ _);generalize w.alloc (iP #[] 0)=w1 at*;go_loopw [28] (λi wr=>∃k:Nat,k<=N/\i=J R k/\dM wr w.heap.size encI c4 (k8 (((hC N).take k).filter (λv=>!decide (v∈s))) (λ_=>0))/\au (λi=>w.heap.size<=i) w wr) (λi _=>N -(cO i).toNat);case atStart=>exact⟨0,cF _,aa,by simpa using GZ.out,Xn.out⟩
 case round=>
  obtain⟨k,hk,rfl,p,I⟩:=hrel;have C:=hid (And.intro p I);clear GZ Xn;by_cases hlt:k<N
  .have hb0:(k:Int)<(N:Int):=ad;have ux:=hid (UC N k hlt);obtain⟨r,hr⟩:∃r:Bool,decide ((k:Int)∈s)=r:=⟨_,aa⟩;have S:=hid hr
   have kP:aE ((k:Int)∉((hC N).take k).filter (λv=>!decide (v∈s))):=hid (λh=>by have:=(pO.1 h).1;obtain⟨j,hj⟩:=QR this;have AA:=(e5.1 hj).1;rw[nJ]at AA;rw[om,if_pos ad]at hj;obtain⟨fS,fD⟩:=e5.1 hj;simp[hC]at fD;omega);have hlen:(((hC N).take k).filter (λv=>!decide (v∈s))).length<=k:=ea (yq _ _) (by rw[nJ];omega);have V:c4 (k:Int):=⟨ad,ad⟩;have mT:=hid V;clear hr p I V;generalize cz:((hC N).take k).filter (λv=>!decide (v∈s))=L at*;cases r
   .have kG:aE (((hC N).take (k+1)).filter (λv=>!decide (v∈s))=L++[(k:Int)]):=hid (by rw[ux.out,tN,cz];have:=S.out;simp only[Hf,QM,this];rfl);clear cz
    go_wp2_with (first
     |(go_at_call 190;refine(Et A c s k wr _ S.out (X.out.2.aG (cf.aG C.out.2)) gB).mono ?_;rintro e aW ⟨rfl,rfl⟩)
     |(at_mapUpdate;refine Js aa _ _ _ aa pj sw C.out.1 (by rw[CR];unfold eh;omega) aa mT.out aa (J _ 0) aa ?_;intro aW kv hg2 hs2));rw[arb (f:=λ_=>0) kP.out]at kv;have W:=hid (And.intro kv (C.out.2.trans (au.of_grownBy (F:=λi=>w.heap.size<=i) hg2 (λi e=>bM (by cases e;exact b4 _))) (λ_ _ h=>h)));clear kv hg2 hs2;go_wp2;go_roundw;case rel=>exact⟨_,ad,by go_num,kG.out▸W.out.1,W.out.2⟩
    case measure=>simp[cO];omega
   .have kG:aE (((hC N).take (k+1)).filter (λv=>!decide (v∈s))=L):=hid (by rw[ux.out,tN,cz];have:=S.out;simp only[Hf,QM,this];simp);clear cz;go_wp2_with (go_at_call 190;refine(Et A c s k wr _ S.out (X.out.2.aG (cf.aG C.out.2)) gB).mono ?_;rintro e aW ⟨rfl,rfl⟩);go_roundw;case rel=>exact⟨_,ad,by go_num,kG.out▸C.out.1,C.out.2⟩
    case measure=>simp[cO];omega
  .obtain rfl:k=N:=ad
   have HP:dM wr w.heap.size encI c4 (k8 (hI k s) (λ_=>0)):=by have h:=C.out.1;rwa [tQ (by simp[hC])]at h
   have H1:=hid C.out.2;clear p I C;go_wp2_with (at_range;refine af1 aa _ _ _ aa sw HP aa ?_;intro aW K hg2 hs2);go_frame;rw[ara]at K;have W:=hid (And.intro K hg2);have hz2:=hg2.size;have hz1:=H1.out.size;clear K hg2 HP;generalize wr.heap.size=r at*;go_loopw [40] (λ_ wr=>∃(left:List Int) (f:Int->Int),Over wr w.heap.size r encI c4 (k8 (hI k s) f) left/\(∀x∈hI k s,x∉left->f x=(ud E (hI k s) x:Int))/\(∀x∈left,x∈hI k s/\f x=0)/\r<wr.heap.size/\au (λi=>w.heap.size<=i) w wr) (λ_ wr=>wr.rangeLeft w.heap.size r);case atStart=>exact⟨_,λ_=>0,W.out.1,λx h1 h2=>absurd h1 h2,λx h=>⟨h,aa⟩,ad,H1.out.trans W.out.2 (λ_ _ h=>h.elim)⟩
   case round=>
    obtain⟨left,f,K,hdone,abn,aAa,I⟩:=hrel;have C:=hid (And.intro hdone (And.intro abn (And.intro K I)));have R6:=I.size;clear hdone abn I;obtain⟨M,rfl⟩:∃M:aM,M=wr:=⟨_,aa⟩;go_wp2_with (at_next;refine af2 aa _ aa pj aa K ?_ ?_)
    .intro h0;subst h0;have cr:aE (∀x∈hI k s,f x=(ud E (hI k s) x:Int)):=hid (λx hx=>C.out.1 x hx a8);have b9:=hid C.out.2.2.1.ade;have azW:=b9.out.lt;have er:=hid C.out.2.2.2;clear K C W;go_wp2_with (go_at_call 303;refine(xv b k _ (X.out.1.aG (cf.aG er.out)).TD).mono ?_;rintro e cc ⟨rfl,rfl⟩)
     go_loopw [14,66] (λic i wr=>∃j:Nat,j<=k/\i=J R j/\wr.ownsRow M.heap.size 3 1 ic (((hC k).take j).filter (λx=>decide (x∈hI k s)&&decide (f x=0))).length ((((hC k).take j).filter (λx=>decide (x∈hI k s)&&decide (f x=0))).map (J R))/\
      au (λi=>M.heap.size<=i) M wr) (λ_ i _=>k -(cO i).toNat);case atStart=>exact⟨0,cF _,aa,⟨a8,bM ⟨aa,a8⟩⟩,au.refl _ _⟩
     case round=>
      obtain⟨j,hj,rfl,hrow,Y⟩:=hrel;have h5:=Y.size;by_cases kN:j<k
      .have ux:=hid (UC k j kN);have hb1:(j:Int)<(k:Int):=ad;have B:=(AN (b9.out.only Y ad) (x:=(j:Int)) ⟨ad,ad⟩).2;have hlen:(((hC k).take j).filter (λx=>decide (x∈hI k s)&&decide (f x=0))).length<=j:=ea (yq _ _) (by rw[nJ];omega);have S:=hid (And.intro hrow Y);clear hrow Y;generalize cz:((hC k).take j).filter (λx=>decide (x∈hI k s)&&decide (f x=0))=L at*
       have kG:aE (((hC k).take (j+1)).filter (λx=>decide (x∈hI k s)&&decide (f x=0))=L++if(j:Int)∈hI k s/\f j=0 then[(j:Int)]else[]):=hid (by rw[ux.out,tN,cz];congr 1;simp only[Hf,QM,Bool.and_eq_true,decide_eq_true_eq]);clear cz;by_cases n:(j:Int)∈hI k s
       .rw[if_pos n]at B;have t:decide ((j:Int)∈hI k s)=true:=by simpa using n
        rw[t]at B;have l:=hid n;clear n t;obtain⟨d,t⟩:=ex (f j);rw[t]at B;by_cases p5:d=0
        .subst p5;have G3:aE (((hC k).take (j+1)).filter (λx=>decide (x∈hI k s)&&decide (f x=0))=L++[(j:Int)]):=hid (by rw[kG.out,if_pos ⟨l.out,t⟩]);clear t;go_wp2_with (at_builtin;go_loud (refine Pz _ aa (bj 80) (bj 82) 82 aa M.heap.size 3 i0 _ 1 8 hR dy.out.1 dy.out.2.1 dy.out.2.2.1 dy.out.2.2.2 aa ad _ L.length _ aa (pr S.out.1 (au.alloc (F:=λ_=>False) _ _) (λ_ _ h=>h)) _ 1 1 _ aa aa (MT _ _ _) (by simp[zz]) (by unfold eh;omega) ad (by simp;omega) ?_;intro aAD c5 abQ aa4 _ _));have H8:au (λi=>M.heap.size<=i) (wr.alloc (bl #[J R (j:Int)] 3)) c5:=au.of_grownBy aa4 (λi e=>bM (S.out.1.lt i e).1);have qG:=hid (And.intro abQ ((S.out.2.trans (au.alloc (F:=λi=>M.heap.size<=i) _ _) (λ_ _ h=>h)).trans H8 (λ_ _ h=>h)));clear abQ aa4 H8 B;go_wp2;go_roundw
         case rel=>
          refine⟨j+1,ad,by go_num,?_,qG.out.2⟩;rw[G3.out];simpa using qG.out.1
         case measure=>simp[cO];omega
        .have hne:(d==0)=false:=by simpa using p5
         have G3:aE (((hC k).take (j+1)).filter (λx=>decide (x∈hI k s)&&decide (f x=0))=L):=hid (by rw[kG.out,if_neg (λh=>p5 (t▸h.2)),j1]);have ayo:=hid p5;clear t p5;go_wp2;go_roundw;case rel=>exact⟨_,ad,by go_num,G3.out▸S.out.1,S.out.2⟩
         case measure=>simp[cO];omega
       .rw[if_neg n]at B;have t:decide ((j:Int)∈hI k s)=false:=by simpa using n
        rw[t]at B;have G3:aE (((hC k).take (j+1)).filter (λx=>decide (x∈hI k s)&&decide (f x=0))=L):=hid (by rw[kG.out,if_neg (λh=>n h.1),j1]);clear n t;go_wp2;go_roundw;case rel=>exact⟨_,ad,by go_num,G3.out▸S.out.1,S.out.2⟩
        case measure=>simp[cO];omega
      .obtain rfl:j=k:=ad;rw[tQ (by simp[hC])]at hrow;have aai:=qL.start (E:=E) f cr.out _ aa;have P:=hid (And.intro aai (And.intro (b9.out.only Y ad) (And.intro (eZ.nU hrow) (er.out.trans Y (λi _ h=>ad)))));have aqo:=er.out.size;clear hrow aai Y cr b9;go_wp2_with fail
       go_loopw [13,14] (λec AZ wr=>∃(out D:List Int) (g:Int->Int) (gP:List Int),qL E j s out D g gP/\dM wr w.heap.size encI c4 (k8 D g)/\wr.ownsRow M.heap.size 3 1 ec out.length (out.map (J R))/\eZ wr M.heap.size AZ gP/\
        (∀q,ec.ownBlock=ab q->AZ.ownBlock≠ab q)/\M.heap.size<=wr.heap.size/\au (λi=>w.heap.size<=i) w wr) (λ_ _ wr=>MM wr w.heap.size);case atStart=>exact⟨[],_,f,_,P.out.1,P.out.2.1,⟨a8,bM ⟨aa,a8⟩⟩,P.out.2.2.1,(λq h=>by cases h),h5,P.out.2.2.2⟩
       case round=>
        obtain⟨out,D,g,gP,U,p,hrow,Q,hap,hsz,I⟩:=hrel;have dR:=p.size;rw[CR]at dR;have hsm:=U.small;cases gP with
        |nil=>
         obtain⟨fU,fl,rfl,_,_⟩:=Q.form;have iq:=U.final X.out.1.2.2;have S:=hid (And.intro iq (And.intro p (And.intro hrow I)));clear iq p hrow I Q hap U P dR;go_wp2;go_ret2;obtain⟨fX,a2,a3,a4⟩:=S.out;rw[fX.2]at a2;exact⟨_,_,g,_,aa,fX.1,zd a3 aqo,a2,cf.aG a4⟩
        |cons v gP=>
         obtain⟨fU,fl,rfl,_,_⟩:=Q.form;obtain⟨g',off,rfl,_,azz,LS,hcell,aaw,aav⟩:=Q.tail;unfold eh at LS;have LZ:=U.pop X.out.1.2.2;have uy:=(U.mem.1 LZ.NH).1.1;have dQ:D.length<=1048576:=ad;have V:c4 v:=⟨ad,ad⟩;simp at hsm
         have hlt:(D.filter (λy=>!decide (y=v))).length<D.length:=by
          have eN:D.Nodup:=by rw[U.rest];exact(((Fq (NG j)).filter _).filter _)
          have hl:=(MA eN LZ.NH).length_eq;rw[js]at hl;omega
         have hb2:=Q.lt (g:=g') aa
         have aoV:∃aA aC,(aA=ab ⟨g',off+1,af⟩\/aA=ab ⟨g',off,af⟩)/\eZ wr M.heap.size (ae aA gP.length aC) gP/\(1<fl->aA=ab ⟨g',off+1,af⟩/\aC=fl -1)/\(fl=1->aA=ab ⟨g',off,af⟩/\aC=0):=by
          by_cases h1:fl=1;·subst h1;exact⟨_,_,b8 aa,aav (j2 ad),λh=>ad,λ_=>⟨aa,aa⟩⟩
          .exact⟨_,_,bM rfl,aaw,λ_=>⟨rfl,rfl⟩,λh=>absurd h h1⟩
         obtain⟨aA,aC,aox,EK,HK,qU⟩:=aoV;have aaz:=λq a=>(hap q a:ab g'≠ab q);have ac:=hid (And.intro LZ (And.intro EK (And.intro aaz (And.intro I (And.intro V dR)))));have CE:wr.frozen? ⟨g',off,af⟩=wr.frozen? ⟨g',off,af⟩:=rfl;have aoN:=p.lt;have um:(0:Int)<((gP.length:Int)+1):=ad;have oC:(1:Int)<=(gP.length:Int)+1:=ad;clear U LZ EK aaz I V dR Q hap aox aaw aav CE;have b9:=hid p;have D6:=hid hrow;clear p hrow;have hcc:fl=1\/1<fl:=ad;rcases hcc with hc1|hc1;rotate_left;obtain⟨rfl,rfl⟩:=HK hc1;clear HK qU;rotate_left;obtain⟨rfl,rfl⟩:=qU hc1;subst hc1;obtain rfl:gP=[]:=j2 ad;clear HK qU
         all_goals
          go_wp2_with (first
           |(at_delete;refine awK aa _ _ _ _ aa pj sw b9.out aa ac.out.2.2.2.2.1 aa ?_;intro aW kv hg2 hs2;have hk2:au (λi=>i=w.heap.size) wr aW:=au.of_grownBy hg2 (λi e=>bM (by cases e;rfl));have W:=hid (And.intro (aq9 D g v▸kv) (And.intro hk2 (pr D6.out hk2 (λq a e=>by have:=(D6.out.lt q a).1;omega))));have kY:=hid hs2;clear kv hg2 hk2 hs2)
           |(at_builtin;go_loud (refine Pz _ aa (bj 95) (bj 97) 82 aa M.heap.size 3 i0 _ 1 8 hR dy.out.1 dy.out.2.1 dy.out.2.2.1 dy.out.2.2.2 aa ad _ out.length (out.map (J R)) aa (pr W.out.2.2 (au.alloc (F:=λ_=>False) _ _) (λ_ _ h=>h)) _ 1 1 [J R v] aa aa (MT _ _ _) (by simp[zz]) (by unfold eh;omega) ad (by have:=kY.out;simp;omega) ?_);intro M5 bI Ii H5 _ abu;have hk3:=au.of_grownBy (F:=λi=>_=ab i) H5 (λi e=>bM e);have gK:=hid (And.intro Ii (And.intro hk3 abu));clear Ii H5 hk3 abu));have hs2:=kY.out;have pb:au (λi=>w.heap.size<=i) w bI:=((ac.out.2.2.2.1.trans (W.out.2.1.mono (G:=λi=>w.heap.size<=i) (λi _ e=>ad)) (λ_ _ h=>h)).trans (au.alloc (F:=λi=>w.heap.size<=i) _ _) (λ_ _ h=>h)).trans (gK.out.2.1.mono (G:=λi=>w.heap.size<=i) (λi _ e=>by have:=(D6.out.lt i e).1;omega)) (λ_ _ h=>h);have HQ:=(W.out.1.only (au.alloc (F:=λ_=>False) aW (bl #[J R v] 3)) (λh=>h)).only gK.out.2.1 (λe=>by have:=(D6.out.lt _ e).1;omega);have aat:=((ac.out.2.1.only W.out.2.1 (λq a e=>by have hq':g'=q:=KM a;omega)).only (au.alloc (F:=λ_=>False) aW (bl #[J R v] 3)) (λ_ _ h=>h)).only gK.out.2.1 (λq a e=>ac.out.2.2.1 q e a)
          have aaB:∀q,M5.ownBlock=ab q->g'≠q:=λq a e=>by
           rcases gK.out.2.2 with h|h;·exact ac.out.2.2.1 q (h.symm.trans a) (congrArg ab e)
           .rw[h]at a;simp at a;omega
          have hs3:=gK.out.2.1.size;simp only[zB]at hs3;have T:=hid (And.intro pb (And.intro HQ (And.intro aat (And.intro aaB (And.intro gK.out.1 ac.out.1)))));have HB:=hid hb2;have aAb:wr.heap.size<=aW.heap.size:=ad;have mT:=hid ac.out.2.2.2.2.1;have nG:=hid ac.out.2.2.2.2.2;clear pb HQ aat aaB gK W ac D6 b9 kY hs2 aoN hb2 hcell;go_wp2_with (go_at_call 92;refine(asP b j v E F bI (X.out.1.aG (cf.aG T.out.1)) mT.out ad).mono ?_;rintro e dK ⟨Du,Af,rfl,abb,aaE,xf⟩);have ay7:=xf.size;have ya:=hid (And.intro abb (And.intro aaE (And.intro (T.out.1.trans xf (λ_ _ h=>h.elim)) (And.intro (T.out.2.1.only xf (λh=>h)) (And.intro (T.out.2.2.1.only xf (λ_ _ h=>h)) (pr T.out.2.2.2.2.1 xf (λ_ _ h=>h)))))));have iw:=TV E v;have azI:=HB.out.2;clear abb aaE xf
          go_loopw [14,103] (λAZ i wr=>∃(m:Nat) (H:Int->Int) (xJ:List Int),m<=(jy E v).length/\i=J R m/\oY E j s out D v ((jy E v).take m) H xJ/\dM wr w.heap.size encI c4 (k8 (D.filter (λy=>!decide (y=v))) H)/\
           wr.ownsRow M.heap.size 3 1 M5 (out.length+1) (out.map (J R)++[J R v])/\c8 wr Du (jy E v)/\eZ wr M.heap.size AZ xJ/\(∀q,AZ.ownBlock=ab q->M5.ownBlock≠ab q/\∀off,Du≠ab ⟨q,off,af⟩)/\
           dK.heap.size<=wr.heap.size/\au (λi=>w.heap.size<=i) w wr) (λ_ i _=>(jy E v).length -(cO i).toNat)
          case atStart=>
           refine⟨0,g,_,cF _,aa,T.out.2.2.2.2.2,ya.out.2.2.2.1,ya.out.2.2.2.2.2,ya.out.1,ya.out.2.2.2.2.1,λq a=>?_,b4 _,ya.out.2.2.1⟩;obtain rfl:g'=q:=KM a;exact⟨λh=>T.out.2.2.2.1 _ h rfl,λoff h=>by have:=(ya.out.2.1 _ off h).1;omega⟩
          case round=>
           obtain⟨m,H,xJ,hm,rfl,U,p,hrow,gB,Q,hap,aqg,I⟩:=hrel;have gr:=p.lt;by_cases q0:m<(jy E v).length
           .have l:=hid (And.intro U (And.intro hrow (And.intro gB (And.intro hap I))));obtain⟨gN,asr,rfl,hcell⟩:=gB ad;have h1:=hcell m q0;obtain⟨x,hx⟩:∃x,(jy E v)[m]?=ab x:=⟨_,cC q0⟩;simp only[hx,vo]at h1;have AL:=cY hx;have y6:0<=x/\x<(j:Int):=(X.out.1.2.2 _ (IM.1 AL)).2.1;have V:c4 x:=⟨ad,ad⟩;have hb1:(m:Int)<((jy E v).length:Int):=ad;have ko:aE ((jy E v).take (m+1)=(jy E v).take m++[x]):=hid (by rw[gg,hx];rfl)
            have acq:x∉(jy E v).take m:=λh=>by have eN:(jy E v).Nodup:=Fq (avr (avL X.out.1.2.1 v));obtain⟨q,a⟩:=QR h;have oE:=(e5.1 a).1;rw[nJ]at oE;rw[om,if_pos ad]at a;have:=(List.getElem?_inj ad eN).1 (a.trans hx.symm);omega
            have B:=(AN p V).2;have hl2:=(AN p V).1;have Kx:=hid V;have HM:(D.filter (λy=>!decide (y=v))).length<=1048576:=ad;have Qu:=hid acq;have ajR:=hid AL;clear U hrow gB hap I hcell hx V acq AL;by_cases n:x∈D.filter (λy=>!decide (y=v))
            .rw[if_pos n]at B hl2;have t:decide (x∈D.filter (λy=>!decide (y=v)))=true:=by simpa using n
             rw[t]at B;have EW:x∈D/\x≠v:=by simpa using n
             have fA:=hid (And.intro n EW);have lU:=l.out.1.pos X.out.1.2.1 EW ajR.out Qu.out;obtain⟨d,p6⟩:=ex (H x);rw[p6]at B hl2 lU;have sB:=hid p6;clear n EW t p6;obtain⟨OB,ow,rfl,_,_⟩:=Q.form;have pf:=l.out.1.small;have acj:∀q,(ae OB xJ.length ow).ownBlock=ab q->M.heap.size<=q/\q<wr.heap.size:=λq a=>Q.lt a;have jZ:=hid (And.intro Q acj);clear Q acj;by_cases r0:d=1
             .subst r0
              go_wp2_with (first
               |(at_mapUpdate;refine Js aa _ _ _ aa pj sw p (by rw[CR];unfold eh;omega) aa Kx.out aa (J R 0) aa ?_;intro dz y3 H4 vM;rw[Tp fA.out.1]at y3;have Cv:=(AN y3 Kx.out).1;rw[if_pos fA.out.1,show dw H x 0 x=0 by simp[dw]]at Cv;have Cu:au (λi=>i=w.heap.size) wr dz:=au.of_grownBy H4 (λi e=>bM (by cases e;rfl));have O:=hid (And.intro y3 (And.intro Cu (And.intro vM (jZ.out.1.only Cu (λq a e=>by have:=(jZ.out.2 q a).1;omega)))));clear y3 Cu vM H4)
               |(go_at_call 305;refine(Nq OB ow xJ x dz O.out.2.2.2.sc (l.out.1.sorted.imp (λh=>ad)) ad).mono ?_;rintro e eY ⟨T9,rfl,Nf,rfl⟩)
               |(go_at_call 306;refine(aqI M.heap.size (ae OB xJ.length ow) xJ (xJ.countP (·<x)) x (dz.drewN Nf).heap.size _ (O.out.2.2.2.only (ar.trans (au.drewN dz Nf) (au.alloc _ _)) (λ_ _ h=>h)) QI (fz _ _) (λq a e=>by have:=(jZ.out.2 q a).2;have h8:=O.out.2.2.1;simp at e;omega) ad (by have h8:=O.out.2.2.1;simp;omega)).mono ?_;rintro e gQ ⟨v10,rfl,aas,E0,abl⟩));have vM:=O.out.2.2.1;have H9:ar dz ((dz.drewN Nf).alloc (bl #[J R x] 3)):=ar.trans (au.drewN dz Nf) (au.alloc _ _);have abY:=E0.size;simp at abY;have yl:aE (dw H x (H x -1)=dw H x 0):=hid (by rw[sB.out];rfl);have Cg:=l.out.1.amS fA.out.2 Qu.out (by rw[sB.out];rfl);rw[yl.out]at Cg;have aak:=(O.out.1.only H9 (λh=>h)).only E0 (λe=>by have:=(jZ.out.2 _ e).1;omega);have Ir:=pr ((pr (pr l.out.2.1 O.out.2.1 (λq a e=>by have:=(l.out.2.1.lt q a).1;omega)) H9 (λ_ _ h=>h))) E0 (λq a e=>(l.out.2.2.2.1 q e).1 a);have Iv:=((l.out.2.2.1.only O.out.2.1 (λq off a e=>by have:=(ya.out.2.1 q off a).1;omega)).only H9 (λ_ _ _ h=>h)).only E0 (λq off a e=>(l.out.2.2.2.1 q e).2 off a)
              have aaA:∀q,v10.ownBlock=ab q->M5.ownBlock≠ab q/\∀off,ab (⟨gN,asr,af⟩:bQ)≠ab ⟨q,off,af⟩:=λq a=>by
               rcases abl with h|⟨gm,h,mc⟩;·exact l.out.2.2.2.1 q (h.symm.trans a)
               .obtain rfl:gm=q:=KM (h.symm.trans a);simp at mc;refine⟨λe=>?_,λoff e=>?_⟩;·have:=(l.out.2.1.lt _ e).2;omega
                .have:=(ya.out.2.1 _ _ e).2;omega
              have HS:=((l.out.2.2.2.2.trans (O.out.2.1.mono (G:=λi=>w.heap.size<=i) (λi _ e=>ad)) (λ_ _ h=>h)).trans H9 (λ_ _ h=>h.elim)).trans (E0.mono (G:=λi=>w.heap.size<=i) (λi _ e=>by have:=(jZ.out.2 _ e).1;omega)) (λ_ _ h=>h);have gL:=hid (And.intro Cg (And.intro aak (And.intro Ir (And.intro Iv (And.intro aas (And.intro aaA (And.intro (by omega:dK.heap.size<=gQ.heap.size) HS)))))));clear vM H9 abY Cg aak Ir Iv aaA HS aas E0 abl B hl2 Cv p;go_wp2;go_roundw
              case rel=>
               obtain⟨fX,a2,a3,a4,a5,yv,KW,Q6⟩:=gL.out;exact⟨m+1,_,_,ad,by go_num,ko.out▸fX,a2,a3,a4,a5,yv,KW,Q6⟩
              case measure=>simp[cO];omega
             .have hne:(d -1==0)=false:=by simp;omega
              have p5:aE (d -1≠0):=hid ad;go_wp2_with (at_mapUpdate;refine Js aa _ _ _ aa pj sw p (by rw[CR];unfold eh;omega) aa Kx.out aa (J R (d -1)) aa ?_;intro dz y3 H4 vM;rw[Tp fA.out.1]at y3;have Cv:=(AN y3 Kx.out).1;rw[if_pos fA.out.1,show dw H x (d -1) x=d -1 by simp[dw]]at Cv;have Cu:au (λi=>i=w.heap.size) wr dz:=au.of_grownBy H4 (λi e=>bM (by cases e;rfl));have O:=hid (And.intro y3 (And.intro Cu (And.intro vM (jZ.out.1.only Cu (λq a e=>by have:=(jZ.out.2 q a).1;omega)))));clear y3 Cu vM H4);have vM:=O.out.2.1.size;have Cg:=l.out.1.amR fA.out.2 Qu.out (by rw[sB.out];exact lU.1) (by rw[sB.out];exact p5.out);rw[sB.out]at Cg;have Ir:=pr l.out.2.1 O.out.2.1 (λq a e=>by have:=(l.out.2.1.lt q a).1;omega);have Iv:=l.out.2.2.1.only O.out.2.1 (λq off a e=>by have:=(ya.out.2.1 q off a).1;omega);have HS:=l.out.2.2.2.2.trans (O.out.2.1.mono (G:=λi=>w.heap.size<=i) (λi _ e=>ad)) (λ_ _ h=>h);have gL:=hid (And.intro Cg (And.intro O.out.1 (And.intro Ir (And.intro Iv (And.intro O.out.2.2.2 (And.intro l.out.2.2.2.1 (And.intro (by omega:dK.heap.size<=dz.heap.size) HS)))))));clear vM Cg Ir Iv HS B hl2 Cv p;go_wp2;go_roundw
              case rel=>
               obtain⟨fX,a2,a3,a4,a5,yv,KW,Q6⟩:=gL.out;exact⟨m+1,_,_,ad,by go_num,ko.out▸fX,a2,a3,a4,a5,yv,KW,Q6⟩
              case measure=>simp[cO];omega
            .rw[if_neg n]at B;have t:decide (x∈D.filter (λy=>!decide (y=v)))=false:=by simpa using n
             rw[t]at B;have EW:¬(x∈D/\x≠v):=by simpa using n
             have P3:=hid (And.intro (l.out.1.skip EW) (And.intro p Q));clear n EW t hl2 p Q;go_wp2;go_roundw;case rel=>exact⟨m+1,H,xJ,ad,by go_num,ko.out▸P3.out.1,P3.out.2.1,l.out.2.1,l.out.2.2.1,P3.out.2.2,l.out.2.2.2.1,aqg,l.out.2.2.2.2⟩
             case measure=>simp[cO];omega
           .obtain rfl:m=(jy E v).length:=ad;rw[kH]at U;have dR:=p.size;rw[CR]at dR;have cr:=hid (And.intro (U.done X.out.1.2.1) (And.intro p (And.intro hrow (And.intro Q (And.intro hap (And.intro I dR))))));clear U p hrow gB Q hap I dR;go_wp2;go_roundw
            case rel=>
             obtain⟨fX,a2,a3,a4,a5,yv,KW⟩:=cr.out;exact⟨_,_,H,xJ,fX,a2,by simpa using a3,a4,λq a h=>(a5 q h).1 a,ad,yv⟩
            case measure=>rw[cr.out.2.2.2.2.2.2,nG.out];exact hlt
    .intro v aws bI vO S8 E6 hk3 hs3 hen;obtain⟨fS,fD,iM,ql⟩:=C.out;have Mk:=(fD v vO).1;have uy:=(MN.1 Mk).1;rw[My,if_pos Mk]at S8;obtain rfl:J R (f v)=aws:=KM S8;dsimp only[encI]at hen⊢;have pb:=ql.trans (hk3.mono (G:=λi=>w.heap.size<=i) (λi _ e=>ad)) (λ_ _ h=>h);have V:c4 v:=⟨ad,ad⟩
     have gl:(left.filter (λy=>!decide (y=v))).length<left.length:=by have:=(MA K.2.1 vO).length_eq;simp at this⊢;omega
     have Z:=hid (And.intro vO (And.intro Mk (And.intro E6 (And.intro pb (And.intro V (And.intro K.left_eq (MA K.2.1 vO)))))));have oW:=hid hs3;clear fS fD iM ql Mk vO S8 E6 hk3 pb V K hs3;go_wp2_with (go_at_call 304;refine(aqx b k v E F bI (X.out.1.aG (cf.aG Z.out.2.2.2.1)) Z.out.2.2.2.2.1 ad).mono ?_;rintro e cc ⟨kC,kt,rfl,aba,hb4,hg4⟩);have ay6:=hg4.size;have abz:∀gm off,kC=ab ⟨gm,off,af⟩->¬(gm=w.heap.size):=λgm off e=>by have:=hb4 gm off e;have:=oW.out;omega
     have r3:=Z.out.2.2.1.only hg4 (λh=>h) (λh=>h);have pc:=Z.out.2.2.2.1.trans hg4 (λ_ _ h=>h.elim);have yV:=(C.out.2.1 v Z.out.1).2;have T:=hid (And.intro aba (And.intro abz (And.intro r3 (And.intro pc yV))));have hr4:r<cc.heap.size:=by have:=oW.out;omega
     have azM:=acB E v;clear aba hb4 hg4 abz r3 pc yV hen
     go_loopw [48] (λi wr=>∃(j:Nat) (H:Int->Int),j<=(mF E v).length/\i=J R j/\Over wr w.heap.size r encI c4 (k8 (hI k s) H) (left.filter (λy=>!decide (y=v)))/\H v=(((mF E v).take j).countP (λu=>decide (u∈hI k s)):Nat)/\
      (∀z,z≠v->H z=f z)/\r<wr.heap.size/\au (λi=>i=w.heap.size) cc wr) (λi _=>(mF E v).length -(cO i).toNat);case atStart=>exact⟨0,f,cF _,aa,T.out.2.2.1,by simpa using T.out.2.2.2.2,λ_ _=>aa,hr4,au.refl _ _⟩
     case round=>
      obtain⟨j,H,hj,rfl,K,p8,Cs,abX,Y⟩:=hrel;have LI:=K.ade;have S2:=T.out.1.only Y T.out.2.1;have P:=hid (And.intro K (And.intro Cs Y));have aza:=Y.size;clear Cs Y;by_cases kN:j<(mF E v).length
      .obtain⟨gN,off,rfl,hcell⟩:=S2 ad;have h1:=hcell j kN;obtain⟨x,hx⟩:∃x,(mF E v)[j]?=ab x:=⟨_,cC kN⟩;simp only[hx,vo]at h1;have y5:=TA.1 (cY hx);have y6:=(X.out.1.2.2 _ y5).1;have hb1:(j:Int)<((mF E v).length:Int):=ad;have B:=(AN LI (x:=x) ⟨ad,ad⟩).2;have hl2:=(AN LI (x:=v) Z.out.2.2.2.2.1).1;rw[if_pos Z.out.2.1,p8]at hl2;have azy:((mF E v).take j).countP (λu=>decide (u∈hI k s))<=1048576:=ea QI (by rw[nJ];omega)
       have DV:aE (((mF E v).take (j+1)).countP (λu=>decide (u∈hI k s))=((mF E v).take j).countP (λu=>decide (u∈hI k s))+if x∈hI k s then 1 else 0):=hid (by rw[gg,hx];simp );have vd:=hid (And.intro hx p8);generalize ((mF E v).take j).countP (λu=>decide (u∈hI k s))=cnt at*;clear hcell S2 hx y5 LI p8;by_cases n:x∈hI k s
       .rw[if_pos n]at B;have l:=hid n;have t:decide (x∈hI k s)=true:=by simpa using n
        rw[t]at B;clear n t;go_wp2_with (at_mapUpdate;refine awL aa _ _ _ aa pj sw K aa Z.out.2.2.2.2.1 (by rw[My,if_pos Z.out.2.1];exact⟨_,aa⟩) aa (J _ _) aa ?_;intro c5 SS H8 aAd);rw[Tp Z.out.2.1]at SS;have qG:=hid (And.intro SS (P.out.2.2.trans H8 (λ_ _ h=>h)));clear SS H8 B hl2 K;go_wp2;go_roundw
        case rel=>
         refine⟨j+1,_,ad,by go_num,qG.out.1,?_,λz hz=>?_,ad,qG.out.2⟩;·rw[DV.out,if_pos l.out];simp[dw]
         .unfold dw;rw[if_neg hz];exact P.out.2.1 z hz
        case measure=>simp[cO];omega
       .rw[if_neg n]at B;have l:=hid n;have t:decide (x∈hI k s)=false:=by simpa using n
        rw[t]at B;clear n t;go_wp2;go_roundw;case rel=>exact⟨j+1,H,ad,by go_num,P.out.1,by rw[DV.out,if_neg l.out];exact vd.out.2,P.out.2.1,abX,P.out.2.2⟩
        case measure=>simp[cO];omega
      .obtain rfl:j=(mF E v).length:=ad;have cr:=hid p8;clear p8 S2 LI;go_wp2;go_roundw
       case rel=>
        refine⟨_,H,K,λx hx iJ=>?_,λx hx=>?_,abX,T.out.2.2.2.1.trans P.out.2.2 (λi _ e=>ad)⟩
        .by_cases ph:x=v;·subst ph;rw[cr.out,kH];rfl
         .rw[P.out.2.1 x ph];exact C.out.1 x hx (λh=>iJ (pO.2 ⟨h,by simpa using ph⟩))
        .obtain⟨fX,a2⟩:=pO.1 hx;have ph:x≠v:=by simpa using a2
         rw[P.out.2.1 x ph];exact C.out.2.1 x fX
       case measure=>rw[P.out.1.left_eq,Z.out.2.2.2.2.2.1];exact gl
def amx{E E'}(h:E.Perm E')l:(cut E l).Perm (cut E' l):=h.filter _
def amw E l(u x):cut (E++[(u,x)]) l=cut E l++(if u∉l/\x∉l then[(u,x)]else[]):=by grind[cut]
def avj{a cT u x t}(h:a.heap[cT]?=ab (bl #[J R u,J R x] t (0,0))):kI a (ab ⟨cT,0,af⟩) [(u,x)]:=λ_=>by refine⟨cT,0,rfl,λj b=>?_⟩;obtain rfl:j=0:=aF;exact⟨fu _ _ 0 _ _ _ h,fu _ _ 1 _ _ _ h⟩
def awF(b N:Nat)E F A c l w(fe:gU w F b N E)(hl:c8 w A l)(hlen:l.length<=9223372036854775807)(ff:E.length<=1048576):
 aD aw 361 #[ax (ab ⟨b,0,af⟩),ae A l.length c] w λe w'=>∃C a,e=aB (ax (ab ⟨C,0,af⟩))/\gU w' (λi=>w.heap.size<=i/\i<w'.heap.size) C N a/\a.Perm (cut E l)/\ar w w':=by
 obtain⟨⟨fI,mo,fx,eT,eM,g⟩,eN,dH⟩:=fe;have aoP:=g.n0;have aoQ:=g.vU;have mH:=fu _ _ 0 _ _ _ g.blk;simp at mH;have k4:=g.mC.lt;have B:=hid (And.intro g (And.intro eN (And.intro dH hl)));have hbl:=(Array.getElem?_eq_some_iff.1 g.blk).1;clear g eN dH hl;go_enter func361,ntmps361;go_wp2_with fail;go_at_call 179;refine(ado N w aoP aoQ).mono ?_;rintro e w1 ⟨C,rfl,HN,hg1⟩
 have e1:w1.cell? ⟨b,1,af⟩=ab (dj (ab fI)):=by have:=hg1.heap B.out.1.blk (λh=>h);simpa using fu _ _ 1 _ _ _ this
 have HP:=B.out.1.mC.only hg1 (λh=>h);have hs1:=hg1.size;have H1:=hid (And.intro HN hg1);clear HN hg1;go_wp2_with (at_range;refine af1 aa _ _ _ aa Tryz.underlying302 HP aa ?_;intro aW q hg2 hs2);go_frame;have V:=hid (And.intro q hg2);clear q hg2 HP
 go_loopw [19] (λ_ wr=>∃(k left a:List (Int×Int)) (s:Nat->Prop),(k++left).Perm E/\a.Perm (cut k l)/\Over wr fI w1.heap.size vw q4 (E.map (λe=>(e,ai az))) left/\gU wr s C N a/\
  (∀i,s i->w.heap.size<=i/\i≠w1.heap.size/\i<wr.heap.size)/\w1.heap.size<wr.heap.size/\au (λi=>w.heap.size<=i) w wr) (λ_ wr=>wr.rangeLeft fI w1.heap.size)
 case atStart=>
  refine⟨[],E,[],_,a8,aY,?_,H1.out.1.aG V.out.2,?_,ad,ar.to (ar.trans H1.out.2 V.out.2)⟩;·have h:=V.out.1;rw[List.map_map]at h;simpa [JM]using h
  .omega
 case round=>
  obtain⟨k,left,a,s,hp,hc,q,EF,hF,S9,Z⟩:=hrel;have R6:=Z.size;have dT:=hid (And.intro hp (And.intro hc (And.intro q (And.intro EF (And.intro hF Z)))));clear hp hc EF hF Z;go_wp2_with (at_next;refine af2 aa _ aa Mw aa q ?_ ?_);·intro h0;go_wp2;go_ret;obtain⟨fS,fD,iM,O,I,P⟩:=dT.out;subst h0;rw[j1]at fS;exact⟨_,_,aa,O.mono (λi hi D=>⟨(I i D).1,hi⟩),fD.trans (amx fS l),cf.aG P⟩
  .intro u x v m M hv E6 hk3 hs3 hen;dsimp only[vw]at hen⊢;obtain⟨fS,fD,iM,O,I,P⟩:=dT.out;have acp:(u,x)∈E:=fS.subset (List.mem_append_right _ M);have abF:(k++left).Nodup:=fS.nodup_iff.2 B.out.2.1;have ph:(u,x)∉k:=λh=>(yr.1 abF).2.2 _ h _ M aa;have hx2:(u,x)∉a:=λh=>ph (CV.1 (fD.subset h)).1;have hb:=B.out.2.2.1 _ acp;have c3:q4 (u,x):=⟨⟨ad,ad⟩,⟨ad,ad⟩⟩
   have aaM:canAdd N a (u,x)=true:=by
    have h1:qe N u=true:=by simpa [qe]using hb.1
    have o:qe N x=true:=by simpa [qe]using hb.2.1
    unfold canAdd;simp only[h1,o,hx2];simpa using hb.2.2
   have nP:ju N a [(u,x)]=a++[(u,x)]:=by show pU N a (u,x)=_;unfold pU;rw[aaM];rfl
   have apw:a.length<=1048576:=by have h1:=fD.length_eq;have o:=Za k l;have h3:=fS.length_eq;simp at h3;omega
   have Cy:=MA q.2.1 M
   have qc:((k++[(u,x)])++left.filter (λy=>!decide (y=(u,x)))).Perm E:=by rw[List.append_assoc];exact((Cy.append_left _).symm.trans (BN _)).trans fS
   have aaf:=O.only hk3 (λi D e=>(I i D).2.1 e);have pb:=P.trans (hk3.mono (G:=λi=>w.heap.size<=i) (λi _ e=>ad)) (λ_ _ h=>h);have d:=hid (And.intro qc (And.intro E6 (And.intro aaf (And.intro pb (And.intro c3 (And.intro nP fD))))));have X:=hid (And.intro q.left_eq E6.left_eq)
   have gl:(left.filter (λy=>!decide (y=(u,x)))).length<left.length:=by have:=Cy.length_eq;simp at this⊢;omega
   have t:=hid I;have p:=hid hs3;clear hs3;clear fS fD iM O I P acp abF ph hx2 hb c3 aaM nP Cy qc aaf pb M hv E6 hk3 q;obtain⟨Q,hr1⟩:∃r:Bool,decide (u∈l)=r:=⟨_,aa⟩;obtain⟨S,hr2⟩:∃r:Bool,decide (x∈l)=r:=⟨_,aa⟩;have z:=hid (And.intro hr1 hr2);clear hr1 hr2;have jf:=hid (B.out.2.2.2.aG (cf.aG d.out.2.2.2.1));have T:aE (∀W,ar m W->aD aw 190 #[ae A l.length c,J R u] W λe w'=>e=aB (ai Q)/\W=w'):=hid λW dc=>Et A c l u W Q z.out.1 (jf.out.aG dc) hlen;have U:aE (∀W,ar m W->aD aw 190 #[ae A l.length c,J R x] W λe w'=>e=aB (ai S)/\W=w'):=hid λW dc=>Et A c l x W S z.out.2 (jf.out.aG dc) hlen;have DW:aE (cut (k++[(u,x)]) l=cut k l++(if u∉l/\x∉l then[(u,x)]else[])):=hid (amw k l u x);by_cases hr:Q=ao/\S=ao
   .obtain⟨rfl,rfl⟩:=hr
    go_wp2_with (first
     |(go_at_call 190;first|((with_reducible refine(T.out _ (au.alloc _ _)).mono ?_);rintro e w' ⟨rfl,rfl⟩)|((with_reducible refine(U.out _ (au.alloc _ _)).mono ?_);rintro e w' ⟨rfl,rfl⟩))
     |(go_at_call 182;refine(Ye C N a s _ 1 _ _ (d.out.2.2.1.aG (ar.trans (au.alloc _ _) (au.alloc _ _))) (avj (ao8 m _ _)) (λe he=>(List.mem_singleton.1 he)▸d.out.2.2.2.2.1) (by rw[rI];omega) (λblk off e D=>by cases e;have h1:=(t.out _ D).2.2;have o:=p.out;omega)).mono ?_;rintro e cc ⟨rfl,Y,L⟩));have f:ar m ((m.alloc (bl #[J R u,J R x] 192)).alloc (bl #[J R u,J R x] 192)):=ar.trans (au.alloc _ _) (au.alloc _ _);have abZ:=f.size;have aAc:=L.size;rw[d.out.2.2.2.2.2.1]at Y;have n:=(d.out.2.1.only f (λh=>h) (λh=>h)).only L (λh=>by have:=(t.out _ h).1;omega) (λh=>(t.out _ h).2.1 aa);have qX:=(d.out.2.2.2.1.trans f (λ_ _ h=>h.elim)).trans (L.mono (G:=λi=>w.heap.size<=i) (λi _ hi=>(t.out i hi).1)) (λ_ _ h=>h)
    have aae:∀i,(s i\/(((m.alloc (bl #[J R u,J R x] 192)).alloc (bl #[J R u,J R x] 192)).heap.size<=i/\i<cc.heap.size))->w.heap.size<=i/\i≠w1.heap.size/\i<cc.heap.size:=by
     rintro i (hi|hi);·have h1:=t.out i hi;have o:=p.out;exact⟨h1.1,h1.2.1,ad⟩
     .have o:=p.out;exact⟨ad,ad,hi.2⟩
    have K:aE ((a++[(u,x)]).Perm (cut (k++[(u,x)]) l)):=hid (by rw[DW.out,if_pos ⟨by simpa using z.out.1,by simpa using z.out.2⟩];exact(d.out.2.2.2.2.2.2).append_right _);have j:=hid (And.intro n (And.intro Y (And.intro aae (And.intro qX n.left_eq))));have H:w1.heap.size<cc.heap.size:=by have o:=p.out;omega
    clear n Y aae qX L f;go_wp2;go_roundw;case rel=>exact⟨_,_,_,_,d.out.1,K.out,j.out.1,j.out.2.1,j.out.2.2.1,H,j.out.2.2.2.1⟩
    case measure=>rw[j.out.2.2.2.2,X.out.1];exact gl
   .have Xm:=hid hr;clear hr
    have K:aE (a.Perm (cut (k++[(u,x)]) l)):=hid (by
     rw[DW.out,if_neg,j1];·exact d.out.2.2.2.2.2.2
     .rintro⟨fX,a2⟩;exact Xm.out ⟨by rw[<-z.out.1];simpa using fX,by rw[<-z.out.2];simpa using a2⟩);cases Q
    .cases S;·exact absurd ⟨aa,aa⟩ Xm.out
     .go_wp2_with (go_at_call 190;first|((with_reducible refine(T.out _ (au.alloc _ _)).mono ?_);rintro e w' ⟨rfl,rfl⟩)|((with_reducible refine(U.out _ (au.alloc _ _)).mono ?_);rintro e w' ⟨rfl,rfl⟩));have f:ar m (m.alloc (bl #[J R u,J R x] 192)):=au.alloc _ _;have abZ:=f.size;have n:=d.out.2.1.only f (λh=>h) (λh=>h);have j:=hid (And.intro n (And.intro (d.out.2.2.1.aG f) (And.intro (d.out.2.2.2.1.trans f (λ_ _ h=>h.elim)) n.left_eq)));have H:w1.heap.size<(m.alloc (bl #[J R u,J R x] 192)).heap.size:=by have o:=p.out;omega
      clear n f;go_roundw;case rel=>exact⟨_,_,a,s,d.out.1,K.out,j.out.1,j.out.2.1,λi hi=>by have h1:=t.out i hi;have o:=p.out;exact⟨h1.1,h1.2.1,ad⟩,H,j.out.2.2.1⟩
      case measure=>rw[j.out.2.2.2,X.out.1];exact gl
    .go_wp2_with (go_at_call 190;first|((with_reducible refine(T.out _ (au.alloc _ _)).mono ?_);rintro e w' ⟨rfl,rfl⟩)|((with_reducible refine(U.out _ (au.alloc _ _)).mono ?_);rintro e w' ⟨rfl,rfl⟩));have f:ar m (m.alloc (bl #[J R u,J R x] 192)):=au.alloc _ _;have abZ:=f.size;have n:=d.out.2.1.only f (λh=>h) (λh=>h);have j:=hid (And.intro n (And.intro (d.out.2.2.1.aG f) (And.intro (d.out.2.2.2.1.trans f (λ_ _ h=>h.elim)) n.left_eq)));have H:w1.heap.size<(m.alloc (bl #[J R u,J R x] 192)).heap.size:=by have o:=p.out;omega
     clear n f;go_roundw;case rel=>exact⟨_,_,a,s,d.out.1,K.out,j.out.1,j.out.2.1,λi hi=>by have h1:=t.out i hi;have o:=p.out;exact⟨h1.1,h1.2.1,ad⟩,H,j.out.2.2.1⟩
     case measure=>rw[j.out.2.2.2,X.out.1];exact gl
def IY(r:Bool)(o:List Int):List Int:=if r=az then o else[]
def asO (b N:Nat) E F A c s w (p:gU w F b N E) (u:c8 w A s) (v:s.length<=9223372036854775807) (t:E.length<=1048576)
 o (ho:wL E N s o) r (hr:decide (q7 N s o=[])=r):
 aD aw 176 #[ax (ab ⟨b,0,af⟩),ae A s.length c] w λe w'=>∃l z,e=aB (bm #[ae l (IY r o).length z,ai r])/\c8 w' l (IY r o)/\(∀k off,l=ab ⟨k,off,af⟩->w.heap.size<=k)/\ar w w':=by
 have a:=hid (And.intro p (And.intro u ho));clear p u ho;cases r;·have hne:0<(q7 N s o).length:=List.length_pos_iff.2 (show q7 N s o≠[] by grind);clear hr;go_enter Tryz.func176,Tryz.ntmps176;go_wp2_with fail;go_at_call 250;refine(Ue b N E F A c s w a.out.1 a.out.2.1 v t).mono ?_;rintro e w1 ⟨la,B,f,o',rfl,j,hn,g,i⟩;obtain rfl:=j.unique a.out.2.2;have m:=λty=>run_len_map g sw ty;rw[CR]at m;have d:=hid i;clear hn g i j;generalize (q7 N s o').length=n at*;go_wp2;go_ret2;exact⟨af,0,aa,c8.nil,(λ_ _ h=>aF),d.out⟩
 .have q:(q7 N s o).length=0:=List.length_eq_zero_iff.2 aF;have y:=hid q;clear hr q;go_enter Tryz.func176,Tryz.ntmps176;go_wp2_with fail;go_at_call 250;refine(Ue b N E F A c s w a.out.1 a.out.2.1 v t).mono ?_;rintro e w1 ⟨la,B,f,o',rfl,j,hn,g,i⟩;obtain rfl:=j.unique a.out.2.2;have m:=λty=>run_len_map g sw ty;rw[CR,y.out]at m;obtain⟨x,c1,rfl,hi,_,_,hloc⟩:=hn.form;have d:=hid (And.intro hi (And.intro hloc i));clear hn g i j hi hloc;go_wp2;go_ret2;exact⟨x,c1,aa,d.out.1,λk off h=>(d.out.2.1 k _ h).1,d.out.2.2⟩
def Path.perm{E E'}(h:E.Perm E'){u x}:Path E u x↔Path E' u x:=⟨λp=>p.mono (λ_ a=>h.mem_iff.1 a),λp=>p.mono (λ_ a=>h.mem_iff.2 a)⟩
def lJ.anD{E}{N:Nat}{s xs}(a:Valid N E)(h:lJ E s xs):(hC N).filter (λx=>decide (x∈xs))=xs:=by refine ZD ((NG N).filter _) h.1 (λx=>?_);rw[pO,decide_eq_true_eq];exact⟨λq=>q.2,λq=>⟨Fy.2 (C5 (a.cut s) ((h.2 x).1 q)),q⟩⟩
def amF{N k}(hk:k<N)(xs:List Int):((hC N).take (k+1)).filter (λx=>decide (x∈xs))=((hC N).take k).filter (λx=>decide (x∈xs))++(if(k:Int)∈xs then[(k:Int)]else[]):=by grind[UC]
def amE(N k)(xs:List Int):(((hC N).take k).filter (λx=>decide (x∈xs))).length<=k:=aF
def amG (b N:Nat) E F A c s w (G:gU w F b N E) (hs:c8 w A s) (gB:s.length<=9223372036854775807) (ff:E.length<=1048576)
 xs (hx:lJ E s xs):
 aD aw 333 #[ax (ab ⟨b,0,af⟩),ae A s.length c] w λe w'=>∃v,e=aB v/\qN w w' v xs/\ar w w':=by
 have dU:=G.small.2;have S:=G.2.2;have g:=hid (And.intro G (And.intro hs (And.intro hx (And.intro S (hx.anD S)))));obtain⟨i0,iX,hz0,hz1,hz2⟩:=u5 Fe;have C:=hid (And.intro iX (And.intro hz0 (And.intro hz1 hz2)));clear G hs hx S iX hz0 hz1 hz2;go_enter func333,ntmps333;go_wp2_with fail;go_at_call 250;refine(Ue b N E F A c s w g.out.1 g.out.2.1 gB ff).mono ?_;rintro e w1 ⟨la,md,f,o,rfl,ho,hn,Z,hg1⟩;have m:=hid (And.intro ho (And.intro Z (And.intro hg1 hg1.size)));clear ho hn Z hg1;go_wp2_with (go_at_call 361;refine(awF b N E F A c s w1 (g.out.1.aG m.out.2.2.1) (g.out.2.1.aG m.out.2.2.1) gB ff).mono ?_;rintro e j ⟨X,M,rfl,Y,V,hg2⟩);have aaZ:M.length<=1048576:=by have h1:=V.length_eq;have h2:=Za E s;omega
 have hs2:w.heap.size<=j.heap.size:=by have h1:=m.out.2.2.2;have h2:=hg2.size;omega
 have l:=hid (And.intro Y (And.intro V (And.intro (m.out.2.1.only hg2 (λh=>h)) (And.intro (ar.trans m.out.2.2.1 hg2) (m.out.2.1.only hg2 (λh=>h)).lt))));clear Y V hg2;go_wp2_with (go_at_call 303;refine(xv b N _ (g.out.1.aG l.out.2.2.2.1).TD).mono ?_;rintro e bI ⟨rfl,rfl⟩)
 go_loopw [8,23] (λec i wr=>∃k:Nat,k<=N/\i=J R k/\wr.ownsRow w.heap.size 3 1 ec (((hC N).take k).filter (λx=>decide (x∈xs))).length ((((hC N).take k).filter (λx=>decide (x∈xs))).map (J R))/\
  au (λi=>j.heap.size<=i) j wr/\(∀q,ec.ownBlock=ab q->j.heap.size<=q)) (λ_ i _=>N -(cO i).toNat);case atStart=>exact⟨0,cF _,aa,⟨a8,bM ⟨aa,a8⟩⟩,au.refl _ _,λq h=>by cases h⟩
 case round=>
  obtain⟨k,hk,rfl,hrow,T,p⟩:=hrel;have R6:=T.size;have a:=hid (And.intro hrow (And.intro T p));clear hrow T p;by_cases hlt:k<N
  .have hb0:(k:Int)<(N:Int):=ad;have U:c4 (k:Int):=⟨ad,ad⟩;have P:=hid (amF hlt xs);have hlen:=amE N k xs;have H:=(AN (l.out.2.2.1.only a.out.2.1 (by have:=l.out.2.2.2.2;omega)) U).2;have W:=hid U;clear U;generalize ((hC N).take k).filter (λx=>decide (x∈xs))=L at*;by_cases y:(k:Int)∈q7 N s o
   .rw[if_pos y]at H;have t:decide ((k:Int)∈q7 N s o)=true:=aF;rw[t]at H;clear y t;obtain⟨r,hr⟩:∃q:Bool,decide ((k:Int)∈xs)=q:=⟨_,aa⟩;have D:=hid hr;clear hr;cases r
    .go_wp2_with (first
      |(go_at_call 362;refine(aer X N k M _ wr (l.out.1.only a.out.2.1 (λi hi h=>ad)) W.out aaZ).mono ?_;rintro e I ⟨K,Q,ct,rfl,u,B,z,n⟩;have d:=hid (And.intro u (And.intro B (And.intro z n)));clear u B z n)
      |(go_at_call 190;refine(Et K Q ct k I ao (by rw[<-D.out];congr 1;rw[eq_iff_iff,d.out.2.1.2,g.out.2.2.1.2];exact Path.perm l.out.2.1) d.out.1 d.out.2.2.1).mono ?_;rintro e c5 ⟨rfl,rfl⟩));go_roundw;case rel=>exact⟨k+1,ad,by go_num,by rw[P.out,if_neg (by simpa using D.out),j1];exact pr a.out.1 d.out.2.2.2 (λ_ _ h=>h),a.out.2.1.trans d.out.2.2.2 (λ_ _ h=>h.elim),a.out.2.2⟩
     case measure=>grind[cO]
    .go_wp2_with (first
      |(go_at_call 362;refine(aer X N k M _ wr (l.out.1.only a.out.2.1 (λi hi h=>ad)) W.out aaZ).mono ?_;rintro e I ⟨K,Q,ct,rfl,u,B,z,n⟩;have azb:=n.size;have d:=hid (And.intro u (And.intro B (And.intro z n)));clear u B z n)
      |(go_at_call 190;refine(Et K Q ct k I az (by rw[<-D.out];congr 1;rw[eq_iff_iff,d.out.2.1.2,g.out.2.2.1.2];exact Path.perm l.out.2.1) d.out.1 d.out.2.2.1).mono ?_;rintro e c5 ⟨rfl,rfl⟩)
      |(at_builtin;go_loud (refine Pz _ aa (bj 40) (bj 42) 82 aa w.heap.size 3 i0 _ 1 8 hR C.out.1 C.out.2.1 C.out.2.2.1 C.out.2.2.2 aa ad _ L.length _ aa (pr a.out.1 (ar.trans d.out.2.2.2 (au.alloc (F:=λ_=>False) _ _)) (λ_ _ h=>h)) _ 1 1 _ aa aa (MT _ _ _) (by simp[zz]) (by unfold eh;omega) ad (by simp;omega) ?_;intro xO dz Mb H6 _ E1)));have IE:au (λi=>j.heap.size<=i) (I.alloc (bl #[J R (k:Int)] 3)) dz:=au.of_grownBy H6 (λi e=>bM (a.out.2.2 i e));have EI:au (λi=>j.heap.size<=i) j dz:=((a.out.2.1.trans d.out.2.2.2 (λ_ _ h=>h.elim)).trans (au.alloc (F:=λi=>j.heap.size<=i) _ _) (λ_ _ h=>h)).trans IE (λ_ _ h=>h)
     have Im:∀q,xO.ownBlock=ab q->j.heap.size<=q:=λq p=>by
      rcases E1 with h|h;·exact a.out.2.2 q (h.symm.trans p)
      .rw[h]at p;simp at p;omega
     have O:=hid (And.intro Mb (And.intro EI Im));clear Mb H6 E1 IE EI Im;go_wp2;go_roundw;case rel=>exact⟨k+1,ad,by go_num,by rw[P.out,if_pos (by simpa using D.out)];simpa using O.out.1,O.out.2.1,O.out.2.2⟩
     case measure=>grind[cO]
   .rw[if_neg y]at H;have t:decide ((k:Int)∈q7 N s o)=false:=aF;rw[t]at H;have kG:aE ((k:Int)∉xs):=hid (λh=>y (g.out.2.2.1.rest g.out.2.2.2.1 m.out.1 h));clear y t;go_wp2;go_roundw;case rel=>exact⟨k+1,ad,by go_num,by rw[P.out,if_neg kG.out,j1];exact a.out.1,a.out.2.1,a.out.2.2⟩
    case measure=>grind[cO]
  .obtain rfl:k=N:=ad;have hrow:=a.out.1;rw[tQ (by simp[hC]),g.out.2.2.2.2]at hrow;have cr:=hid hrow;clear hrow;go_wp2;go_ret;exact⟨_,aa,cr.out,ar.trans l.out.2.2.2.1 (cf.aG a.out.2.1)⟩
def aq6 x a A c keep W(hc:W.cell? ⟨a,0,af⟩=ab (ae A keep.length c))(hk:c8 W A keep)(h1:keep.length<=9223372036854775807):
 aD aw 335 #[J R x,ax (ab ⟨a,0,af⟩)] W λe w'=>e=aB (ai (decide (x∈keep)))/\∃q,w'=W.drewN q:=by
 have b:=hid hk;clear hk;go_enter func335,ntmps335;go_wp2_with (go_at_call 190;refine(Hy A c _ x W b.out h1).mono ?_;rintro e w1 ⟨rfl,rfl⟩);go_ret;exact⟨aa,0,aa⟩
def awC x a A c ws W(hc:W.cell? ⟨a,0,af⟩=ab (ae A ws.length c))(hk:c8 W A ws)(h1:ws.length<=9223372036854775807):
 aD aw 337 #[J R x,ax (ab ⟨a,0,af⟩)] W λe w'=>e=aB (J R (py ws x))/\W=w':=by
 have b:=hid hk;clear hk;go_enter func337,ntmps337;go_wp2_with (go_at_call 338;refine(awB A c ws x W b.out h1).mono ?_;rintro e w1 ⟨rfl,rfl⟩);go_ret;exact⟨aa,aa⟩
def alj{f L}:decide (0<L.length)=(j4 f L).isSome:=by
 cases h:j4 f L with
 |none=>grind[YC]
 |some v=>
  have:=List.length_pos_of_mem (YB h);simp[this]
def anp args w:(km 335 args).run aw w=a6 (.enter 335 args) w:=aY
def anq args w:(km 337 args).run aw w=a6 (.enter 337 args) w:=aY
def ar9 (b N:Nat) E F gJ hY ws p v s fN gh keep w (z:gU w F b N E) (D:c8 w gJ ws) (hr:c8 w p s) (hk:c8 w fN keep)
 (IA:ws.length<=9223372036854775807) (gB:s.length<=9223372036854775807) (vD:keep.length<=9223372036854775807) (ff:E.length<=1048576) xs (hx:lJ E s xs) o (ho:j4 (py ws) (kept xs keep)=o) mb (xa:decide (0<xs.length)=mb):
 aD aw 302 #[ax (ab ⟨b,0,af⟩),ae gJ ws.length hY,ae p s.length v,ae fN keep.length gh] w λe w'=>
  e=aB (bm #[J R (o.getD 0),ai o.isSome,ai mb])/\ar w w':=by
 have j:=hid (And.intro z (And.intro D (And.intro hr (And.intro hk hx))));have I:=hid ho;have S:decide (0<(xs.length:Int))=mb:=by rw[<-xa];congr 1;rw[eq_iff_iff];omega
 clear z D hr hk hx ho;go_enter func302,ntmps302;go_wp2_with fail;go_at_call 333;have d:aE (ar w ((w.alloc (bl #[ae gJ ws.length hY] 82)).alloc (bl #[ae fN keep.length gh] 82))):=hid (ar.trans (au.alloc _ _) (au.alloc _ _))
 have n:aE (((w.alloc (bl #[ae gJ ws.length hY] 82)).alloc (bl #[ae fN keep.length gh] 82)).cell? ⟨w.heap.size,0,af⟩=ab (ae gJ ws.length hY)/\((w.alloc (bl #[ae gJ ws.length hY] 82)).alloc (bl #[ae fN keep.length gh] 82)).cell? ⟨w.heap.size+1,0,af⟩=ab (ae fN keep.length gh)):=hid (by
  constructor;·exact(au.alloc (F:=λ_=>False) _ _).cell (fu _ _ 0 _ _ _ (fz w _)) (λh=>h)
  .simp);refine(amG b N E F p v s _ (j.out.1.aG d.out) (j.out.2.2.1.aG d.out) gB ff xs j.out.2.2.2.2).mono ?_;generalize (w.alloc (bl #[ae gJ ws.length hY] 82)).alloc (bl #[ae fN keep.length gh] 82)=aq at*;rintro e w1 ⟨T,rfl,r,hg1⟩;obtain⟨l,c1,rfl,M,P,hl2,hloc⟩:=r.form;have G:xs.length<=9223372036854775807:=by grind[eh]
 have a:=hid (And.intro r (And.intro hg1 (And.intro (ar.trans d.out hg1) hloc)));have hs0:=d.out.size;have u:=hid (And.intro (u3 _ _ n.out.1) (u3 _ _ n.out.2));clear r hg1 hloc M P hl2
 have t:aE (aD aw 334 #[ae l xs.length c1,dC (ed 335) #[] #[ax (ab ⟨w.heap.size+1,0,af⟩)]] w1 λe w'=>∃A c,e=aB (ae A (kept xs keep).length c)/\c8 w' A (kept xs keep)/\au (λi=>(ae l xs.length c1).ownBlock=ab i) w1 w'):=hid (by
  refine(amU 335 #[ax (ab ⟨w.heap.size+1,0,af⟩)] anp (λx=>decide (x∈keep)) _ _ xs w1 a.out.1 G (λW x K=>?_)).mono ?_
  .have hno:∀i,i<aq.heap.size->¬(ae l xs.length c1).ownBlock=ab i:=λi hi h=>by have:=(wB a.out.1 i h).1;omega
   have B:au (λi=>aq.heap.size<=i) aq W:=(ar.to a.out.2.1).trans K (λi hi h=>absurd h (hno i hi));refine aq6 x _ fN gh _ W (B.cell n.out.2 (by have:=u.out.2;show¬aq.heap.size<=_;omega)) ?_ vD;exact(j.out.2.2.2.1.aG (ar.trans d.out (cf.aG B)))
  .rintro e w' ⟨A,c,rfl,h1,_,y⟩;exact⟨A,c,aa,h1,y⟩);go_wp2_with (go_at_call 334;have k:=t.out;with_reducible refine k.mono ?_;clear k;rintro e g ⟨aJ,c2,rfl,C,q⟩)
 have hg2:ar w g:=by
  have hno:∀i,i<aq.heap.size->¬(ae l xs.length c1).ownBlock=ab i:=λi hi h=>by have:=(wB a.out.1 i h).1;omega
  exact ar.trans d.out (cf.aG ((ar.to a.out.2.1).trans q (λi hi h=>absurd h (hno i hi))))
 have hcw:g.cell? ⟨w.heap.size,0,af⟩=ab (ae gJ ws.length hY):=by refine q.cell (a.out.2.1.cell n.out.1 (λh=>h)) (λh=>?_);have y:=(wB a.out.1 w.heap.size h).1;have Q:w.heap.size<aq.heap.size:=u.out.1;omega
 have m:=hid (And.intro C (And.intro hg2 hcw));have O:(kept xs keep).length<=9223372036854775807:=ea (yq _ _) G;clear C q hg2 hcw t;generalize kept xs keep=L at*
 have H:aE (aD aw 336 #[ae aJ L.length c2,dC (ed 337) #[] #[ax (ab ⟨w.heap.size,0,af⟩)]] g λe w'=>e=aB (bm #[J R (o.getD 0),ai o.isSome])/\g=w'):=hid (by have h:=avl 337 #[ax (ab ⟨w.heap.size,0,af⟩)] (py ws) aJ c2 L g m.out.1 O anq (λx=>awC x w.heap.size gJ hY ws g m.out.2.2 (j.out.2.1.aG m.out.2.1) IA);rw[alj (f:=py ws),I.out]at h;exact h);go_wp2_with (go_at_call 336;have k:=H.out;with_reducible refine k.mono ?_;clear k;rintro e U ⟨rfl,rfl⟩);go_ret3;exact⟨aa,m.out.2.1⟩
def A6(out:List Int)(o:Option Int):List Int:=match o with
 |none=>out
 |some v=>out++[v]
structure xX (W:aM) (oa cT jA fO base b:Nat) (gJ:Option bQ) (hY:Nat) (ws:List Int) (fN:Option bQ) (gh:Nat) (keep out:List Int) (la:aO):Prop where
 bZ:W.cell? ⟨oa,0,af⟩=ab (ax (ab ⟨b,0,af⟩))
 c1:W.cell? ⟨cT,0,af⟩=ab (ae gJ ws.length hY)
 c2:W.cell? ⟨jA,0,af⟩=ab (ae fN keep.length gh)
 eG:W.heap[fO]?=ab (bl #[la] 82 (0,0))
 row:W.ownsRow base 3 1 la out.length (out.map (J R))
def xX.only{W c F oa cT jA fO base b gJ hY ws fN gh keep out la}(h:xX W oa cT jA fO base b gJ hY ws fN gh keep out la)(k:au F W c)(a:∀i,F i->False):
 xX c oa cT jA fO base b gJ hY ws fN gh keep out la:=
 ⟨k.cell h.bZ (λe=>a _ e),k.cell h.c1 (λe=>a _ e),k.cell h.c2 (λe=>a _ e),k.heap h.eG (λe=>a _ e),pr h.row k (λ_ _ e=>a _ e)⟩
def aos{a xO:aO}{base fO n}(hne:∀q,a.ownBlock=ab q->base<=q)(c:xO.ownBlock=a.ownBlock\/xO.ownBlock=ab n)(hn:base<=n)(b:fO<base):xO.ownBlock≠ab fO:=aF
def avE (oa cT jA fO base b N:Nat) E F gJ hY ws fN gh keep out la W (x:gU W F b N E) (D:c8 W gJ ws) (hk:c8 W fN keep) (d:xX W oa cT jA fO base b gJ hY ws fN gh keep out la)
 (hb:oa<fO/\cT<fO/\jA<fO/\fO<base/\base<=W.heap.size) (IA:ws.length<=9223372036854775807) (iw:out.length<=1048576) (vD:keep.length<=9223372036854775807) (ff:E.length<=1048576) xs (hx:lJ E out xs) o (ho:j4 (py ws) (kept xs keep)=o):
 aD aw 301 #[ax (ab ⟨oa,0,af⟩),ax (ab ⟨cT,0,af⟩),ax (ab ⟨fO,0,af⟩),ax (ab ⟨jA,0,af⟩)] W λe w'=>
  e=aB (bm #[ai o.isSome,ai (decide (0<xs.length))])/\
  au (λi=>i=fO\/base<=i) W w'/\∃M,xX w' oa cT jA fO base b gJ hY ws fN gh keep (A6 out o) M:=by
 obtain⟨n,r,rfl,A⟩:=C2 d.row;have hc:=ar9 b N E F gJ hY ws n r out fN gh keep W x D A hk IA ad vD ff xs hx o ho _ aa;clear ho x D hk A hx;have w:=hid hc;have c:=hid d;obtain⟨K,z,hz0,hz1,hz2⟩:=u5 Fe;have k:=hid (And.intro z (And.intro hz0 (And.intro hz1 hz2)));have T:=d.bZ;have U:=d.c1;have V:=d.c2;have L:=pH d.eG;clear hc d z hz0 hz1 hz2;generalize decide (0<xs.length)=O at*;go_enter func301,ntmps301;cases o with
 |none=>
  go_wp2_with (go_at_call 302;have g:=w.out;with_reducible refine g.mono ?_;clear g;rintro e w1 ⟨rfl,hg1⟩);go_ret2;exact⟨aa,ar.to hg1,_,c.out.only hg1 (λ_ h=>h)⟩
 |some v=>
  go_wp2_with (first
   |(go_at_call 302;have g:=w.out;with_reducible refine g.mono ?_;clear g;rintro e w1 ⟨rfl,hg1⟩;have X:=hg1.cell L (λh=>h);have hs1:=hg1.size;have u:=hid hg1;clear hg1)
   |(at_builtin;go_loud (refine Pz _ aa (bj 19) (bj 21) 82 aa base 3 K _ 1 8 hR k.out.1 k.out.2.1 k.out.2.2.1 k.out.2.2.2 aa ad _ out.length (out.map (J R)) aa (pr c.out.row (ar.trans u.out (au.alloc (F:=λ_=>False) _ _)) (λ_ _ h=>h)) _ 1 1 [J R v] aa aa (MT _ _ _) (by simp[zz]) (by grind[eh]) ad (by first|omega|(simp;omega)) ?_;intro xO f I y _ B;have S:fO<W.heap.size:=ad;have hne:∀q,(ae n out.length r).ownBlock=ab q->base<=q:=λq h=>(wB c.out.row q h).1;have G:au (λi=>base<=i) (w1.alloc (bl #[J R v] 3)) f:=au.of_grownBy y (λi e=>bM (hne i e));have s:au (λi=>base<=i) W f:=((ar.to u.out).trans (au.alloc (F:=λi=>base<=i) _ _) (λ_ _ h=>h)).trans G (λ_ _ h=>h);have m:f.heap[fO]?=ab (bl #[ae n out.length r] 82 (0,0)):=s.heap c.out.eG ad;have C:xO.ownBlock≠ab fO:=aos hne B (by first|omega|(simp;omega)) ad;have Q:=WJ m;have P:=pH m;have hown:f.ownsRow base 3 1 xO (out.length+1) ((out++[v]).map (J R)):=aF;obtain⟨j,l,H,_⟩:=C2 hown;obtain rfl:xO=ae j (out.length+1) l:=aF;have a:=hid (And.intro hown (And.intro s (And.intro m C)));clear hown I y B G s m C hne H)));go_ret2;refine⟨aa,((a.out.2.1.mono (λi _ h=>b8 h)).trans (au.setCell (F:=λi=>i=fO\/base<=i) f (bM aa) _) (λ_ _ h=>h)),ae j (out.length+1) l,?_⟩;have t:=au.setCell (F:=λi=>i=fO) f (p:=⟨fO,0,af⟩) aa (ae j (out.length+1) l);exact⟨t.cell (a.out.2.1.cell c.out.bZ aF) aF,t.cell (a.out.2.1.cell c.out.c1 aF) aF,t.cell (a.out.2.1.cell c.out.c2 aF) aF,WL a.out.2.2.1,by simpa [A6]using WM a.out.1 a.out.2.2.2 (ae j (out.length+1) l)⟩
theorem afv{E ws keep out xs}(h:ny E ws keep out)(hx:lJ E out xs):ny E ws keep (A6 out (j4 (py ws) (kept xs keep))):=by
 cases hb:j4 (py ws) (kept xs keep)with
 |none=>exact h
 |some v=>exact .snoc h hx hb
def agu(w:aM)(o:List Int)(r:Bool)(e:Ending)(w':aM):Prop:=
 ∃a b,e=aB (bm #[ae a (IY r o).length b,ai r])/\c8 w' a (IY r o)/\(IY r o).length<=b/\(∀k off,a=ab ⟨k,off,af⟩->w.heap.size<=k)/\ar w w'
def asX{w base v m xs}(h:w.ownsRow base 3 1 v m (xs.map (J R))):∃A c,v=ae A xs.length c/\c8 w A xs/\xs.length<=c/\∀k off,A=ab ⟨k,off,af⟩->base<=k:=by
 have a:m=xs.length:=by simpa using h.1.symm
 subst a;have b:=h;rcases h.2 with⟨rfl,hz⟩|⟨g,cap,cur,rfl,hb,i,h1,d,e,f⟩;·grind[c8.nil]
 .grind[c8.nU]
def boxes w b gJ hY ws fN gh keep:
 ar w ((((w.alloc (bl #[ax (ab ⟨b,0,af⟩)] 179)).alloc (bl #[ae gJ ws.length hY] 82)).alloc (bl #[ae fN keep.length gh] 82)).alloc (bl #[ae af 0 0] 82))/\xX ((((w.alloc (bl #[ax (ab ⟨b,0,af⟩)] 179)).alloc (bl #[ae gJ ws.length hY] 82)).alloc (bl #[ae fN keep.length gh] 82)).alloc (bl #[ae af 0 0] 82)) w.heap.size (w.heap.size+1) (w.heap.size+2) (w.heap.size+3) (w.heap.size+4) b gJ hY ws fN gh keep [] (ae af 0 0)/\((((w.alloc (bl #[ax (ab ⟨b,0,af⟩)] 179)).alloc (bl #[ae gJ ws.length hY] 82)).alloc (bl #[ae fN keep.length gh] 82)).alloc (bl #[ae af 0 0] 82)).heap.size=w.heap.size+4:=by
 have g1:=au.alloc (F:=λ_=>False) w (bl #[ax (ab ⟨b,0,af⟩)] 179);have h1:=fz w (bl #[ax (ab ⟨b,0,af⟩)] 179);generalize j:w.alloc (bl #[ax (ab ⟨b,0,af⟩)] 179)=w1 at*;have k:w1.heap.size=w.heap.size+1:=by rw[<-j];simp
 have g2:=au.alloc (F:=λ_=>False) w1 (bl #[ae gJ ws.length hY] 82);have f:=fz w1 (bl #[ae gJ ws.length hY] 82);generalize hw2:w1.alloc (bl #[ae gJ ws.length hY] 82)=c at*;have l:c.heap.size=w.heap.size+2:=by rw[<-hw2];simp;omega
 have e:=au.alloc (F:=λ_=>False) c (bl #[ae fN keep.length gh] 82);have g:=fz c (bl #[ae fN keep.length gh] 82);generalize hw3:c.alloc (bl #[ae fN keep.length gh] 82)=d at*;have m:d.heap.size=w.heap.size+3:=by rw[<-hw3];simp;omega
 have a:=au.alloc (F:=λ_=>False) d (bl #[ae af 0 0] 82);have i:=fz d (bl #[ae af 0 0] 82);generalize hw4:d.alloc (bl #[ae af 0 0] 82)=o at*;have n:o.heap.size=w.heap.size+4:=by rw[<-hw4];simp;omega
 rw[k]at f;rw[l]at g;rw[m]at i;refine⟨ar.trans g1 (ar.trans g2 (ar.trans e a)),⟨?_,?_,?_,i,⟨a8,bM ⟨aa,a8⟩⟩⟩,n⟩;·exact(ar.trans g2 (ar.trans e a)).cell (pH h1) (λh=>h)
 .exact(ar.trans e a).cell (pH f) (λh=>h)
 .exact a.cell (pH g) (λh=>h)
set_option maxHeartbeats 2000000 in
def alV (b N:Nat) E F gJ hY ws fN gh keep w (z:gU w F b N E) (hw:c8 w gJ ws) (hk:c8 w fN keep)
 (IA:ws.length<=9223372036854775807) (vD:keep.length<=9223372036854775807) (ff:E.length<=1048576) (o xs) (hx:zS E ws keep o xs) r (hr:decide (xs=[])=r):
 aD aw 249 #[ax (ab ⟨b,0,af⟩),ae gJ ws.length hY,ae fN keep.length gh] w (agu w o r):=by
 have dU:=z.small.2;have l:=hid (And.intro z (And.intro hw (And.intro hk (And.intro hx hr))));have C:=hid z.2.2;have vG:∀(L:Fn) (first cap:Array aO) (w:aM),(Instr.makeFunc L first cap).run aw w=a6 (dC L first cap) w:=λ_ _ _ _=>aa;have y:=hid (boxes w b gJ hY ws fN gh keep);clear z hw hk hx hr;go_enter func249,ntmps249;go_wp2_with fail;go_at_call 301;clear vG;generalize (((w.alloc (bl #[ax (ab ⟨b,0,af⟩)] 179)).alloc (bl #[ae gJ ws.length hY] 82)).alloc (bl #[ae fN keep.length gh] 82)).alloc (bl #[ae af 0 0] 82)=aq at*
 have J:aE (∀(W:aM) (out:List Int) (la:aO),au (λi=>i=w.heap.size+3\/w.heap.size+4<=i) aq W->xX W w.heap.size (w.heap.size+1) (w.heap.size+2) (w.heap.size+3) (w.heap.size+4) b gJ hY ws fN gh keep out la->ny E ws keep out->
  ∃ct q d,lJ E out ct/\j4 (py ws) (kept ct keep)=q/\decide (0<ct.length)=d/\aD aw 301 #[ax (ab ⟨w.heap.size,0,af⟩),ax (ab ⟨w.heap.size+1,0,af⟩),ax (ab ⟨w.heap.size+3,0,af⟩),ax (ab ⟨w.heap.size+2,0,af⟩)] W λe w'=>
   e=aB (bm #[ai q.isSome,ai d])/\au (λi=>i=w.heap.size+3\/w.heap.size+4<=i) aq w'/\∃UD,xX w' w.heap.size (w.heap.size+1) (w.heap.size+2) (w.heap.size+3) (w.heap.size+4) b gJ hY ws fN gh keep (A6 out q) UD):=hid (λW out la D h9 hch=>by
  obtain⟨ct,p⟩:=amD C.out out;have hsz:=y.out.2.2;have hs:=D.size;have B:au (λi=>w.heap.size+3<=i) w W:=(ar.to y.out.1).trans D (λi hi h=>ad);have f:ar w W:=B.mono (λi hi h=>ad);refine⟨ct,_,_,p,aa,aa,?_⟩;refine(avE _ _ _ _ _ b N E F gJ hY ws fN gh _ _ la W (l.out.1.aG f) (l.out.2.1.aG f) (l.out.2.2.1.aG f) h9 ⟨ad,ad,ad,ad,ad⟩ IA (by have:=hch.length C.out;omega) vD ff ct p _ aa).mono ?_;rintro e w' ⟨rfl,h1,n⟩;exact⟨aa,D.trans h1 (λ_ _ h=>h),n⟩);obtain⟨ct,q,d,p,Y,V,m⟩:=J.out aq [] _ (au.refl _ _) y.out.2.1 .nil;refine m.mono ?_;clear m;rintro e w1 ⟨rfl,T,awq,R⟩;have g:=hid (And.intro T (And.intro R (And.intro p (And.intro Y (And.intro V (show ny E ws keep []from .nil))))));clear T R p Y V;go_wp2_with fail;go_loopg [10,11] (2*N+2) (λgk ec ow wr=>∃(out s ct:List Int) (q:Option Int) (d:Bool) (la:aO),ec=ai q.isSome/\ow=ai d/\aE (au (λi=>i=w.heap.size+3\/w.heap.size+4<=i) aq wr/\xX wr w.heap.size (w.heap.size+1) (w.heap.size+2) (w.heap.size+3) (w.heap.size+4) b gJ hY ws fN gh keep out la/\out=A6 s q/\ny E ws keep s/\lJ E s ct/\j4 (py ws) (kept ct keep)=q/\decide (0<ct.length)=d)/\2*(N -out.length)+(if q.isSome then 1 else 0)<gk);case atStart=>exact⟨_,[],ct,q,d,awq,aa,aa,hid ⟨g.out.1,g.out.2.1,aa,.nil,g.out.2.2.1,g.out.2.2.2.1,g.out.2.2.2.2.1⟩,aF⟩
 case round=>
  obtain⟨out,s,aAE,fD,amz,la,rfl,rfl,a,LY⟩:=hrel;have hch:ny E ws keep out:=by rw[a.out.2.2.1,<-a.out.2.2.2.2.2.1];exact afv a.out.2.2.2.1 a.out.2.2.2.2.1
  cases fD with
  |some v=>
   obtain⟨axf,G,amA,acu,Z,X,m⟩:=J.out wr out la a.out.1 a.out.2.1 hch;have ac:=hid m;have H:=hid (And.intro acu (And.intro Z X));have Cv:(A6 out G).length<=N:=(by grind[afv]:ny E ws keep (A6 out G)).length C.out;have I:=hid hch;clear m acu Z X hch;simp only[Option.isSome_some,if_true]at LY;go_wp2_with (go_at_call 301;have K:=ac.out;with_reducible refine K.mono ?_;clear K;rintro e bI ⟨rfl,U,awr,S⟩);have u:=hid (And.intro U S);clear U S;cases G with
   |none=>
    go_roundg (2*(N -out.length)+1);case measure=>omega
    case rel=>exact⟨out,_,_,_,_,_,aa,aa,hid ⟨u.out.1,u.out.2,aa,I.out,H.out⟩,a8⟩
   |some v3=>
    simp only[A6,List.length_append,rI]at Cv;go_roundg (2*(N -out.length));case measure=>omega
    case rel=>exact⟨out++[v3],out,axf,ab v3,amA,awr,aa,aa,hid ⟨u.out.1,u.out.2,aa,I.out,H.out⟩,aF⟩
  |none=>
   obtain⟨h1,n,h3,M,O,P,Q⟩:=a.out;obtain rfl:out=s:=h3;obtain⟨rfl,rfl⟩:=l.out.2.2.2.1.unique ⟨M,O,P⟩
   have dh:amz=!r:=by
    rw[<-Q,<-l.out.2.2.2.2];cases xs with
    |nil=>rfl
    |cons x t=>simp
   have B:au (λi=>w.heap.size+3<=i) w wr:=(ar.to y.out.1).trans h1 (λi hi h=>ad);have f:ar w wr:=B.mono (λi hi h=>ad);have jP:=pH n.eG;obtain⟨A,c,rfl,hi,hc,hloc⟩:=asX n.row;have j:=hid (And.intro hi (And.intro hc (And.intro (λk off e=>ea ad (hloc k off e):∀k off,A=ab ⟨k,off,af⟩->w.heap.size<=k) f)));subst dh;clear hch h1 n M O P Q B f hi hc hloc a;cases r;·go_wp2;go_ret2;exact⟨af,0,aa,c8.nil,b4 _,(λ_ _ h=>aF),j.out.2.2.2⟩
   .go_wp2;go_ret2;exact⟨A,c,aa,j.out.1,j.out.2.1,j.out.2.2.1,j.out.2.2.2⟩
end G
end Go.Proofs.YtcmhplknoglbkaaGreat
