/- Part 6 of the proof of TopConvertsSaid. -/
import Derived.OrdersHeld
import Derived.StillTail
import Derived.RegionTactic
import Derived.Below
import Derived.Shelf.SlSortCmp.NoneTotal
import Derived.RangeFuncNested
import Derived.RangeFuncBound
import Derived.RangeFuncCalls
import Derived.RangeFuncLeaves
import Derived.RangeFuncBox
import Derived.RangeFuncWrites
import Derived.Shelf.Abstract
import Derived.Shelf.RegionOpen
import Derived.OwnWalkIn
import Derived.TacticsInMore
import Derived.LoopNIn
import Derived.LoopIn
import Derived.Maps.AppendAt
import Derived.Lib.SlicesCompact
import Derived.Deep.LoopGhost
import Derived.Test.YtcmhplknoglbkaaGreatQc0
import Derived.Test.YtcmhplknoglbkaaGreatQc3
import Derived.Test.YtcmhplknoglbkaaGreatQc5
set_option linter.all false
set_option maxRecDepth 100000
set_option maxHeartbeats 4000000
open Go.Proofs.Tryz
open Array renaming replicate_succ->qf,replicate_zero->qg
open Bool renaming false->au,true->aB
open Function renaming comp_def->Jz
open Go renaming Addr->bU,Calls->aD,CallsIn->rb,Program->eu,Value->aO,World->aM,bodyPost_ret->dn,callFunc->kj,callsIn_of_wp->Dn,callsIn_wide->sn,cell_of_one->pw,cell_of_row->eB,free_of_one->WB,heap_alloc_new->fe,info_parts->rf,maxLen->dN,one_setCell->WD,ownsRow_setCell_other->WE,ready_mono->WG,results_none->JW,undef->aY,wpIn_wide->xW,wpList_append_own_at->JZ
open Go.Builtin renaming len_->agf
open Go.Departure renaming mixedOrders->JC
open Go.Ending renaming returned->aA
open Go.Exit renaming normal->sk,panic->tm
open Go.Fence renaming wide->mr
open Go.Fn renaming func->ej
open Go.Instr renaming lookup->qj
open Go.IntKind renaming i64->R
open Go.KeepsOthers renaming alloc->axD,of_grownBy->axE,setCell->axF
open Go.Obj renaming cells->bc,map->iO
open Go.Oper renaming wp->hB
open Go.Operand renaming tmp->bb
open Go.Proofs.AnyE renaming slices_DeleteFunc->axJ
open Go.Proofs.AnyF renaming slices_SortFunc_none->agw
open Go.Proofs.Tryz renaming func338->VD,ntmps338->V0,prog->ax,underlying118->uN,underlying303->A6,underlying467->Wj,underlying82->ij
open Go.Proofs renaming intOf->cd
open Go.Region renaming Mode->O6,binds->xT,ready->sm,waitsFor->aik
open Go.Result renaming ok->a7
open Go.RowKit renaming Hid->aE,run_makeMap->O'
open Go.Sort renaming ahead->JT
open Go.Value renaming agg->av,bool->ak,func->dJ,int->J,map->dE,oneCell'->wB,ownBlock->tt,pointer->ay,slice->ad,tuple->bg
open Go.World renaming block_lt_of_cell?->uQ,cell?->zm,frozen?->uR,size_alloc->zn
open Go.World.ownsRow renaming lt->wC
open List renaming Nodup->ajQ,append_inj'->Qm,append_nil->j6,append_toArray->qu,concat_eq_append->ajT,cons_append->pB,countP_cons->GJ,countP_le_length->Qn,eq_nil_iff_forall_not_mem->DM,eq_nil_of_length_eq_zero->jH,eq_nil_or_concat->Ks,filter_append->pC,filter_cons->DO,filter_filter->Qp,filter_nil->Qr,getElem?_eq_getElem->cj,getElem?_eq_some_iff->eQ,getElem?_of_mem->Qu,getElem?_take->tE,length->vg,length_cons->jT,length_filter_le->x9,length_nil->l2,length_singleton->wO,length_take->oT,mem_append->jf,mem_cons->gy,mem_cons_of_mem->pD,mem_cons_self->sx,mem_filter->nb,mem_iff_getElem->Kw,mem_iff_getElem?->oU,mem_of_getElem?->cL,nil_append->nd,nodup_append->x',pairwise_and_iff->aj0,pairwise_cons->vj,pairwise_iff_getElem->l3,pairwise_map->ya,push_toArray->qv,size_toArray->iQ,take_add_one->fu,take_append_drop->oV,take_length->ik,take_of_length_le->tF
open List.Pairwise renaming filter->Xx
open List.Perm renaming refl->Bp
open Nat renaming le_refl->cm,le_trans->eC,lt_or_eq_of_le->Qx,strongRecOn->Qy,zero_add->kV,zero_le->cQ
open Option renaming getD_some->pG,none->af,some->ab
open Option.some renaming inj->KA,injEq->wQ
open Or renaming inl->bH,inr->b1
namespace Go.Proofs.YtcmhplknoglbkaaGreat
section
section
variable {P:eu} {ops:Array Oper} {Q:Exit->Act->aM->Prop} {md:O6} {S:aM->Prop} {d:Nat}
def v7(P:eu)(md:O6)(ops:Array Oper)(Q:Exit->Act->aM->Prop)(S:aM->Prop)(d:Nat):Nat->Array Bool->Act->aM->Prop
 |0,b,a,w=>sm md ops b=[]/\Q sk a w
 |e+1,b,a,w=>
  (sm md ops b=[]->Q sk a w)/\
  ∀i∈sm md ops b,wpOp P ops Q i (λc w'=>(i≠d->S w')/\v7 P md ops Q S d e (b.setIfInBounds i aB) c w') a w
def afH:∀(b) c a w,v7 P md ops Q S d b c a w->wpAny P md ops Q b c a w
 |0,_,_,_,h=>h
 |b+1,_,_,_,h=>⟨h.1,λi hi=>wpOp_mono (λe w' f=>afH b _ e w' f.2) (h.2 i hi)⟩
def awj {i oi v} (hi:ops[i]?=ab oi) (u:∀(j:Nat) o cs b,ops[j]?=ab o->o.op≠.select cs b)
 (hd:aik md ops d i=aB) (Ep:∀c a w,Q (tm c) (a.put oi.dst v) w->Q (tm c) a w):
 ∀(n) f a w,
  (∀j g,ops[j]?=ab g->j≠i->f.getD j aB=au->(∀e∈g.after,xT md e=aB->e.on≠i)->oi.apart ops g=aB)->
  i∈sm md ops f->YieldsIf P ops S oi v a->S w->
  v7 P md ops Q S d n (f.setIfInBounds i aB) (a.put oi.dst v) w->v7 P md ops Q S d (n+1) f a w:=by
 intro n;induction n with
 |zero=>
  intro f a w _ hr r p m;refine⟨λh=>aF,λj q=>?_⟩;by_cases l:j=i;·subst l;exact r.wpOp hi p ⟨λ_=>p,m⟩
  .have:=WG q l;rw[m.1]at this;cases this
 |succ n G=>
  intro f a w t hr r p m;refine⟨λh=>aF,λj q=>?_⟩;by_cases l:j=i;·subst l;exact r.wpOp hi p ⟨λ_=>p,m⟩
  .have h1:=m.2 j (WG q l);obtain⟨y,g,s,hall⟩:=mem_ready.1 q;have A:∀e∈g.after,xT md e=aB->e.on≠i:=λe C hb D=>by grind[mem_ready]
   have F:j≠d:=by grind[Region.waitsFor_spec]
   have B:=wpOp_putIf s (t j g s l y A) (λcs b=>u i oi cs b hi) (λcs b=>u j g cs b s) Ep r h1
   have E:∀k ok,ops[k]?=ab ok->k≠i->(f.setIfInBounds j aB).getD k aB=au->
    (∀e∈ok.after,xT md e=aB->e.on≠i)->oi.apart ops ok=true:=λk ok hk z x hno=>by
    refine t k ok hk z ?_ hno;by_cases hjk:j=k;·grind
    .rw[getD_set_ne aB hjk]at x;exact x
   grind[wpOp_mono,WG,Array.setIfInBounds_comm]
def nu {i oi v e b a w} (hi:ops[i]?=ab oi)
 (hs:Region.noSelect ops=aB) (hf:Region.free md ops b i=aB) (hr:(sm md ops b).contains i=aB) (hd:aik md ops d i=aB)
 (Ep:∀c a w,Q (tm c) (a.put oi.dst v) w->Q (tm c) a w) (hy:YieldsIf P ops S oi v a) (hS:S w)
 (h:v7 P md ops Q S d e (b.setIfInBounds i aB) (a.put oi.dst v) w):v7 P md ops Q S d (e+1) b a w:=
 awj hi (Region.noSelect_spec hs) hd Ep e b a w (Region.free_spec hi hf) aF hy hS h
def ky(P:eu)(md:O6)(ops:Array Oper)(Q:Exit->Act->aM->Prop)(S:aM->Prop)(d:Nat)(c:Nat)(e:Array Bool)(a:Act)(w:aM)(rs:List Nat):Prop:=
 ∀i∈rs,wpOp P ops Q i (λb w'=>(i≠d->S w')/\v7 P md ops Q S d c (e.setIfInBounds i aB) b w') a w
theorem ky.nil{b c a w}:ky P md ops Q S d b c a w []:=λ_ h=>by grind
def ky.cons {c f a w i o rs} (m:ops[i]?=ab o) (n:Region.wanted o (yielded ops a.tmps)=aB)
 (h:∀b:Act->aM->Prop,aE (∀a w,(i≠d->S w)->v7 P md ops Q S d c (f.setIfInBounds i aB) a w->b a w)->hB P o a w b Q)
 (hs:ky P md ops Q S d c f a w rs):ky P md ops Q S d c f a w (i::rs):=λj e=>by
 rcases gy.1 e with rfl|e;·refine wpOp_step m (λb g=>?_);rw[if_pos n];exact h b (λa w k l=>g a w ⟨k,l⟩)
 .exact hs j e
def xE {rs c b a w} (hr:sm md ops b=rs) (hne:rs≠[])
 (h:ky P md ops Q S d c b a w rs):v7 P md ops Q S d (c+1) b a w:=⟨λe=>absurd (hr▸e) hne,hr▸h⟩
def afG{b a w}(hr:sm md ops b=[])(h:Q sk a w):∀c,v7 P md ops Q S d c b a w
 |0=>⟨hr,h⟩
 |_+1=>⟨λ_=>h,aF⟩
def afN {id a w} (c:P.follows JC=aB) d S (b:S w.drew)
 (h:S w.drew->v7 P .any ops Q S d ops.size (Array.replicate ops.size au) a w.drew):(Code.region id ops aB).wp P Q a w:=
 wp_region_any c (afH _ _ _ _ (h b))
end
end
open Go.RowKit Go.MapKept
def aqo:(ax.info? 413).map (λi=>(i.zero,i.size,i.bytes))=ab (ab (av #[J R 0,J R 0,J R 0]),3,24):=aw
def aob{l:List (Int×Int)}{k e}(hk:l[k]?=ab e)(h:∀x∈l.take k,eD x/\0<x.2)(a:eD e/\0<e.2):∀x∈l.take (k+1),eD x/\0<x.2:=by grind[fu]
def adt{F w w'}{base e size:Nat}{v m xs}(h:w.ownsRow base e size v m xs)(k:ar F w w')(a:∀i,v.ownBlock=ab i->¬F i):w'.ownsRow base e size v m xs:=by
 refine⟨h.1,?_⟩;rcases h.2 with h2|⟨g,cap,cur,rfl,hb,hh,r⟩;·grind
 .exact b1 ⟨g,_,_,aa,hb,k.heap hh (a g aa),r⟩
def ads{w:aM}{base e n:Nat}{v xs}(h:w.ownsRow base e 3 v n xs):∃A c,v=ad A n c:=by
 rcases h.2 with⟨rfl,rfl⟩|⟨g,cap,cur,rfl,_⟩;·simp
 .simp
def Ze:∀(t) k,(w0 k t).Pairwise (λx y=>x.2<y.2)
 |[],_=>.nil
 |e::t,k=>by
  refine vj.2 ⟨λy a=>?_,Ze t (k+1)⟩;obtain⟨i,hi⟩:=oU.1 a;rw[Ru]at hi;cases he:t[i]? with
  |none=>rw[he]at hi;cases hi
  |some b=>
   rw[he]at hi;simp only[Option.map_some,wQ]at hi;subst hi;show(k:Int)<((k+1+i:Nat):Int);omega
def ann l:(iF l).Nodup:=(Ze l 0).imp (λh e=>aF)
def ac1{l}{k:Nat}{e}(hk:l[k]?=ab e)(h:¬(eD e/\0<e.2)):¬∃S,S.Perm (iF l)/\jS S:=by rintro⟨S,hp,hg⟩;have a:(e,(k:Int))∈S:=hp.mem_iff.2 (Ar.2 ⟨k,hk,aa⟩);exact h (hg.2 _ a)
def aoa{S}(c:S.Pairwise (λx y=>x.1.1<=y.1.1))(hv:∀x∈S,eD x.1/\0<x.1.2)(h:∀i x y,S[i]?=ab x->S[i+1]?=ab y->x.1.1+x.1.2<=y.1.1):jS S:=by
 refine⟨l3.2 λi j hi b a=>?_,hv⟩;have h1:=h i S[i] S[i+1] (cj hi) (cj ae);rcases Qx (show i+1<=j from a)with hlt|e;·have d:=l3.1 c (i+1) j ae b hlt;omega
 .grind
def arW{l}{c:List jQ}(d:c.Perm (iF l))(q:c.Pairwise (λx y=>x.1.1<=y.1.1)){i x y}(hx:c[i]?=ab x)(g:c[i+1]?=ab y)(hlt:y.1.1<x.1.1+x.1.2):¬∃S,S.Perm (iF l)/\jS S:=by
 rintro⟨S,hp,hg⟩;have p:c.Nodup:=d.nodup_iff.2 (ann l);obtain⟨hi,r⟩:=eQ.1 hx;obtain⟨o,s⟩:=eQ.1 g;have hne:x≠y:=by grind[l3]
 have hle:x.1.1<=y.1.1:=by grind[l3]
 have m:x∈S:=(d.trans hp.symm).mem_iff.1 (cL hx);have j:y∈S:=(d.trans hp.symm).mem_iff.1 (cL g);obtain⟨a,e,f⟩:=Kw.1 m;obtain⟨b,hb,k⟩:=Kw.1 j;have n:=(hg.2 y j).2;rcases Nat.lt_trichotomy a b with h|h|h;·have:=l3.1 hg.1 a b e hb h;rw[f,k]at this;omega
 .grind
 .have:=l3.1 hg.1 b a hb e h;rw[f,k]at this;omega
def arS{w:aM}{b x y z t}(h:w.heap[b]?=ab (bc #[x,y,z] t (0,0))):∀j u,[x,y,z][j]?=ab u->w.cell? ((⟨b,0,af⟩:bU).add j)=ab u:=by grind[Addr.add,zm]
def avf A c f w:aD ax 307 #[ad A 0 c,f] w λe w'=>e=aA (bg #[])/\w'=w:=agw Tryz.acx A c f w
section
attribute [local go_sem] Oper.semAt_some
abbrev Part:=Int×(Int×Int)
def parts(e:Int×Int)(S:List jQ):List Part:=(S.filter (λx=>meets x.1 e)).map (λx=>(x.2,kM x.1 e))
def adH{e}{S:List jQ}{k x}(hx:S[k]?=ab x)(h:meets x.1 e=aB):parts e (S.take (k+1))=parts e (S.take k)++[(x.2,kM x.1 e)]:=by grind[fu,parts]
theorem adE{e S}(h:∀x∈S,meets x.1 e=au):parts e S=[]:=by grind[parts,List.filter_eq_nil_iff]
def as1{e S k}(h:∀i x,k<=i->S[i]?=ab x->meets x.1 e=au):parts e (S.take k)=parts e S:=by
 have h1:parts e S=parts e (S.take k)++parts e (S.drop k):=by grind[parts,oV]
 grind[adE,oU]
def as0{c d S k}(h:IsCut S.length (uz S c) k):parts (c,d) (S.take k)=[]:=by
 refine adE (λx hx=>?_);obtain⟨i,hi⟩:=oU.1 hx;rw[tE]at hi;split at hi;·rename_i hik;have:=h.before hi hik;grind[meets]
 .grind
def adF{c d S k x}(a:jS S)(hk:c<x.1.1+x.1.2)(hx:S[k]?=ab x)(e:meets x.1 (c,d)=au):parts (c,d) (S.take k)=parts (c,d) S:=by
 refine as1 (λi y hi b=>?_);have f:=(a.at hx).2;simp only[meets,decide_eq_false_iff_not]at e⊢;rcases Qx hi with h|h;·have h1:=a.lt hx b h;have g:=(a.at b).2;omega
 grind
def adD{e}{S:List jQ}{k x}(hx:S[k]?=ab x):(parts e (S.take k)).length<S.length:=by grind[parts]
def adG e S k:parts e (S.take k)<+:parts e S:=by grind[parts]
def afp{e:Ending}{A B}(h:(e=aA (ak aB)/\A)\/(e=aA (ak au)/\B)):∃a,e=aA (ak a)/\(a=aB->A)/\(a=au->B):=aF
def aoe{w w'}(h:aq w w'):w.grownBy w' none:=⟨h.1,h.2,h.3,h.4,λk hk _=>h.5 k hk (λh=>h)⟩
set_option maxHeartbeats 4000000 in
def asB n (hn:1<=n) jc (l O C p) S (c d) (mE:eD (c,d)) (hS:jS S) (D vd:List Part->aM->Prop)
 (z8:∀pre x W,D pre W->pre.length<S.length->YieldAt mr (n -1) ax l #[J R x.1,av #[J R x.2.1,J R x.2.2]] W λe a=>(e=aA (ak aB)/\D (pre++[x]) a/\ar jc W a)\/(e=aA (ak au)/\vd (pre++[x]) a))
 W (sN:∀pre hY fv,D pre hY->aq hY fv->D pre fv)
 (gm:aE (∀a,ar jc W a->oc a p S/\a.cell? ⟨O,0,af⟩=ab (ay (ab ⟨p,0,af⟩))/\a.cell? ⟨C,0,af⟩=ab (J R c)/\a.cell? ⟨C,1,af⟩=ab (J R d))) (h0:D [] W):
 rb mr n ax 309 #[dJ (.yield l) #[] #[],ay (ab ⟨O,0,af⟩),ay (ab ⟨C,0,af⟩)] W λe a=>(∃v,e=aA v)/\(D (parts (c,d) S) a\/∃pre,pre<+:parts (c,d) S/\vd pre a):=by
 have na:=hid z8;have K:=hid sN;have T:=hid (And.intro hS mE);have ri:=hid h0;have azw:ax.follows JC=true:=aw;obtain⟨E,z,fm,ly⟩:=gm.out W (ar.refl _ _);have hlen:=E;obtain⟨_,_,_,_,hl⟩:=hlen;have X:=hid (akp p S c W E hS);clear E z8 sN hS mE h0;refine Dn Tryz.func309 aa trivial ?_ aa;simp only[ntmps309,iQ,jT,l2,qf,qg,qv,qu,nd,pB];gi_wp2_with (first|(refine⟨trivial,?_⟩;gi_at_call 310;have f:=sn (n:=n -1).2 X.out;with_reducible refine f.mono ?_;clear f;rintro e w1 ⟨k,rfl,V,hg1⟩)|(gi_at_call 310;have f:=(callsIn_wide (n:=n -1)).2 X.out;with_reducible refine f.mono ?_;clear f;rintro e w1 ⟨k,rfl,V,hg1⟩));have P:=hid (And.intro V hg1);have apc:=V.1;clear V hg1 X z fm ly;gi_loopw [4] (λi wr=>∃z:Nat,z<=S.length/\k<=z/\i=J R z/\aE (D (parts (c,d) (S.take z)) wr/\ar jc W wr)) (λi _=>S.length -(cd i).toNat);case atStart=>exact⟨k,apc,cm _,aa,hid ⟨by rw[as0 P.out.1];exact K.out _ _ _ ri.out P.out.2,P.out.2.mono (λ_ _ h=>h.elim)⟩⟩
 case round=>
  obtain⟨q,hq,aaY,rfl,w⟩:=hrel;obtain⟨E,z,fm,ly⟩:=gm.out wr w.out.2;have Q:=hid E;by_cases hlt:q<S.length
  .have hb0:(q:Int)<(S.length:Int):=ae;obtain⟨x,hx⟩:∃x,S[q]?=ab x:=⟨_,cj hlt⟩;obtain⟨b,o,oZ,gh,fP,iL,p6⟩:=E.at hx;have U:=hid (And.intro hx (And.intro (P.out.1.behind hx aaY) (T.out.1.at hx)));obtain⟨⟨dc,bm⟩,lg⟩:=x;simp only at fP iL p6
   have y:aE (∀w',aq wr w'->w'.cell? ⟨O,0,af⟩=ab (ay (ab ⟨p,0,af⟩))/\w'.cell? ⟨C,0,af⟩=ab (J R c)/\w'.cell? ⟨C,1,af⟩=ab (J R d)/\w'.cell? ⟨p,0,af⟩=ab (ad (ab ⟨b,o,af⟩) S.length oZ)/\w'.cell? ⟨b,o+q*3,af⟩=ab (J R dc)/\w'.cell? ⟨b,o+q*3+1,af⟩=ab (J R bm)/\w'.cell? ⟨b,o+q*3+2,af⟩=ab (J R lg)):=
    hid (λw' h=>⟨h.cell z (λh=>h),h.cell fm (λh=>h),h.cell ly (λh=>h),h.cell gh (λh=>h),h.cell fP (λh=>h),h.cell iL (λh=>h),h.cell p6 (λh=>h)⟩)
   have M:aE (∀w1 B u v,aq wr w1->wr.heap.size<=B->aq wr ((w1.setCell ⟨B,0,af⟩ u).setCell ⟨B,1,af⟩ v)):=hid (λw1 B u v h ic=>by have q:=(h.mono (G:=λi=>i=B) (λ_ _ h=>h.elim)).trans ((ar.setCell (F:=λi=>i=B) w1 (p:=⟨B,0,af⟩) aa u).trans (ar.setCell (F:=λi=>i=B) _ (p:=⟨B,1,af⟩) aa v) (λ_ _ h=>h)) (λ_ _ h=>h);exact q.mono (λi hi h=>ae))
   have Y:aE (∀w',aq (wr.drew.alloc (bc #[J R 0,J R 0] 35)) w'->w'.frozen? ⟨wr.heap.size,0,af⟩=au/\w'.frozen? ⟨wr.heap.size,1,af⟩=au/\w'.cell? ⟨wr.heap.size,0,af⟩=ab (J R 0)/\w'.cell? ⟨wr.heap.size,1,af⟩=ab (J R 0)):=hid (λw' hw'=>by have g4:=hw'.heap (fe wr.drew (bc #[J R 0,J R 0] 35)) (λh=>h);have g5:w'.heap[wr.heap.size]?=ab (bc #[J R 0,J R 0] 35 (0,0)):=g4;grind[uR,zm]);have du:aE (∀a,aD ax 202 #[av #[J R dc,J R bm],av #[J R c,J R d]] a λe w'=>e=aA (bg #[gI (kM (dc,bm) (c,d)),ak (meets (dc,bm) (c,d))])/\aq a w'):=hid (λa=>MT dc bm c d a U.out.2.2.1 T.out.2);have bI:aE (∀fa g,kM (dc,bm) (c,d)=(fa,g)->∀M3:Nat,M3=q->True):=hid (λ_ _ _ _ _=>trivial);have H:aE (S[q]?=ab ((dc,bm),lg)):=hid U.out.1;obtain⟨m,hm⟩:∃m:Bool,meets (dc,bm) (c,d)=m:=⟨_,aa⟩;obtain⟨fa,g,en⟩:∃fa g:Int,kM (dc,bm) (c,d)=(fa,g):=⟨_,_,aa⟩;have t:=hid (And.intro hm en)
   have PX:aE (∀a,aD ax 202 #[av #[J R dc,J R bm],av #[J R c,J R d]] a λe w'=>e=aA (bg #[av #[J R fa,J R g],ak m])/\aq a w'):=hid (λa=>by have h:=du.out a;rw[hm,en]at h;exact h);clear hx E hm en du bI gh fP iL p6;gi_wp2_with (first|(refine⟨trivial,?_⟩;gi_at_call 311;have f:=sn (n:=n -1).2 (xk p S wr Q.out);with_reducible refine f.mono ?_;clear f;rintro e aR ⟨rfl,rfl⟩)|(gi_at_call 311;have f:=(callsIn_wide (n:=n -1)).2 (xk p S wr Q.out);with_reducible refine f.mono ?_;clear f;rintro e aR ⟨rfl,rfl⟩));refine xW.2 ?_
   go_region_held3 (λw'=>w'.cell? ⟨O,0,af⟩=ab (ay (ab ⟨p,0,af⟩))/\w'.cell? ⟨C,0,af⟩=ab (J R c)/\w'.cell? ⟨C,1,af⟩=ab (J R d)/\w'.cell? ⟨p,0,af⟩=ab (ad (ab ⟨b,o,af⟩) S.length oZ)/\w'.cell? ⟨b,o+q*3,af⟩=ab (J R dc)/\w'.cell? ⟨b,o+q*3+1,af⟩=ab (J R bm)/\w'.cell? ⟨b,o+q*3+2,af⟩=ab (J R lg))
    (first
      |exact y.out _ (ar.drew _)
      |exact y.out _ s
      |exact y.out _ (aq.trans (ar.drew _) (ar.alloc _ _))
      |exact y.out _ (aq.trans s (ar.alloc _ _))
      |exact y.out _ (M.out _ _ _ _ s (cm _))
      |exact y.out _ (M.out _ _ _ _ (aq.trans s (ar.alloc _ _)) s.size))
    (first
      |(go_at_call 202;refine(PX.out _).mono ?_;rintro e A ⟨rfl,ha0⟩;(have s:aq wr A:=(by first|exact aq.trans (ar.drew _) ha0|exact aq.trans (aq.trans (ar.drew _) (ar.alloc _ _)) ha0));(try(have hz:=Y.out _ ha0;obtain⟨e9,z2,z3,z4⟩:=hz))))
   .have N:=yj A (J R fa) (J R g) 35;have j:=hid (aq.trans s (ar.alloc (F:=λ_=>False) A (bc #[J R fa,J R g] 35)));have I:=hid N;clear N ha0 s M Y PX;generalize A.alloc (bc #[J R fa,J R g] 35)=r at*;generalize A.heap.size=B at*;cases m with
    |false=>
     gi_wp2_with fail;refine xW.2 ?_;go_quiet (fail);gi_wp2;refine dn (JW aa _ _ _) aa ?_;refine⟨⟨_,aa⟩,bH ?_⟩;have h:=adF T.out.1 U.out.2.1 H.out t.out.1;rw[<-h];exact K.out _ _ _ w.out.1 (aq.trans j.out (ar.drewN _ _))
    |true=>
     obtain⟨fn,tmps,assign,body,hy,iT⟩:=na.out (parts (c,d) (S.take q)) (lg,(fa,g)) r.drew (K.out _ _ _ w.out.1 (aq.trans j.out (ar.drew _))) (adD H.out);dsimp only at hy;obtain⟨iv,bp,c7,iw,oL,N4,N5⟩:=y.out _ (aq.trans j.out (ar.drew _));have C3:r.drew.cell? ⟨B,0,af⟩=ab (J R fa):=I.out.1;have N6:r.drew.cell? ⟨B,1,af⟩=ab (J R g):=I.out.2;have L:=hid (adH H.out t.out.1);have Z:aE (ar jc W r.drew):=hid (w.out.2.trans ((aq.trans j.out (ar.drew _)).mono (λ_ _ h=>h.elim)) (λ_ _ h=>h));gi_wp2_with fail;gi_region_with_o (refine iT.mono ?_;intro e By hp;obtain⟨qy,rfl,SG,L2⟩:=afp hp)
     all_goals
      cases qy with
      |true=>
       gi_wp2;go_roundw
       case rel=>
        have h:=SG aa;refine⟨q+1,ae,ae,aT,hid ⟨?_,Z.out.trans h.2 (λ_ _ h=>h)⟩⟩;rw[L.out,t.out.2];exact h.1
       case measure=>simp[cd];omega
      |false=>
       gi_wp2;refine dn (JW aa _ _ _) aa ?_;refine⟨⟨_,aa⟩,b1 ⟨_,?_,L2 (by first|rfl|trivial)⟩⟩;have h:=adG (c,d) S (q+1);rw[L.out,t.out.2]at h;exact h
   .have N:=Ub A wr.heap.size (J R 0) (J R 0) (J R fa) (J R g) z3 z4;have j:=hid (M.out A wr.heap.size (J R fa) (J R g) s (cm _));have I:=hid N;clear N ha0 s e9 z2 z3 z4 M Y PX;generalize (A.setCell ⟨wr.heap.size,0,af⟩ (J R fa)).setCell ⟨wr.heap.size,1,af⟩ (J R g)=r at*;generalize wr.heap.size=B at*;cases m with
    |false=>
     gi_wp2_with fail;refine xW.2 ?_;go_quiet (fail);gi_wp2;refine dn (JW aa _ _ _) aa ?_;refine⟨⟨_,aa⟩,bH ?_⟩;have h:=adF T.out.1 U.out.2.1 H.out t.out.1;rw[<-h];exact K.out _ _ _ w.out.1 (aq.trans j.out (ar.drewN _ _))
    |true=>
     obtain⟨fn,tmps,assign,body,hy,iT⟩:=na.out (parts (c,d) (S.take q)) (lg,(fa,g)) r.drew (K.out _ _ _ w.out.1 (aq.trans j.out (ar.drew _))) (adD H.out);dsimp only at hy;obtain⟨iv,bp,c7,iw,oL,N4,N5⟩:=y.out _ (aq.trans j.out (ar.drew _));have C3:r.drew.cell? ⟨B,0,af⟩=ab (J R fa):=I.out.1;have N6:r.drew.cell? ⟨B,1,af⟩=ab (J R g):=I.out.2;have L:=hid (adH H.out t.out.1);have Z:aE (ar jc W r.drew):=hid (w.out.2.trans ((aq.trans j.out (ar.drew _)).mono (λ_ _ h=>h.elim)) (λ_ _ h=>h));gi_wp2_with fail;gi_region_with_o (refine iT.mono ?_;intro e By hp;obtain⟨qy,rfl,SG,L2⟩:=afp hp)
     all_goals
      cases qy with
      |true=>
       gi_wp2;go_roundw
       case rel=>
        have h:=SG aa;refine⟨q+1,ae,ae,aT,hid ⟨?_,Z.out.trans h.2 (λ_ _ h=>h)⟩⟩;rw[L.out,t.out.2];exact h.1
       case measure=>simp[cd];omega
      |false=>
       gi_wp2;refine dn (JW aa _ _ _) aa ?_;refine⟨⟨_,aa⟩,b1 ⟨_,?_,L2 (by first|rfl|trivial)⟩⟩;have h:=adG (c,d) S (q+1);rw[L.out,t.out.2]at h;exact h
  .obtain rfl:q=S.length:=ae;gi_wp2_with (first|(refine⟨trivial,?_⟩;gi_at_call 311;have f:=sn (n:=n -1).2 (xk p S wr Q.out);with_reducible refine f.mono ?_;clear f;rintro e aR ⟨rfl,rfl⟩)|(gi_at_call 311;have f:=(callsIn_wide (n:=n -1)).2 (xk p S wr Q.out);with_reducible refine f.mono ?_;clear f;rintro e aR ⟨rfl,rfl⟩));go_end0;exact⟨⟨_,aa⟩,bH (by have h:=w.out.1;rw[ik]at h;exact h)⟩
def asC n q(c d)w:
 rb mr n ax 252 #[ay q,av #[J R c,J R d]] w λe w'=>e=aA (dJ (ej 309) #[] #[ay (ab ⟨w.heap.size,0,af⟩),ay (ab ⟨w.heap.size+1,0,af⟩)])/\w'=(w.alloc (bc #[ay q] 295)).alloc (bc #[J R c,J R d] 35):=by
 refine Dn func252 aa trivial ?_ aa;simp only[ntmps252,iQ,jT,l2,qf,qg,qv,qu,nd,pB];gi_wp2;go_ret;exact⟨aa,aa⟩
theorem aqR{w w' jc p S}(h:oc w p S)(k:ar jc w w')(a:∀i,i<w.heap.size->¬jc i):oc w' p S:=
 h.aH (k.mono (λi hi h=>(a i hi h).elim))
def asf{jc A B C}(h:ar jc A B)(k:ar jc B C):ar jc A C:=h.trans k (λ_ _ h=>h)
def ase{jc s}(a:∀i,s<=i->jc i)W l(o o')(b:s<=l)(_:W.heap[l]?=ab o)(_:o.isCells=au)(_:o.isWalk=au):ar jc W (W.putObj l o'):=by have g:=grownBy_putObj' W l o';exact⟨g.1,g.2,g.3,g.4,λk hk c=>g.5 k hk (λe=>aF)⟩
def asF n (z:1<=n) jc (i f p) S (c d) (v:eD (c,d)) (u:jS S) w
 (gm:aE (∀a,ar jc w a->oc a p S/\a.cell? ⟨i,0,af⟩=ab (ay (ab ⟨p,0,af⟩))/\a.cell? ⟨f,0,af⟩=ab (J R c)/\a.cell? ⟨f,1,af⟩=ab (J R d))):
 SeqStopsK mr n ax 309 #[ay (ab ⟨i,0,af⟩),ay (ab ⟨f,0,af⟩)] (λx:Part=>#[J R x.1,av #[J R x.2.1,J R x.2.2]]) (ar jc) (λcn=>cn=parts (c,d) S) (λpre=>pre<+:parts (c,d) S) S.length w:=λl j m W b t _ y s=>by
 have A:aq w W:=⟨b.os,b.tape,b.output,b.size,λk hk _=>b.block k hk⟩;refine(asB n z jc l i f p S c d v u j m y W (λpre o q h g=>t pre o q af h (aoe g) (λr e=>aF)) (hid (λa h=>gm.out a ((A.mono (λ_ _ h=>h.elim)).trans h (λ_ _ h=>h)))) s).mono ?_;simp
end
section
open Go.RowKit Go.MapKept Go.Shelf Go.Maps
attribute [local go_sem] Oper.semAt_some
def S3:(ax.info? 3).map (λi=>(i.zero,i.size,i.bytes))=ab (ab (J R 0),1,8):=aw
def Oz(w ao:aM)(v:aO)(t:TypeId)(q:Option bU)(c d:Int):Prop:=
 aq w ao/\ao.heap.size=w.heap.size+4/\ao.heap[w.heap.size+1]?=ab (bc #[v] t (0,0))/\ao.cell? ⟨w.heap.size+2,0,af⟩=ab (ay q)/\ao.cell? ⟨w.heap.size+3,0,af⟩=ab (J R c)/\ao.cell? ⟨w.heap.size+3,1,af⟩=ab (J R d)
def an3 w v t q(c d)ao(e:ao=(((w.alloc (bc #[J R c,J R d] 35)).alloc (bc #[v] t)).alloc (bc #[ay q] 295)).alloc (bc #[J R c,J R d] 35)):
 Oz w ao v t q c d:=by
 subst e;have g2:=fe (w.alloc (bc #[J R c,J R d] 35)) (bc #[v] t);have b:=fe ((w.alloc (bc #[J R c,J R d] 35)).alloc (bc #[v] t)) (bc #[ay q] 295);have a:=fe (((w.alloc (bc #[J R c,J R d] 35)).alloc (bc #[v] t)).alloc (bc #[ay q] 295)) (bc #[J R c,J R d] 35);simp only[zn]at g2 b a;refine⟨aq.trans (aq.trans (aq.trans (ar.alloc _ _) (ar.alloc _ _)) (ar.alloc _ _)) (ar.alloc _ _),aT,(aq.trans (ar.alloc _ _) (ar.alloc _ _)).heap g2 (λh=>h),(ar.alloc (F:=λ_=>False) _ _).cell (pw b) (λh=>h),?_,?_⟩;·exact eB _ _ 0 _ _ _ a
 .exact eB _ _ 1 _ _ _ a
theorem adr{w:aM}{base e size:Nat}{v m xs}(h:w.ownsRow base e size v m xs){j o}(b:v.ownBlock=ab j)(a:w.heap[j]?=ab o):o.isCells=true:=by
 rcases h.2 with⟨rfl,_⟩|⟨g,cap,cur,rfl,_,hh,_⟩;·cases b
 .have hj':g=j:=by grind[tt]
  subst hj';rw[hh]at a;cases a;rfl
def asN{w w':aM}{base e size:Nat}{v m xs row}(h:w.ownsRow base e size v m xs)(g:w.grownBy w' row)(hr:∀r,row=ab r->∃o,w.heap[r]?=ab o/\o.isCells=au):w'.ownsRow base e size v m xs:=by refine adt h (ar.of_grownBy (F:=λi=>row=ab i) g (λk hk=>bH hk)) (λi hi a=>?_);grind[adr]
def CF{w:aM}{base a e size:Nat}{v m xs}(h:w.ownsRow base e size v m xs)(hb:a<=base):w.ownsRow a e size v m xs:=by
 refine⟨h.1,?_⟩;rcases h.2 with h2|⟨g,cap,cur,h3,h4,h5⟩;·grind
 .exact b1 ⟨g,_,_,h3,eC hb h4,h5⟩
def jc(s:Nat)(i:Nat):Prop:=i=s+1\/s+4<=i
def adC e S:(parts e S).length<=S.length:=by grind[parts]
def an6{w ao p S c d v t}(m:oc w p S)(b:Oz w ao v t (ab ⟨p,0,af⟩) c d):
 ∀a,ar (jc w.heap.size) ao a->oc a p S/\a.cell? ⟨w.heap.size+1+1,0,af⟩=ab (ay (ab ⟨p,0,af⟩))/\a.cell? ⟨w.heap.size+1+1+1,0,af⟩=ab (J R c)/\a.cell? ⟨w.heap.size+1+1+1,1,af⟩=ab (J R d):=λa h=>by
 obtain⟨e,j,k,f,g,i⟩:=b;refine⟨?_,h.cell f (by grind[jc]),h.cell g (by grind[jc]),h.cell i (by grind[jc])⟩;have l:ar (jc w.heap.size) w a:=(e.mono (λ_ _ h=>h.elim)).trans h (λ_ _ h=>h);grind[aqR,jc]
def ZB{w ao:aM}(a:ao.heap.size=w.heap.size+4):∀(W) l (o o'),ao.heap.size<=l->W.heap[l]?=ab o->o.isCells=au->o.isWalk=au->ar (jc w.heap.size) W (W.putObj l o'):=
 ase (λi hi=>b1 ae)
def an5{w ao W}(g:aq w ao)(h:ar (jc w.heap.size) ao W):aq w W:=
 ((g.mono (G:=jc w.heap.size) (λ_ _ h=>h.elim)).trans h (λ_ _ h=>h)).mono (λi hi h=>by grind[jc])
set_option maxHeartbeats 2000000 in
def arD n (S:3<=n) q ps N (C:N<=1048576) (c d) w
 (gS:aE (∀ao:aM,Oz w ao (ad af 0 0) 82 q c d->SeqStopsK mr (n -1) ax 309 #[ay (ab ⟨w.heap.size+1+1,0,af⟩),ay (ab ⟨w.heap.size+1+1+1,0,af⟩)] (λx:Part=>#[J R x.1,av #[J R x.2.1,J R x.2.2]]) (ar (jc w.heap.size)) (λcn=>cn=ps) (λpre=>pre<+:ps) N ao)):
 rb mr n ax 181 #[ay q,av #[J R c,J R d]] w λe s=>∃v,e=aA v/\s.ownsRow w.heap.size 3 1 v ps.length (ps.map (λx=>J R x.1))/\aq w s:=by
 have h1:1<=n:=ae;have P:1<=n -1:=ae;obtain⟨L,hi,hz0,hz1,hz2⟩:=rf S3;have g:=hid (And.intro hi (And.intro hz0 (And.intro hz1 hz2)));clear hi hz0 hz1 hz2;refine callsIn_of_wp_marks func181 aa trivial ?_ aa;simp only[ntmps181,iQ,jT,l2,qf,qg,qv,qu,nd,pB];gi_wp2_with (refine⟨trivial,?_⟩;gi_at_call 252;refine(asC _ _ _ _ _).mono ?_;rintro e w' ⟨rfl,rfl⟩);obtain⟨ao,y⟩:∃ao,ao=(((w.alloc (bc #[J R c,J R d] 35)).alloc (bc #[ad af 0 0] 82)).alloc (bc #[ay q] 295)).alloc (bc #[J R c,J R d] 35):=⟨_,aa⟩;have m:=hid (an3 w _ _ _ c d ao y);rw[<-y];clear y;have hsz:=m.out.2.1;have H:aE (N<=1048576):=hid C;clear C;have G:aE ((ao.heap[w.heap.size+1]?=ab (bc #[ad af 0 0] 82 (0,0)))):=hid m.out.2.2.1
 refine wpIn_rangeFunc_ownG aa h1 (gf:=309) (lb:=_) aa trivial (enters_of Tryz.func309 aw aa)
  (gS.out ao m.out) asf (ZB hsz) (Below.refl _ _) (λ_=>aa)
  (λpre W=>(∃v,W.heap[w.heap.size+1]?=ab (bc #[v] 82 (0,0))/\W.ownsRow (w.heap.size+4) 3 1 v pre.length (pre.map (λx=>J R x.1)))/\ar (jc w.heap.size) ao W)
  (λ_ _ _=>False)
  (λpre W s row A E hr=>by obtain⟨⟨v,hh,hrow⟩,a⟩:=A;have t:ar (λi=>ao.heap.size<=i) W s:=ar.of_grownBy E (λk hk=>bH (hr k hk).1);exact⟨⟨v,t.heap hh ae,asN hrow E (λr e=>(hr r e).2)⟩,a.trans t (λi _ h=>b1 ae)⟩)
  (λ_ _ _ _ _ A _ _=>A)
  ⟨⟨_,G.out,World.ownsRow_nil _ _ _ _⟩,ar.refl _ _⟩
  (λx=>{tmps:=#[ay q,av #[J R c,J R d],aY,ay (ab ⟨w.heap.size,0,af⟩),ad af 0 0,ay (ab ⟨w.heap.size+1,0,af⟩),J R x.1,ay q,av #[J R c,J R d],dJ (ej 309) #[] #[ay (ab ⟨w.heap.size+1+1,0,af⟩),ay (ab ⟨w.heap.size+1+1+1,0,af⟩)],J R x.1,av #[J R x.2.1,J R x.2.2],aY,aY,aY,aY,aY],defers:=[]}) ?assign ?body ?done ?stop
 case assign=>
  intro l x W K f;gi_wp2;exact f
 case body=>
  rintro l pre x W ⟨⟨v,hh,hrow⟩,a⟩ hlt;have hc:=pw hh;have b:=hid (And.intro hh (And.intro hrow a));have T:w.heap.size+4<=W.heap.size:=by have:=a.size;omega
  have B:=hid (And.intro hlt H.out);clear hh hrow a;gi_wp2_with (gi_at_builtin;refine wpListIn_append_own _ aa _ _ 82 aa (w.heap.size+4) 3 L (J R 0) 1 8 ij g.out.1 g.out.2.1 g.out.2.2.1 g.out.2.2.2 aa bh _ _ _ aa (b.out.2.1.alloc _) ⟨W.heap.size,0,af⟩ 1 1 [J R x.1] aa aa (cell_one_new _ _ _) (by simp[wB]) (by have:=B.out;unfold dN;omega) (by have:=B.out;omega) (by simp;omega) ?_;intro v' w1 hown' hgrow _;obtain⟨O,M,rfl⟩:=ownsRow_succ hown';(have u:aE (ar (λi=>w.heap.size+4<=i) W w1):=hid ((ar.alloc W _).trans (ar.of_grownBy (F:=λi=>w.heap.size+4<=i) hgrow (λk hk=>bH (wC b.out.2.1 k hk).1)) (λ_ _ h=>h)));(have z:=u.out.heap b.out.1 ae);have hc1:=pw z;have Q:=WB z);refine⟨(((axD W _).trans (axE hgrow (λj o e t=>adr (b.out.2.1.alloc _) e t))).trans (axF _ _ _)).from _,?_,?_⟩;·exact(u.out.mono (λi _ h=>b1 h)).trans (ar.setCell _ (p:=_) (bH aa) _) (λ_ _ h=>h)
  .refine⟨⟨_,WD z,?_⟩,(b.out.2.2.trans (u.out.mono (λi _ h=>b1 h)) (λ_ _ h=>h)).trans (ar.setCell _ (p:=_) (bH aa) _) (λ_ _ h=>h)⟩;grind[WE,wC]
 case done=>
  rintro D cn W I rfl ⟨⟨v,hh,hrow⟩,a⟩ f;have hc:=pw hh;gi_wp2;refine⟨aT,bH ⟨_,_,aa,run_takeDeferred f,?_⟩⟩;exact⟨_,results_tmp aa _ _ _,v,aa,CF (ownsRow_putObj hrow _ f aa) ae,an5 m.out.1 (a.trans (ZB hsz W D _ _ I f aa aa) (λ_ _ h=>h))⟩
 case stop=>simp
def arC p S(c d)w(b:oc w p S)(g:jS S)(i:eD (c,d)):
 aD ax 181 #[ay (ab ⟨p,0,af⟩),av #[J R c,J R d]] w λe a=>∃v,e=aA v/\a.ownsRow w.heap.size 3 1 v (parts (c,d) S).length ((parts (c,d) S).map (λx=>J R x.1))/\aq w a:=
 (sn (n:=3)).1 (arD 3 (cm _) _ _ S.length (by obtain⟨_,_,_,_,h⟩:=b;exact h) c d w (hid (λao f=>asF 2 ae (jc w.heap.size) _ _ p S c d i g ao (hid (an6 b f)))))
def ia(l:List Part):Int:=l.foldl (λn x=>RowKit.wrap64 (n+x.2.2)) 0
end
namespace G
def aoZ(w:aM)(o o'):((w.alloc o).alloc o').heap[w.heap.size+1]?=ab o':=by grind[fe,zn]
abbrev b3(w w':aM):Prop:=ar (λi=>w.heap.size<=i) w w'
def b3.aH{w w'}(h:b3 w w'):aq w w':=⟨h.os,h.tape,h.output,h.size,λk hk _=>h.block k hk ae⟩
def yZ{w base v m xs}(h:w.ownsRow base 3 1 v m (xs.map (J R))):∃A c,v=ad A xs.length c/\cX w A xs:=by
 have a:m=xs.length:=by simpa using h.1.symm
 subst a;rcases h.2 with⟨rfl,hz⟩|⟨g,cap,cur,rfl,_⟩;·grind[cX.nil]
 .grind[cX.lW]
def CF{w:aM}{base a e size:Nat}{v m xs}(h:w.ownsRow base e size v m xs)(hb:a<=base):w.ownsRow a e size v m xs:=by
 refine⟨h.1,?_⟩;rcases h.2 with h2|⟨g,cap,cur,rfl,hg,r⟩;·grind
 .exact b1 ⟨g,_,_,aa,eC hb hg,r⟩
def pF.from{w w1 w' v xs}(h:pF w1 w' v xs)(a:w.heap.size<=w1.heap.size):pF w w' v xs:=CF h a
def lY(E:List (Int×Int))(v:Int):List Int:=qZ (succ E v)
def mK(E:List (Int×Int))(v:Int):List Int:=qZ (pred E v)
set_option maxHeartbeats 400000 in
def asz b(n v)E F w(h:gT w F b n E)(hv:db v)(k:E.length<=1099511627776):
 aD ax 92 #[ay (ab ⟨b,0,af⟩),J R v] w λe w'=>∃r,e=aA r/\pF w w' r (lY E v)/\aq w w':=by
 obtain⟨⟨fI,cW,fz,eP,eN,g⟩,_⟩:=h;have j:=eB _ _ 2 _ _ _ g.blk;simp at j;have hlk:=(g.out.lookup o7 A6 FL hv).1;obtain⟨A,c,a,d⟩:=yZ (g.IE v);rw[a]at hlk;replace hlk:(qj 303 (dE (ab cW)) (J R v) au).run ax w=a7 (ad A (succ E v).length c) w:=hlk;have hlen:=I0 E v;have f:=hid d;clear a d g;go_enter func92,ntmps92
 go_wp2_with (first
  |(go_at_call 184;refine(afy A _ c w).mono ?_;rintro e w' ⟨rfl,rfl⟩)
  |(go_at_call 183;refine(ae1 _ c A _ ae _ (eB _ _ 0 _ _ _ (fe w _)) (f.out.aH (ar.alloc w _))).mono ?_;rintro e w' ⟨r,rfl,hr,i⟩));go_ret;exact⟨r,aa,hr.from aT,aq.trans (ar.alloc w _) i⟩
set_option maxHeartbeats 400000 in
def aqi b(n v)E F w(h:gT w F b n E)(hv:db v)(k:E.length<=1099511627776):
 aD ax 304 #[ay (ab ⟨b,0,af⟩),J R v] w λe w'=>∃r,e=aA r/\pF w w' r (mK E v)/\aq w w':=by
 obtain⟨⟨fI,cW,fz,eP,eN,g⟩,_⟩:=h;have j:=eB _ _ 3 _ _ _ g.blk;simp at j;have hlk:=(g.mL.lookup o7 A6 FL hv).1;obtain⟨A,c,a,d⟩:=yZ (g.S5 v);rw[a]at hlk;replace hlk:(qj 303 (dE (ab fz)) (J R v) au).run ax w=a7 (ad A (pred E v).length c) w:=hlk;have hlen:=TQ E v;have f:=hid d;clear a d g;go_enter func304,ntmps304
 go_wp2_with (first
  |(go_at_call 184;refine(afy A _ c w).mono ?_;rintro e w' ⟨rfl,rfl⟩)
  |(go_at_call 183;refine(ae1 _ c A _ ae _ (eB _ _ 0 _ _ _ (fe w _)) (f.out.aH (ar.alloc w _))).mono ?_;rintro e w' ⟨r,rfl,hr,i⟩));go_ret;exact⟨r,aa,hr.from aT,aq.trans (ar.alloc w _) i⟩
def run_len_map{P w fc enc}{ok:fc->Prop}{m a}(h:dY w m enc ok a){t k e}(d:P.underlying t=ab (.map k e))ty:(agf #[t] ty #[dE (ab m)]).run P w=a7 (J R a.length) w:=by
 obtain⟨es,f,hb,_,_,b,_⟩:=h;have c:es.size=a.length:=by have:=congrArg vg b;simpa using this
 rw[<-c];simp[agf,run_underlying d,MapKept.run_getObj_map hb,goInt,Result.andThen]
def r5(seen:List Int):List (Int×aO):=seen.map (λx=>(x,ak aB))
theorem aeB seen x:ec (r5 seen) x=if x∈seen then ab (ak aB)else none:=by
 unfold r5;by_cases h:x∈seen
 .rw[if_pos h];unfold ec;induction seen with
  |nil=>grind
  |cons y r a=>grind
 grind[MD]
def auO{seen x}(h:x∉seen):jY (r5 seen) x (ak aB)=r5 (seen++[x]):=by grind[r5,Iz,aeB,ME]
def aeC seen:(r5 seen).map (·.1)=seen:=by simp[r5,Jz]
def asL{w:aM}{base g m cap xs x}(h:w.ownsRow base 3 1 (ad (ab ⟨g,0,af⟩) (m+1) cap) (m+1) ((xs++[x]).map (J R)))(j:xs.length=m):
 w.ownsRow base 3 1 (ad (ab ⟨g,0,af⟩) m cap) m (xs.map (J R))/\w.cell? ⟨g,m,af⟩=ab (J R x)/\m+1<=cap:=by
 have hcell:=h.cells (g:=g) aa m (J R x) aF;rw[nG,kV]at hcell;rcases h.2 with⟨hv,_⟩|⟨f,e,cur,hv,hb,d,h1,a,b,c⟩;·omega
 .cases hv;refine⟨⟨aF,b1 ⟨g,_,_,aa,hb,d,ae,a,b,?_⟩⟩,hcell,h1⟩;have i:=congrArg (List.take m) c;grind
def lenOf:aO->Nat|.slice _ n _=>n|_=>0
def MA(w:aM)(b:Nat):Nat:=match w.heap[b]? with|some (iO es _)=>es.size|_=>0
def _root_.Go.Proofs.YtcmhplknoglbkaaGreat.dY.size{w b a}(h:dY w b encI db a):MA w b=a.length:=by obtain⟨es,c,hb,_,_,d,_⟩:=h;have:=congrArg vg d;simp only[MA,hb];simpa using this
def atD b(n v)E F w(dT:gT w F b n E)(hv:db v)(eU:E.length<=1048576):
 aD ax 362 #[ay (ab ⟨b,0,af⟩),J R v] w λe w'=>∃r xs,e=aA r/\pF w w' r xs/\Xv E v xs/\aq w w':=by
 obtain⟨⟨fI,cW,fz,eP,eN,g⟩,eg,hval⟩:=dT;have lR:=g.n0;have nM:=g.qO;have fO:=@O' ax;have I:=g.only (ar.alloc (F:=λ_=>False) w (iO #[] 0)) (λ_ _ h=>h);have yI:=dY.made w encI db;have S:=eB _ _ 2 _ _ _ I.blk;simp at S;have hlk:=(I.out.lookup o7 A6 FL hv).1;obtain⟨V,bZ,lQ,ZU⟩:=yZ (I.IE v);rw[lQ]at hlk;replace hlk:(qj 303 (dE (ab cW)) (J R v) au).run ax (w.alloc (iO #[] 0))=a7 (ad V (succ E v).length bZ) (w.alloc (iO #[] 0)):=hlk;have apl:=I0 E v;have Y:=hid ZU;have Gr:=hid yI;have B:=hid (And.intro g (And.intro eg hval));have H:n.toNat*(E.length+1)<=1048576*1048577:=Nat.mul_le_mul ae ae;clear lQ ZU yI I g eg hval;go_enter func362,ntmps362;go_wp2_with fail;go_step3;go_wp2_with (go_at_call 380;refine(alG V bZ _ _ Y.out ae).mono ?_;rintro e w1 ⟨dV,rfl,hr1,hg1⟩);obtain⟨W,c1,rfl,_⟩:=yZ hr1;have ajr:=hid (CF hr1 (cQ _));have DA:aE (∀i,(ad W (succ E v).length c1).ownBlock=ab i->w.heap.size<i):=hid (λi hi=>by have:=(hr1.lt i hi).1;simp at this;omega);have Gv:aE (ar (λi=>w.heap.size<=i) w w1):=hid ((ar.alloc _ _).trans hg1 (λ_ _ h=>h.elim));have ai5:=hid (Gr.out.only hg1 (λh=>h));clear hr1 hg1 hlk S Y Gr fO;go_step3;go_wp2_with fail;obtain⟨i0,gO,hz0,hz1,hz2⟩:=rf An;have C:=hid (And.intro gO (And.intro hz0 (And.intro hz1 hz2)));clear gO hz0 hz1 hz2;have X:aE (∀wr,ar (λi=>w.heap.size<=i) w wr->kz wr F b n E E E fI cW fz eP eN):=hid λwr f=>B.out.1.only (b3.aH f) (λ_ _ h=>h)
 go_loopw [6] (λT wr=>∃seen st A m c,T=ad A m c/\aE (st.length=m)/\wr.ownsRow 0 3 1 (ad A m c) m (st.map (J R))/\(∀i,(ad A m c).ownBlock=ab i->w.heap.size<i)/\
  dY wr w.heap.size encI db (r5 seen)/\tk E v seen st/\ar (λi=>w.heap.size<=i) w wr/\(n.toNat -seen.length)*(E.length+1)+m<=n.toNat*(E.length+1)+E.length)
  (λT wr=>(n.toNat -MA wr w.heap.size)*(E.length+1)+lenOf T);case atStart=>exact⟨[],succ E v,W,_,c1,aa,hid aa,ajr.out,DA.out,ai5.out,tk.start E v,Gv.out,aF⟩
 case round=>
  obtain⟨seen,st,A,m,c,rfl,hlen,hrow,K,o,d,f,z⟩:=hrel;have N:=X.out wr f;rcases Ks st with rfl|⟨L,x,rfl⟩
  .obtain rfl:m=0:=hlen.out.symm;have D:=hid (And.intro hrow (And.intro o (And.intro d f)))
   have aby:seen.length*8<=140737488351232:=by have h1:=E2 (n:=n.toNat) d.Av (λy Q=>by have:=AA B.out.2.2 (d.path y (bH Q));omega);omega
   have DE:=hid aby;clear hrow o d f N aby z H apl K hlen
   go_wp2_with (first
    |(go_at_call 381;refine(S' _ wr).mono ?_;rintro e w' ⟨rfl,rfl⟩)
    |(go_at_call 183;refine(avc _ _ _ (by simpa [r5]using DE.out) _ (eB _ _ 0 _ _ _ (fe wr _)) (D.out.2.1.only (ar.alloc (F:=λ_=>False) wr _) (λh=>h))).mono ?_;rintro e w' ⟨r,rfl,hr,hg⟩));rw[Exit.noGoto_ret];go_ret;have Z0:=D.out.2.2.2;refine⟨r,_,aa,hr.from (by have:=Z0.size;simp;omega),⟨?_,λy=>?_⟩,?_⟩;·rw[aeC];refine((aj0.2 ⟨Ni _,(y3 _).nodup_iff.2 D.out.2.2.1.Av⟩)).imp (λh=>ae)
   .rw[aeC,(y3 _).mem_iff];exact D.out.2.2.1.done y
   .exact aq.trans (b3.aH Z0) (aq.trans (ar.alloc wr _) hg)
  .simp only[ajT]at hrow d hlen;obtain⟨l,rfl⟩:∃l,m=l+1:=⟨L.length,by have:=hlen.out;simp at this;omega⟩;have O:aE (L.length=l):=hid (by have:=hlen.out;simp at this;omega)
   obtain⟨k,rfl⟩:∃k,A=ab ⟨k,0,af⟩:=by
    rcases hrow.2 with⟨_,h0⟩|⟨fH,kX,cur,hv,_⟩;·omega
    .grind
   obtain⟨hrow',hcell,HC⟩:=asL hrow O.out;have hrg:=AA B.out.2.2 (d.path x (b1 aT));have P:db x:=⟨ae,ae⟩;have p:=(o.lookup o7 Wj UE P).1;rw[aeB]at p;have uf:l+1<=1099513724928:=ae;have hgb:w.heap.size<k:=K k aa;by_cases hx:x∈seen
   .rw[if_pos hx]at p;replace p:(qj 467 (dE (ab w.heap.size)) (J R x) au).run ax wr=a7 (ak aB) wr:=p;have j:=hid (And.intro hrow' (And.intro o (And.intro (d.skip hx) f)));have M:=hid z;clear hrow hrow' o d f z N hlen hx K H;go_wp2;go_roundw;case rel=>exact⟨_,_,_,_,_,aa,O,j.out.1,λi hi=>by cases hi;exact hgb,j.out.2.1,j.out.2.2.1,j.out.2.2.2,by have:=M.out;omega⟩
    case measure=>simp[lenOf]
   .rw[if_neg hx]at p;replace p:(qj 467 (dE (ab w.heap.size)) (J R x) au).run ax wr=a7 (ak au) wr:=p;have G:=d.visit hx
    have hle:seen.length+1<=n.toNat:=by have:=E2 (n:=n.toNat) G.Av (λy Q=>by have:=AA B.out.2.2 (G.path y (bH Q));omega);simpa using this
    have hlx:=I0 E x;have aa2:=amJ (n:=n.toNat) (s:=seen.length) (t:=l) ae hlx
    have ajs:aE (∀a,wr.grownBy a (ab w.heap.size)->dY a w.heap.size encI db (jY (r5 seen) x (ak aB))->∃q fF,a.cell? ⟨b,2,af⟩=ab (dE (ab cW))/\
     (qj 303 (dE (ab cW)) (J R x) au).run ax a=a7 (ad q (succ E x).length fF) a/\aE (cX a q (succ E x))/\
     aE (a.ownsRow 0 3 1 (ad (ab ⟨k,0,af⟩) l c) l (L.map (J R)))/\aE (dY a w.heap.size encI db (r5 (seen++[x])))/\aE (ar (λi=>w.heap.size<=i) w a)):=hid λa hg2 u=>by
     have hk:ar (λi=>i=w.heap.size) wr a:=ar.of_grownBy hg2 (λi e=>aF);have kH:ar (λi=>w.heap.size<=i) w a:=f.trans hk (λi hi h=>ae);have g2:=X.out a kH;have S:=eB _ _ 2 _ _ _ g2.blk;have hl2:=(g2.out.lookup o7 A6 FL P).1;obtain⟨q,fF,RG,aoy⟩:=yZ (g2.IE x);rw[RG]at hl2;rw[auO hx]at u;exact⟨q,fF,aF,hl2,hid aoy,hid (ns hrow' hk (λi hi e=>by cases hi;exact absurd (show k=w.heap.size from e) ae)),hid u,hid kH⟩
    have dO:=hid hx;have bV:=hid o;have DC:=hid hrow';have fM:=hid G;have py:=hid f;have M:=hid z;have rv:=hid hle;have Z:=hid aa2;have axX:=hid H;clear hrow hrow' o d G f z N hlen hx K H hle aa2
    go_wp2_with (first
     |(at_mapUpdate;refine Jb aa _ _ _ aa o7 Wj bV.out (by have:=rv.out;unfold dN;simp[r5];omega) aa P aa (ak _) aa ?_;intro a u hg2 hs2;obtain⟨q,fF,gh,fP,iL,p6,AE,CJ⟩:=ajs.out a hg2 u;clear u hg2 hs2)
     |(at_builtin;refine afI _ aa (bb 37) (bb 43) 82 aa 0 3 i0 _ 1 8 ij C.out.1 C.out.2.1 C.out.2.2.1 C.out.2.2.2 aa ae k l c (L.map (J R)) aa p6.out q (succ E x).length fF ((succ E x).map (J R)) aa (cX.cells iL.out) (Ty _) (by grind[dN]) ae aT ?_;intro g3 lu U H2 HK aak aa8));have hk3:ar (λi=>i=k) a U:=ar.of_grownBy HK (λi e=>aF);have o1:ar (λi=>w.heap.size<=i) w U:=CJ.out.trans hk3 (λi hi h=>ae)
    have hg3:w.heap.size<g3:=by have h1:=CJ.out.size;have h2:=AE.out.lt;rcases aak with h|h<;>omega
    have Hr:dY U w.heap.size encI db (r5 (seen++[x])):=AE.out.only hk3 (λe=>ae);have j:=hid (And.intro H2 (And.intro Hr o1));have aiQ:=hid hg3;clear H2 HK aak aa8 hk3 o1 Hr hg3 gh fP;go_wp2;go_roundw
    case rel=>
     refine⟨_,_,_,_,_,aa,hid (by have:=O.out;simp;omega),by rw[List.map_append];exact j.out.1,λi hi=>by cases hi;exact aiQ.out,j.out.2.1,fM.out,j.out.2.2,?_⟩;have h1:=M.out;have h2:=Z.out;grind
    case measure=>
     have h2:=Z.out;have bB:=dY.size j.out.2.1;have b7:=dY.size bV.out;grind[r5,lenOf]
abbrev Valid(n:Int)(E:List (Int×Int)):Prop:=∀e∈E,(0<=e.1/\e.1<n)/\(0<=e.2/\e.2<n)/\e.1≠e.2
theorem Nw(N k)(h:k<N):(dt N).take (k+1)=(dt N).take k++[(k:Int)]:=by grind[fu,dt]
def Fa(w:aM)x t:∀j u,[x][j]?=ab u->(w.alloc (bc #[x] t)).cell? ((⟨w.heap.size,0,af⟩:bU).add j)=ab u:=by
 intro j u h;rw[nG,kV];match j with
 |0=>
  simp at h;subst h;exact eB _ _ 0 _ _ _ (fe w _)
 |j+1=>grind
def gT.Tm{w F b n E}(h:gT w F b n E):w.cell? ⟨b,0,af⟩=ab (J R n):=by obtain⟨⟨fI,cW,fz,eP,eN,g⟩,_⟩:=h;exact eB _ _ 0 _ _ _ g.blk
def D5 A c xs x w r(h:decide (x∈xs)=r)(hx:cX w A xs)(h1:xs.length<=9223372036854775807):
 aD ax 190 #[ad A xs.length c,J R x] w λe w'=>e=aA (ak r)/\w=w':=by grind[G7]
def acP{E u x}:x∈lY E u↔(u,x)∈E:=(y3 _).mem_iff.trans Ix
theorem Tj{E u x}:u∈mK E x↔(u,x)∈E:=(y3 _).mem_iff.trans arH
def asy E u:(lY E u).length<=E.length:=by grind[lY,Nh,I0]
def ab3 E u:(mK E u).length<=E.length:=by grind[mK,Nh,TQ]
def ad0 b(n v)E F w(a:gT w F b n E)(hv:db v)(d:E.length<=1048576):
 aD ax 362 #[ay (ab ⟨b,0,af⟩),J R v] w λe w'=>∃A c xs,e=aA (ad A xs.length c)/\cX w' A xs/\Xv E v xs/\xs.length<=9223372036854775807/\aq w w':=by
 refine(atD b n v E F w a hv d).mono ?_;rintro e w' ⟨r,cn,rfl,g,hr,f⟩;obtain⟨A,c,rfl,hi,h1,h,_⟩:=g.form;exact⟨A,c,cn,aa,hi,hr,by grind[dN],f⟩
def avo{E}(b:E.Nodup)u:(succ E u).Nodup:=by unfold succ ajQ;rw[ya];refine(Xx _ b).imp_of_mem (λ{a c} d hc h e=>h ?_);grind
def ati{E}(b:E.Nodup)u:(pred E u).Nodup:=by unfold pred ajQ;rw[ya];refine(Xx _ b).imp_of_mem (λ{a c} d hc h e=>h ?_);grind
def au7{xs}(h:xs.Nodup):(qZ xs).Pairwise (·<·):=
 (aj0.2 ⟨Ni xs,(y3 xs).nodup_iff.2 h⟩).imp (λh=>ae)
def avZ{N m}(h:m<N):(dt N).drop m=(m:Int)::(dt N).drop (m+1):=by grind[dt,List.drop_eq_getElem_cons]
def cut(E:List (Int×Int))(s:List Int):List (Int×Int):=E.filter (λe=>decide (e.1∉s/\e.2∉s))
theorem sX{E s u x}:(u,x)∈cut E s↔(u,x)∈E/\u∉s/\x∉s:=by simp[cut]
def Ha E:cut E []=E:=by simp[cut]
theorem Path.mono{E E'}(h:∀e,e∈E->e∈E'){u x}(p:Path E u x):Path E' u x:=by
 induction p with
 |one e=>exact .one (h _ e)
 |more _ e a=>exact .more a (h _ e)
def Path.last{E u x}(p:Path E u x):∃y,(y,x)∈E:=by
 cases p with
 |one e=>grind
 |more _ e=>grind
def vn(E:List (Int×Int))(N:Nat)(s out:List Int)(v:Int):Prop:=(0<=v/\v<N)/\v∉s/\v∉out/\∀u,(u,v)∈E->u∈s\/u∈out
def Kp(E:List (Int×Int))(N:Nat)(s out:List Int)(v:Int):Prop:=vn E N s out v/\∀u,vn E N s out u->v<=u
inductive kl (E:List (Int×Int)) (N:Nat) (s:List Int):List Int->Prop where
 |nil:kl E N s []
 |snoc {out:List Int} {v:Int} (h:kl E N s out) (l:Kp E N s out v):kl E N s (out++[v])
def mx(E:List (Int×Int))(N:Nat)(s out:List Int):Prop:=kl E N s out/\∀v,¬vn E N s out v
section
variable {E:List (Int×Int)} {N:Nat} {s out:List Int}
def kl.at{l}(h:kl E N s l):∀p a t,l=p++a::t->Kp E N s p a:=by
 induction h with
 |nil=>intro p a t e;cases p<;>cases e
 |snoc h l b=>
  intro p a t e;rcases Ks t with rfl|⟨b2,z,rfl⟩;·grind[Qm]
  grind[Qm]
def kl.ahead{l d}(h:kl E N s l)(b:mx E N s d):l<+:d:=by
 induction h with
 |nil=>simp
 |snoc h l e=>
  obtain⟨t,rfl⟩:=e;cases t with
  |nil=>rw[j6]at b;exact absurd l.1 (b.2 _)
  |cons a t=>
   have c:=b.1.at _ a t aa;have bB:=l.2 _ c.1;have b7:=c.2 _ l.1;obtain rfl:=Int.le_antisymm bB b7;exact⟨t,aT⟩
def mx.unique{l c}(h:mx E N s l)(b:mx E N s c):l=c:=by
 obtain⟨t,rfl⟩:=h.1.ahead b;cases t with
 |nil=>simp
 |cons a t=>exact absurd (b.1.at _ a t aa).1 (h.2 _)
def kl.nodup{l}(h:kl E N s l):l.Nodup/\∀v∈l,(0<=v/\v<N)/\v∉s:=by
 induction h with
 |nil=>simp
 |snoc h l d=>
  refine⟨x'.2 ⟨d.1,aT,?_⟩,?_⟩
  .intro a c b hb e;obtain rfl:b=_:=by simpa using hb
   exact l.1.2.2.1 (e▸c)
  .intro v hv;rcases jf.1 hv with hv|hv;·grind
   .obtain rfl:v=_:=by simpa using hv
    exact⟨l.1.1,l.1.2.1⟩
def kl.length{l}(h:kl E N s l):l.length<=N:=E2 h.nodup.1 (λx hx=>(h.nodup.2 x hx).1)
def ad2{v}(h:vn E N s out v):∃u,Kp E N s out u:=by
 generalize hk:v.toNat=k;induction k using Qy generalizing v with
 |_ k b=>
  by_cases a:∃u,vn E N s out u/\u<v;·obtain⟨u,hr,hlt⟩:=a;have c:=hr.1.1;exact b _ ae hr aa
  .exact⟨v,h,λu hr=>aF⟩
def asw k:∀{out},kl E N s out->N -out.length<=k->∃o,mx E N s o:=by
 induction k with
 |zero=>
  intro out h hk;refine⟨out,h,λv hv=>?_⟩;obtain⟨u,a⟩:=ad2 hv;have:=(kl.snoc h a).length;simp at this;omega
 |succ k b=>
  intro out h hk;by_cases hr:∃v,vn E N s out v;·obtain⟨v,hv⟩:=hr;obtain⟨u,a⟩:=ad2 hv;have:=(kl.snoc h a).length;simp at this;exact b (kl.snoc h a) aF
  .exact⟨_,h,λv hv=>hr ⟨v,hv⟩⟩
def adq E N s:∃o,mx E N s o:=asw N .nil aT
def kl.Lg{l}(h:kl E N s l){u x}(a:(u,x)∈E)(b:u∉s)(hx:x∈l):u∈l/\l.idxOf u<l.idxOf x:=by obtain⟨p,t,rfl,c⟩:=List.eq_append_cons_of_mem hx;have d:=((h.at p x t aa).1.2.2.2 u a).resolve_left b;grind
def kl.path{l}(h:kl E N s l){u x}(p:Path (cut E s) u x)(hx:x∈l):u∈l/\l.idxOf u<l.idxOf x:=by
 induction p with
 |one e=>exact h.Lg (sX.1 e).1 (sX.1 e).2.1 hx
 |more p e b=>
  have h1:=h.Lg (sX.1 e).1 (sX.1 e).2.1 hx;have a:=b h1.1;exact⟨a.1,ae⟩
def kl.ac0{l}(h:kl E N s l){x}(p:Path (cut E s) x x):x∉l:=λhx=>by have:=(h.path p hx).2;omega
def YL{f:Type}{p q a}:∀{l:List f},(∀x∈l,p x=aB->q x=aB)->a∈l->p a=au->q a=aB->l.countP p<l.countP q
 |[],_,c,_,_=>by grind
 |b::r,h,c,d,e=>by
  have g:r.countP p<=r.countP q:=List.countP_mono_left (λx hx=>h x (pD _ hx));rw[GJ,GJ];rcases gy.1 c with rfl|c;·grind
  .have:=YL (λx hx=>h x (pD _ hx)) c d e;grind
def amr{S:Int->Prop}(hr:∀x,S x->0<=x/\x<(N:Int))(e:∀x,S x->∃u,S u/\(u,x)∈E){x}(hx:S x):∃c,S c/\Path E c c:=by
 classical
 generalize hk:(dt N).countP (λz=>decide (S z/\Path E z x))=k;induction k using Qy generalizing x with
 |_ k f=>
  obtain⟨u,b,d⟩:=e x hx;by_cases hc:Path E u u;·grind
  .refine f _ ?_ b aa;rw[<-hk];refine YL (a:=u) (λz _ hz=>?_) (qN.2 (hr u b)) ?_ ?_;·simp only[decide_eq_true_eq]at hz⊢;exact⟨hz.1,.more hz.2 d⟩
   .grind
   .simp;exact⟨b,.one d⟩
def mx.left(e:Valid N E){l}(h:mx E N s l){v}(hv:0<=v/\v<(N:Int))(d:v∉s)(a:v∉l):∃c,c∉l/\Path (cut E s) c c:=by
 obtain⟨c,hc,b⟩:=amr (E:=cut E s) (N:=N) (S:=λx=>(0<=x/\x<(N:Int))/\x∉s/\x∉l) (λx hx=>hx.1) (λx hx=>by
  by_cases g:∃u,(u,x)∈E/\u∉s/\u∉l;·grind[sX]
  .refine absurd ⟨hx.1,hx.2.1,hx.2.2,λu f=>?_⟩ (h.2 x);grind) ⟨hv,d,a⟩;exact⟨c,hc.2.2,b⟩
theorem Valid.cut{N}(a:Valid N E)s:Valid N (cut E s):=λe b=>a e (nb.1 b).1
def kA(E:List (Int×Int))(s xs:List Int):Prop:=xs.Pairwise (·<·)/\∀x,x∈xs↔Path (cut E s) x x
def kA.unique{xs cn}(h:kA E s xs)(k:kA E s cn):xs=cn:=Zh h.1 k.1 (λx=>(h.2 x).trans (k.2 x).symm)
def Hb(a:Valid N E)s:∃xs,kA E s xs:=by
 classical
 refine⟨(dt N).filter (λx=>decide (Path (cut E s) x x)),(CX N).filter _,λx=>?_⟩;rw[nb,decide_eq_true_eq];exact⟨λh=>h.2,λh=>⟨qN.2 (AA (a.cut s) h),h⟩⟩
def kp(N:Nat)(s out:List Int):List Int:=(dt N).filter (λv=>!decide (v∈s)&&!decide (v∈out))
theorem Cw{v}:v∈kp N s out↔(0<=v/\v<(N:Int))/\v∉s/\v∉out:=by simp[kp,qN]
def mx.aea(b:Valid N E){l xs}(h:mx E N s l)(hx:kA E s xs):kp N s l=[]↔xs=[]:=by
 constructor;·intro hr;refine DM.2 (λx i=>?_);have a:=(hx.2 x).1 i;have g:=h.1.ac0 a;obtain⟨y,j⟩:=a.last;have:x∈kp N s l:=Cw.2 ⟨AA (b.cut s) a,(sX.1 j).2.2,g⟩;rw[hr]at this;cases this
 .intro f;refine DM.2 (λv hv=>?_);obtain⟨h1,d,e⟩:=Cw.1 hv;obtain⟨c,_,a⟩:=h.left b h1 d e;have:=(hx.2 c).2 a;rw[f]at this;cases this
def kA.rest(b:Valid N E){l xs}(h:mx E N s l)(hx:kA E s xs){v}(hv:v∈xs):v∈kp N s l:=by have a:=(hx.2 v).1 hv;obtain⟨y,c⟩:=a.last;exact Cw.2 ⟨AA (b.cut s) a,(sX.1 c).2.2,h.1.ac0 a⟩
end
def nY(ws:List Int)(v:Int):Int:=if 0<=v/\v<(ws.length:Int)then ws[v.toNat]?.getD 0 else 0
def BF(f:Int->Int)(o:Option Int)(x:Int):Option Int:=match o with
 |none=>ab x
 |some y=>if f x<f y then ab x else ab y
def jA(f:Int->Int)(L:List Int):Option Int:=L.foldl (BF f) af
def ak0 f:jA f []=none:=rfl
theorem QR f L x:jA f (L++[x])=BF f (jA f L) x:=by grind[jA]
def Yl f o x:∃y,BF f o x=ab y/\(y=x\/o=ab y):=by unfold BF;grind
def au2{p:List Int->Prop}(a:p [])(h1:∀L x,p L->p (L++[x]))L:p L:=by
 have:∀n:Nat,∀L:List Int,L.length=n->p L:=by
  intro n;induction n with
  |zero=>grind
  |succ n b=>
   intro L h;rcases Ks L with rfl|⟨t,z,rfl⟩;·omega
   grind
 exact this _ L aa
def QO{f L v}:jA f L=ab v->v∈L:=by revert v;refine au2 (p:=λL=>∀{v},jA f L=ab v->v∈L) (λh=>by cases h) (λL x b v h=>?_) L;rw[QR]at h;obtain⟨y,e,a⟩:=Yl f (jA f L) x;grind
theorem QQ{f L}:jA f L=af↔L=[]:=by
 rcases Ks L with rfl|⟨t,z,rfl⟩;·simp[ak0]
 .rw[ajT,QR];obtain⟨y,e,_⟩:=Yl f (jA f t) z;rw[e];simp
def kept(xs keep:List Int):List Int:=xs.filter (λv=>!decide (v∈keep))
def Tk{xs keep v}:v∈kept xs keep↔v∈xs/\v∉keep:=by simp[kept]
inductive kQ (E:List (Int×Int)) (ws keep:List Int):List Int->Prop where
 |nil:kQ E ws keep []
 |snoc {out xs:List Int} {v:Int} (h:kQ E ws keep out) (hx:kA E out xs) (hb:jA (nY ws) (kept xs keep)=ab v):kQ E ws keep (out++[v])
def wL(E:List (Int×Int))(ws keep out xs:List Int):Prop:=kQ E ws keep out/\kA E out xs/\jA (nY ws) (kept xs keep)=af
section
variable {E:List (Int×Int)} {N:Nat} {ws keep out:List Int}
def kQ.at{l}(h:kQ E ws keep l):∀p a t,l=p++a::t->∃xs,kA E p xs/\jA (nY ws) (kept xs keep)=ab a:=by
 induction h with
 |nil=>intro p a t e;cases p<;>cases e
 |snoc h hx hb b=>
  intro p a t e;rcases Ks t with rfl|⟨b2,z,rfl⟩;·grind[Qm]
  grind[Qm]
def kQ.ahead{l c f}(h:kQ E ws keep l)(b:wL E ws keep c f):l<+:c:=by
 induction h with
 |nil=>simp
 |snoc h hx hb e=>
  obtain⟨t,rfl⟩:=e;cases t with
  |nil=>
   rw[j6]at b;obtain rfl:=hx.unique b.2.1;rw[b.2.2]at hb;cases hb
  |cons a t=>
   obtain⟨cn,d,hb2⟩:=b.1.at _ a t aa;obtain rfl:=hx.unique d;rw[hb]at hb2;obtain rfl:_=a:=by simpa using hb2
   exact⟨t,aT⟩
def wL.unique{l c xs d}(h:wL E ws keep l xs)(b:wL E ws keep c d):l=c/\xs=d:=by
 obtain⟨t,rfl⟩:=h.1.ahead b;cases t with
 |nil=>
  rw[j6]at b⊢;exact⟨aa,h.2.1.unique b.2.1⟩
 |cons a t=>
  obtain⟨cn,e,hb⟩:=b.1.at _ a t aa;obtain rfl:=h.2.1.unique e;rw[h.2.2]at hb;cases hb
def kA.ar0{s xs}(h:kA E s xs){v}(hv:v∈xs):v∉s:=by obtain⟨y,a⟩:=((h.2 v).1 hv).last;exact(sX.1 a).2.2
def kA.range{s xs}(a:Valid N E)(h:kA E s xs){v}(hv:v∈xs):0<=v/\v<(N:Int):=AA (a.cut s) ((h.2 v).1 hv)
def kQ.nodup(d:Valid N E){l}(h:kQ E ws keep l):l.Nodup/\∀v∈l,0<=v/\v<(N:Int):=by
 induction h with
 |nil=>simp
 |snoc h hx hb g=>
  have c:=(Tk.1 (QO hb)).1;refine⟨x'.2 ⟨g.1,aT,?_⟩,?_⟩
  .intro a f b hb' e;obtain rfl:b=_:=by simpa using hb'
   exact hx.ar0 c (e▸f)
  .intro v hv;rcases jf.1 hv with hv|hv;·grind
   .obtain rfl:v=_:=by simpa using hv
    exact hx.range d c
def kQ.length(a:Valid N E){l}(h:kQ E ws keep l):l.length<=N:=E2 (h.nodup a).1 (h.nodup a).2
def alB(a:Valid N E)k:∀{out},kQ E ws keep out->N -out.length<=k->∃o xs,wL E ws keep o xs:=by
 induction k with
 |zero=>
  intro out h hk;obtain⟨xs,hx⟩:=Hb a out;cases hb:jA (nY ws) (kept xs keep)with
  |none=>exact⟨_,xs,h,hx,hb⟩
  |some v=>
   have:=(kQ.snoc h hx hb).length a;simp at this;omega
 |succ k b=>
  intro out h hk;obtain⟨xs,hx⟩:=Hb a out;cases hb:jA (nY ws) (kept xs keep)with
  |none=>exact⟨_,xs,h,hx,hb⟩
  |some v=>
   have:=(kQ.snoc h hx hb).length a;simp at this;exact b (kQ.snoc h hx hb) aF
def alA(a:Valid N E)(ws keep):∃o xs,wL E ws keep o xs:=alB a N .nil aT
def Path.avM{s u x}(p:Path (cut E s) u x):Path E u x:=p.mono (λ_ a=>(nb.1 a).1)
def kQ.amm{l a}(h:kQ E ws keep l)(b:kA E [] a):∀v∈l,v∈a:=by
 induction h with
 |nil=>simp
 |snoc h hx hb d=>
  intro v hv;rcases jf.1 hv with hv|hv;·grind
  .obtain rfl:v=_:=by simpa using hv
   have c:=(Tk.1 (QO hb)).1;rw[b.2,Ha];exact((hx.2 _).1 c).avM
end
def awg ws{k:Nat}(h:k<ws.length):nY ws k=ws[k]?.getD 0:=by grind[nY]
def afE{ws v}(h:v<0\/(ws.length:Int)<=v):nY ws v=0:=by grind[nY]
set_option maxHeartbeats 400000 in
def awe A c ws v w(a:cX w A ws)(h1:ws.length<=9223372036854775807):
 aD ax 338 #[ad A ws.length c,J R v] w λe w'=>e=aA (J R (nY ws v))/\w=w':=by
 by_cases d:v<0;·rw[afE (bH d)];have g:decide (v<0)=true:=aF;clear a;go_enter VD,V0;go_wp2;go_ret;exact⟨aa,aa⟩
 .have g:decide (v<0)=false:=aF;by_cases f:(ws.length:Int)<=v;·rw[afE (b1 f)];have h:decide ((ws.length:Int)<=v)=true:=aF;clear a;go_enter VD,V0;go_wp2;go_ret;exact⟨aa,aa⟩
  .have h:decide ((ws.length:Int)<=v)=false:=aF;obtain⟨k,rfl⟩:∃k:Nat,v=(k:Int):=⟨v.toNat,ae⟩;have hk:k<ws.length:=ae;rw[awg ws hk];obtain⟨b,off,rfl,hcell⟩:=a ae;have hc:=hcell k hk;clear hcell;generalize ws[k]?.getD 0=x at*;go_enter VD,V0;go_wp2;go_ret;exact⟨aa,aa⟩
def au1 (g:Nat) lb f A c L w (m:cX w A L) (h1:L.length<=9223372036854775807)
 (gp:∀args w,(kj g args).run ax w=a7 (.enter g args) w)
 (n:∀x,aD ax g (#[J R x]++lb) w λe w'=>e=aA (J R (f x))/\w=w'):
 aD ax 336 #[ad A L.length c,dJ (ej g) #[] lb] w λe w'=>e=aA (bg #[J R ((jA f L).getD 0),ak (decide (0<L.length))])/\w=w':=by
 have h:=hid (And.intro m n);clear m n;go_enter func336,ntmps336;go_wp2_with fail;go_loopw [6,11] (λq i wr=>∃k:Nat,k<=L.length/\i=J R k/\q=J R ((jA f (L.take k)).getD 0)/\wr=w) (λ_ i _=>L.length -(cd i).toNat);case atStart=>exact⟨0,cQ _,aa,aa,aa⟩
 case round=>
  obtain⟨k,hk,rfl,rfl,rfl⟩:=hrel;by_cases hlt:k<L.length
  .have hb0:(k:Int)<(L.length:Int):=ae;obtain⟨b,off,rfl,hcell⟩:=h.out.1 ae;have hc:=hcell k hlt;obtain⟨x,hx⟩:∃x,L[k]?=ab x:=⟨_,cj hlt⟩;simp only[hx,pG]at hc;have d:aE (jA f (L.take (k+1))=BF f (jA f (L.take k)) x):=hid (by grind[fu,QR]);clear hcell hx;by_cases l:k=0
   .have s:((k:Int)==0)=true:=aF;have a:aE (jA f (L.take (k+1))=ab x):=hid (by rw[d.out,l];rfl);clear l;go_wp2;go_roundw;case rel=>exact⟨k+1,ae,by go_num,by rw[a.out];rfl,aT⟩
    case measure=>grind[cd]
   .have hne:((k:Int)==0)=false:=beq_eq_false_iff_ne.2 ae
    obtain⟨y,p⟩:∃y,jA f (L.take k)=ab y:=by
     cases hb:jA f (L.take k)with
     |none=>grind[QQ,List.take_eq_nil_iff]
     |some y=>simp
    rw[p]at d⊢;clear p;have c1:=h.out.2 x;have j:=hid (h.out.2 y);by_cases o:f x<f y
    .have r:decide (f x<f y)=true:=aF;have a:aE (jA f (L.take (k+1))=ab x):=hid (by rw[d.out];unfold BF;simp[o]);go_wp2_with (go_at_fn g;with_reducible refine c1.mono ?_;clear c1;rintro e w' ⟨rfl,rfl⟩;have c2:=j.out);go_wp2_with (go_at_fn g;with_reducible refine c2.mono ?_;clear c2;rintro e w' ⟨rfl,rfl⟩);go_roundw;case rel=>exact⟨k+1,ae,by go_num,by rw[a.out];rfl,aT⟩
     case measure=>grind[cd]
    .have r:decide (f x<f y)=false:=aF;have a:aE (jA f (L.take (k+1))=ab y):=hid (by rw[d.out];unfold BF;simp[o]);go_wp2_with (go_at_fn g;with_reducible refine c1.mono ?_;clear c1;rintro e w' ⟨rfl,rfl⟩;have c2:=j.out);go_wp2_with (go_at_fn g;with_reducible refine c2.mono ?_;clear c2;rintro e w' ⟨rfl,rfl⟩);go_roundw;case rel=>exact⟨k+1,ae,by go_num,by rw[a.out];rfl,aT⟩
     case measure=>grind[cd]
  .obtain rfl:k=L.length:=ae;rw[ik];go_wp2;go_ret2;exact⟨aa,aa⟩
def aqk f c w:aD ax 363 #[ad af 0 c,f] w λe w'=>e=aA (J R (-1))/\w=w':=by
 go_enter func363,ntmps363;go_wp2_with fail;go_loopw [8] (λi wr=>i=J R 0/\wr=w) (λ_ _=>0);case atStart=>simp
 case round=>
  obtain⟨rfl,rfl⟩:=hrel;go_wp2;go_ret;exact⟨aa,aa⟩
def amH f c w:aD ax 334 #[ad af 0 c,f] w λe w'=>e=aA (ad af 0 c)/\w=w':=by go_enter func334,ntmps334;go_wp2_with (go_at_call 363;refine(aqk f c w).mono ?_;rintro e w1 ⟨rfl,rfl⟩);go_ret;exact⟨aa,aa⟩
def _root_.Go.Proofs.YtcmhplknoglbkaaGreat.ar.putRow F w(blk off)d(hb:F blk):ar F w (Sort.putRow (J R) w blk off d):=
 ⟨aa,aa,aa,by grind[Sort.size_putRow],λk _ a=>by show(w.heap.modify blk _)[k]?=_;rw[Array.getElem?_modify,if_neg (λe:blk=k=>a (e▸hb))]⟩
def _root_.Go.Proofs.YtcmhplknoglbkaaGreat.ar.grow F w os:ar F w (Sort.grow w os):=
 ⟨aa,aa,aa,by show w.heap.size<=(w.heap++os).size;rw[Array.size_append];omega,λk hk _=>by show(w.heap++os)[k]?=_;rw[Array.getElem?_append_left hk]⟩
def _root_.Go.Proofs.YtcmhplknoglbkaaGreat.ar.ahead F w q:ar F w (JT w q):=⟨aa,aa,aa,cm _,λ_ _ _=>aa⟩
def amG (g:Nat) lb (l:∀args w,(kj g args).run ax w=a7 (.enter g args) w) (p:Int->Bool) base v (xs:List Int) w (hv:w.ownsRow base 3 1 v xs.length (xs.map (J R)))
 (hlen:xs.length<=9223372036854775807)
 (hc:∀W x,ar (λi=>v.ownBlock=ab i) w W->aD ax g (#[J R x]++lb) W λe w'=>e=aA (ak (p x))/\∃q,w'=W.drewN q):
 aD ax 334 #[v,dJ (ej g) #[] lb] w λe w'=>∃A c,e=aA (ad A (xs.filter (λx=>!p x)).length c)/\cX w' A (xs.filter (λx=>!p x))/\(∀k off,A=ab ⟨k,off,af⟩->v.ownBlock=ab k)/\ar (λi=>v.ownBlock=ab i) w w':=by
 rcases hv.2 with⟨rfl,hz⟩|⟨a,cap,cur,rfl,hb,u,h1,o,r,s⟩;·obtain rfl:xs=[]:=jH hz;refine(amH _ 0 w).mono ?_;grind[cX.nil,ar.refl]
 .have t:∀j,j<xs.length->w.cell? ⟨a,0+j,af⟩=ab (J R (xs[j]?.getD 0)):=λj b=>by obtain⟨m,C,e,hcc⟩:=cX.lW hv ae;cases e;exact hcc j b
  have f:Sort.Holds (J R) w a 0 xs.toArray:=λj b=>by grind[uR]
  have y:∀{W},ar (λi=>tt (ad (ab ⟨a,0,af⟩) xs.length cap)=ab i) w W->True:=λ_=>trivial;have d:(λi=>tt (ad (ab ⟨a,0,af⟩) xs.length cap)=ab i) a:=rfl
  have h:=axJ Tryz.aq0 (J R) (λ_=>aa) p g lb l 0 Tryz.zeroValue3 a 0 cap xs.toArray w
   (λW x hbl=>by have:=hc W x ⟨hbl.os,hbl.tape,hbl.output,hbl.size,λk hk _=>hbl.block k hk⟩;exact this)
   (λn os gB x B=>by have:=hc (Go.Proofs.sortWorld (J R) w a 0 n gB os) x (((ar.ahead _ w n).trans (ar.putRow _ _ a 0 gB d) (λ_ _ h=>h)).trans (ar.grow _ _ os) (λ_ _ h=>h));exact this)
   f ae ae;simp only[iQ]at h;change aD ax 334 _ _ _ at h;refine h.mono ?_;clear h;rintro e w' ⟨rfl,q,rfl⟩;have hle:=x9 (λx=>!p x) xs;refine⟨_,_,rfl,λz=>⟨a,0,rfl,λj b=>?_⟩,(λk off e=>aF),(ar.ahead _ w q).trans (ar.putRow _ _ a 0 _ d) (λ_ _ h=>h)⟩;have:=(Sort.holds_putRow (J R) (JT w q) a 0 xs.toArray ((xs.filter (λx=>!p x))++List.replicate (xs.length -(xs.filter (λx=>!p x)).length) 0).toArray (Sort.holds_ahead (J R) w q a 0 xs.toArray f) aF j aF).1;rw[this,getElem!_pos _ j aF];simp[b]
section
variable {P:eu} (w:aM)
def awo {o a K Q} (s x) t
 (ho:o.op=.call {callee:=.builtin .append,args:=#[s,x],argTypes:=#[t,t]})
 base e i z (size bytes) (ht:P.underlying t=ab (.slice e)) (hi:P.info? e=ab i) (hz:i.zero=ab z)
 (hsize:i.size=size) (hby:i.bytes=bytes) (hzs:z.cells.size=size) (hsz:0<size)
 v n xs (hs:a.eval s=v) (hown:w.ownsRow base e size v n xs)
 A (m c) news (hx:a.eval x=ad A m c) (hr:Cells w size A m news) (h1:∀u∈news,u.oneCell'=aB) (hm:0<m)
 (h63:n+m<=dN) (hbytes:(n+m)*bytes<=140737488355328) (hbase:base<=w.heap.size)
 (h:∀b d w',w'.ownsRow base e size (ad (ab ⟨b,0,af⟩) (n+m) d) (n+m) (xs++news)->w.grownBy w' v.ownBlock->(v.ownBlock=ab b\/b=w.heap.size)->b<w'.heap.size->K (a.put o.dst (ad (ab ⟨b,0,af⟩) (n+m) d)) w'):
 hB P o a w K Q:=by
 obtain⟨v',w',hrun,f,j,k,g⟩:=T7 (P:=P) w base t o.type e i z size bytes ht hi hz hsize hby hzs hsz v n xs hown A m c news hr h1 h63 hbytes hbase
 have hv:∃b d,v'=ad (ab ⟨b,0,af⟩) (n+m) d:=by
  rcases f.2 with⟨hv,_⟩|⟨b,d,cur,hv,_⟩;·omega
  .grind
 obtain⟨b,d,rfl⟩:=hv;unfold hB execOp;simp only[ho,resolve,invoke,builtin,Sem.run_bind,Sem.run_pure,Result.andThen_ok,List.map_toArray,List.map_cons,List.map_nil,hs,hx,hrun];refine h b _ w' f j ?_ (f.lt b aa).2;rcases g with g|g;·grind[tt]
 .grind[tt]
end
def ami(E:List (Int×Int))l{k u x}(h:E[k]?=ab (u,x)):cut (E.take (k+1)) l=cut (E.take k) l++(if u∉l/\x∉l then[(u,x)]else[]):=by grind[fu,cut]
def Rg E l:(cut E l).length<=E.length:=x9 _ _
def k5(a:List Int)(f:Int->Int):List (Int×aO):=a.map (λv=>(v,J R (f v)))
def dz(f:Int->Int)(x y:Int):Int->Int:=λz=>if z=x then y else f z
def aqV a f:(k5 a f).map (·.1)=a:=by simp[k5,Jz]
def Cs a f:(k5 a f).length=a.length:=by simp[k5]
theorem Mn b f x:ec (k5 b f) x=if x∈b then ab (J R (f x))else none:=by
 unfold ec k5;induction b with
 |nil=>simp
 |cons a r c=>grind
theorem acm a f x:rZ (k5 a f) x=decide (x∈a):=by grind[Iz,Mn]
def Ta{a f x}(h:x∈a)y:jY (k5 a f) x (J R y)=k5 a (dz f x y):=by grind[jY,acm,k5,dz,List.map_congr_left]
def aqW{a f x}(h:x∉a):jY (k5 a f) x (J R (f x))=k5 (a++[x]) f:=by grind[ME,acm,k5]
def aqU a f x:Aq (k5 a f) x=k5 (a.filter (λy=>!decide (y=x))) f:=by unfold Aq k5;rw[List.filter_map];rfl
def tT(E:List (Int×Int))(D:List Int)(x:Int):Nat:=(mK E x).countP (λu=>decide (u∈D))
def amF E D x:tT E D x<=E.length:=eC Qn (ab3 E x)
def Y0{E D x}:tT E D x=0↔∀u,(u,x)∈E->u∉D:=by grind[tT,List.countP_eq_zero,Tj]
def al3{l:List Int}(b:l.Nodup)v:l.countP (λu=>decide (u=v))=if v∈l then 1 else 0:=by
 induction l with
 |nil=>simp
 |cons a r c=>grind
def countP_split{b:Type}(p q:b->Bool):∀l:List b,l.countP p=l.countP (λx=>p x&&q x)+l.countP (λx=>p x&&!q x)
 |[]=>aa
 |a::r=>by rw[GJ,GJ,GJ,countP_split p q r];cases p a<;>cases q a<;>simp<;>omega
def YZ{E}(b:E.Nodup){D v x}(hv:v∈D):tT E (D.filter (λy=>!decide (y=v))) x+(if x∈lY E v then 1 else 0)=tT E D x:=by
 unfold tT;rw[countP_split (λu=>decide (u∈D)) (λu=>decide (u=v)) _]
 have h1:(mK E x).countP (λu=>decide (u∈D)&&decide (u=v))=if x∈lY E v then 1 else 0:=by
  have a:(mK E x).Nodup:=(y3 _).nodup_iff.2 (ati b x)
  have c:(mK E x).countP (λu=>decide (u=v))=if x∈lY E v then 1 else 0:=by rw[al3 a v];simp only[Tj,acP]
  grind
 grind
def hE(N:Nat)(s:List Int):List Int:=(dt N).filter (λv=>!decide (v∈s))
theorem MB{N s x}:x∈hE N s↔(0<=x/\x<(N:Int))/\x∉s:=by simp[hE,qN]
structure qt (E:List (Int×Int)) (N:Nat) (s out D:List Int) (f:Int->Int) (gP:List Int):Prop where
 Ir:kl E N s out
 rest:D=(hE N s).filter (λx=>!decide (x∈out))
 tU:∀x∈D,f x=(tT E D x:Int)
 sorted:gP.Pairwise (·<·)
 ready:∀x,x∈gP↔x∈D/\f x=0
structure oR (E:List (Int×Int)) (N:Nat) (s out D:List Int) (v:Int) (T:List Int) (f:Int->Int) (gP:List Int):Prop where
 Ir:kl E N s (out++[v])
 rest:D=(hE N s).filter (λx=>!decide (x∈out))
 Nx:v∈D
 tU:∀x∈D,x≠v->f x+(if x∈T then 1 else 0)=(tT E D x:Int)
 sorted:gP.Pairwise (·<·)
 ready:∀x,x∈gP↔(x∈D/\x≠v)/\f x=0
section
variable {E:List (Int×Int)} {N:Nat} {s out D gP T:List Int} {f:Int->Int} {v x:Int}
def qt.mem(h:qt E N s out D f gP):x∈D↔((0<=x/\x<(N:Int))/\x∉s)/\x∉out:=by rw[h.rest];simp[MB]
def qt.isReady(e:Valid N E)(h:qt E N s out D f gP):x∈gP↔vn E N s out x:=by
 rw[h.ready];constructor
 .rintro⟨hx,hf⟩;have c:=h.tU x hx;rw[hf]at c;have hz:tT E D x=0:=ae;have a:=h.mem.1 hx;refine⟨a.1.1,a.1.2,a.2,λu d=>?_⟩;have g:=Y0.1 hz u d;have hb:=e _ d;by_cases h1:u∈s;·grind
  .by_cases b:u∈out;·grind
   .exact absurd (h.mem.2 ⟨⟨hb.1,h1⟩,b⟩) g
 .rintro⟨h1,b,h3,h4⟩;have hx:x∈D:=h.mem.2 ⟨⟨h1,b⟩,h3⟩;refine⟨hx,?_⟩;rw[h.tU x hx,Y0.2 (λu d c=>?_)];·rfl
  .have a:=h.mem.1 c;grind
def qt.start f(a:∀x∈hE N s,f x=(tT E (hE N s) x:Int))gP(hr:gP=(dt N).filter (λx=>decide (x∈hE N s)&&decide (f x=0))):qt E N s [] (hE N s) f gP:=by subst hr;refine⟨.nil,(List.filter_eq_self.2 (λ_ _=>aT)).symm,a,(CX N).filter _,λx=>?_⟩;grind[qN,MB]
def qt.pop(a:Valid N E)(h:qt E N s out D f (v::gP)):oR E N s out D v [] f gP:=by
 obtain⟨g,i⟩:=vj.1 h.sorted;have hv:=(h.ready v).1 (sx ..);refine⟨.snoc h.Ir ⟨(h.isReady a).1 (sx ..),λu d=>?_⟩,h.rest,hv.1,λx hx _=>by simpa using h.tU x hx,i,λx=>?_⟩
 .rcases gy.1 ((h.isReady a).2 d)with rfl|c;·omega
  .grind
 .constructor;·intro hx;have h1:=(h.ready x).1 (pD _ hx);have b:=g x hx;exact⟨⟨h1.1,ae⟩,h1.2⟩
  .rintro⟨⟨h1,b⟩,h3⟩;rcases gy.1 ((h.ready x).2 ⟨h1,h3⟩)with e|c;·omega
   .omega
def oR.skip(h:oR E N s out D v T f gP)(hx:¬(x∈D/\x≠v)):oR E N s out D v (T++[x]) f gP:=
 {h with
  tU:=λy a hne=>by have:=h.tU y a hne;grind}
def oR.pos(c:E.Nodup)(h:oR E N s out D v T f gP)(hx:x∈D/\x≠v)(d:x∈lY E v)(b:x∉T):1<=f x/\f x<=E.length:=by have h1:=h.tU x hx.1 hx.2;rw[if_neg b]at h1;have a:=YZ (E:=E) (x:=x) c h.Nx;rw[if_pos d]at a;have e:=amF E D x;omega
def oR.amD(h:oR E N s out D v T f gP)(hx:x∈D/\x≠v)(c:x∉T)(d:1<=f x)(b:f x -1≠0):oR E N s out D v (T++[x]) (dz f x (f x -1)) gP:=
 {h with
  tU:=λy a hne=>by have:=h.tU y a hne;grind[dz]
  ready:=λy=>by rw[h.ready];grind[dz]}
def YM{l:List Int}(b:l.Pairwise (·<·))x:∀j,j<l.length->(j<l.countP (·<x)↔l[j]?.getD 0<x):=by
 induction l with
 |nil=>simp
 |cons a r e=>
  obtain⟨f,g⟩:=vj.1 b;intro j d;rw[GJ];by_cases c:a<x;·grind
  .grind[List.getElem_mem]
def arG{l i x y}:y∈uo l i x↔y=x\/y∈l:=by grind[uo,oV]
def aqs{l}(e:l.Pairwise (·<·)){x}(hx:x∉l):(uo l (l.countP (·<x)) x).Pairwise (·<·):=by
 have hc:l.countP (·<x)<=l.length:=Qn
 have hlt:∀y∈l.take (l.countP (·<x)),y<x:=λy c=>by obtain⟨j,a⟩:=Qu c;have b:=(eQ.1 a).1;rw[oT]at b;have d:j<l.countP (·<x):=ae;rw[tE,if_pos d]at a;have:=(YM e x j ae).1 d;rwa [a]at this
 have f:∀y∈l.drop (l.countP (·<x)),x<y:=λy c=>by obtain⟨j,a⟩:=Qu c;rw[List.getElem?_drop]at a;have b:=(eQ.1 a).1;have h1:=(YM e x (l.countP (·<x)+j) b);grind
 grind[uo,vj]
def oR.amE(h:oR E N s out D v T f gP)(hx:x∈D/\x≠v)(e:x∉T)(d:f x -1=0):oR E N s out D v (T++[x]) (dz f x (f x -1)) (uo gP (gP.countP (·<x)) x):=by
 have b:x∉gP:=λa=>by have:=((h.ready x).1 a).2;omega
 exact{h with
  tU:=λy c hne=>by have:=h.tU y c hne;grind[dz]
  sorted:=aqs h.sorted b
  ready:=λy=>by rw[arG,h.ready];grind[dz]}
def oR.done(a:E.Nodup)(h:oR E N s out D v (lY E v) f gP):qt E N s (out++[v]) (D.filter (λy=>!decide (y=v))) f gP:=by
 refine⟨h.Ir,?_,λx hx=>?_,h.sorted,λx=>?_⟩;·rw[h.rest,Qp];grind
 .simp only[nb,Bool.not_eq_true',decide_eq_false_iff_not]at hx;have h1:=h.tU x hx.1 hx.2;have b:=YZ (E:=E) (x:=x) a h.Nx;grind
 .rw[h.ready];simp
def qt.final(a:Valid N E)(h:qt E N s out D f []):mx E N s out/\D=kp N s out:=by refine⟨⟨h.Ir,λv hv=>by have:=(h.isReady a).2 hv;cases this⟩,?_⟩;rw[h.rest];unfold hE kp;rw[Qp];refine List.filter_congr (λx _=>?_);rw[Bool.and_comm]
def qt.small(h:qt E N s out D f gP):D.length<=N/\out.length<=N/\gP.length<=N:=by refine⟨?_,h.Ir.length,E2 (Ap h.sorted) (λx hx=>(h.mem.1 ((h.ready x).1 hx).1).1.1)⟩;rw[h.rest];refine eC (x9 _ _) (eC (x9 _ _) ?_);simp[dt]
def oR.small(h:oR E N s out D v T f gP):gP.length<=N:=by refine E2 (Ap h.sorted) (λx hx=>?_);have a:=((h.ready x).1 hx).1.1;rw[h.rest]at a;exact(MB.1 (nb.1 a).1).1
end
def UG w:(zeroValue 3).run ax w=a7 (J R 0) w:=aw
def gT.small{w F b n E}(h:gT w F b n E):0<=n/\n<=1048576:=by obtain⟨⟨fI,cW,fz,eP,eN,g⟩,_⟩:=h;exact⟨g.n0,g.qO⟩
def Ao{w b a f}(d:dY w b encI db (k5 a f)){x}(hx:db x):
 (qj 118 (dE (ab b)) (J R x) au).run ax w=a7 (if x∈a then J R (f x)else J R 0) w/\
 (qj 118 (dE (ab b)) (J R x) aB).run ax w=a7 (bg #[if x∈a then J R (f x)else J R 0,ak (decide (x∈a))]) w:=by
 have h:=d.lookup o7 uN UG hx;rw[Mn]at h;by_cases c:x∈a;·simp only[c,if_true,decide_true]at h⊢;exact h
 .simp only[c,if_false,decide_false]at h⊢;exact h
def aqj b(n v)E F w(a:gT w F b n E)(hv:db v)(d:E.length<=1099511627776):
 aD ax 304 #[ay (ab ⟨b,0,af⟩),J R v] w λe w'=>∃A c,e=aA (ad A (mK E v).length c)/\cX w' A (mK E v)/\(∀k off,A=ab ⟨k,off,af⟩->w.heap.size<=k)/\aq w w':=by
 refine(aqi b n v E F w a hv d).mono ?_;rintro e w' ⟨r,rfl,h,f⟩;obtain⟨A,c,rfl,hi,_,_,g⟩:=h.form;exact⟨A,c,rfl,hi,λk off e=>(g k _ e).1,f⟩
def asA b(n v)E F w(a:gT w F b n E)(hv:db v)(d:E.length<=1099511627776):
 aD ax 92 #[ay (ab ⟨b,0,af⟩),J R v] w λe w'=>∃A c,e=aA (ad A (lY E v).length c)/\cX w' A (lY E v)/\(∀k off,A=ab ⟨k,off,af⟩->w.heap.size<=k/\k<w'.heap.size)/\aq w w':=by
 refine(asz b n v E F w a hv d).mono ?_;rintro e w' ⟨r,rfl,h,f⟩;obtain⟨A,c,rfl,hi,_,_,g⟩:=h.form;exact⟨A,c,aa,hi,g,f⟩
def T1(b N:Nat)E F A c s w(dT:gT w F b N E)(hs:cX w A s)(e5:s.length<=9223372036854775807)(eU:E.length<=1048576):
 aD ax 250 #[ay (ab ⟨b,0,af⟩),ad A s.length c] w λe w'=>∃la md f o,e=aA (bg #[la,dE (ab md)])/\mx E N s o/\pF w w' la o/\dY w' md encI db (k5 (kp N s o) f)/\aq w w':=by
 have fk:=dT.small.2;have fO:=@O' ax;have kn:(w.alloc (iO #[] 0)).cell? ⟨b,0,af⟩=ab (J R N):=(dT.aH (ar.alloc (F:=λ_=>False) w (iO #[] 0))).Tm;have X:=hid (And.intro dT hs);have Gr:aE (dY (w.alloc (iO #[] 0)) w.heap.size encI db (k5 [] (λ_=>0))):=hid (dY.made w encI db);obtain⟨i0,gO,hz0,hz1,hz2⟩:=rf An;have de:=hid (And.intro gO (And.intro hz0 (And.intro hz1 hz2)));clear dT hs gO hz0 hz1 hz2;go_enter func250,ntmps250;go_wp2_with (go_at_call 303;refine(xk b N _ kn).mono ?_;rintro e w1 ⟨rfl,rfl⟩);clear kn fO;have Xe:aE (ar (λi=>w.heap.size<=i) w (w.alloc (iO #[] 0))):=hid (ar.alloc _ _);generalize w.alloc (iO #[] 0)=w1 at*;go_loopw [28] (λi wr=>∃k:Nat,k<=N/\i=J R k/\dY wr w.heap.size encI db (k5 (((dt N).take k).filter (λv=>!decide (v∈s))) (λ_=>0))/\ar (λi=>w.heap.size<=i) w wr) (λi _=>N -(cd i).toNat);case atStart=>exact⟨0,cQ _,aa,by simpa using Gr.out,Xe.out⟩
 case round=>
  obtain⟨k,hk,rfl,p,I⟩:=hrel;have C:=hid (And.intro p I);clear Gr Xe;by_cases hlt:k<N
  .have hb0:(k:Int)<(N:Int):=ae;have qL:=hid (Nw N k hlt);obtain⟨r,hr⟩:∃r:Bool,decide ((k:Int)∈s)=r:=⟨_,aa⟩;have S:=hid hr
   have lS:aE ((k:Int)∉((dt N).take k).filter (λv=>!decide (v∈s))):=hid (λh=>by have:=(nb.1 h).1;obtain⟨j,hj⟩:=Qu this;have B7:=(eQ.1 hj).1;rw[oT]at B7;rw[tE,if_pos ae]at hj;obtain⟨gh,fP⟩:=eQ.1 hj;simp[dt]at fP;omega);have hlen:(((dt N).take k).filter (λv=>!decide (v∈s))).length<=k:=eC (x9 _ _) (by rw[oT];omega);have V:db (k:Int):=⟨ae,ae⟩;have mZ:=hid V;clear hr p I V;generalize cf:((dt N).take k).filter (λv=>!decide (v∈s))=L at*;cases r
   .have jE:aE (((dt N).take (k+1)).filter (λv=>!decide (v∈s))=L++[(k:Int)]):=hid (by rw[qL.out,pC,cf];have:=S.out;simp only[DO,Qr,this];rfl);clear cf
    go_wp2_with (first
     |(go_at_call 190;refine(D5 A c s k wr _ S.out (X.out.2.aH (b3.aH C.out.2)) e5).mono ?_;rintro e aR ⟨rfl,rfl⟩)
     |(at_mapUpdate;refine Jb aa _ _ _ aa o7 uN C.out.1 (by rw[Cs];unfold dN;omega) aa mZ.out aa (J _ 0) aa ?_;intro aR jo hg2 hs2));rw[aqW (f:=λ_=>0) lS.out]at jo;have W:=hid (And.intro jo (C.out.2.trans (ar.of_grownBy (F:=λi=>w.heap.size<=i) hg2 (λi e=>bH (by cases e;exact cm _))) (λ_ _ h=>h)));clear jo hg2 hs2;go_wp2;go_roundw;case rel=>exact⟨_,ae,by go_num,jE.out▸W.out.1,W.out.2⟩
    case measure=>simp[cd];omega
   .have jE:aE (((dt N).take (k+1)).filter (λv=>!decide (v∈s))=L):=hid (by rw[qL.out,pC,cf];have:=S.out;simp only[DO,Qr,this];simp);clear cf;go_wp2_with (go_at_call 190;refine(D5 A c s k wr _ S.out (X.out.2.aH (b3.aH C.out.2)) e5).mono ?_;rintro e aR ⟨rfl,rfl⟩);go_roundw;case rel=>exact⟨_,ae,by go_num,jE.out▸C.out.1,C.out.2⟩
    case measure=>simp[cd];omega
  .obtain rfl:k=N:=ae
   have Hq:dY wr w.heap.size encI db (k5 (hE k s) (λ_=>0)):=by have h:=C.out.1;rwa [tF (by simp[dt])]at h
   have H1:=hid C.out.2;clear p I C;go_wp2_with (at_range;refine afJ aa _ _ _ aa uN Hq aa ?_;intro aR K hg2 hs2);go_frame;rw[aqV]at K;have W:=hid (And.intro K hg2);have hz2:=hg2.size;have hz1:=H1.out.size;clear K hg2 Hq;generalize wr.heap.size=r at*;go_loopw [40] (λ_ wr=>∃(left:List Int) (f:Int->Int),Over wr w.heap.size r encI db (k5 (hE k s) f) left/\(∀x∈hE k s,x∉left->f x=(tT E (hE k s) x:Int))/\(∀x∈left,x∈hE k s/\f x=0)/\r<wr.heap.size/\ar (λi=>w.heap.size<=i) w wr) (λ_ wr=>wr.rangeLeft w.heap.size r);case atStart=>exact⟨_,λ_=>0,W.out.1,λx h1 h2=>absurd h1 h2,λx h=>⟨h,aa⟩,ae,H1.out.trans W.out.2 (λ_ _ h=>h.elim)⟩
   case round=>
    obtain⟨left,f,K,hdone,aa1,azJ,I⟩:=hrel;have C:=hid (And.intro hdone (And.intro aa1 (And.intro K I)));have Eo:=I.size;clear hdone aa1 I;obtain⟨M,rfl⟩:∃M:aM,M=wr:=⟨_,aa⟩;go_wp2_with (at_next;refine afK aa _ aa o7 aa K ?_ ?_)
    .intro h0;subst h0;have cp:aE (∀x∈hE k s,f x=(tT E (hE k s) x:Int)):=hid (λx hx=>C.out.1 x hx aT);have bV:=hid C.out.2.2.1.acK;have azx:=bV.out.lt;have du:=hid C.out.2.2.2;clear K C W;go_wp2_with (go_at_call 303;refine(xk b k _ (X.out.1.aH (b3.aH du.out)).Tm).mono ?_;rintro e ca ⟨rfl,rfl⟩)
     go_loopw [14,66] (λgD i wr=>∃j:Nat,j<=k/\i=J R j/\wr.ownsRow M.heap.size 3 1 gD (((dt k).take j).filter (λx=>decide (x∈hE k s)&&decide (f x=0))).length ((((dt k).take j).filter (λx=>decide (x∈hE k s)&&decide (f x=0))).map (J R))/\
      ar (λi=>M.heap.size<=i) M wr) (λ_ i _=>k -(cd i).toNat);case atStart=>exact⟨0,cQ _,aa,⟨aT,bH ⟨aa,aT⟩⟩,ar.refl _ _⟩
     case round=>
      obtain⟨j,hj,rfl,hrow,Y⟩:=hrel;have h5:=Y.size;by_cases kJ:j<k
      .have qL:=hid (Nw k j kJ);have hb1:(j:Int)<(k:Int):=ae;have B:=(Ao (bV.out.only Y ae) (x:=(j:Int)) ⟨ae,ae⟩).2;have hlen:(((dt k).take j).filter (λx=>decide (x∈hE k s)&&decide (f x=0))).length<=j:=eC (x9 _ _) (by rw[oT];omega);have S:=hid (And.intro hrow Y);clear hrow Y;generalize cf:((dt k).take j).filter (λx=>decide (x∈hE k s)&&decide (f x=0))=L at*
       have jE:aE (((dt k).take (j+1)).filter (λx=>decide (x∈hE k s)&&decide (f x=0))=L++if(j:Int)∈hE k s/\f j=0 then[(j:Int)]else[]):=hid (by rw[qL.out,pC,cf];congr 1;simp only[DO,Qr,Bool.and_eq_true,decide_eq_true_eq]);clear cf;by_cases n:(j:Int)∈hE k s
       .rw[if_pos n]at B;have t:decide ((j:Int)∈hE k s)=true:=by simpa using n
        rw[t]at B;have l:=hid n;clear n t;obtain⟨d,t⟩:=ex (f j);rw[t]at B;by_cases pS:d=0
        .subst pS;have Gu:aE (((dt k).take (j+1)).filter (λx=>decide (x∈hE k s)&&decide (f x=0))=L++[(j:Int)]):=hid (by rw[jE.out,if_pos ⟨l.out,t⟩]);clear t;go_wp2_with (at_builtin;go_loud (refine JZ _ aa (bb 80) (bb 82) 82 aa M.heap.size 3 i0 _ 1 8 ij de.out.1 de.out.2.1 de.out.2.2.1 de.out.2.2.2 aa ae _ L.length _ aa (ns S.out.1 (ar.alloc (F:=λ_=>False) _ _) (λ_ _ h=>h)) _ 1 1 _ aa aa (Fa _ _ _) (by simp[wB]) (by unfold dN;omega) ae (by simp;omega) ?_;intro awt c6 abp aaK _ _));have HO:ar (λi=>M.heap.size<=i) (wr.alloc (bc #[J R (j:Int)] 3)) c6:=ar.of_grownBy aaK (λi e=>bH (S.out.1.lt i e).1);have qm:=hid (And.intro abp ((S.out.2.trans (ar.alloc (F:=λi=>M.heap.size<=i) _ _) (λ_ _ h=>h)).trans HO (λ_ _ h=>h)));clear abp aaK HO B;go_wp2;go_roundw
         case rel=>
          refine⟨j+1,ae,by go_num,?_,qm.out.2⟩;rw[Gu.out];simpa using qm.out.1
         case measure=>simp[cd];omega
        .have hne:(d==0)=false:=by simpa using pS
         have Gu:aE (((dt k).take (j+1)).filter (λx=>decide (x∈hE k s)&&decide (f x=0))=L):=hid (by rw[jE.out,if_neg (λh=>pS (t▸h.2)),j6]);have axY:=hid pS;clear t pS;go_wp2;go_roundw;case rel=>exact⟨_,ae,by go_num,Gu.out▸S.out.1,S.out.2⟩
         case measure=>simp[cd];omega
       .rw[if_neg n]at B;have t:decide ((j:Int)∈hE k s)=false:=by simpa using n
        rw[t]at B;have Gu:aE (((dt k).take (j+1)).filter (λx=>decide (x∈hE k s)&&decide (f x=0))=L):=hid (by rw[jE.out,if_neg (λh=>n h.1),j6]);clear n t;go_wp2;go_roundw;case rel=>exact⟨_,ae,by go_num,Gu.out▸S.out.1,S.out.2⟩
        case measure=>simp[cd];omega
      .obtain rfl:j=k:=ae;rw[tF (by simp[dt])]at hrow;have ZW:=qt.start (E:=E) f cp.out _ aa;have P:=hid (And.intro ZW (And.intro (bV.out.only Y ae) (And.intro (eX.lW hrow) (du.out.trans Y (λi _ h=>ae)))));have ap5:=du.out.size;clear hrow ZW Y cp bV;go_wp2_with fail
       go_loopw [13,14] (λei AG wr=>∃(out D:List Int) (g:Int->Int) (gP:List Int),qt E j s out D g gP/\dY wr w.heap.size encI db (k5 D g)/\wr.ownsRow M.heap.size 3 1 ei out.length (out.map (J R))/\eX wr M.heap.size AG gP/\
        (∀q,ei.ownBlock=ab q->AG.ownBlock≠ab q)/\M.heap.size<=wr.heap.size/\ar (λi=>w.heap.size<=i) w wr) (λ_ _ wr=>MA wr w.heap.size);case atStart=>exact⟨[],_,f,_,P.out.1,P.out.2.1,⟨aT,bH ⟨aa,aT⟩⟩,P.out.2.2.1,(λq h=>by cases h),h5,P.out.2.2.2⟩
       case round=>
        obtain⟨out,D,g,gP,U,p,hrow,Q,hap,hsz,I⟩:=hrel;have ef:=p.size;rw[Cs]at ef;have hsm:=U.small;cases gP with
        |nil=>
         obtain⟨mS,kE,rfl,_,_⟩:=Q.form;have hI:=U.final X.out.1.2.2;have S:=hid (And.intro hI (And.intro p (And.intro hrow I)));clear hI p hrow I Q hap U P ef;go_wp2;go_ret2;obtain⟨gn,a2,a3,a4⟩:=S.out;rw[gn.2]at a2;exact⟨_,_,g,_,aa,gn.1,CF a3 ap5,a2,b3.aH a4⟩
        |cons v gP=>
         obtain⟨mS,kE,rfl,_,_⟩:=Q.form;obtain⟨gZ,off,rfl,_,aza,LG,hcell,aaa,Z'⟩:=Q.tail;unfold dN at LG;have LN:=U.pop X.out.1.2.2;have EP:=(U.mem.1 LN.Nx).1.1;have eT:D.length<=1048576:=ae;have V:db v:=⟨ae,ae⟩;simp at hsm
         have hlt:(D.filter (λy=>!decide (y=v))).length<D.length:=by
          have eg:D.Nodup:=by rw[U.rest];exact(((Ap (CX j)).filter _).filter _)
          have hl:=(Mo eg LN.Nx).length_eq;rw[jT]at hl;omega
         have hb2:=Q.lt (g:=gZ) aa
         have aoO:∃az aC,(az=ab ⟨gZ,off+1,af⟩\/az=ab ⟨gZ,off,af⟩)/\eX wr M.heap.size (ad az gP.length aC) gP/\(1<kE->az=ab ⟨gZ,off+1,af⟩/\aC=kE -1)/\(kE=1->az=ab ⟨gZ,off,af⟩/\aC=0):=by
          by_cases h1:kE=1;·subst h1;exact⟨_,_,b1 aa,Z' (jH ae),λh=>ae,λ_=>⟨aa,aa⟩⟩
          .exact⟨_,_,bH rfl,aaa,λ_=>⟨rfl,rfl⟩,λh=>absurd h h1⟩
         obtain⟨az,aC,aos,BW,RF,sM⟩:=aoO;have aad:=λq a=>(hap q a:ab gZ≠ab q);have ac:=hid (And.intro LN (And.intro BW (And.intro aad (And.intro I (And.intro V ef)))));have Cj:wr.frozen? ⟨gZ,off,af⟩=wr.frozen? ⟨gZ,off,af⟩:=rfl;have aoF:=p.lt;have ua:(0:Int)<((gP.length:Int)+1):=ae;have nM:(1:Int)<=(gP.length:Int)+1:=ae;clear U LN BW aad I V ef Q hap aos aaa Z' Cj;have bV:=hid p;have DC:=hid hrow;clear p hrow;have hcc:kE=1\/1<kE:=ae;rcases hcc with hc1|hc1;rotate_left;obtain⟨rfl,rfl⟩:=RF hc1;clear RF sM;rotate_left;obtain⟨rfl,rfl⟩:=sM hc1;subst hc1;obtain rfl:gP=[]:=jH ae;clear RF sM
         all_goals
          go_wp2_with (first
           |(at_delete;refine awm aa _ _ _ _ aa o7 uN bV.out aa ac.out.2.2.2.2.1 aa ?_;intro aR jo hg2 hs2;have hk2:ar (λi=>i=w.heap.size) wr aR:=ar.of_grownBy hg2 (λi e=>bH (by cases e;rfl));have W:=hid (And.intro (aqU D g v▸jo) (And.intro hk2 (ns DC.out hk2 (λq a e=>by have:=(DC.out.lt q a).1;omega))));have kT:=hid hs2;clear jo hg2 hk2 hs2)
           |(at_builtin;go_loud (refine JZ _ aa (bb 95) (bb 97) 82 aa M.heap.size 3 i0 _ 1 8 ij de.out.1 de.out.2.1 de.out.2.2.1 de.out.2.2.2 aa ae _ out.length (out.map (J R)) aa (ns W.out.2.2 (ar.alloc (F:=λ_=>False) _ _) (λ_ _ h=>h)) _ 1 1 [J R v] aa aa (Fa _ _ _) (by simp[wB]) (by unfold dN;omega) ae (by have:=kT.out;simp;omega) ?_);intro MS bL H2 HK _ aa7;have hk3:=ar.of_grownBy (F:=λi=>_=ab i) HK (λi e=>bH e);have iA:=hid (And.intro H2 (And.intro hk3 aa7));clear H2 HK hk3 aa7));have hs2:=kT.out;have o1:ar (λi=>w.heap.size<=i) w bL:=((ac.out.2.2.2.1.trans (W.out.2.1.mono (G:=λi=>w.heap.size<=i) (λi _ e=>ae)) (λ_ _ h=>h)).trans (ar.alloc (F:=λi=>w.heap.size<=i) _ _) (λ_ _ h=>h)).trans (iA.out.2.1.mono (G:=λi=>w.heap.size<=i) (λi _ e=>by have:=(DC.out.lt i e).1;omega)) (λ_ _ h=>h);have Hr:=(W.out.1.only (ar.alloc (F:=λ_=>False) aR (bc #[J R v] 3)) (λh=>h)).only iA.out.2.1 (λe=>by have:=(DC.out.lt _ e).1;omega);have Z8:=((ac.out.2.1.only W.out.2.1 (λq a e=>by have hq':gZ=q:=KA a;omega)).only (ar.alloc (F:=λ_=>False) aR (bc #[J R v] 3)) (λ_ _ h=>h)).only iA.out.2.1 (λq a e=>ac.out.2.2.1 q e a)
          have aag:∀q,MS.ownBlock=ab q->gZ≠q:=λq a e=>by
           rcases iA.out.2.2 with h|h;·exact ac.out.2.2.1 q (h.symm.trans a) (congrArg ab e)
           .rw[h]at a;simp at a;omega
          have hs3:=iA.out.2.1.size;simp only[zn]at hs3;have T:=hid (And.intro o1 (And.intro Hr (And.intro Z8 (And.intro aag (And.intro iA.out.1 ac.out.1)))));have HB:=hid hb2;have azK:wr.heap.size<=aR.heap.size:=ae;have mZ:=hid ac.out.2.2.2.2.1;have nC:=hid ac.out.2.2.2.2.2;clear o1 Hr Z8 aag iA W ac DC bV kT hs2 aoF hb2 hcell;go_wp2_with (go_at_call 92;refine(asA b j v E F bL (X.out.1.aH (b3.aH T.out.1)) mZ.out ae).mono ?_;rintro e dW ⟨Jp,D1,rfl,aaQ,aal,w7⟩);have ayI:=w7.size;have xX:=hid (And.intro aaQ (And.intro aal (And.intro (T.out.1.trans w7 (λ_ _ h=>h.elim)) (And.intro (T.out.2.1.only w7 (λh=>h)) (And.intro (T.out.2.2.1.only w7 (λ_ _ h=>h)) (ns T.out.2.2.2.2.1 w7 (λ_ _ h=>h)))))));have hM:=asy E v;have azi:=HB.out.2;clear aaQ aal w7
          go_loopw [14,103] (λAG i wr=>∃(m:Nat) (H:Int->Int) (xu:List Int),m<=(lY E v).length/\i=J R m/\oR E j s out D v ((lY E v).take m) H xu/\dY wr w.heap.size encI db (k5 (D.filter (λy=>!decide (y=v))) H)/\
           wr.ownsRow M.heap.size 3 1 MS (out.length+1) (out.map (J R)++[J R v])/\cX wr Jp (lY E v)/\eX wr M.heap.size AG xu/\(∀q,AG.ownBlock=ab q->MS.ownBlock≠ab q/\∀off,Jp≠ab ⟨q,off,af⟩)/\
           dW.heap.size<=wr.heap.size/\ar (λi=>w.heap.size<=i) w wr) (λ_ i _=>(lY E v).length -(cd i).toNat)
          case atStart=>
           refine⟨0,g,_,cQ _,aa,T.out.2.2.2.2.2,xX.out.2.2.2.1,xX.out.2.2.2.2.2,xX.out.1,xX.out.2.2.2.2.1,λq a=>?_,cm _,xX.out.2.2.1⟩;obtain rfl:gZ=q:=KA a;exact⟨λh=>T.out.2.2.2.1 _ h rfl,λoff h=>by have:=(xX.out.2.1 _ off h).1;omega⟩
          case round=>
           obtain⟨m,H,xu,hm,rfl,U,p,hrow,e5,Q,hap,apX,I⟩:=hrel;have fl:=p.lt;by_cases qK:m<(lY E v).length
           .have l:=hid (And.intro U (And.intro hrow (And.intro e5 (And.intro hap I))));obtain⟨fT,asa,rfl,hcell⟩:=e5 ae;have h1:=hcell m qK;obtain⟨x,hx⟩:∃x,(lY E v)[m]?=ab x:=⟨_,cj qK⟩;simp only[hx,pG]at h1;have Io:=cL hx;have Cp:0<=x/\x<(j:Int):=(X.out.1.2.2 _ (acP.1 Io)).2.1;have V:db x:=⟨ae,ae⟩;have hb1:(m:Int)<((lY E v).length:Int):=ae;have jF:aE ((lY E v).take (m+1)=(lY E v).take m++[x]):=hid (by rw[fu,hx];rfl)
            have abT:x∉(lY E v).take m:=λh=>by have eg:(lY E v).Nodup:=Ap (au7 (avo X.out.1.2.1 v));obtain⟨q,a⟩:=Qu h;have nP:=(eQ.1 a).1;rw[oT]at nP;rw[tE,if_pos ae]at a;have:=(List.getElem?_inj ae eg).1 (a.trans hx.symm);omega
            have B:=(Ao p V).2;have hl2:=(Ao p V).1;have Kh:=hid V;have Ho:(D.filter (λy=>!decide (y=v))).length<=1048576:=ae;have Qb:=hid abT;have ajF:=hid Io;clear U hrow e5 hap I hcell hx V abT Io;by_cases n:x∈D.filter (λy=>!decide (y=v))
            .rw[if_pos n]at B hl2;have t:decide (x∈D.filter (λy=>!decide (y=v)))=true:=by simpa using n
             rw[t]at B;have EA:x∈D/\x≠v:=by simpa using n
             have fM:=hid (And.intro n EA);have mH:=l.out.1.pos X.out.1.2.1 EA ajF.out Qb.out;obtain⟨d,pT⟩:=ex (H x);rw[pT]at B hl2 mH;have sq:=hid pT;clear n EA t pT;obtain⟨Og,iE,rfl,_,_⟩:=Q.form;have Al:=l.out.1.small;have abN:∀q,(ad Og xu.length iE).ownBlock=ab q->M.heap.size<=q/\q<wr.heap.size:=λq a=>Q.lt a;have jw:=hid (And.intro Q abN);clear Q abN;by_cases rQ:d=1
             .subst rQ
              go_wp2_with (first
               |(at_mapUpdate;refine Jb aa _ _ _ aa o7 uN p (by rw[Cs];unfold dN;omega) aa Kh.out aa (J R 0) aa ?_;intro dG yJ HI vL;rw[Ta fM.out.1]at yJ;have Ca:=(Ao yJ Kh.out).1;rw[if_pos fM.out.1,show dz H x 0 x=0 by simp[dz]]at Ca;have B':ar (λi=>i=w.heap.size) wr dG:=ar.of_grownBy HI (λi e=>bH (by cases e;rfl));have O:=hid (And.intro yJ (And.intro B' (And.intro vL (jw.out.1.only B' (λq a e=>by have:=(jw.out.2 q a).1;omega)))));clear yJ B' vL HI)
               |(go_at_call 305;refine(Nd Og iE xu x dG O.out.2.2.2.nU (l.out.1.sorted.imp (λh=>ae)) ae).mono ?_;rintro e e8 ⟨TV,rfl,M4,rfl⟩)
               |(go_at_call 306;refine(aqu M.heap.size (ad Og xu.length iE) xu (xu.countP (·<x)) x (dG.drewN M4).heap.size _ (O.out.2.2.2.only (aq.trans (ar.drewN dG M4) (ar.alloc _ _)) (λ_ _ h=>h)) Qn (fe _ _) (λq a e=>by have:=(jw.out.2 q a).2;have h8:=O.out.2.2.1;simp at e;omega) ae (by have h8:=O.out.2.2.1;simp;omega)).mono ?_;rintro e hR ⟨v10,rfl,Z7,ED,aaZ⟩));have vL:=O.out.2.2.1;have HP:aq dG ((dG.drewN M4).alloc (bc #[J R x] 3)):=aq.trans (ar.drewN dG M4) (ar.alloc _ _);have abw:=ED.size;simp at abw;have x5:aE (dz H x (H x -1)=dz H x 0):=hid (by rw[sq.out];rfl);have BT:=l.out.1.amE fM.out.2 Qb.out (by rw[sq.out];rfl);rw[x5.out]at BT;have ZZ:=(O.out.1.only HP (λh=>h)).only ED (λe=>by have:=(jw.out.2 _ e).1;omega);have Ia:=ns ((ns (ns l.out.2.1 O.out.2.1 (λq a e=>by have:=(l.out.2.1.lt q a).1;omega)) HP (λ_ _ h=>h))) ED (λq a e=>(l.out.2.2.2.1 q e).1 a);have Ig:=((l.out.2.2.1.only O.out.2.1 (λq off a e=>by have:=(xX.out.2.1 q off a).1;omega)).only HP (λ_ _ _ h=>h)).only ED (λq off a e=>(l.out.2.2.2.1 q e).2 off a)
              have aae:∀q,v10.ownBlock=ab q->MS.ownBlock≠ab q/\∀off,ab (⟨fT,asa,af⟩:bU)≠ab ⟨q,off,af⟩:=λq a=>by
               rcases aaZ with h|⟨gg,h,mc⟩;·exact l.out.2.2.2.1 q (h.symm.trans a)
               .obtain rfl:gg=q:=KA (h.symm.trans a);simp at mc;refine⟨λe=>?_,λoff e=>?_⟩;·have:=(l.out.2.1.lt _ e).2;omega
                .have:=(xX.out.2.1 _ _ e).2;omega
              have Ht:=((l.out.2.2.2.2.trans (O.out.2.1.mono (G:=λi=>w.heap.size<=i) (λi _ e=>ae)) (λ_ _ h=>h)).trans HP (λ_ _ h=>h.elim)).trans (ED.mono (G:=λi=>w.heap.size<=i) (λi _ e=>by have:=(jw.out.2 _ e).1;omega)) (λ_ _ h=>h);have fX:=hid (And.intro BT (And.intro ZZ (And.intro Ia (And.intro Ig (And.intro Z7 (And.intro aae (And.intro (by omega:dW.heap.size<=hR.heap.size) Ht)))))));clear vL HP abw BT ZZ Ia Ig aae Ht Z7 ED aaZ B hl2 Ca p;go_wp2;go_roundw
              case rel=>
               obtain⟨gn,a2,a3,a4,a5,Bz,KI,QG⟩:=fX.out;exact⟨m+1,_,_,ae,by go_num,jF.out▸gn,a2,a3,a4,a5,Bz,KI,QG⟩
              case measure=>simp[cd];omega
             .have hne:(d -1==0)=false:=by simp;omega
              have pS:aE (d -1≠0):=hid ae;go_wp2_with (at_mapUpdate;refine Jb aa _ _ _ aa o7 uN p (by rw[Cs];unfold dN;omega) aa Kh.out aa (J R (d -1)) aa ?_;intro dG yJ HI vL;rw[Ta fM.out.1]at yJ;have Ca:=(Ao yJ Kh.out).1;rw[if_pos fM.out.1,show dz H x (d -1) x=d -1 by simp[dz]]at Ca;have B':ar (λi=>i=w.heap.size) wr dG:=ar.of_grownBy HI (λi e=>bH (by cases e;rfl));have O:=hid (And.intro yJ (And.intro B' (And.intro vL (jw.out.1.only B' (λq a e=>by have:=(jw.out.2 q a).1;omega)))));clear yJ B' vL HI);have vL:=O.out.2.1.size;have BT:=l.out.1.amD fM.out.2 Qb.out (by rw[sq.out];exact mH.1) (by rw[sq.out];exact pS.out);rw[sq.out]at BT;have Ia:=ns l.out.2.1 O.out.2.1 (λq a e=>by have:=(l.out.2.1.lt q a).1;omega);have Ig:=l.out.2.2.1.only O.out.2.1 (λq off a e=>by have:=(xX.out.2.1 q off a).1;omega);have Ht:=l.out.2.2.2.2.trans (O.out.2.1.mono (G:=λi=>w.heap.size<=i) (λi _ e=>ae)) (λ_ _ h=>h);have fX:=hid (And.intro BT (And.intro O.out.1 (And.intro Ia (And.intro Ig (And.intro O.out.2.2.2 (And.intro l.out.2.2.2.1 (And.intro (by omega:dW.heap.size<=dG.heap.size) Ht)))))));clear vL BT Ia Ig Ht B hl2 Ca p;go_wp2;go_roundw
              case rel=>
               obtain⟨gn,a2,a3,a4,a5,Bz,KI,QG⟩:=fX.out;exact⟨m+1,_,_,ae,by go_num,jF.out▸gn,a2,a3,a4,a5,Bz,KI,QG⟩
              case measure=>simp[cd];omega
            .rw[if_neg n]at B;have t:decide (x∈D.filter (λy=>!decide (y=v)))=false:=by simpa using n
             rw[t]at B;have EA:¬(x∈D/\x≠v):=by simpa using n
             have Gn:=hid (And.intro (l.out.1.skip EA) (And.intro p Q));clear n EA t hl2 p Q;go_wp2;go_roundw;case rel=>exact⟨m+1,H,xu,ae,by go_num,jF.out▸Gn.out.1,Gn.out.2.1,l.out.2.1,l.out.2.2.1,Gn.out.2.2,l.out.2.2.2.1,apX,l.out.2.2.2.2⟩
             case measure=>simp[cd];omega
           .obtain rfl:m=(lY E v).length:=ae;rw[ik]at U;have ef:=p.size;rw[Cs]at ef;have cp:=hid (And.intro (U.done X.out.1.2.1) (And.intro p (And.intro hrow (And.intro Q (And.intro hap (And.intro I ef))))));clear U p hrow e5 Q hap I ef;go_wp2;go_roundw
            case rel=>
             obtain⟨gn,a2,a3,a4,a5,Bz,KI⟩:=cp.out;exact⟨_,_,H,xu,gn,a2,by simpa using a3,a4,λq a h=>(a5 q h).1 a,ae,Bz⟩
            case measure=>rw[cp.out.2.2.2.2.2.2,nC.out];exact hlt
    .intro v av2 bL Ii SU EH hk3 hs3 hen;obtain⟨gh,fP,iL,p6⟩:=C.out;have Mb:=(fP v Ii).1;have EP:=(MB.1 Mb).1;rw[Mn,if_pos Mb]at SU;obtain rfl:J R (f v)=av2:=KA SU;dsimp only[encI]at hen⊢;have o1:=p6.trans (hk3.mono (G:=λi=>w.heap.size<=i) (λi _ e=>ae)) (λ_ _ h=>h);have V:db v:=⟨ae,ae⟩
     have gb:(left.filter (λy=>!decide (y=v))).length<left.length:=by have:=(Mo K.2.1 Ii).length_eq;simp at this⊢;omega
     have Z:=hid (And.intro Ii (And.intro Mb (And.intro EH (And.intro o1 (And.intro V (And.intro K.left_eq (Mo K.2.1 Ii)))))));have qo:=hid hs3;clear gh fP iL p6 Mb Ii SU EH hk3 o1 V K hs3;go_wp2_with (go_at_call 304;refine(aqj b k v E F bL (X.out.1.aH (b3.aH Z.out.2.2.2.1)) Z.out.2.2.2.2.1 ae).mono ?_;rintro e ca ⟨lh,lu,rfl,aaP,hb4,hg4⟩);have ayH:=hg4.size;have aba:∀gg off,lh=ab ⟨gg,off,af⟩->¬(gg=w.heap.size):=λgg off e=>by have:=hb4 gg off e;have:=qo.out;omega
     have rW:=Z.out.2.2.1.only hg4 (λh=>h) (λh=>h);have o2:=Z.out.2.2.2.1.trans hg4 (λ_ _ h=>h.elim);have yC:=(C.out.2.1 v Z.out.1).2;have T:=hid (And.intro aaP (And.intro aba (And.intro rW (And.intro o2 yC))));have hr4:r<ca.heap.size:=by have:=qo.out;omega
     have azl:=ab3 E v;clear aaP hb4 hg4 aba rW o2 yC hen
     go_loopw [48] (λi wr=>∃(j:Nat) (H:Int->Int),j<=(mK E v).length/\i=J R j/\Over wr w.heap.size r encI db (k5 (hE k s) H) (left.filter (λy=>!decide (y=v)))/\H v=(((mK E v).take j).countP (λu=>decide (u∈hE k s)):Nat)/\
      (∀z,z≠v->H z=f z)/\r<wr.heap.size/\ar (λi=>i=w.heap.size) ca wr) (λi _=>(mK E v).length -(cd i).toNat);case atStart=>exact⟨0,f,cQ _,aa,T.out.2.2.1,by simpa using T.out.2.2.2.2,λ_ _=>aa,hr4,ar.refl _ _⟩
     case round=>
      obtain⟨j,H,hj,rfl,K,pV,B6,abv,Y⟩:=hrel;have Lt:=K.acK;have SK:=T.out.1.only Y T.out.2.1;have P:=hid (And.intro K (And.intro B6 Y));have ayL:=Y.size;clear B6 Y;by_cases kJ:j<(mK E v).length
      .obtain⟨fT,off,rfl,hcell⟩:=SK ae;have h1:=hcell j kJ;obtain⟨x,hx⟩:∃x,(mK E v)[j]?=ab x:=⟨_,cj kJ⟩;simp only[hx,pG]at h1;have yR:=Tj.1 (cL hx);have Cp:=(X.out.1.2.2 _ yR).1;have hb1:(j:Int)<((mK E v).length:Int):=ae;have B:=(Ao Lt (x:=x) ⟨ae,ae⟩).2;have hl2:=(Ao Lt (x:=v) Z.out.2.2.2.2.1).1;rw[if_pos Z.out.2.1,pV]at hl2;have ay9:((mK E v).take j).countP (λu=>decide (u∈hE k s))<=1048576:=eC Qn (by rw[oT];omega)
       have Ds:aE (((mK E v).take (j+1)).countP (λu=>decide (u∈hE k s))=((mK E v).take j).countP (λu=>decide (u∈hE k s))+if x∈hE k s then 1 else 0):=hid (by rw[fu,hx];simp );have x6:=hid (And.intro hx pV);generalize ((mK E v).take j).countP (λu=>decide (u∈hE k s))=cnt at*;clear hcell SK hx yR Lt pV;by_cases n:x∈hE k s
       .rw[if_pos n]at B;have l:=hid n;have t:decide (x∈hE k s)=true:=by simpa using n
        rw[t]at B;clear n t;go_wp2_with (at_mapUpdate;refine awn aa _ _ _ aa o7 uN K aa Z.out.2.2.2.2.1 (by rw[Mn,if_pos Z.out.2.1];exact⟨_,aa⟩) aa (J _ _) aa ?_;intro c6 SA HO azM);rw[Ta Z.out.2.1]at SA;have qm:=hid (And.intro SA (P.out.2.2.trans HO (λ_ _ h=>h)));clear SA HO B hl2 K;go_wp2;go_roundw
        case rel=>
         refine⟨j+1,_,ae,by go_num,qm.out.1,?_,λz hz=>?_,ae,qm.out.2⟩;·rw[Ds.out,if_pos l.out];simp[dz]
         .unfold dz;rw[if_neg hz];exact P.out.2.1 z hz
        case measure=>simp[cd];omega
       .rw[if_neg n]at B;have l:=hid n;have t:decide (x∈hE k s)=false:=by simpa using n
        rw[t]at B;clear n t;go_wp2;go_roundw;case rel=>exact⟨j+1,H,ae,by go_num,P.out.1,by rw[Ds.out,if_neg l.out];exact x6.out.2,P.out.2.1,abv,P.out.2.2⟩
        case measure=>simp[cd];omega
      .obtain rfl:j=(mK E v).length:=ae;have cp:=hid pV;clear pV SK Lt;go_wp2;go_roundw
       case rel=>
        refine⟨_,H,K,λx hx iI=>?_,λx hx=>?_,abv,T.out.2.2.2.1.trans P.out.2.2 (λi _ e=>ae)⟩
        .by_cases sT:x=v;·subst sT;rw[cp.out,ik];rfl
         .rw[P.out.2.1 x sT];exact C.out.1 x hx (λh=>iI (nb.2 ⟨h,by simpa using sT⟩))
        .obtain⟨gn,a2⟩:=nb.1 hx;have sT:x≠v:=by simpa using a2
         rw[P.out.2.1 x sT];exact C.out.2.1 x gn
       case measure=>rw[P.out.1.left_eq,Z.out.2.2.2.2.2.1];exact gb
def amh{E E'}(h:E.Perm E')l:(cut E l).Perm (cut E' l):=h.filter _
def amg E l(u x):cut (E++[(u,x)]) l=cut E l++(if u∉l/\x∉l then[(u,x)]else[]):=by grind[cut]
def au0{a da u x t}(h:a.heap[da]?=ab (bc #[J R u,J R x] t (0,0))):jy a (ab ⟨da,0,af⟩) [(u,x)]:=λ_=>by refine⟨da,0,rfl,λj b=>?_⟩;obtain rfl:j=0:=aF;exact⟨eB _ _ 0 _ _ _ h,eB _ _ 1 _ _ _ h⟩
def awi(b N:Nat)E F A c l w(dT:gT w F b N E)(hl:cX w A l)(hlen:l.length<=9223372036854775807)(eU:E.length<=1048576):
 aD ax 361 #[ay (ab ⟨b,0,af⟩),ad A l.length c] w λe w'=>∃H a,e=aA (ay (ab ⟨H,0,af⟩))/\gT w' (λi=>w.heap.size<=i/\i<w'.heap.size) H N a/\a.Perm (cut E l)/\aq w w':=by
 obtain⟨⟨fI,cW,fz,eP,eN,g⟩,eg,dx⟩:=dT;have aoH:=g.n0;have aoI:=g.qO;have kn:=eB _ _ 0 _ _ _ g.blk;simp at kn;have mG:=g.mB.lt;have D:=hid (And.intro g (And.intro eg (And.intro dx hl)));have hbl:=(Array.getElem?_eq_some_iff.1 g.blk).1;clear g eg dx hl;go_enter func361,ntmps361;go_wp2_with fail;go_at_call 179;refine(acX N w aoH aoI).mono ?_;rintro e w1 ⟨H,rfl,yw,hg1⟩
 have eh:w1.cell? ⟨b,1,af⟩=ab (dE (ab fI)):=by have:=hg1.heap D.out.1.blk (λh=>h);simpa using eB _ _ 1 _ _ _ this
 have Hq:=D.out.1.mB.only hg1 (λh=>h);have hs1:=hg1.size;have H1:=hid (And.intro yw hg1);clear yw hg1;go_wp2_with (at_range;refine afJ aa _ _ _ aa Tryz.underlying302 Hq aa ?_;intro aR q hg2 hs2);go_frame;have Y:=hid (And.intro q hg2);clear q hg2 Hq
 go_loopw [19] (λ_ wr=>∃(k left a:List (Int×Int)) (t:Nat->Prop),(k++left).Perm E/\a.Perm (cut k l)/\Over wr fI w1.heap.size vv qQ (E.map (λe=>(e,ak aB))) left/\gT wr t H N a/\
  (∀i,t i->w.heap.size<=i/\i≠w1.heap.size/\i<wr.heap.size)/\w1.heap.size<wr.heap.size/\ar (λi=>w.heap.size<=i) w wr) (λ_ wr=>wr.rangeLeft fI w1.heap.size)
 case atStart=>
  refine⟨[],E,[],_,aT,aS,?_,H1.out.1.aH Y.out.2,?_,ae,aq.to (aq.trans H1.out.2 Y.out.2)⟩;·have h:=Y.out.1;rw[List.map_map]at h;simpa [Jz]using h
  .omega
 case round=>
  obtain⟨k,left,a,t,hp,hc,q,Ej,hF,SV,hO⟩:=hrel;have Eo:=hO.size;have cP:=hid (And.intro hp (And.intro hc (And.intro q (And.intro Ej (And.intro hF hO)))));clear hp hc Ej hF hO;go_wp2_with (at_next;refine afK aa _ aa Mm aa q ?_ ?_);·intro h0;go_wp2;go_ret;obtain⟨s,C,iL,Q,L,S⟩:=cP.out;subst h0;rw[j6]at s;exact⟨_,_,aa,Q.mono (λi hi I=>⟨(L i I).1,hi⟩),C.trans (amh s l),b3.aH S⟩
  .intro u x v m P hv EH hk3 hs3 hen;dsimp only[vv]at hen⊢;obtain⟨s,C,iL,Q,L,S⟩:=cP.out;have abS:(u,x)∈E:=s.subset (List.mem_append_right _ P);have abg:(k++left).Nodup:=s.nodup_iff.2 D.out.2.1;have sT:(u,x)∉k:=λh=>(x'.1 abg).2.2 _ h _ P aa;have hx2:(u,x)∉a:=λh=>sT (sX.1 (C.subset h)).1;have hb:=D.out.2.2.1 _ abS;have c':qQ (u,x):=⟨⟨ae,ae⟩,⟨ae,ae⟩⟩
   have aau:canAdd N a (u,x)=true:=by
    have h1:p2 N u=true:=by simpa [p2]using hb.1
    have o:p2 N x=true:=by simpa [p2]using hb.2.1
    unfold canAdd;simp only[h1,o,hx2];simpa using hb.2.2
   have nL:jj N a [(u,x)]=a++[(u,x)]:=by show pI N a (u,x)=_;unfold pI;rw[aau];rfl
   have apk:a.length<=1048576:=by have h1:=C.length_eq;have o:=Rg k l;have h3:=s.length_eq;simp at h3;omega
   have Cd:=Mo q.2.1 P
   have pZ:((k++[(u,x)])++left.filter (λy=>!decide (y=(u,x)))).Perm E:=by rw[List.append_assoc];exact((Cd.append_left _).symm.trans (Bp _)).trans s
   have ZT:=Q.only hk3 (λi I e=>(L i I).2.1 e);have o1:=S.trans (hk3.mono (G:=λi=>w.heap.size<=i) (λi _ e=>ae)) (λ_ _ h=>h);have d:=hid (And.intro pZ (And.intro EH (And.intro ZT (And.intro o1 (And.intro c' (And.intro nL C))))));have Z:=hid (And.intro q.left_eq EH.left_eq)
   have gb:(left.filter (λy=>!decide (y=(u,x)))).length<left.length:=by have:=Cd.length_eq;simp at this⊢;omega
   have z:=hid L;have p:=hid hs3;clear hs3;clear s C iL Q L S abS abg sT hx2 hb c' aau nL Cd pZ ZT o1 P hv EH hk3 q;obtain⟨T,hr1⟩:∃r:Bool,decide (u∈l)=r:=⟨_,aa⟩;obtain⟨U,hr2⟩:∃r:Bool,decide (x∈l)=r:=⟨_,aa⟩;have B:=hid (And.intro hr1 hr2);clear hr1 hr2;have je:=hid (D.out.2.2.2.aH (b3.aH d.out.2.2.2.1));have V:aE (∀W,aq m W->aD ax 190 #[ad A l.length c,J R u] W λe w'=>e=aA (ak T)/\W=w'):=hid λW c3=>D5 A c l u W T B.out.1 (je.out.aH c3) hlen;have X:aE (∀W,aq m W->aD ax 190 #[ad A l.length c,J R x] W λe w'=>e=aA (ak U)/\W=w'):=hid λW c3=>D5 A c l x W U B.out.2 (je.out.aH c3) hlen;have Dt:aE (cut (k++[(u,x)]) l=cut k l++(if u∉l/\x∉l then[(u,x)]else[])):=hid (amg k l u x);by_cases hr:T=au/\U=au
   .obtain⟨rfl,rfl⟩:=hr
    go_wp2_with (first
     |(go_at_call 190;first|((with_reducible refine(V.out _ (ar.alloc _ _)).mono ?_);rintro e w' ⟨rfl,rfl⟩)|((with_reducible refine(X.out _ (ar.alloc _ _)).mono ?_);rintro e w' ⟨rfl,rfl⟩))
     |(go_at_call 182;refine(X0 H N a t _ 1 _ _ (d.out.2.2.1.aH (aq.trans (ar.alloc _ _) (ar.alloc _ _))) (au0 (aoZ m _ _)) (λe he=>(List.mem_singleton.1 he)▸d.out.2.2.2.2.1) (by rw[wO];omega) (λblk off e I=>by cases e;have h1:=(z.out _ I).2.2;have o:=p.out;omega)).mono ?_;rintro e ca ⟨rfl,RJ,O⟩));have f:aq m ((m.alloc (bc #[J R u,J R x] 192)).alloc (bc #[J R u,J R x] 192)):=aq.trans (ar.alloc _ _) (ar.alloc _ _);have abx:=f.size;have azL:=O.size;rw[d.out.2.2.2.2.2.1]at RJ;have n:=(d.out.2.1.only f (λh=>h) (λh=>h)).only O (λh=>by have:=(z.out _ h).1;omega) (λh=>(z.out _ h).2.1 aa);have qE:=(d.out.2.2.2.1.trans f (λ_ _ h=>h.elim)).trans (O.mono (G:=λi=>w.heap.size<=i) (λi _ hi=>(z.out i hi).1)) (λ_ _ h=>h)
    have ZS:∀i,(t i\/(((m.alloc (bc #[J R u,J R x] 192)).alloc (bc #[J R u,J R x] 192)).heap.size<=i/\i<ca.heap.size))->w.heap.size<=i/\i≠w1.heap.size/\i<ca.heap.size:=by
     rintro i (hi|hi);·have h1:=z.out i hi;have o:=p.out;exact⟨h1.1,h1.2.1,ae⟩
     .have o:=p.out;exact⟨ae,ae,hi.2⟩
    have M:aE ((a++[(u,x)]).Perm (cut (k++[(u,x)]) l)):=hid (by rw[Dt.out,if_pos ⟨by simpa using B.out.1,by simpa using B.out.2⟩];exact(d.out.2.2.2.2.2.2).append_right _);have j:=hid (And.intro n (And.intro RJ (And.intro ZS (And.intro qE n.left_eq))));have K:w1.heap.size<ca.heap.size:=by have o:=p.out;omega
    clear n RJ ZS qE O f;go_wp2;go_roundw;case rel=>exact⟨_,_,_,_,d.out.1,M.out,j.out.1,j.out.2.1,j.out.2.2.1,K,j.out.2.2.2.1⟩
    case measure=>rw[j.out.2.2.2.2,Z.out.1];exact gb
   .have Kg:=hid hr;clear hr
    have M:aE (a.Perm (cut (k++[(u,x)]) l)):=hid (by
     rw[Dt.out,if_neg,j6];·exact d.out.2.2.2.2.2.2
     .rintro⟨gn,a2⟩;exact Kg.out ⟨by rw[<-B.out.1];simpa using gn,by rw[<-B.out.2];simpa using a2⟩);cases T
    .cases U;·exact absurd ⟨aa,aa⟩ Kg.out
     .go_wp2_with (go_at_call 190;first|((with_reducible refine(V.out _ (ar.alloc _ _)).mono ?_);rintro e w' ⟨rfl,rfl⟩)|((with_reducible refine(X.out _ (ar.alloc _ _)).mono ?_);rintro e w' ⟨rfl,rfl⟩));have f:aq m (m.alloc (bc #[J R u,J R x] 192)):=ar.alloc _ _;have abx:=f.size;have n:=d.out.2.1.only f (λh=>h) (λh=>h);have j:=hid (And.intro n (And.intro (d.out.2.2.1.aH f) (And.intro (d.out.2.2.2.1.trans f (λ_ _ h=>h.elim)) n.left_eq)));have K:w1.heap.size<(m.alloc (bc #[J R u,J R x] 192)).heap.size:=by have o:=p.out;omega
      clear n f;go_roundw;case rel=>exact⟨_,_,a,t,d.out.1,M.out,j.out.1,j.out.2.1,λi hi=>by have h1:=z.out i hi;have o:=p.out;exact⟨h1.1,h1.2.1,ae⟩,K,j.out.2.2.1⟩
      case measure=>rw[j.out.2.2.2,Z.out.1];exact gb
    .go_wp2_with (go_at_call 190;first|((with_reducible refine(V.out _ (ar.alloc _ _)).mono ?_);rintro e w' ⟨rfl,rfl⟩)|((with_reducible refine(X.out _ (ar.alloc _ _)).mono ?_);rintro e w' ⟨rfl,rfl⟩));have f:aq m (m.alloc (bc #[J R u,J R x] 192)):=ar.alloc _ _;have abx:=f.size;have n:=d.out.2.1.only f (λh=>h) (λh=>h);have j:=hid (And.intro n (And.intro (d.out.2.2.1.aH f) (And.intro (d.out.2.2.2.1.trans f (λ_ _ h=>h.elim)) n.left_eq)));have K:w1.heap.size<(m.alloc (bc #[J R u,J R x] 192)).heap.size:=by have o:=p.out;omega
     clear n f;go_roundw;case rel=>exact⟨_,_,a,t,d.out.1,M.out,j.out.1,j.out.2.1,λi hi=>by have h1:=z.out i hi;have o:=p.out;exact⟨h1.1,h1.2.1,ae⟩,K,j.out.2.2.1⟩
     case measure=>rw[j.out.2.2.2,Z.out.1];exact gb
def CE(r:Bool)(o:List Int):List Int:=if r=aB then o else[]
def asx (b N:Nat) E F A c s w (q:gT w F b N E) (x:cX w A s) (y:s.length<=9223372036854775807) (u:E.length<=1048576)
 o (v:mx E N s o) r (hr:decide (kp N s o=[])=r):
 aD ax 176 #[ay (ab ⟨b,0,af⟩),ad A s.length c] w λe w'=>∃m C,e=aA (bg #[ad m (CE r o).length C,ak r])/\cX w' m (CE r o)/\(∀k off,m=ab ⟨k,off,af⟩->w.heap.size<=k)/\aq w w':=by
 have a:=hid (And.intro q (And.intro x v));clear q x v;cases r;·have hne:0<(kp N s o).length:=List.length_pos_iff.2 (show kp N s o≠[] by grind);clear hr;go_enter Tryz.func176,Tryz.ntmps176;go_wp2_with fail;go_at_call 250;refine(T1 b N E F A c s w a.out.1 a.out.2.1 y u).mono ?_;rintro e w1 ⟨la,D,f,o',rfl,j,l,g,i⟩;obtain rfl:=j.unique a.out.2.2;have p:=λty=>run_len_map g uN ty;rw[Cs]at p;have d:=hid i;clear l g i j;generalize (kp N s o').length=n at*;go_wp2;go_ret2;exact⟨af,0,aa,cX.nil,(λ_ _ h=>aF),d.out⟩
 .have t:(kp N s o).length=0:=List.length_eq_zero_iff.2 aF;have B:=hid t;clear hr t;go_enter Tryz.func176,Tryz.ntmps176;go_wp2_with fail;go_at_call 250;refine(T1 b N E F A c s w a.out.1 a.out.2.1 y u).mono ?_;rintro e w1 ⟨la,D,f,o',rfl,j,l,g,i⟩;obtain rfl:=j.unique a.out.2.2;have p:=λty=>run_len_map g uN ty;rw[Cs,B.out]at p;obtain⟨z,c1,rfl,hi,_,_,hloc⟩:=l.form;have d:=hid (And.intro hi (And.intro hloc i));clear l g i j hi hloc;go_wp2;go_ret2;exact⟨z,c1,aa,d.out.1,λk off h=>(d.out.2.1 k _ h).1,d.out.2.2⟩
def Path.perm{E E'}(h:E.Perm E'){u x}:Path E u x↔Path E' u x:=⟨λp=>p.mono (λ_ a=>h.mem_iff.1 a),λp=>p.mono (λ_ a=>h.mem_iff.2 a)⟩
def kA.anp{E}{N:Nat}{s xs}(a:Valid N E)(h:kA E s xs):(dt N).filter (λx=>decide (x∈xs))=xs:=by refine Zh ((CX N).filter _) h.1 (λx=>?_);rw[nb,decide_eq_true_eq];exact⟨λq=>q.2,λq=>⟨qN.2 (AA (a.cut s) ((h.2 x).1 q)),q⟩⟩
def amq{N k}(hk:k<N)(xs:List Int):((dt N).take (k+1)).filter (λx=>decide (x∈xs))=((dt N).take k).filter (λx=>decide (x∈xs))++(if(k:Int)∈xs then[(k:Int)]else[]):=by grind[Nw]
def amp(N k)(xs:List Int):(((dt N).take k).filter (λx=>decide (x∈xs))).length<=k:=aF
def ams (b N:Nat) E F A c s w (G:gT w F b N E) (hs:cX w A s) (e5:s.length<=9223372036854775807) (eU:E.length<=1048576)
 xs (hx:kA E s xs):
 aD ax 333 #[ay (ab ⟨b,0,af⟩),ad A s.length c] w λe w'=>∃v,e=aA v/\pF w w' v xs/\aq w w':=by
 have fk:=G.small.2;have S:=G.2.2;have g:=hid (And.intro G (And.intro hs (And.intro hx (And.intro S (hx.anp S)))));obtain⟨i0,gO,hz0,hz1,hz2⟩:=rf An;have C:=hid (And.intro gO (And.intro hz0 (And.intro hz1 hz2)));clear G hs hx S gO hz0 hz1 hz2;go_enter func333,ntmps333;go_wp2_with fail;go_at_call 250;refine(T1 b N E F A c s w g.out.1 g.out.2.1 e5 eU).mono ?_;rintro e w1 ⟨la,md,f,o,rfl,ho,hn,Z,hg1⟩;have m:=hid (And.intro ho (And.intro Z (And.intro hg1 hg1.size)));clear ho hn Z hg1;go_wp2_with (go_at_call 361;refine(awi b N E F A c s w1 (g.out.1.aH m.out.2.2.1) (g.out.2.1.aH m.out.2.2.1) e5 eU).mono ?_;rintro e j ⟨X,M,rfl,Y,V,hg2⟩);have aaF:M.length<=1048576:=by have h1:=V.length_eq;have h2:=Rg E s;omega
 have hs2:w.heap.size<=j.heap.size:=by have h1:=m.out.2.2.2;have h2:=hg2.size;omega
 have l:=hid (And.intro Y (And.intro V (And.intro (m.out.2.1.only hg2 (λh=>h)) (And.intro (aq.trans m.out.2.2.1 hg2) (m.out.2.1.only hg2 (λh=>h)).lt))));clear Y V hg2;go_wp2_with (go_at_call 303;refine(xk b N _ (g.out.1.aH l.out.2.2.2.1).Tm).mono ?_;rintro e bL ⟨rfl,rfl⟩)
 go_loopw [8,23] (λei i wr=>∃k:Nat,k<=N/\i=J R k/\wr.ownsRow w.heap.size 3 1 ei (((dt N).take k).filter (λx=>decide (x∈xs))).length ((((dt N).take k).filter (λx=>decide (x∈xs))).map (J R))/\
  ar (λi=>j.heap.size<=i) j wr/\(∀q,ei.ownBlock=ab q->j.heap.size<=q)) (λ_ i _=>N -(cd i).toNat);case atStart=>exact⟨0,cQ _,aa,⟨aT,bH ⟨aa,aT⟩⟩,ar.refl _ _,λq h=>by cases h⟩
 case round=>
  obtain⟨k,hk,rfl,hrow,T,p⟩:=hrel;have Eo:=T.size;have a:=hid (And.intro hrow (And.intro T p));clear hrow T p;by_cases hlt:k<N
  .have hb0:(k:Int)<(N:Int):=ae;have U:db (k:Int):=⟨ae,ae⟩;have P:=hid (amq hlt xs);have hlen:=amp N k xs;have H:=(Ao (l.out.2.2.1.only a.out.2.1 (by have:=l.out.2.2.2.2;omega)) U).2;have W:=hid U;clear U;generalize ((dt N).take k).filter (λx=>decide (x∈xs))=L at*;by_cases y:(k:Int)∈kp N s o
   .rw[if_pos y]at H;have t:decide ((k:Int)∈kp N s o)=true:=aF;rw[t]at H;clear y t;obtain⟨r,hr⟩:∃q:Bool,decide ((k:Int)∈xs)=q:=⟨_,aa⟩;have D:=hid hr;clear hr;cases r
    .go_wp2_with (first
      |(go_at_call 362;refine(ad0 X N k M _ wr (l.out.1.only a.out.2.1 (λi hi h=>ae)) W.out aaF).mono ?_;rintro e I ⟨K,Q,cn,rfl,u,B,z,n⟩;have d:=hid (And.intro u (And.intro B (And.intro z n)));clear u B z n)
      |(go_at_call 190;refine(D5 K Q cn k I au (by rw[<-D.out];congr 1;rw[eq_iff_iff,d.out.2.1.2,g.out.2.2.1.2];exact Path.perm l.out.2.1) d.out.1 d.out.2.2.1).mono ?_;rintro e c6 ⟨rfl,rfl⟩));go_roundw;case rel=>exact⟨k+1,ae,by go_num,by rw[P.out,if_neg (by simpa using D.out),j6];exact ns a.out.1 d.out.2.2.2 (λ_ _ h=>h),a.out.2.1.trans d.out.2.2.2 (λ_ _ h=>h.elim),a.out.2.2⟩
     case measure=>grind[cd]
    .go_wp2_with (first
      |(go_at_call 362;refine(ad0 X N k M _ wr (l.out.1.only a.out.2.1 (λi hi h=>ae)) W.out aaF).mono ?_;rintro e I ⟨K,Q,cn,rfl,u,B,z,n⟩;have ayM:=n.size;have d:=hid (And.intro u (And.intro B (And.intro z n)));clear u B z n)
      |(go_at_call 190;refine(D5 K Q cn k I aB (by rw[<-D.out];congr 1;rw[eq_iff_iff,d.out.2.1.2,g.out.2.2.1.2];exact Path.perm l.out.2.1) d.out.1 d.out.2.2.1).mono ?_;rintro e c6 ⟨rfl,rfl⟩)
      |(at_builtin;go_loud (refine JZ _ aa (bb 40) (bb 42) 82 aa w.heap.size 3 i0 _ 1 8 ij C.out.1 C.out.2.1 C.out.2.2.1 C.out.2.2.2 aa ae _ L.length _ aa (ns a.out.1 (aq.trans d.out.2.2.2 (ar.alloc (F:=λ_=>False) _ _)) (λ_ _ h=>h)) _ 1 1 _ aa aa (Fa _ _ _) (by simp[wB]) (by unfold dN;omega) ae (by simp;omega) ?_;intro xA dG L1 HL _ EE)));have Iq:ar (λi=>j.heap.size<=i) (I.alloc (bc #[J R (k:Int)] 3)) dG:=ar.of_grownBy HL (λi e=>bH (a.out.2.2 i e));have En:ar (λi=>j.heap.size<=i) j dG:=((a.out.2.1.trans d.out.2.2.2 (λ_ _ h=>h.elim)).trans (ar.alloc (F:=λi=>j.heap.size<=i) _ _) (λ_ _ h=>h)).trans Iq (λ_ _ h=>h)
     have H6:∀q,xA.ownBlock=ab q->j.heap.size<=q:=λq p=>by
      rcases EE with h|h;·exact a.out.2.2 q (h.symm.trans p)
      .rw[h]at p;simp at p;omega
     have O:=hid (And.intro L1 (And.intro En H6));clear L1 HL EE Iq En H6;go_wp2;go_roundw;case rel=>exact⟨k+1,ae,by go_num,by rw[P.out,if_pos (by simpa using D.out)];simpa using O.out.1,O.out.2.1,O.out.2.2⟩
     case measure=>grind[cd]
   .rw[if_neg y]at H;have t:decide ((k:Int)∈kp N s o)=false:=aF;rw[t]at H;have jE:aE ((k:Int)∉xs):=hid (λh=>y (g.out.2.2.1.rest g.out.2.2.2.1 m.out.1 h));clear y t;go_wp2;go_roundw;case rel=>exact⟨k+1,ae,by go_num,by rw[P.out,if_neg jE.out,j6];exact a.out.1,a.out.2.1,a.out.2.2⟩
    case measure=>grind[cd]
  .obtain rfl:k=N:=ae;have hrow:=a.out.1;rw[tF (by simp[dt]),g.out.2.2.2.2]at hrow;have cp:=hid hrow;clear hrow;go_wp2;go_ret;exact⟨_,aa,cp.out,aq.trans l.out.2.2.2.1 (b3.aH a.out.2.1)⟩
def aqS x a A c keep W(hc:W.cell? ⟨a,0,af⟩=ab (ad A keep.length c))(hk:cX W A keep)(h1:keep.length<=9223372036854775807):
 aD ax 335 #[J R x,ay (ab ⟨a,0,af⟩)] W λe w'=>e=aA (ak (decide (x∈keep)))/\∃q,w'=W.drewN q:=by
 have b:=hid hk;clear hk;go_enter func335,ntmps335;go_wp2_with (go_at_call 190;refine(G7 A c _ x W b.out h1).mono ?_;rintro e w1 ⟨rfl,rfl⟩);go_ret;exact⟨aa,0,aa⟩
def awf x a A c ws W(hc:W.cell? ⟨a,0,af⟩=ab (ad A ws.length c))(hk:cX W A ws)(h1:ws.length<=9223372036854775807):
 aD ax 337 #[J R x,ay (ab ⟨a,0,af⟩)] W λe w'=>e=aA (J R (nY ws x))/\W=w':=by
 have b:=hid hk;clear hk;go_enter func337,ntmps337;go_wp2_with (go_at_call 338;refine(awe A c ws x W b.out h1).mono ?_;rintro e w1 ⟨rfl,rfl⟩);go_ret;exact⟨aa,aa⟩
def ak1{f L}:decide (0<L.length)=(jA f L).isSome:=by
 cases h:jA f L with
 |none=>grind[QQ]
 |some v=>
  have:=List.length_pos_of_mem (QO h);simp[this]
def anb args w:(kj 335 args).run ax w=a7 (.enter 335 args) w:=aS
def anc args w:(kj 337 args).run ax w=a7 (.enter 337 args) w:=aS
def arU (b N:Nat) E F gL ia ws p v s fQ gA keep w (z:gT w F b N E) (D:cX w gL ws) (hr:cX w p s) (hk:cX w fQ keep)
 (Il:ws.length<=9223372036854775807) (e5:s.length<=9223372036854775807) (vC:keep.length<=9223372036854775807) (eU:E.length<=1048576) xs (hx:kA E s xs) o (ho:jA (nY ws) (kept xs keep)=o) l7 (sQ:decide (0<xs.length)=l7):
 aD ax 302 #[ay (ab ⟨b,0,af⟩),ad gL ws.length ia,ad p s.length v,ad fQ keep.length gA] w λe w'=>
  e=aA (bg #[J R (o.getD 0),ak o.isSome,ak l7])/\aq w w':=by
 have j:=hid (And.intro z (And.intro D (And.intro hr (And.intro hk hx))));have I:=hid ho;have S:decide (0<(xs.length:Int))=l7:=by rw[<-sQ];congr 1;rw[eq_iff_iff];omega
 clear z D hr hk hx ho;go_enter func302,ntmps302;go_wp2_with fail;go_at_call 333;have d:aE (aq w ((w.alloc (bc #[ad gL ws.length ia] 82)).alloc (bc #[ad fQ keep.length gA] 82))):=hid (aq.trans (ar.alloc _ _) (ar.alloc _ _))
 have n:aE (((w.alloc (bc #[ad gL ws.length ia] 82)).alloc (bc #[ad fQ keep.length gA] 82)).cell? ⟨w.heap.size,0,af⟩=ab (ad gL ws.length ia)/\((w.alloc (bc #[ad gL ws.length ia] 82)).alloc (bc #[ad fQ keep.length gA] 82)).cell? ⟨w.heap.size+1,0,af⟩=ab (ad fQ keep.length gA)):=hid (by
  constructor;·exact(ar.alloc (F:=λ_=>False) _ _).cell (eB _ _ 0 _ _ _ (fe w _)) (λh=>h)
  .simp);refine(ams b N E F p v s _ (j.out.1.aH d.out) (j.out.2.2.1.aH d.out) e5 eU xs j.out.2.2.2.2).mono ?_;generalize (w.alloc (bc #[ad gL ws.length ia] 82)).alloc (bc #[ad fQ keep.length gA] 82)=ao at*;rintro e w1 ⟨T,rfl,r,hg1⟩;obtain⟨l,c1,rfl,M,P,hl2,hloc⟩:=r.form;have G:xs.length<=9223372036854775807:=by grind[dN]
 have a:=hid (And.intro r (And.intro hg1 (And.intro (aq.trans d.out hg1) hloc)));have hs0:=d.out.size;have u:=hid (And.intro (uQ _ _ n.out.1) (uQ _ _ n.out.2));clear r hg1 hloc M P hl2
 have t:aE (aD ax 334 #[ad l xs.length c1,dJ (ej 335) #[] #[ay (ab ⟨w.heap.size+1,0,af⟩)]] w1 λe w'=>∃A c,e=aA (ad A (kept xs keep).length c)/\cX w' A (kept xs keep)/\ar (λi=>(ad l xs.length c1).ownBlock=ab i) w1 w'):=hid (by
  refine(amG 335 #[ay (ab ⟨w.heap.size+1,0,af⟩)] anb (λx=>decide (x∈keep)) _ _ xs w1 a.out.1 G (λW x K=>?_)).mono ?_
  .have hno:∀i,i<ao.heap.size->¬(ad l xs.length c1).ownBlock=ab i:=λi hi h=>by have:=(wC a.out.1 i h).1;omega
   have B:ar (λi=>ao.heap.size<=i) ao W:=(aq.to a.out.2.1).trans K (λi hi h=>absurd h (hno i hi));refine aqS x _ fQ gA _ W (B.cell n.out.2 (by have:=u.out.2;show¬ao.heap.size<=_;omega)) ?_ vC;exact(j.out.2.2.2.1.aH (aq.trans d.out (b3.aH B)))
  .rintro e w' ⟨A,c,rfl,h1,_,y⟩;exact⟨A,c,aa,h1,y⟩);go_wp2_with (go_at_call 334;have k:=t.out;with_reducible refine k.mono ?_;clear k;rintro e g ⟨aJ,c2,rfl,C,q⟩)
 have hg2:aq w g:=by
  have hno:∀i,i<ao.heap.size->¬(ad l xs.length c1).ownBlock=ab i:=λi hi h=>by have:=(wC a.out.1 i h).1;omega
  exact aq.trans d.out (b3.aH ((aq.to a.out.2.1).trans q (λi hi h=>absurd h (hno i hi))))
 have hcw:g.cell? ⟨w.heap.size,0,af⟩=ab (ad gL ws.length ia):=by refine q.cell (a.out.2.1.cell n.out.1 (λh=>h)) (λh=>?_);have y:=(wC a.out.1 w.heap.size h).1;have Q:w.heap.size<ao.heap.size:=u.out.1;omega
 have m:=hid (And.intro C (And.intro hg2 hcw));have O:(kept xs keep).length<=9223372036854775807:=eC (x9 _ _) G;clear C q hg2 hcw t;generalize kept xs keep=L at*
 have H:aE (aD ax 336 #[ad aJ L.length c2,dJ (ej 337) #[] #[ay (ab ⟨w.heap.size,0,af⟩)]] g λe w'=>e=aA (bg #[J R (o.getD 0),ak o.isSome])/\g=w'):=hid (by have h:=au1 337 #[ay (ab ⟨w.heap.size,0,af⟩)] (nY ws) aJ c2 L g m.out.1 O anc (λx=>awf x w.heap.size gL ia ws g m.out.2.2 (j.out.2.1.aH m.out.2.1) Il);rw[ak1 (f:=nY ws),I.out]at h;exact h);go_wp2_with (go_at_call 336;have k:=H.out;with_reducible refine k.mono ?_;clear k;rintro e U ⟨rfl,rfl⟩);go_ret3;exact⟨aa,m.out.2.1⟩
def AN(out:List Int)(o:Option Int):List Int:=match o with
 |none=>out
 |some v=>out++[v]
structure xL (W:aM) (q7 da jN fR base b:Nat) (gL:Option bU) (ia:Nat) (ws:List Int) (fQ:Option bU) (gA:Nat) (keep out:List Int) (la:aO):Prop where
 bZ:W.cell? ⟨q7,0,af⟩=ab (ay (ab ⟨b,0,af⟩))
 c1:W.cell? ⟨da,0,af⟩=ab (ad gL ws.length ia)
 c2:W.cell? ⟨jN,0,af⟩=ab (ad fQ keep.length gA)
 fF:W.heap[fR]?=ab (bc #[la] 82 (0,0))
 row:W.ownsRow base 3 1 la out.length (out.map (J R))
def xL.only{W c F q7 da jN fR base b gL ia ws fQ gA keep out la}(h:xL W q7 da jN fR base b gL ia ws fQ gA keep out la)(k:ar F W c)(a:∀i,F i->False):
 xL c q7 da jN fR base b gL ia ws fQ gA keep out la:=
 ⟨k.cell h.bZ (λe=>a _ e),k.cell h.c1 (λe=>a _ e),k.cell h.c2 (λe=>a _ e),k.heap h.fF (λe=>a _ e),ns h.row k (λ_ _ e=>a _ e)⟩
def aoj{a xA:aO}{base fR n}(hne:∀q,a.ownBlock=ab q->base<=q)(c:xA.ownBlock=a.ownBlock\/xA.ownBlock=ab n)(d:base<=n)(b:fR<base):xA.ownBlock≠ab fR:=aF
def avk (q7 da jN fR base b N:Nat) E F gL ia ws fQ gA keep out la W (x:gT W F b N E) (D:cX W gL ws) (hk:cX W fQ keep) (d:xL W q7 da jN fR base b gL ia ws fQ gA keep out la)
 (hb:q7<fR/\da<fR/\jN<fR/\fR<base/\base<=W.heap.size) (Il:ws.length<=9223372036854775807) (hM:out.length<=1048576) (vC:keep.length<=9223372036854775807) (eU:E.length<=1048576) xs (hx:kA E out xs) o (ho:jA (nY ws) (kept xs keep)=o):
 aD ax 301 #[ay (ab ⟨q7,0,af⟩),ay (ab ⟨da,0,af⟩),ay (ab ⟨fR,0,af⟩),ay (ab ⟨jN,0,af⟩)] W λe w'=>
  e=aA (bg #[ak o.isSome,ak (decide (0<xs.length))])/\
  ar (λi=>i=fR\/base<=i) W w'/\∃M,xL w' q7 da jN fR base b gL ia ws fQ gA keep (AN out o) M:=by
 obtain⟨n,r,rfl,A⟩:=yZ d.row;have hc:=arU b N E F gL ia ws n r out fQ gA keep W x D A hk Il ae vC eU xs hx o ho _ aa;clear ho x D hk A hx;have w:=hid hc;have c:=hid d;obtain⟨K,z,hz0,hz1,hz2⟩:=rf An;have k:=hid (And.intro z (And.intro hz0 (And.intro hz1 hz2)));have T:=d.bZ;have U:=d.c1;have V:=d.c2;have L:=pw d.fF;clear hc d z hz0 hz1 hz2;generalize decide (0<xs.length)=O at*;go_enter func301,ntmps301;cases o with
 |none=>
  go_wp2_with (go_at_call 302;have g:=w.out;with_reducible refine g.mono ?_;clear g;rintro e w1 ⟨rfl,hg1⟩);go_ret2;exact⟨aa,aq.to hg1,_,c.out.only hg1 (λ_ h=>h)⟩
 |some v=>
  go_wp2_with (first
   |(go_at_call 302;have g:=w.out;with_reducible refine g.mono ?_;clear g;rintro e w1 ⟨rfl,hg1⟩;have X:=hg1.cell L (λh=>h);have hs1:=hg1.size;have u:=hid hg1;clear hg1)
   |(at_builtin;go_loud (refine JZ _ aa (bb 19) (bb 21) 82 aa base 3 K _ 1 8 ij k.out.1 k.out.2.1 k.out.2.2.1 k.out.2.2.2 aa ae _ out.length (out.map (J R)) aa (ns c.out.row (aq.trans u.out (ar.alloc (F:=λ_=>False) _ _)) (λ_ _ h=>h)) _ 1 1 [J R v] aa aa (Fa _ _ _) (by simp[wB]) (by grind[dN]) ae (by first|omega|(simp;omega)) ?_;intro xA f I y _ B;have S:fR<W.heap.size:=ae;have hne:∀q,(ad n out.length r).ownBlock=ab q->base<=q:=λq h=>(wC c.out.row q h).1;have G:ar (λi=>base<=i) (w1.alloc (bc #[J R v] 3)) f:=ar.of_grownBy y (λi e=>bH (hne i e));have s:ar (λi=>base<=i) W f:=((aq.to u.out).trans (ar.alloc (F:=λi=>base<=i) _ _) (λ_ _ h=>h)).trans G (λ_ _ h=>h);have m:f.heap[fR]?=ab (bc #[ad n out.length r] 82 (0,0)):=s.heap c.out.fF ae;have C:xA.ownBlock≠ab fR:=aoj hne B (by first|omega|(simp;omega)) ae;have Q:=WB m;have P:=pw m;have hown:f.ownsRow base 3 1 xA (out.length+1) ((out++[v]).map (J R)):=aF;obtain⟨j,l,H,_⟩:=yZ hown;obtain rfl:xA=ad j (out.length+1) l:=aF;have a:=hid (And.intro hown (And.intro s (And.intro m C)));clear hown I y B G s m C hne H)));go_ret2;refine⟨aa,((a.out.2.1.mono (λi _ h=>b1 h)).trans (ar.setCell (F:=λi=>i=fR\/base<=i) f (bH aa) _) (λ_ _ h=>h)),ad j (out.length+1) l,?_⟩;have t:=ar.setCell (F:=λi=>i=fR) f (p:=⟨fR,0,af⟩) aa (ad j (out.length+1) l);exact⟨t.cell (a.out.2.1.cell c.out.bZ aF) aF,t.cell (a.out.2.1.cell c.out.c1 aF) aF,t.cell (a.out.2.1.cell c.out.c2 aF) aF,WD a.out.2.2.1,by simpa [AN]using WE a.out.1 a.out.2.2.2 (ad j (out.length+1) l)⟩
theorem ae7{E ws keep out xs}(h:kQ E ws keep out)(hx:kA E out xs):kQ E ws keep (AN out (jA (nY ws) (kept xs keep))):=by
 cases hb:jA (nY ws) (kept xs keep)with
 |none=>exact h
 |some v=>exact .snoc h hx hb
def agd(w:aM)(o:List Int)(r:Bool)(e:Ending)(w':aM):Prop:=
 ∃a b,e=aA (bg #[ad a (CE r o).length b,ak r])/\cX w' a (CE r o)/\(CE r o).length<=b/\(∀k off,a=ab ⟨k,off,af⟩->w.heap.size<=k)/\aq w w'
def asJ{w base v m xs}(h:w.ownsRow base 3 1 v m (xs.map (J R))):∃A c,v=ad A xs.length c/\cX w A xs/\xs.length<=c/\∀k off,A=ab ⟨k,off,af⟩->base<=k:=by
 have a:m=xs.length:=by simpa using h.1.symm
 subst a;have b:=h;rcases h.2 with⟨rfl,hz⟩|⟨g,cap,cur,rfl,hb,i,h1,d,e,f⟩;·grind[cX.nil]
 .grind[cX.lW]
def boxes w b gL ia ws fQ gA keep:
 aq w ((((w.alloc (bc #[ay (ab ⟨b,0,af⟩)] 179)).alloc (bc #[ad gL ws.length ia] 82)).alloc (bc #[ad fQ keep.length gA] 82)).alloc (bc #[ad af 0 0] 82))/\xL ((((w.alloc (bc #[ay (ab ⟨b,0,af⟩)] 179)).alloc (bc #[ad gL ws.length ia] 82)).alloc (bc #[ad fQ keep.length gA] 82)).alloc (bc #[ad af 0 0] 82)) w.heap.size (w.heap.size+1) (w.heap.size+2) (w.heap.size+3) (w.heap.size+4) b gL ia ws fQ gA keep [] (ad af 0 0)/\((((w.alloc (bc #[ay (ab ⟨b,0,af⟩)] 179)).alloc (bc #[ad gL ws.length ia] 82)).alloc (bc #[ad fQ keep.length gA] 82)).alloc (bc #[ad af 0 0] 82)).heap.size=w.heap.size+4:=by
 have g1:=ar.alloc (F:=λ_=>False) w (bc #[ay (ab ⟨b,0,af⟩)] 179);have h1:=fe w (bc #[ay (ab ⟨b,0,af⟩)] 179);generalize j:w.alloc (bc #[ay (ab ⟨b,0,af⟩)] 179)=w1 at*;have k:w1.heap.size=w.heap.size+1:=by rw[<-j];simp
 have g2:=ar.alloc (F:=λ_=>False) w1 (bc #[ad gL ws.length ia] 82);have f:=fe w1 (bc #[ad gL ws.length ia] 82);generalize hw2:w1.alloc (bc #[ad gL ws.length ia] 82)=c at*;have l:c.heap.size=w.heap.size+2:=by rw[<-hw2];simp;omega
 have e:=ar.alloc (F:=λ_=>False) c (bc #[ad fQ keep.length gA] 82);have g:=fe c (bc #[ad fQ keep.length gA] 82);generalize hw3:c.alloc (bc #[ad fQ keep.length gA] 82)=d at*;have m:d.heap.size=w.heap.size+3:=by rw[<-hw3];simp;omega
 have a:=ar.alloc (F:=λ_=>False) d (bc #[ad af 0 0] 82);have i:=fe d (bc #[ad af 0 0] 82);generalize hw4:d.alloc (bc #[ad af 0 0] 82)=o at*;have n:o.heap.size=w.heap.size+4:=by rw[<-hw4];simp;omega
 rw[k]at f;rw[l]at g;rw[m]at i;refine⟨aq.trans g1 (aq.trans g2 (aq.trans e a)),⟨?_,?_,?_,i,⟨aT,bH ⟨aa,aT⟩⟩⟩,n⟩;·exact(aq.trans g2 (aq.trans e a)).cell (pw h1) (λh=>h)
 .exact(aq.trans e a).cell (pw f) (λh=>h)
 .exact a.cell (pw g) (λh=>h)
set_option maxHeartbeats 2000000 in
def alz (b N:Nat) E F gL ia ws fQ gA keep w (z:gT w F b N E) (hw:cX w gL ws) (hk:cX w fQ keep)
 (Il:ws.length<=9223372036854775807) (vC:keep.length<=9223372036854775807) (eU:E.length<=1048576) (o xs) (hx:wL E ws keep o xs) r (hr:decide (xs=[])=r):
 aD ax 249 #[ay (ab ⟨b,0,af⟩),ad gL ws.length ia,ad fQ keep.length gA] w (agd w o r):=by
 have fk:=z.small.2;have l:=hid (And.intro z (And.intro hw (And.intro hk (And.intro hx hr))));have C:=hid z.2.2;have vF:∀(L:Fn) (first cap:Array aO) (w:aM),(Instr.makeFunc L first cap).run ax w=a7 (dJ L first cap) w:=λ_ _ _ _=>aa;have y:=hid (boxes w b gL ia ws fQ gA keep);clear z hw hk hx hr;go_enter func249,ntmps249;go_wp2_with fail;go_at_call 301;clear vF;generalize (((w.alloc (bc #[ay (ab ⟨b,0,af⟩)] 179)).alloc (bc #[ad gL ws.length ia] 82)).alloc (bc #[ad fQ keep.length gA] 82)).alloc (bc #[ad af 0 0] 82)=ao at*
 have J:aE (∀(W:aM) (out:List Int) (la:aO),ar (λi=>i=w.heap.size+3\/w.heap.size+4<=i) ao W->xL W w.heap.size (w.heap.size+1) (w.heap.size+2) (w.heap.size+3) (w.heap.size+4) b gL ia ws fQ gA keep out la->kQ E ws keep out->
  ∃cn q d,kA E out cn/\jA (nY ws) (kept cn keep)=q/\decide (0<cn.length)=d/\aD ax 301 #[ay (ab ⟨w.heap.size,0,af⟩),ay (ab ⟨w.heap.size+1,0,af⟩),ay (ab ⟨w.heap.size+3,0,af⟩),ay (ab ⟨w.heap.size+2,0,af⟩)] W λe w'=>
   e=aA (bg #[ak q.isSome,ak d])/\ar (λi=>i=w.heap.size+3\/w.heap.size+4<=i) ao w'/\∃Um,xL w' w.heap.size (w.heap.size+1) (w.heap.size+2) (w.heap.size+3) (w.heap.size+4) b gL ia ws fQ gA keep (AN out q) Um):=hid (λW out la D j' hch=>by
  obtain⟨cn,p⟩:=Hb C.out out;have hsz:=y.out.2.2;have hs:=D.size;have B:ar (λi=>w.heap.size+3<=i) w W:=(aq.to y.out.1).trans D (λi hi h=>ae);have f:aq w W:=B.mono (λi hi h=>ae);refine⟨cn,_,_,p,aa,aa,?_⟩;refine(avk _ _ _ _ _ b N E F gL ia ws fQ gA _ _ la W (l.out.1.aH f) (l.out.2.1.aH f) (l.out.2.2.1.aH f) j' ⟨ae,ae,ae,ae,ae⟩ Il (by have:=hch.length C.out;omega) vC eU cn p _ aa).mono ?_;rintro e w' ⟨rfl,h1,n⟩;exact⟨aa,D.trans h1 (λ_ _ h=>h),n⟩);obtain⟨cn,q,d,p,Y,V,m⟩:=J.out ao [] _ (ar.refl _ _) y.out.2.1 .nil;refine m.mono ?_;clear m;rintro e w1 ⟨rfl,T,av0,R⟩;have g:=hid (And.intro T (And.intro R (And.intro p (And.intro Y (And.intro V (show kQ E ws keep []from .nil))))));clear T R p Y V;go_wp2_with fail;go_loopg [10,11] (2*N+2) (λgk ei iE wr=>∃(out s cn:List Int) (q:Option Int) (d:Bool) (la:aO),ei=ak q.isSome/\iE=ak d/\aE (ar (λi=>i=w.heap.size+3\/w.heap.size+4<=i) ao wr/\xL wr w.heap.size (w.heap.size+1) (w.heap.size+2) (w.heap.size+3) (w.heap.size+4) b gL ia ws fQ gA keep out la/\out=AN s q/\kQ E ws keep s/\kA E s cn/\jA (nY ws) (kept cn keep)=q/\decide (0<cn.length)=d)/\2*(N -out.length)+(if q.isSome then 1 else 0)<gk);case atStart=>exact⟨_,[],cn,q,d,av0,aa,aa,hid ⟨g.out.1,g.out.2.1,aa,.nil,g.out.2.2.1,g.out.2.2.2.1,g.out.2.2.2.2.1⟩,aF⟩
 case round=>
  obtain⟨out,s,aAf,fP,amk,la,rfl,rfl,a,LL⟩:=hrel;have hch:kQ E ws keep out:=by rw[a.out.2.2.1,<-a.out.2.2.2.2.2.1];exact ae7 a.out.2.2.2.1 a.out.2.2.2.2.1
  cases fP with
  |some v=>
   obtain⟨awR,G,aml,abW,Z,X,m⟩:=J.out wr out la a.out.1 a.out.2.1 hch;have ac:=hid m;have H:=hid (And.intro abW (And.intro Z X));have Ca:(AN out G).length<=N:=(by grind[ae7]:kQ E ws keep (AN out G)).length C.out;have I:=hid hch;clear m abW Z X hch;simp only[Option.isSome_some,if_true]at LL;go_wp2_with (go_at_call 301;have K:=ac.out;with_reducible refine K.mono ?_;clear K;rintro e bL ⟨rfl,U,av1,S⟩);have u:=hid (And.intro U S);clear U S;cases G with
   |none=>
    go_roundg (2*(N -out.length)+1);case measure=>omega
    case rel=>exact⟨out,_,_,_,_,_,aa,aa,hid ⟨u.out.1,u.out.2,aa,I.out,H.out⟩,aT⟩
   |some v3=>
    simp only[AN,List.length_append,wO]at Ca;go_roundg (2*(N -out.length));case measure=>omega
    case rel=>exact⟨out++[v3],out,awR,ab v3,aml,av1,aa,aa,hid ⟨u.out.1,u.out.2,aa,I.out,H.out⟩,aF⟩
  |none=>
   obtain⟨h1,n,h3,M,O,P,Q⟩:=a.out;obtain rfl:out=s:=h3;obtain⟨rfl,rfl⟩:=l.out.2.2.2.1.unique ⟨M,O,P⟩
   have cU:amk=!r:=by
    rw[<-Q,<-l.out.2.2.2.2];cases xs with
    |nil=>rfl
    |cons x t=>simp
   have B:ar (λi=>w.heap.size+3<=i) w wr:=(aq.to y.out.1).trans h1 (λi hi h=>ae);have f:aq w wr:=B.mono (λi hi h=>ae);have jL:=pw n.fF;obtain⟨A,c,rfl,hi,hc,hloc⟩:=asJ n.row;have j:=hid (And.intro hi (And.intro hc (And.intro (λk off e=>eC ae (hloc k off e):∀k off,A=ab ⟨k,off,af⟩->w.heap.size<=k) f)));subst cU;clear hch h1 n M O P Q B f hi hc hloc a;cases r;·go_wp2;go_ret2;exact⟨af,0,aa,cX.nil,cm _,(λ_ _ h=>aF),j.out.2.2.2⟩
   .go_wp2;go_ret2;exact⟨A,c,aa,j.out.1,j.out.2.1,j.out.2.2.1,j.out.2.2.2⟩
end G
end Go.Proofs.YtcmhplknoglbkaaGreat
