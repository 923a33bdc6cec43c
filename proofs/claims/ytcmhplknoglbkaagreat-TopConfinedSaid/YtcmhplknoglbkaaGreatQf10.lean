/- Part 10 of the proof of TopConfinedSaid. -/
import Derived.Test.YtcmhplknoglbkaaGreatQf0
import Derived.Test.YtcmhplknoglbkaaGreatQf1
import Derived.Test.YtcmhplknoglbkaaGreatQf3
import Derived.Test.YtcmhplknoglbkaaGreatQf5
import Derived.Test.YtcmhplknoglbkaaGreatQf6
import Derived.Test.YtcmhplknoglbkaaGreatQf7
import Derived.Test.YtcmhplknoglbkaaGreatQf8
import Derived.Test.YtcmhplknoglbkaaGreatQf9
set_option linter.all false
set_option maxRecDepth 100000
set_option maxHeartbeats 4000000
open Go.Proofs.Tryz
open Array renaming replicate_succ->qI,replicate_zero->qJ,size->gB,size_modify->ahF
open Bool renaming false->ao,true->az
open Go renaming Act->b3,Addr->bT,Calls->aC,Oper->cT,Program->ew,Value->aO,World->aP,asAddr->vg,bodyPost_ret->c8,callFunc->kB,cell_of_one->pY,execOp->bz,heap_alloc_new->fO,leaves_cons->PK,loadVar->wN,maxLen->eG,results->oC,results_cell_row->gH,run_endLoop->PO,run_firstCells_some->K3,run_loadVar_row->D7,undef->a1,wpAnyIn->GR,wpAnyIn_ready->PQ,wpIn_wide->yn,wpList_nil->an,wp_region_lit->cy,yielded->c3
open Go.Addr renaming add->u'
open Go.AllReadyIn renaming cons->KA,nil->O6
open Go.Ending renaming returned->aB
open Go.Fn renaming func->eu,yield->wz
open Go.Instr renaming build->O8
open Go.IntKind renaming i64->R,u64->aF
open Go.Lib renaming compareInt->zR
open Go.LoopState renaming busy->sV,exhausted->GG,ready->kz
open Go.Next renaming value->da
open Go.Obj renaming cells->bp,deferred->kA,loop->gh
open Go.Oper renaming wp->iy,wpIn->aib
open Go.Operand renaming tmp->bj
open Go.Proofs.AnyF renaming slices_SortFunc_none->aie
open Go.Proofs.AnyQ renaming slices_SortFunc->aif
open Go.Proofs.Tryz renaming prog->ax,underlying22->dK,underlying24->ey,underlying49->yh,underlying73->gi,underlying82->jo
open Go.Proofs renaming enters_of->lG,intOf->c',ltOf->GO
open Go.Region renaming ready->sX,wanted->c7
open Go.Result renaming andThen_ok->jI,ok->bf
open Go.ResultVar renaming cell->yj
open Go.RowKit renaming Hid->aE,intOf->bR
open Go.Sem renaming run_bind->gC,run_pure->kg
open Go.Sort renaming HoldsK->PH,alloc_eq_grow->PI,get_flatK->Xb,grow->GP,putRowK->Xc,size_flatK->Xd
open Go.Target renaming collected->D4
open Go.Value renaming agg->ar,bool->ai,func->dS,int->J,pointer->ay,slice->ae,tuple->bo
open Go.World renaming block_lt_of_cell?->vf,cell?_of_block->D5
open Go.World.ownsRow renaming lt->wL
open Int renaming eq_ofNat_of_zero_le->wU,le_of_lt->Es,natCast_nonneg->alN
open List.Pairwise renaming imp_of_mem->alR,nil->Hj
open List.Perm renaming refl->Cc,swap->Cd
open List renaming append_assoc->kQ,append_nil->kR,append_toArray->q1,cons_append->p4,drop_eq_getElem_cons->Hl,drop_of_length_le->QX,drop_zero->Yp,eq_nil_of_length_eq_zero->j8,ext_getElem?->wW,filter_append->s8,filter_eq_self->Aj,getElem?_append_left->tZ,getElem?_append_right->oI,getElem?_eq_getElem->cF,getElem?_eq_some_iff->eM,length->q3,length_append->db,length_cons->jV,length_drop->s9,length_filter_le->Al,length_map->hM,length_nil->mT,length_singleton->yH,length_take->oe,map_append->fR,map_cons->kj,map_nil->lJ,map_singleton->alZ,map_toArray->pj,mem_append->iX,mem_cons->gD,mem_iff_getElem?->p6,mem_map->gQ,mem_of_getElem?->cW,mem_or_eq_of_mem_set->al0,mem_singleton->ua,nil_append->l0,not_mem_nil->fS,pairwise_iff_getElem->mv,push_toArray->q4,range->dU,range_succ->ta,size_toArray->iY,take_add_one->gx,take_append->YA,take_append_drop->oJ,take_length->ll,take_of_length_le->ub,take_take->al5
open Nat renaming add_mul->vx,eq_zero_or_pos->l1,le_refl->b7,le_trans->eb,lt_irrefl->al9,lt_of_lt_of_le->wY,lt_succ_iff_lt_or_eq->vz,min_eq_left->Am,mul_le_mul->Q',mul_le_mul_right->oK,not_lt_zero->Ao,succ_mul->Ap,zero_add->js,zero_le->cB
open Option renaming getD_some->vB,map_some->q6,none->af,some->ab,toList_some->Ck
open Option.some renaming inj->Lx,injEq->wZ
open Or renaming inl->bZ,inr->cc
open Sum renaming inr->Hr
open Sum.inr renaming inj->Rk
namespace Go.Proofs.YtcmhplknoglbkaaGreat
open Go.RowKit Go.MapKept Go.Shelf Go.Lib
def As(l:List (Int×Int)):Prop:=(∀e∈l,eX e/\0<e.2)/\∀(i j:Nat) (x y:Int×Int),j<i->l[i]?=ab x->l[j]?=ab y->meets x y=ao
theorem FU(a b):meets a b=meets b a:=by grind[meets]
def atT{a b}(h:a.1+a.2<=b.1):meets a b=false:=by grind[meets]
def atd{a b}(h:meets a b=ao)(hab:a.1<=b.1)(hb:0<b.2):a.1+a.2<=b.1:=by grind[meets]
def As.pairwise{l}(h:As l):(iJ l).Pairwise (λx y=>meets x.1 y.1=ao):=by rw[mv];intro i j hi a b;have bF:=EY l i;have cq:=EY l j;rw[AH]at hi a;rw[cF ad,cF hi]at bF;rw[cF ad,cF a]at cq;simp only[q6,wZ]at bF cq;rw[bF,cq,FU];exact h.2 j i _ _ b (cF a) (cF hi)
theorem aaH{l}(h:As l):∃S,S.Perm (iJ l)/\j4 S:=by
 have d:=List.mergeSort_perm (iJ l) (λx y=>decide (x.1.1<=y.1.1));have f:=List.pairwise_mergeSort (le:=λx y:jS=>decide (x.1.1<=y.1.1)) (λa b c h1 j=>aG) (λa b=>aG) (iJ l);refine⟨_,d,?_,λx hx=>?_⟩
 .have hn:=d.symm.pairwise h.pairwise (λh=>by grind[FU])
  have e:∀x∈(iJ l).mergeSort (λx y=>decide (x.1.1<=y.1.1)),0<x.1.2:=λx hx=>by obtain⟨i,hi,_⟩:=A4.1 (d.mem_iff.1 hx);exact(h.1 _ (cW hi)).2
  refine alR (λ{_ y} _ g h=>?_) (f.and hn);exact atd h.2 (of_decide_eq_true h.1) (e y g)
 .obtain⟨i,hi,_⟩:=A4.1 (d.mem_iff.1 hx);exact h.1 _ (cW hi)
def av1{l S}(c:S.Perm (iJ l))(b:j4 S):As l:=by
 refine⟨λe f=>?_,λi j x y g hx d=>?_⟩;·obtain⟨i,hi⟩:=p6.1 f;exact b.2 (e,(i:Int)) (c.mem_iff.2 (A4.2 ⟨i,hi,aa⟩))
 .have h1:(iJ l).Pairwise (λx y=>meets x.1 y.1=ao):=c.pairwise (b.1.imp (λh=>atT h)) (λh=>by grind[FU]);rw[mv]at h1;have hi:=(eM.1 hx).1;have k:=(eM.1 d).1;have a:=h1 j i (by grind[AH]) (by grind[AH]) g;have bF:=EY l i;have cq:=EY l j;rw[hx,cF aG]at bF;rw[d,cF aG]at cq;simp only[q6,wZ]at bF cq;rw[bF,cq,FU]at a;exact a
def aqc{S}(a:j4 S){x y}(hx:x∈S)(d:y∈S)(h1:x.1.1<=y.1.1)(e:y.1.1<=x.1.1):x=y:=by
 obtain⟨i,hi⟩:=p6.1 hx;obtain⟨j,b⟩:=p6.1 d;rcases Nat.lt_trichotomy i j with h|h|h;·have c:=a.lt hi b h;have:=(a.at hi).2;omega
 .grind
 .have c:=a.lt b hi h;have:=(a.at b).2;omega
def aaI{S}(a:j4 S):S.Pairwise (λx y=>x.1.1<=y.1.1):=
 alR (λhx _ h=>by have:=(a.2 _ hx).2;omega) a.1
def aqf{S T}(b:S.Perm T)(a:j4 S)(d:j4 T):S=T:=
 b.eq_of_pairwise (le:=λx y:jS=>x.1.1<=y.1.1) (λ_ _ hx e h1 c=>aqc a hx (b.mem_iff.2 e) h1 c) (aaI a) (aaI d)
def QQ(base:Nat)(w:aP)(p:Nat)(S:List jS):Prop:=∃A c,w.heap[p]?=ab (bp #[ae A S.length c] 411 (0,0))/\nA w A S/\S.length<=1048576/\base<=p/\∀b off,A=ab ⟨b,off,af⟩->base<=b
set_option maxHeartbeats 4000000 in
theorem atM A c l w(hl:kS w A l)(kp:∀e∈l,rB e)(gA:l.length<=1048576):
 aC ax 251 #[ae A l.length c] w λe w'=>au w w'/\((∃p S,e=aB (ay (ab ⟨p,0,af⟩))/\S.Perm (iJ l)/\j4 S/\QQ w.heap.size w' p S)\/(e=aB (ay af)/\¬∃S,S.Perm (iJ l)/\j4 S)):=by
 have b1:=hid (And.intro hl kp);obtain⟨i0,jc,hz0,hz1,hz2⟩:=info_parts aso;have Y:=hid (And.intro jc (And.intro hz0 (And.intro hz1 hz2)));have Ld:=hid (av.alloc (F:=λ_=>False) w (bp #[ae af 0 0] 411));have pd:=hid (And.intro (fO w (bp #[ae af 0 0] 411)) (show(w.alloc (bp #[ae af 0 0] 411)).heap.size=w.heap.size+1 by simp));clear hl kp jc hz0 hz1 hz2;go_enter func251,ntmps251;go_wp2_with fail;generalize w.alloc (bp #[ae af 0 0] 411)=ih at*;have hs1:=pd.out.2;generalize hp:w.heap.size=p at*;have Hb:=hid hp;clear hp;go_loopw [11] (λi wr=>∃k:Nat,k<=l.length/\i=J R k/\aE (∀e∈l.take k,eX e/\0<e.2)/\(∃lD,wr.heap[p]?=ab (bp #[lD] 411 (0,0))/\wr.ownsRow (p+1) 413 3 lD k (re (iJ (l.take k))))/\av (λi=>p<=i) ih wr) (λi _=>l.length -(c' i).toNat);case atStart=>exact⟨0,cB _,aa,hid bc,⟨_,pd.out.1,⟨ba,bZ ⟨aa,aa⟩⟩⟩,av.refl _ _⟩
 case round=>
  obtain⟨k,hk,rfl,abX,⟨lD,hx,hrow⟩,B⟩:=hrel;obtain⟨s,o,rfl⟩:=aeV hrow;have Sk:=B.size;have X:aE (au w wr):=hid ((((au.to Ld.out).trans B (λ_ _ h=>h)).mono (λi hi h=>by rw[Hb.out]at hi;omega)));have C:=hid (And.intro hx (And.intro hrow B));have nh:=pY hx;clear hx hrow B;by_cases hlt:k<l.length
  .have hb0:(k:Int)<(l.length:Int):=ad;obtain⟨hC,off,rfl,hcell⟩:=(b1.out.1.aH X.out) ad;obtain⟨c1,c2⟩:=hcell k hlt;obtain⟨e,he⟩:∃e,l[k]?=ab e:=⟨_,cF hlt⟩;simp only[he,vB]at c1 c2;have L:=hid (And.intro he (b1.out.2 e (cW he)));obtain⟨a,b⟩:=e;simp only at c1 c2;have Qd:=hid (av.alloc (F:=λ_=>False) wr (bp #[J R a,J R b] 35));have V:=hid (yU wr (J R a) (J R b) 35);obtain⟨v,hv⟩:∃v:Bool,lC (a,b)=v:=⟨_,aa⟩;have cP:=hid hv
   have O2:aE (∀W,aC ax 115 #[ar #[J R a,J R b]] W λe w'=>e=aB (ai v)/\au W w'):=hid (λW=>by have h:=agU a b W L.out.2.1 L.out.2.2;rw[cP.out]at h;exact h);clear hcell he hv;cases v with
   |false=>
    go_wp2_with (go_at_call 115;refine(O2.out _).mono ?_;rintro e g ⟨rfl,q⟩);go_ret;refine⟨au.trans X.out (au.trans Qd.out q),cc ⟨aa,aes L.out.1 (λh=>?_)⟩⟩;have:=Gk.2 h.1;rw[cP.out]at this;cases this
   |true=>
    have rz:=Gk.1 cP.out;by_cases hb:b=0;·have Sv:(b==0)=true:=aG;have P1:=hid hb;clear rz hb;go_wp2_with (go_at_call 115;refine(O2.out _).mono ?_;rintro e g ⟨rfl,q⟩;have SB:=q.cell V.out.1 (λh=>h);have SC:=q.cell V.out.2 (λh=>h));go_ret;exact⟨au.trans X.out (au.trans Qd.out q),cc ⟨aa,aes L.out.1 (λh=>by have h1:0<b:=h.2;rw[P1.out]at h1;omega)⟩⟩
    .have Sv:(b==0)=false:=aG;have P1:aE (eX (a,b)/\0<b):=hid ⟨rz,by have h1:0<=b:=rz.2.1;omega⟩;clear rz hb;go_wp2_with (go_at_call 115;refine(O2.out _).mono ?_;rintro e g ⟨rfl,q⟩;have SB:=q.cell V.out.1 (λh=>h);have SC:=q.cell V.out.2 (λh=>h));have N:=hid (au.trans Qd.out q);have z':aE (∀i,(ae s k o).ownBlock=ab i->p+1<=i/\i<wr.heap.size):=hid (λi h=>wL C.out.2.1 i h)
     have n:aE (∀w',av (λi=>p+1<=i/\i<wr.heap.size) g w'->w'.cell? ⟨p,0,af⟩=ab (ae s k o)/\w'.cell? ⟨wr.heap.size,0,af⟩=ab (J R a)/\w'.cell? ⟨wr.heap.size,1,af⟩=ab (J R b)):=
      hid (λw' h=>⟨h.cell (N.out.cell (pY C.out.1) (λh=>h)) (by show¬(p+1<=p/\_);omega),h.cell SB (by show¬(_/\wr.heap.size<wr.heap.size);omega),h.cell SC (by show¬(_/\wr.heap.size<wr.heap.size);omega)⟩);have ac2:=N.out.size;clear q SB SC;refine ayD aw 12 (λw'=>w'.cell? ⟨p,0,af⟩=ab (ae s k o)/\w'.cell? ⟨wr.heap.size,0,af⟩=ab (J R a)/\w'.cell? ⟨wr.heap.size,1,af⟩=ab (J R b)) (n.out _ (av.drew _)) (λhHeld=>?_);refine Bz (i:=0) (v:=?_) aa aw aw aw aw (λ_ _ _ h=>h) (bZ ⟨ba,?_⟩) hHeld ?_;rotate_left;focus (intro E hz;obtain⟨G,H,I⟩:=hz;go_simp;try with_reducible rfl)
     refine Bz (i:=1) (v:=?_) aa aw aw aw aw (λ_ _ _ h=>h) (bZ ⟨ba,?_⟩) hHeld ?_;rotate_left;focus (intro E hz;obtain⟨G,H,I⟩:=hz;go_simp;try with_reducible rfl)
     refine Bz (i:=2) (v:=?_) aa aw aw aw aw (λ_ _ _ h=>h) (bZ ⟨ba,?_⟩) hHeld ?_;rotate_left;focus (intro E hz;obtain⟨G,H,I⟩:=hz;go_simp;try with_reducible rfl)
     refine Bz (i:=3) (v:=?_) aa aw aw aw aw (λ_ _ _ h=>h) (bZ ⟨ba,?_⟩) hHeld ?_;rotate_left;focus (intro E hz;obtain⟨G,H,I⟩:=hz;go_simp;try with_reducible rfl)
     refine Bz (i:=4) (v:=?_) aa aw aw aw aw (λ_ _ _ h=>h) (bZ ⟨ba,?_⟩) hHeld ?_;rotate_left;focus (intro E hz;obtain⟨G,H,I⟩:=hz;go_simp;try with_reducible rfl)
     refine Bz (i:=5) (v:=?_) aa aw aw aw aw (λ_ _ _ h=>h) (bZ ⟨ba,?_⟩) hHeld ?_;rotate_left;focus (intro E hz;obtain⟨G,H,I⟩:=hz;go_simp;try with_reducible rfl)
     refine Bz (i:=6) (v:=?_) aa aw aw aw aw (λ_ _ _ h=>h) (bZ ⟨ba,?_⟩) hHeld ?_;rotate_left;focus (intro E hz;obtain⟨G,H,I⟩:=hz;go_simp;try with_reducible rfl)
     refine Bz (i:=7) (v:=?_) aa aw aw aw aw (λ_ _ _ h=>h) (bZ ⟨ba,?_⟩) hHeld ?_;rotate_left;focus (intro E hz;obtain⟨G,H,I⟩:=hz;go_simp;try with_reducible rfl)
     clear hHeld;refine JO (rs:=[8]) aw bc ?_;refine pS.cons aa ba (λK f=>?_) ?_;rotate_left;exact pS.nil;go_simp;have Qc:aE (au g (g.alloc (bp #[J R a,J R b,J R k] 413)).drew):=hid (au.trans (av.alloc _ _) (av.drew _));have MP:=fO g (bp #[J R a,J R b,J R k] 413);have X0:aE ((g.alloc (bp #[J R a,J R b,J R k] 413)).drew.heap[g.heap.size]?=ab (bp #[J R a,J R b,J R k] 413 (0,0))/\(g.alloc (bp #[J R a,J R b,J R k] 413)).drew.heap.size=g.heap.size+1):=hid ⟨MP,by show(g.alloc _).heap.size=_;simp⟩;clear MP;refine f.out _ _ (λ_=>n.out _ (au.to Qc.out)) ?_;clear f K;generalize (g.alloc (bp #[J R a,J R b,J R k] 413)).drew=dB at*;refine JO (rs:=[9]) aw bc ?_;refine pS.cons aa ba (λK f=>?_) ?_;rotate_left;exact pS.nil;have v7:=X0.out.2;refine wp_append_own _ (bj 28) (bj 32) 409 ba (p+1) 413 i0 _ 3 24 underlying409 Y.out.1 Y.out.2.1 Y.out.2.2.1 Y.out.2.2.2 aa ad _ k (re (iJ (l.take k))) aa (aeW C.out.2.1 (au.trans N.out Qc.out) (λ_ _ h=>h)) ⟨g.heap.size,0,af⟩ 1 1 [J R a,J R b,J R k] aa aa (atP X0.out.1) (by intro u hu;simp at hu;rcases hu with rfl|rfl|rfl<;>rfl) (by grind[eG]) ad ad ?_;intro v9 eZ S7 abZ _;obtain⟨kx,mx,rfl⟩:=aeV S7;have O:aE (av (λi=>p+1<=i/\i<wr.heap.size) g eZ):=hid ((au.to Qc.out).trans (av.of_grownBy abZ (λi e=>bZ (z'.out i e))) (λ_ _ h=>h));have X1:=hid S7;clear S7 abZ;refine f.out _ _ (λ_=>n.out _ O.out) ?_;clear f K;refine JO (rs:=[10]) aw bc ?_;refine pS.cons aa ba (λK f=>?_) ?_;rotate_left;exact pS.nil;go_simp;refine f.out _ _ (λ_=>n.out _ O.out) ?_;clear f K;refine JO (rs:=[11]) aw bc ?_;refine pS.cons aa ba (λK f=>?_) ?_;rotate_left;exact pS.nil;go_simp;refine f.out _ _ (λ_=>n.out _ O.out) ?_;clear f K;have QK:aE (eZ.heap[p]?=ab (bp #[ae s k o] 411 (0,0))):=hid (O.out.heap (N.out.heap C.out.1 (λh=>h)) ad);have FW:=pY QK.out;have n4:=free_of_one QK.out;refine JO (rs:=[12]) aw bc ?_;refine pS.cons aa ba (λK f=>?_) ?_;rotate_left;exact pS.nil;go_simp;refine f.out _ _ (λh=>absurd aa h) ?_;clear f K;refine ayw aw ?_ _;go_wp2;go_roundw
     case rel=>
      refine⟨_,ad,by go_num,hid (aqe L.out.1 abX.out P1.out),⟨_,one_setCell QK.out,?_⟩,?_⟩
      .have bF:re (iJ (l.take (k+1)))=re (iJ (l.take k))++[J R a,J R b,J R k]:=by rw[gx,L.out.1];show re (iJ (l.take k++[(a,b)]))=_;rw[apy,anA,oe,Am ad];rfl
       rw[bF];refine ownsRow_setCell_other X1.out ?_ _;intro h;have:=(wL X1.out p h).1;omega
      .exact((C.out.2.2.trans N.out (λ_ _ h=>h.elim)).trans O.out (λi _ h=>ad)).trans (av.setCell (F:=λi=>p<=i) eZ (p:=_) (b7 _) _) (λ_ _ h=>h)
     case measure=>grind[c']
  .obtain rfl:k=l.length:=ad;have hrow:=C.out.2.1;have hgd:=abX.out;rw[ll]at hrow hgd;have bW:=hid (And.intro hrow hgd)
   have Kw:aE (aC ax 307 #[ae s l.length o,dS (eu 308) #[] #[]] wr λe w'=>e=aB (bo #[])/\∃d,d.Perm (iJ l)/\d.Pairwise (λx y=>x.1.1<=y.1.1)/\nA w' s d/\av (λi=>p+1<=i) wr w'):=hid (by
    by_cases h0:l.length=0;·obtain rfl:=j8 h0;refine(axs s o _ wr).mono ?_;rintro e w' ⟨rfl,rfl⟩;exact⟨aa,[],Cc _,Hj,λh=>ad,av.refl _ _⟩
    .refine(axm (p+1) l.length o s (iJ l) wr bW.out.1 (by grind[AH]) (by grind[AH])).mono ?_;rintro e w' ⟨rfl,d,h1,z,Q,h4⟩;exact⟨aa,d,h1,z,Q,h4.mono (λi hi h=>(wL bW.out.1 i h).1)⟩);clear hrow hgd;go_wp2_with (go_at_call 307;have ca:=Kw.out;with_reducible refine ca.mono ?_;clear ca;rintro e aU ⟨rfl,d,oZ,hst,fL,nI⟩;have fk:=nI.cell nh (by show¬(p+1<=p);omega));have t:aE (d.length=l.length):=hid (by rw[oZ.length_eq,AH]);have j:=hid (And.intro oZ (And.intro hst (And.intro fL (And.intro (nI.heap C.out.1 ad) (show au w aU from((au.to X.out).trans nI (λ_ _ h=>h)).mono (λi hi h=>by rw[Hb.out]at hi;omega))))))
   have Yh:aE (∀x∈d,eX x.1/\0<x.1.2):=hid (λx hx=>by obtain⟨i,hi,_⟩:=A4.1 (oZ.mem_iff.1 hx);exact bW.out.2 _ (cW hi));clear oZ hst fL nI Kw nh;obtain⟨nT,rfl⟩:∃nT:aP,nT=wr:=⟨_,aa⟩;go_loopw [47] (λi wr=>∃k:Nat,k<=l.length/\i=J R k/\aE (∀i x y,i+1<k->d[i]?=ab x->d[i+1]?=ab y->x.1.1+x.1.2<=y.1.1)/\au aU wr) (λi _=>l.length -(c' i).toNat);case atStart=>exact⟨0,cB _,aa,hid (λi x y h=>ad),av.refl _ _⟩
   case round=>
    obtain⟨k,hk,rfl,hQ,B⟩:=hrel;have D:=hid B;have kr:=B.cell fk (λh=>h);clear B;by_cases hlt:k<l.length
    .have hb0:(k:Int)<(l.length:Int):=ad;by_cases CZ:k=0
     .subst CZ;go_wp2_with fail;go_quiet (fail);go_wp2;go_roundw;case rel=>exact⟨1,ad,by go_num,hid (λi x y h=>ad),au.trans D.out (av.drewN _ _)⟩
      case measure=>grind[c']
     .obtain⟨m,hm⟩:∃m,k=m+1:=⟨k -1,ad⟩;have Z:=hid hm;have ru:(1:Int)<=(k:Int):=ad;have hk2:0<k:=ad;have vQ:(k:Int)<=1048576:=ad;have hb2:(m:Int)<(l.length:Int):=ad;have hb3:m<l.length:=ad;have aBq:R.wrap ((k:Int) -1)=(m:Int):=by grind[IntWalk.i64_in]
      obtain⟨x,hx⟩:∃x,d[m]?=ab x:=⟨_,cF (by have:=t.out;omega)⟩;obtain⟨y,hy⟩:∃y,d[k]?=ab y:=⟨_,cF (by have:=t.out;omega)⟩;obtain⟨hC,off,rfl,hcell⟩:=(j.out.2.2.1.aH D.out) aG;have cK:=(hcell k (by have:=t.out;omega)).1;have cI:=(hcell m (by have:=t.out;omega)).1;have iQ:=(hcell m (by have:=t.out;omega)).2.1;simp only[hx,hy,vB]at cK cI iQ;have P:=hid (And.intro hx hy);have M':=(Yh.out x (cW hx)).1;obtain⟨v1,v2,v3⟩:=M'
      have n:aE (∀w',au wr w'->w'.cell? ⟨p,0,af⟩=ab (ae (ab ⟨hC,off,af⟩) l.length o)/\w'.cell? ⟨hC,off+k*3,af⟩=ab (J R y.1.1)/\w'.cell? ⟨hC,off+m*3,af⟩=ab (J R x.1.1)/\w'.cell? ⟨hC,off+m*3+1,af⟩=ab (J R x.1.2)):=
       hid (λw' h=>⟨h.cell kr (λh=>h),h.cell cK (λh=>h),h.cell cI (λh=>h),h.cell iQ (λh=>h)⟩);clear hcell hx hy cK cI iQ hm CZ;have fe:aE (∀r:Bool,decide (y.1.1<x.1.1+x.1.2)=r->True):=hid (λ_ _=>trivial);obtain⟨⟨cX,bk⟩,iw⟩:=x;obtain⟨⟨M,bx⟩,c5⟩:=y;simp only at v1 v2 v3 n P;by_cases U:M<cX+bk
      .have hd:decide (M<cX+bk)=true:=by simpa using U
       have pf:=hid U;clear U fe;go_wp2_with fail
       go_region_held3 (λw'=>w'.cell? ⟨p,0,af⟩=ab (ae (ab ⟨hC,off,af⟩) l.length o)/\w'.cell? ⟨hC,off+k*3,af⟩=ab (J R M)/\w'.cell? ⟨hC,off+m*3,af⟩=ab (J R cX)/\w'.cell? ⟨hC,off+m*3+1,af⟩=ab (J R bk))
        (first
          |exact n.out _ (av.drew _)
          |exact n.out _ T)
        (first
          |(go_at_call 117;refine(l5 cX bk _ v1 v2 v3).mono ?_;rintro e ji ⟨rfl,ha0⟩;have T:au wr ji:=au.trans (av.drew _) ha0))
       all_goals
        go_wp2;go_ret;exact⟨au.trans j.out.2.2.2.2 (au.trans D.out T),cc ⟨aa,atU j.out.1 j.out.2.1 P.out.1 (by rw[<-Z.out];exact P.out.2) pf.out⟩⟩
      .have hd:decide (M<cX+bk)=false:=by simpa using U
       have pf:aE (cX+bk<=M):=hid ad;clear U fe;go_wp2_with fail
       go_region_held3 (λw'=>w'.cell? ⟨p,0,af⟩=ab (ae (ab ⟨hC,off,af⟩) l.length o)/\w'.cell? ⟨hC,off+k*3,af⟩=ab (J R M)/\w'.cell? ⟨hC,off+m*3,af⟩=ab (J R cX)/\w'.cell? ⟨hC,off+m*3+1,af⟩=ab (J R bk))
        (first
          |exact n.out _ (av.drew _)
          |exact n.out _ T)
        (first
          |(go_at_call 117;refine(l5 cX bk _ v1 v2 v3).mono ?_;rintro e ji ⟨rfl,ha0⟩;have T:au wr ji:=au.trans (av.drew _) ha0))
       all_goals
        go_wp2;go_roundw
        case rel=>
         refine⟨k+1,ad,by go_num,hid (λi x y h h1 z=>?_),au.trans D.out T⟩;rcases Nat.lt_or_eq_of_le (show i<=m by have:=Z.out;omega)with Q|Q;·exact hQ.out i x y (by have:=Z.out;omega) h1 z
         .subst Q;rw[P.out.1]at h1;rw[<-Z.out,P.out.2]at z;cases h1;cases z;exact pf.out
        case measure=>grind[c']
    .obtain rfl:k=l.length:=ad;have eh:aE (j4 d):=hid (aqd j.out.2.1 Yh.out (λi x y h1 z=>hQ.out i x y (by have Q:=(eM.1 z).1;have:=t.out;omega) h1 z));go_wp2;go_ret;have Fj:QQ p wr p d:=⟨s,o,by rw[t.out];exact D.out.heap j.out.2.2.2.1 (λh=>h),j.out.2.2.1.aH D.out,by rw[t.out];exact gA,b7 _,λb off e=>by subst e;have:=(wL bW.out.1 b aa).1;omega⟩;refine⟨au.trans j.out.2.2.2.2 D.out,bZ ?_⟩
     first
      |exact⟨p,d,aa,j.out.1,eh.out,Fj⟩
      |exact⟨p,d,aa,j.out.1,eh.out,by rw[Hb.out];exact Fj⟩
      |exact⟨p,rfl,d,j.out.1,eh.out,Fj⟩
def atN A c l w(a:kS w A l)(d:∀e∈l,rB e)(b:l.length<=1048576)(hr:As l):
 aC ax 251 #[ae A l.length c] w λe w'=>∃p S,e=aB (ay (ab ⟨p,0,af⟩))/\S.Perm (iJ l)/\j4 S/\QQ w.heap.size w' p S/\au w w':=
 by grind[atM,absurd,aaH]
section
open Go.RowKit Go.MapKept
section
variable {P:ew} {α:Type} {encs:α->Array aO} {aq:aP} {FX:Nat->Prop} {lb:Array aO} {g:Nat}
def ami(P:ew)(l:Nat)(encs:α->Array aO)(aq:aP)(FX:Nat->Prop)(S d:List α->bu->Prop)(c:List α->Prop)(L:α->bu):Prop:=
 ∀pre x W F t,c (pre++[x])->S pre t->ak aq FX W [t,both (L x) F]->YieldAt (Fr af) 0 P l (encs x) W λe b=>(e=aB (ai az)/\∃a,S (pre++[x]) a/\ak aq FX b [a,both (L x) F])\/(e=aB (ai ao)/\∃a,d (pre++[x]) a/\ak aq FX b [a,both (L x) F])
def w0(aq:aP)(FX:Nat->Prop)(S d:List α->bu->Prop)(f:bu->Prop)(c Fin:List α->Prop)(F:bu)(e:Ending)(b:aP):Prop:=
 (∃v,e=aB v)/\((∃xs a u,Fin xs/\S xs a/\f u/\ak aq FX b [a,u,F])\/∃pre a u,c pre/\d pre a/\ak aq FX b [a,u,F])
def w0.all{S e a c Fin}{xs:List α}{F t u v b}(h:Fin xs)(f:S xs t)(g:a u)(d:ak aq FX b [t,u,F]):w0 aq FX S e a c Fin F (aB v) b:=⟨⟨_,aa⟩,bZ ⟨_,_,_,h,f,g,d⟩⟩
theorem w0.cut{S b e a Fin}{pre:List α}{F t u v c}(g:a pre)(f:b pre t)(d:ak aq FX c [t,u,F]):w0 aq FX S b e a Fin F (aB v) c:=⟨⟨_,aa⟩,cc ⟨_,_,_,g,f,d⟩⟩
def LB(P:ew)(g:Nat)(lb:Array aO)(encs:α->Array aO)(aq:aP)(FX:Nat->Prop)(T:bu)(c:bu->Prop)(a Fin:List α->Prop)(L:α->bu):Prop:=
 ∀(l:Nat) (S b:List α->bu->Prop) (W:aP) (F t:bu),ami P l encs aq FX S b a L->S [] t->ak aq FX W [T,t,F]->
  aC P g (#[dS (wz l) #[] #[]]++lb) W (w0 aq FX S b c a Fin F)
def ag8 {K:Operand} {ps:Array Tmp} {assign body:Code} {Q:Exit->b3->aP->Prop} {r:Array aO} {ds:List Deferred} {w:aP} {A Fin:List α->Prop} {L:α->bu} {T:bu} {H:bu->Prop} {t F:bu} {jt:α->Array aO}
 (hg:(Act.mk r ds).eval K=dS (eu g) #[] lb) (gE:∀args w,(kB g args).run P w=bf (.enter g args) w) (ss:∀x,(encs x).size=ps.size) (hseq:LB P g lb encs aq FX T H A Fin L)
 (S:List α->bu->Prop) (hB:Code->List α->bu->Prop) (h0:S [] t) (I:ak aq FX w [T,t,F])
 (Tb:∀(l:Nat) (rd:Loop) (pre:List α) (x:α) (W:aP) (t F:bu),A (pre++[x])->rd.state=kz->S pre t->ak aq FX W [t,obj l (gh rd),both (L x) F]->
   assign.wpIn (Fr (ab l)) 0 P (Exit.then (λJ w1=>∃z,(Instr.beginRound l).run P w1=bf () z/\body.wpIn (Fr (ab l)) 0 P (afJ aq FX S hB (pre++[x]) (obj l (gh {rd with state:=sV})) (both (L x) F)) J z) (λ_ _ _=>False))
    {tmps:=jt x,defers:=[]} W)
 (hdone:∀D xs t u W,Fin xs->S xs t->H u->ak aq FX W [t,u,obj D (kA (ab [])),F]->Q .normal {tmps:=r,defers:={target:=D4 D,args:=#[]}::ds} W)
 (Td:∀D c pre t u W,A pre->hB c pre t->ak aq FX W [t,u,obj D (kA (ab [])),F]->c.wp P Q {tmps:=r,defers:={target:=D4 D,args:=#[]}::ds} W)
 (hat:∀x,(ps.zip (encs x)).foldl (λt (p,v)=>t.setIfInBounds p v) r=jt x:=by(intro _;simp only[List.zip_toArray,List.zip_cons_cons,List.zip_nil_right,List.foldl_toArray',List.size_toArray,List.foldl_cons,List.foldl_nil,List.setIfInBounds_toArray,List.set_cons_succ,List.set_cons_zero];rfl)):
 (Code.rangeFunc K ps assign body).wp P Q {tmps:=r,defers:=ds} w:=by
 refine(yn (n:=0)).1 (wpIn_rangeFunc ?_);intro fn hfn;obtain⟨a,m⟩:∃a:LoopState->Option Code->Loop,a=λst aI=>{state:=st,pending:=aI,fn,tmps:=r,params:=ps,assign,body,defers:=w.heap.size}:=⟨_,aa⟩;obtain⟨D,M⟩:=ex w.heap.size;obtain⟨l,R⟩:=ex ((w.alloc (kA (ab []))).heap.size);have V:=I.newObj (kA (ab []));have C:=V.newObj (gh (a kz af));have SO:l=w.heap.size+1:=by rw[<-R];simp
 rw[R,M]at C;obtain⟨j,N⟩:=ex ((w.alloc (kA (ab []))).alloc (gh (a kz af)));rw[N]at C
 refine⟨l,[{target:=D4 D,args:=#[]}],j,{target:=.fn (eu g) lb,args:=#[dS (wz l) #[] #[]]},j,g,
  #[dS (wz l) #[] #[]]++lb,j,?_,?_,?_,?_,λh=>(by cases h),?_⟩;·rw[<-N,m,SO,<-M];exact run_enterLoop_outer _ _ _ _ _
 .simp only[resolve,hg];simp[go_sem]
 .intro _ _;trivial
 .grind[invoke]
 .refine callsIn_wide.2 ((hseq l (λpre t=>∃t2,S pre t2/\t=both t2 (obj l (gh (a kz af)))) (λpre t=>∃t2 c,hB c pre t2/\t=both t2 (obj l (gh (a .done (ab c))))) j (both (obj D (kA (ab []))) F) _ ?_ ⟨t,h0,aa⟩ ?_).mono ?_)
  .rintro pre x W VJ _ G ⟨t2,s,rfl⟩ hst;obtain⟨B,E⟩:=ex (both (L x) VJ);rw[E]at hst⊢;have h1:=hst.fw;have C4:=h1.obj 1;have U:=run_yield (P:=P) (args:=encs x) C4 aG;rw[m]at U;refine⟨fn,_,assign,body,U,roundIn_of_wpIn hfn (wpIn_mono ((hat x).symm▸(E▸Tb l (a kz af) pre x W t2 VJ G aG s (E.symm▸h1))) ?_)⟩;rintro e J w1 O;cases e with
   |normal=>
    obtain⟨z,hb,Y⟩:=O;refine⟨z,hb,wpIn_mono Y ?_⟩
    have fin:∀(f:Option Code) (i:aP) (t3:bu),ak aq FX i [t3,obj l (gh {a kz af with state:=sV}),B]->(Instr.endRound l f).run P i=bf (ai f.isNone) (i.putObj l (gh (a (if f.isNone then kz else .done) f)))/\
     ak aq FX (i.putObj l (gh (a (if f.isNone then kz else .done) f))) [both t3 (obj l (gh (a (if f.isNone then kz else .done) f))),B]:=λf i t3 d=>by
     have hr:=run_endRound (P:=P) f (d.obj 1);have b:ak aq FX _ [t3,obj l (gh (a (if f.isNone then kz else .done) f)),B]:=d.putObj 1 (gh (a (if f.isNone then kz else .done) f)) aa;refine⟨?_,b.star⟩;rw[hr,m]
    rintro e a3 i o;cases e with
    |normal=>
     obtain⟨t3,hs3,d⟩:=o;obtain⟨hr,b⟩:=fin af i t3 d;exact⟨_,_,hr,bZ ⟨aa,_,⟨t3,hs3,aa⟩,b⟩⟩
    |ret=>
     obtain⟨t3,hs3,d⟩:=o;obtain⟨hr,b⟩:=fin (ab .ret) i t3 d;exact⟨_,_,hr,cc ⟨aa,_,⟨t3,_,hs3,aa⟩,b⟩⟩
    |exit id=>
     obtain⟨t3,hs3,d⟩:=o;obtain⟨hr,b⟩:=fin (ab (.exit id)) i t3 d;exact⟨_,_,hr,cc ⟨aa,_,⟨t3,_,hs3,aa⟩,b⟩⟩
    |goto q=>
     obtain⟨t3,hs3,d⟩:=o;obtain⟨hr,b⟩:=fin (ab (.goto q)) i t3 d;exact⟨_,_,hr,cc ⟨aa,_,⟨t3,_,hs3,aa⟩,b⟩⟩
    |panic ch=>exact o.elim
    |outgrown=>exact o.elim
   |_=>exact O.elim
  .have k:ak aq FX j [obj l (gh (a kz af)),obj D (kA (ab [])),T,t,F]:=C;have d:ak aq FX j [t,obj l (gh (a kz af)),obj D (kA (ab [])),F,T]:=k.pick [3,0,1,4,2];have b:ak aq FX j [obj D (kA (ab [])),F,T,both t (obj l (gh (a kz af)))]:=d.star.pick [1,2,3,0];exact b.star.pick [1,2,0]
  .rintro e y ⟨⟨v,rfl⟩,(⟨xs,_,u,Z,⟨t2,s,rfl⟩,X,hst⟩|⟨pre,_,u,G,⟨t2,c,s,rfl⟩,hst⟩)⟩;·have h1:ak aq FX y [t2,obj l (gh (a kz af)),u,both (obj D (kA (ab []))) F]:=hst.fw;have k:ak aq FX y [obj D (kA (ab [])),F,t2,obj l (gh (a kz af)),u]:=(h1.pick (l':=[both (obj D (kA (ab []))) F,t2,obj l (gh (a kz af)),u]) [3,0,1,2]).fw;have d:=k.putObj 3 (gh {a kz af with state:=GG}) aa;refine⟨af,_,by have:=PO (P:=P) (k.obj 3) aG;rw[m]at this;exact this,?_⟩;have b:=hdone D xs t2 u _ Z s X ((ak.pick (l:=[obj D (kA (ab [])),F,t2,obj l (gh {a kz af with state:=GG}),u]) d [2,4,0,1]));rw[m]at b;exact b
   .have h1:ak aq FX y [t2,obj l (gh (a .done (ab c))),u,both (obj D (kA (ab []))) F]:=hst.fw;have k:ak aq FX y [obj D (kA (ab [])),F,t2,obj l (gh (a .done (ab c))),u]:=(h1.pick (l':=[both (obj D (kA (ab []))) F,t2,obj l (gh (a .done (ab c))),u]) [3,0,1,2]).fw;have d:=k.putObj 3 (gh {a .done (ab c)with state:=GG}) aa;refine⟨ab c,_,by have:=PO (P:=P) (k.obj 3) aG;rw[m]at this;exact this,?_⟩;have b:=Td D c pre t2 u _ G s ((ak.pick (l:=[obj D (kA (ab [])),F,t2,obj l (gh {a .done (ab c)with state:=GG}),u]) d [2,4,0,1]));rw[m]at b;exact(yn (n:=0)).2 b
end
end
open Go.RowKit Go.MapKept
def AJ(E:List (Int×Int))(p:Int×Int->Bool):Int:=match E.findIdx? p with|some k=>(k:Int)|none=>-1
def apJ E p:decide (0<=AJ E p)=E.any p:=by grind[AJ]
def asy A (c g:Nat) lb E p w (cd:E.length<=1073741824) (t:kS w A E) (o:∀args w,(kB g args).run ax w=bf (.enter g args) w)
 (hp:∀x W,x∈E->au w W->aC ax g (#[ar #[J R x.1,J R x.2]]++lb) W λe w'=>e=aB (ai (p x))/\au W w'):
 aC ax 300 #[ae A E.length c,dS (eu g) #[] lb] w λe w'=>e=aB (J R (AJ E p))/\au w w':=by
 have B:=hid o;have D:=hid hp;have C:=hid t;clear t o hp;go_enter func300,ntmps300;have a:=a8 w;go_step;refine ah ?_;refine ag ?_;refine ah ?_;refine v3 ?_;refine an ?_;go_wp2_with fail;go_loopw [8] (λl wr=>∃j:Nat,j<=E.length/\l=J R (j:Int)/\(∀(i:Nat) (x:Int×Int),i<j->E[i]?=ab x->p x=ao)/\ak w (λ_=>False) wr []) (λl wr=>E.length -(bR l).toNat);case atStart=>grind
 case round=>
  clear a;obtain⟨j,I,rfl,r,a⟩:=hrel;by_cases hlt:j<E.length
  .have G:(j:Int)<(E.length:Int):=ad;obtain⟨x,hx⟩:∃x,E[j]?=ab x:=⟨_,cF hlt⟩;obtain⟨b,d,q,s⟩:=C (show 0<E.length by omega);obtain⟨hc1,hc2⟩:=s j hlt;rw[hx]at hc1 hc2;obtain⟨jf,u⟩:=ex (p x);have H:=cW hx;have F:aE (∀W,au w W->W.rangeAt b (d+j*2) [J R x.1,J R x.2]):=hid (λW g i v hi=>by grind[HC]);have n:=hid hx;have f:=hid u;have m:=hid r;have z:=hid q;clear hx u r s q hc1 hc2;go_step;refine ah ?_;refine ag ?_;refine ah ?_;refine v2 ?_;refine jk ?_;refine aI (ay (ab ⟨b,(d+j*2),af⟩)) (b4 176 35 2 (bj 12) (bj 13) aa underlying176 aw b d (E.length) c j ((d+j*2)) (by show ae A _ _=_;rw[z]) aa hlt aa) ?_;refine aI _ (by(refine e5 35 _ aa b _ aa _ (F _ a.only) Tryz.underlying35 aa aw)) ?_;refine bH ((by have h:=D.out x _ H a.only;rw[f.out]at h;exact h)) a (λw1 a=>?_) (hr:=by(go_simp;exact B _ _));refine an ?_;cases jf with
   |true=>
    refine ah ?_;refine eg ?_;go_wp2_with fail;go_ret;exact⟨by rw[show AJ E p=(j:Int)from by unfold AJ;rw[show E.findIdx? p=ab j from Mk n f m]];rfl,a.only⟩
   |false=>
    refine ah ?_;refine pad (j:Int) 1 ((j+1:Nat):Int) ?_;refine bU ?_;go_wp2_with fail;go_roundw;case rel=>exact⟨j+1,ad,rfl,λi y hi k=>by rcases vz.1 hi with h|rfl;exact m i y h k;rw[n]at k;cases k;exact f,a⟩
    case measure=>simp[bR]<;>omega
  .have G:¬(j:Int)<(E.length:Int):=ad;obtain rfl:j=E.length:=ad;go_step;refine ah ?_;refine ag ?_;refine ah ?_;refine ag ?_;refine an ?_;go_wp2_with fail;go_ret;exact⟨by rw[show AJ E p=-1 from by grind[AJ,Mj]];rfl,a.only⟩
def an3 A (c g:Nat) lb E p w (cd:E.length<=1073741824) (j:kS w A E) (i:∀args w,(kB g args).run ax w=bf (.enter g args) w)
 (hp:∀x W,x∈E->au w W->aC ax g (#[ar #[J R x.1,J R x.2]]++lb) W λe w'=>e=aB (ai (p x))/\au W w'):
 aC ax 247 #[ae A E.length c,dS (eu g) #[] lb] w λe w'=>e=aB (ai (E.any p))/\au w w':=by
 have f:=hid (λW (g2:au w W)=>asy A c g lb E p W cd (j.aH g2) i (λx m hx n=>hp x m hx (au.trans g2 n)));have d:=apJ E p;obtain⟨q,k⟩:=ex (AJ E p);obtain⟨b,hb⟩:=ex (E.any p);rw[k]at f d;rw[hb]at d⊢;have l:=hid d;clear j i hp k hb d;go_enter Tryz.func247,Tryz.ntmps247;have a:=a8 w;go_step;refine ah ?_;refine kf ?_;refine bH (f.out _ a.only) a (λw1 a=>?_);refine aI (ai b) (by(have h:=l.out;go_simp;try exact h)) ?_;refine bU ?_;go_wp2_with fail;go_ret;exact⟨aa,a.only⟩
def avC b'(s x)w(h1:eX s)(i:eX x)(hb:aX w b' #[J R s.1,J R s.2] 35):
 aC ax 248 #[ar #[J R x.1,J R x.2],ay (ab ⟨b',0,af⟩)] w λe w'=>e=aB (ai (meets s x))/\au w w':=by
 obtain⟨a,b⟩:=s;obtain⟨c,d⟩:=x;obtain⟨n,g⟩:=ex (meets (a,b) (c,d));obtain⟨⟨gr,k⟩,ho⟩:∃z,mh (a,b) (c,d)=z:=⟨_,aa⟩;have h:=hid (λW=>NQ a b c d W h1 i);rw[g,ho]at h;rw[g];have j:=hid hb;clear g ho hb h1 i;go_enter Tryz.func248,ntmps248;have f:=a8 w;go_step;refine ah ?_;refine bL f (ar #[J R c,J R d]) (λl w1 f=>?_);refine ed ?_;refine aI (ar #[J R a,J R b]) (mG (cs':=#[J R a,J R b]) aa aa (aX.aH j.out f.only) aw (of_decide_eq_true aw) aw aw) ?_;refine bh f 0 #[J R c,J R d] ?_;refine bH (h _) f (λo f=>?_);refine v3 ?_;refine bn f #[J R 0,J R 0] (λm p f=>?_);refine bb f 0 (ar #[J R gr,J R k]) (λq f=>?_);refine ag ?_;refine ah ?_;refine eg ?_;go_wp2_with fail;go_ret;exact⟨aa,f.only⟩
def F8(m:bO)(E:List (Int×Int)):Bool:=decide (m.k=1)&&E.any (λe=>meets (m.fr,m.n) e)
def avD(A f)(c i)m E w(hv:gJ m)(cd:E.length<=1048576)(p:kS w A E)(q:∀e∈E,eX e):
 aC ax 173 #[nC m f i,ae A E.length c] w λe w'=>e=aB (ai (F8 m E))/\au w w':=by
 have v:=hid p;have z:=hid q;by_cases hk:m.k=1
 .obtain⟨mk,o,b,d,l⟩:=m;simp only at hk;subst hk;have C:eX (b,d):=by rcases hv with⟨_,_,h,_⟩|⟨h,_⟩;exact h;cases h
  have j:aE (F8 ⟨1,o,b,d,l⟩ E=E.any (λe=>meets (b,d) e)):=hid ba;have s:aE (∀W b',au w W->aX W b' #[J R b,J R d] 35->aC ax 247 #[ae A E.length c,dS (eu 248) #[] #[ay (ab ⟨b',0,af⟩)]] W λe w'=>e=aB (ai (E.any (λe=>meets (b,d) e)))/\au W w'):=hid (λW b' g hb=>an3 A c 248 _ E (λe=>meets (b,d) e) W ad (v.out.aH g) (lG Tryz.func248 aw aa) (λx B hx g2=>avC b' (b,d) x B C (z x hx) (aX.aH hb g2)));obtain⟨D,t⟩:=ex (E.any (λe=>meets (b,d) e));rw[t]at j s;clear t hv p q;go_enter Tryz.func173,Tryz.ntmps173;have a:=a8 w;go_step;refine ah ?_;refine bL a (ar #[J R 1,J R o,J R b,J R d,ae f l.length i]) (λu w1 a=>?_);refine ed ?_;refine bh a 0 #[J R 1,J R o,J R b,J R d,ae f l.length i] ?_;refine bH (Bn o b d f l.length i _) a (λF a=>?_);refine v3 ?_;refine bn a #[J R 0,J R 0] (λr G a=>?_);refine bb a 0 (ar #[J R b,J R d]) (λH a=>?_);refine zP ?_;refine bH (s.out _ r a.only (a.aV 0)) a (λI a=>?_);refine pk (ai D) ?_;refine bU ?_;go_wp2_with fail;go_ret;exact⟨by rw[j];rfl,a.only⟩
 .have j:aE (F8 m E=ao):=hid (by grind[F8]);have y:=hid (λW=>Bo m.k m.to m.fr m.n f m.data.length i W hk);clear hv p q hk;go_enter Tryz.func173,Tryz.ntmps173;have a:=a8 w;go_step;refine ah ?_;refine bL a (ar #[J R m.k,J R m.to,J R m.fr,J R m.n,ae f m.data.length i]) (λu K a=>?_);refine ed ?_;refine bh a 0 #[J R m.k,J R m.to,J R m.fr,J R m.n,ae f m.data.length i] ?_;refine bH (y _) a (λL a=>?_);refine v3 ?_;refine bn a #[J R 0,J R 0] (λr M a=>?_);refine bb a 0 (ar #[J R 0,J R 0]) (λN a=>?_);refine kf ?_;iterate 3 refine ps ?_
  refine pk (ai ao) ?_;refine bU ?_;go_wp2_with fail;go_ret;exact⟨by rw[j];rfl,a.only⟩
def zD(ms:List bO)(i:Nat):Bool:=match ms[i]? with|some m=>F8 m ((ms.take i).map cm)|none=>ao
def sD(ms:List bO):Nat:=(dU ms.length).findIdx (zD ms)
def avh{ms j}(h:j<ms.length)(h1:zD ms j=az)(b:∀i,i<j->zD ms i=ao):sD ms=j:=by unfold sD;have a:j<(dU ms.length).length:=aG;refine(List.findIdx_eq a).2 ⟨aG,λk hk=>aG⟩
def avg{ms}(h:∀i,i<ms.length->zD ms i=ao):sD ms=ms.length:=by grind[sD,List.length_range]
def Zr E x:mz (E++[x])=mz E++[J R x.1,J R x.2]:=by simp[mz]
abbrev ED:=Nat×Option bT×Nat
def ud(ms:List bO)(l:List ED):Prop:=l.map (·.1)=dU l.length/\l.length<=ms.length
def ud.snoc{ms l j A c}(h:ud ms l)(a:l.length=j)(b:j<ms.length):ud ms (l++[(j,A,c)]):=by subst a;refine⟨?_,aG⟩;rw[fR,h.1,db,yH,ta];rfl
def ud.last{ms l x}(h:ud ms (l++[x])):x.1=l.length/\l.length<ms.length:=by obtain⟨h1,a⟩:=h;rw[fR,db,yH,ta]at h1;grind[List.append_inj_right']
def I6(ms:List bO)(x:ED):bu:=bg x.2.1 x.1 x.2.2 35 2 (mz ((ms.take x.1).map cm))
def axA de A c ms aq FX(Q:∀W,av FX aq W->cZ W A ms)(eR:ms.length<=1048576):
 LB ax 246 #[ay (ab ⟨de,0,af⟩)] (λx:ED=>#[J R (x.1:Int),ae x.2.1 x.1 x.2.2]) aq FX (aj de #[ae A ms.length c] 24) (λ_=>True) (ud ms) (λl=>ud ms l/\l.length=ms.length) (I6 ms):=by
 intro l S hB W F t N z a;have w:=hid Q;go_enter Tryz.func246,ntmps246;go_step;refine ah ?_;refine ag ?_;refine an ?_;go_step;refine ah ?_;refine pl a 0 0 ?_;iterate 2 refine ag ?_
 refine an ?_;replace a:=a.new (bg _ 0 0 35 2 []) ⟨av.refl _ _,Row.nil _ _ _ _,λb ⟨_,_,e⟩=>aG⟩;go_wp2_with fail;go_loopw [3,8] (λH r wr=>∃(j:Nat) (aL:Option bT) (c2:Nat) (pre:List ED) (t:bu),j<=ms.length/\pre.length=j/\aE (ud ms pre)/\H=ae aL j c2/\r=J R (j:Int)/\S pre t/\ak aq FX wr [bg aL j c2 35 2 (mz ((ms.take j).map cm)),aj de #[ae A ms.length c] 24,t,F]) (λH r wr=>ms.length -(bR r).toNat);case atStart=>exact⟨0,_,0,[],t,cB _,aa,hid ⟨aa,cB _⟩,aa,aa,z,a⟩
 case round=>
  clear a z;obtain⟨j,aL,c2,pre,t,hj,hpl,s,rfl,rfl,C,a⟩:=hrel;by_cases hlt:j<ms.length
  .have T:(j:Int)<(ms.length:Int):=ad;obtain⟨m,i⟩:∃m,ms[j]?=ab m:=⟨_,cF hlt⟩;obtain⟨y,U,_,_,B,_⟩:=cZ.LR w.out a.only i
   have L:aE (∀W,av FX aq W->∃d f,W.rangeAt y (U+j*5) [J R m.k,J R m.to,J R m.fr,J R m.n,ae d m.data.length f]):=hid (λW g=>by obtain⟨dY,eT,aL,c2,h1,h2⟩:=cZ.LR w g i;grind);obtain⟨d,f,E⟩:=L _ a.only;have D:=s.out.snoc (A:=aL) (c:=c2) hpl hlt;have p:=hid D;have O:aE ((ms.take (j+1)).map cm=(ms.take j).map cm++[cm m]):=hid (by grind[gx]);have Z:=hid i;have I:=hid B;have K:=hid E;have M:aE ((pre++[(j,aL,c2)]).length=j+1):=hid aG;clear i B E D;go_step;refine ah ?_;refine ag ?_;refine an ?_;go_step;refine ah ?_;refine ag ?_;refine aI _ (b4 24 73 5 _ _ aa ey ba _ _ _ _ _ _ (by show ae A _ _=_;rw[I]) aa hlt aa) ?_;refine aI _ (by(refine e5 73 _ aa y _ aa _ K.out gi aa ba)) ?_;refine bn a #[J _ 0,J _ 0,J _ 0,J _ 0,ae _ 0 0] (λY w1 a=>?_);refine ag ?_;refine bb a 0 (ar _) (λaU a=>?_);refine an ?_;replace a:=a.pick (l':=[bg aL j c2 35 2 _,aj _ _ 73,aj de _ 24,t,F]) [1,0,2,3,4];go_step;refine cx ?_;refine Ox 3 ?_;iterate 3 refine ag ?_
   refine an ?_;have v:=(a.pick (l':=[t,bg aL j c2 35 2 _,aj _ _ 73,aj de _ 24,F]) [3,0,1,2,4]).Hy;refine JR (N _ _ _ _ _ p C v) (λb bI hb=>?_) (λ_ _ P=>P.elim (λh=>⟨_,h.1⟩) (λh=>⟨_,h.1⟩)) (HP aa aa (by simp only[pj,kj,lJ];rfl));clear v a;rcases JG hb with⟨rfl,o,q,a⟩|⟨rfl,o,q,a⟩
   .clear hb;replace a:ak _ _ _ [o,bg aL j c2 35 2 (mz ((ms.take j).map _)),aj _ _ 73,aj de _ 24,F]:=a.xW;refine wg ?_;refine ag ?_;refine an ?_;go_step;refine ah ?_;refine ag ?_;refine bh a 2 #[J R m.k,J R m.to,J R m.fr,J R m.n,ae d m.data.length f] ?_;refine aR (uZ m.k m.to m.fr m.n d _ f _) ?_;rintro e b9 ⟨rfl,g⟩;replace a:=a.aH g;refine aT ?_;refine e' a #[J R m.to,J R (cD m)] 35 (λX cE a=>?_);refine kd (m:=1) a 2 16 (aX.cellsOf (m:=1) (a.aV 0) aa) (by intro u G;simp only[gD,fS,or_false]at G;rcases G with rfl|rfl<;>rfl) (λV Zi cV a=>?_) (hby:=by omega);refine ag ?_;refine an ?_;go_step;refine ah ?_;refine aI _ (mw 3 _ _ 3 aa _ 1 ((j+1:Nat):Int) aa aa ad ad ad) ?_;refine ag ?_;refine an ?_;go_wp2_with fail;go_roundw;case rel=>exact⟨_,_,_,_,_,ad,M,p,aa,aa,q,by rw[O,Zr];exact a.pick [2,4,1,5]⟩
    case measure=>grind[bR]
   .clear hb;replace a:ak _ _ _ [o,bg aL j c2 35 2 (mz ((ms.take j).map _)),aj _ _ 73,aj de _ 24,F]:=a.xW;refine wg ?_;refine ag ?_;refine an ?_;go_wp2_with fail;first|go_end0|refine bodyPost_ret (results_none rfl _ _ _) rfl ?_
    exact w0.cut p q (((a.pick (l':=[aj de _ 24,bg aL j c2 35 2 _,o,F]) [3,1,0,4]).fP 2).pick [1,0,2])
  .have T:¬(j:Int)<(ms.length:Int):=ad;go_step;refine ah ?_;refine ag ?_;refine an ?_;go_wp2_with fail;first|go_end0|refine bodyPost_ret (results_none rfl _ _ _) rfl ?_
   exact w0.all (Fin:=λl=>ud ms l/\l.length=ms.length) ⟨s,ad⟩ C trivial (((a.pick (l':=[aj de _ 24,bg aL j c2 35 2 _,t,F]) [1,0,2,3]).fP 2).pick [1,0,2])
def axw A(n c)w:
 aC ax 172 #[ae A n c] w λe w'=>∃de,e=aB (dS (eu 246) #[] #[ay (ab ⟨de,0,af⟩)])/\cj w w' (aj de #[ae A n c] 24):=by
 go_enter func172,ntmps172;have a:=a8 w;go_step;refine ah ?_;refine bL a (ae A n c) (λb w1 a=>?_);refine ag ?_;refine ah ?_;refine eg ?_;go_wp2_with fail;go_ret;exact⟨_,aa,a.fresh 0⟩
def prefix_at A c ms w(v:cZ w A ms)(hv:∀m∈ms,gJ m)(eR:ms.length<=1048576):
 aC ax 84 #[ae A ms.length c] w λe w'=>e=aB (J R (sD ms:Int))/\au w w':=by
 have Y:=hid v;have I:=hid hv;have s:∀de,LB ax 246 #[ay (ab ⟨de,0,af⟩)] (λx:ED=>#[J R (x.1:Int),ae x.2.1 x.1 x.2.2]) w (λ_=>False) (aj de #[ae A ms.length c] 24) (λ_=>True) (ud ms) (λl=>ud ms l/\l.length=ms.length) (I6 ms):=λde=>axA de A c ms w _ (λW g=>v.aH g) eR;clear v hv;refine Cy func84 aa ?_;simp only[ntmps84,iY,jV,mT,qI,qJ,q4,q1,l0,p4];have a:=a8 w;go_upto_region 0 with fail;refine cy ?_;refine bL a (ae A ms.length c) (λd w1 a=>?_);refine bn a #[J R 0] (λf aU a=>?_);refine an ?_;go_upto_region 1 with fail;refine cy ?_;refine pl a 1 0 ?_;refine aR (axw A _ c _) ?_;rintro e bI ⟨U,rfl,Z⟩;replace a:=a.new _ Z;refine aT ?_;refine an ?_;go_wp2_with fail;have H:ak _ _ _ [aj U #[ae A ms.length c] 24,bY [aj d #[ae A ms.length c] 24,aj f #[J R 0] 3],bY []]:=ak.EJ (a.pick [0,2,1]);refine ag8 (encs:=(λx:ED=>#[J R (x.1:Int),ae x.2.1 x.1 x.2.2])) aa (lG Tryz.func246 ba aa) (λ_=>aa) (s _) (λpre t=>aE (∀i,i<pre.length->zD ms i=ao)/\t=bY _) (λbt pre t=>(match bt with|.ret=>∃j:Nat,aE (sD ms=j)/\t=bY [aj d #[ae A ms.length c] 24,aj f #[J R (j:Int)] 3]|_=>False)) (⟨hid (λi hi=>absurd hi (Ao _)),aa⟩) H ?_ ?_ ?_;all_goals clear H a
 .rintro l rd pre ⟨j,aL,c2⟩ W t F P qq ⟨p,rfl⟩ a;obtain⟨hx1,fq⟩:=ud.last P;simp only at hx1;have z:j<ms.length:=ad;have K:=hid hx1;clear hx1 fq;replace a:=a.lX;repeat((fail_if_success (with_reducible refine at_region ?_));gi_step)
  refine kv ?_;refine ag ?_;refine an ?_;repeat((fail_if_success (with_reducible refine at_region ?_));gi_step)
  refine kv ?_;refine ag ?_;refine an ?_;first|refine wpIn_skip ?_|skip
  simp only[Exit.then];refine Cs a 2 qq (λb9 a=>?_);replace a:ak _ _ _ [aj d #[ae A ms.length c] 24,aj f #[J R 0] 3,obj l (gh {rd with state:=sV}),both (I6 ms (j,aL,c2)) F]:=a;replace a:=(a.pk [3,0,1,2]).fw;obtain⟨m,B⟩:∃m,ms[j]?=ab m:=⟨_,cF z⟩;obtain⟨L,T,o,q,M,_,N⟩:=cZ.jt Y.out B;have S:=I.out m (cW B);have Q:zD ms j=F8 m ((ms.take j).map cm):=by grind[zD]
  have O:((ms.take j).map cm).length=j:=aG
  have G:aE (∀W,Row 0 W aL j c2 35 2 (mz ((ms.take j).map cm))->aC ax 173 #[ar #[J R m.k,J R m.to,J R m.fr,J R m.n,ae o m.data.length q],ae aL j c2] W λe w'=>e=aB (ai (zD ms j))/\au W w'):=hid (λW hr=>by
   obtain⟨_,hs⟩:=Row.UJ hr
   have h:=avD aL o c2 q m ((ms.take j).map cm) W S ad hs (λe he=>by obtain⟨y,hy,rfl⟩:=gQ.1 he;have:=(I.out y (List.mem_of_mem_take hy)).cm;exact⟨this.1,Es this.2.1,this.2.2⟩);rw[O,<-Q]at h;exact h);have X:=hid N;have V:=hid M;obtain⟨Jn,C⟩:=ex (zD ms j);rw[C]at G;have E:=hid C;clear B M N S Q O C s;repeat((fail_if_success (with_reducible refine at_region ?_));gi_step)
  refine kv ?_;refine pl a 2 0 ?_;refine ag ?_;refine aI (ay (ab ⟨L,(T+j*5),af⟩)) (b4 24 73 5 (bj 9) (bj 10) aa ey ba _ _ _ _ _ _ (by show ae A _ _=_;rw[V.out]) aa z aa) ?_;refine aI (ar #[J R m.k,J R m.to,J R m.fr,J R m.n,ae o m.data.length q]) (by(refine e5 73 (bj 11) aa L (T+j*5) aa ([J R m.k,J R m.to,J R m.fr,J R m.n,ae o m.data.length q]:List aO) (X.out _ a.only) gi aa ba)) ?_;refine ag ?_;refine aR (G.out _ (a.atR 0)) ?_;rintro e cE ⟨rfl,g⟩;replace a:=a.aH g;refine aT ?_;refine an ?_;cases Jn with
  |false=>
   replace a:=(a.pk [0,1,2,3,4]).star;repeat gi_step
   have b:=a.pk [1,2,3,0];replace b:ak _ _ _ [bY [aj d #[ae A ms.length c] 24,aj f #[J R 0] 3],obj l (gh {rd with state:=sV}),both (I6 ms (j,aL,c2)) F]:=b.fP 2;refine⟨_,?_,b⟩;exact⟨hid (λi hi=>by rw[db,yH]at hi;rcases vz.1 hi with h|h;exact p.out i h;rw[h,<-K.out];exact E.out),aa⟩
  |true=>
   repeat((fail_if_success (with_reducible refine at_region ?_));gi_step)
   refine kv ?_;refine ag ?_;refine bb a 3 (J R (j:Int)) (λcV a=>?_);refine an ?_;replace a:=(a.pk [0,1,2,3,4]).star;repeat gi_step
   have b:=a.pk [1,2,3,0];replace b:ak _ _ _ [bY [aj d #[ae A ms.length c] 24,aj f #[J R (j:Int)] 3],obj l (gh {rd with state:=sV}),both (I6 ms (j,aL,c2)) F]:=b.fP 2;refine⟨_,?_,b⟩;exact⟨j,hid (avh z E.out (λi hi=>p.out i (by rw[<-K.out];exact hi))),aa⟩
 .rintro D xs t u W iM ⟨p,rfl⟩ hu a;replace a:=a.lX;replace a:=(a.pk [4,0,1,2,3]).lX;have r:=hid (avg (ms:=ms) (λi hi=>p.out i ad));clear iM s;go_upto_region 6 with fail;refine cy ?_;refine pl a 0 0 ?_;refine ag ?_;refine bb a 1 (J R (ms.length:Int)) (λdJ a=>?_);refine an ?_;go_wp2_with fail;refine zq a 3 (λw' a=>⟨Ga aa aa (a.aV 1) aw,by rw[r.out],a.only⟩)
 .rintro D bt pre t u W P h a;cases bt with
  |ret=>
   obtain⟨j,r,rfl⟩:=h;replace a:=a.lX;go_wp2_with fail;refine zq a 3 (λw' a=>⟨Ga aa aa (a.aV 1) aw,by rw[r.out],a.only⟩)
  |_=>exact h.elim
def Jx(ms:List bO):Int×Int:=if sD ms<ms.length then(16,(sD ms:Int))else(0,0)
def awN A c ms w(d:cZ w A ms)(hv:∀m∈ms,gJ m)(j:ms.length<=1048576):
 aC ax 33 #[ae A ms.length c] w λe w'=>e=aB (ar #[J R (Jx ms).1,J R (Jx ms).2])/\au w w':=by
 have b:=hid (λW g=>prefix_at A c ms W (d.aH g) hv j);obtain⟨q,f⟩:=ex (sD ms);unfold Jx;rw[f]at b⊢;clear d hv f;by_cases h:q<ms.length;·have k:(q:Int)<(ms.length:Int):=ad;rw[if_pos h];go_enter Tryz.func33,Tryz.ntmps33;have a:=a8 w;go_step;refine ah ?_;refine bn a #[J _ 0,J _ 0] (λi w1 a=>?_);refine b5 ?_;refine bH (b.out _ a.only) a (λl a=>?_);refine ag ?_;refine ah ?_;refine v4 ?_;refine gW ?_;refine bb a 0 (ar #[J R 16,J R (q:Int)]) (λn a=>?_);refine an ?_;go_wp2_with fail;refine c8 (v:=_) (gH aa _ _ _ _ _ _ _ aa (a.aV 0) yh aa aw) aa (⟨aa,a.only⟩)
 .have k:¬(q:Int)<(ms.length:Int):=ad;rw[if_neg h];go_enter Tryz.func33,Tryz.ntmps33;have a:=a8 w;go_step;refine ah ?_;refine bn a #[J _ 0,J _ 0] (λi o a=>?_);refine b5 ?_;refine bH (b.out _ a.only) a (λp a=>?_);refine ag ?_;refine ah ?_;refine v4 ?_;refine b5 ?_;refine bb a 0 (ar #[J R 0,J R 0]) (λr a=>?_);refine an ?_;go_wp2_with fail;refine c8 (v:=_) (gH aa _ _ _ _ _ _ _ aa (a.aV 0) yh aa aw) aa (⟨aa,a.only⟩)
def aeX{w w':aP}{base e sz:Nat}{v m xs}{cU:Nat->Prop}(h:w.ownsRow base e sz v m xs)(c:∀b,cU b->b<w.heap.size->w'.heap[b]?=w.heap[b]?)(a:∀g,v.ownBlock=ab g->cU g):w'.ownsRow base e sz v m xs:=by
 refine⟨h.1,?_⟩;rcases h.2 with h2|⟨g,cap,cur,rfl,hb,hh,r⟩;·grind
 .exact cc ⟨g,_,_,aa,hb,Du c (a g aa) hh,r⟩
def ee.same{fx w w' b enc}{ok:fx->Prop}{a}{cU:Nat->Prop}(h:ee w b enc ok a)(d:∀b,cU b->b<w.heap.size->w'.heap[b]?=w.heap[b]?)(c:cU b):ee w' b enc ok a:=by obtain⟨es,e,hb,r⟩:=h;exact⟨es,_,Du d c hb,r⟩
def xc(F:Nat->Prop)(b:Nat)(n:Int)(E:List (Int×Int)):bu:=⟨F,λw=>G.hL w F b n E,λw w' h _ c=>by obtain⟨⟨fT,mo,fN,e2,eW,g⟩,r⟩:=c;refine⟨⟨fT,mo,fN,e2,eW,{g with blk:=Du h g.Gz g.blk,mZ:=g.mZ.same h g.DS,out:=g.out.same h g.DU,ng:=g.ng.same h g.DT,qB:=λu=>⟨λv hv=>aeX ((g.qB u).1 v hv) h (λq a=>g.yb _ (sw hv) q a),(g.qB u).2⟩,qz:=λu=>⟨λv hv=>aeX ((g.qz u).1 v hv) h (λq a=>g.ya _ (sw hv) q a),(g.qz u).2⟩}⟩,r⟩⟩
def aqb(n:Nat)w(h1:n<=1048576):
 aC ax 179 #[J R (n:Int)] w λe w'=>∃b F,e=aB (ay (ab ⟨b,0,af⟩))/\cj w w' (xc F b (n:Int) []):=
 (G.aeo (n:Int) w ad ad).mono λe w' ⟨b,c,a,g⟩=>⟨b,_,c,g,a,λ_ h=>h⟩
def aqa b(n i j)E F B w(c:Has w (xc F b n E))(hb:aX w B #[J R i,J R j] 192)(hn:¬F B)(hi:cN i)(g:cN j)(m:E.length<=1048576):
 aC ax 182 #[ay (ab ⟨b,0,af⟩),ae (ab ⟨B,0,af⟩) 1 1] w λe w'=>∃v d,e=aB v/\Turned w w' (xc F b n E) (xc d b n (G.jB n E [(i,j)])):=by
 have l:kS w (ab ⟨B,0,af⟩) [(i,j)]:=λ_=>⟨B,0,rfl,λk hk=>by obtain rfl:k=0:=aG;exact⟨hb.cell 0 aa,hb.cell 1 aa⟩⟩;exact(G.YO b n E F (ab ⟨B,0,af⟩) 1 [(i,j)] w c.1 l (λe a=>by obtain rfl:=ua.1 a;exact⟨hi,g⟩) aG (λblk off e=>aG)).mono λe w' ⟨a,f,ho⟩=>⟨_,_,a,ho,f,λb h=>⟨h.elim (λh=>wY (c.2 _ h) ho.size) (λh=>h.2),h.elim bZ (λh=>cc h.1)⟩⟩
def Dh(p:Nat)(A:Option bT)(c:Nat)(S:List jS):bu:=⟨λb=>b=p\/(0<S.length/\ej A b),λw=>w.heap[p]?=ab (bp #[ae A S.length c] 411 (0,0))/\nA w A S/\S.length<=1048576,λw w' h g i=>by obtain⟨h1,d,f⟩:=i;refine⟨Du h (bZ rfl) h1,λa=>?_,f⟩;obtain⟨b,off,e,hc⟩:=d a;have hb:w'.heap[b]?=w.heap[b]?:=h b (cc ⟨a,off,af,e⟩) (g b (cc ⟨a,off,af,e⟩));grind[D5]⟩
def Dh.is{p A c S w}(h:(Dh p A c S).p w):oG w p S:=⟨A,c,h.1,h.2.1,h.2.2⟩
def asn A c l w(q:kS w A l)(s:∀e∈l,rB e)(r:l.length<=1048576)(hr:As l):
 aC ax 251 #[ae A l.length c] w λe w'=>∃p S,S.Perm (iJ l)/\j4 S/\e=aB (ay (ab ⟨p,0,af⟩))/\∃d f,cj w w' (Dh p d f S):=
 (atN A c l w q s r hr).mono λe w' ⟨p,S,n,h1,i,⟨d,f,j,h,k,u,m⟩,g⟩=>⟨p,S,h1,i,n,d,f,g,⟨j,h,k⟩,λb hb=>by
  rcases hb with rfl|⟨hS,o,sp,e⟩;·grind
  .obtain⟨t,off,a,hc⟩:=h hS;rw[e]at a;injection a with a;injection a with bF cq fC;subst bF cq fC;exact⟨m _ _ e,vf w' _ (hc 0 hS).1⟩⟩
def atB p S(c d)w(i:oG w p S)(j:j4 S)(k:eX (c,d)):
 aC ax 181 #[ay (ab ⟨p,0,af⟩),ar #[J R c,J R d]] w λe w'=>∃a f,e=aB (ae a ((parts (c,d) S).map (·.1)).length f)/\cj w w' (bg a ((parts (c,d) S).map (·.1)).length f 3 1 (((parts (c,d) S).map (·.1)).map (J R))):=
 (atz p S c d w i j k).mono λe w' ⟨v,h,ho,g⟩=>by
  have l:(parts (c,d) S).length=((parts (c,d) S).map (·.1)).length:=bc;have m:(parts (c,d) S).map (λx=>J R x.1)=((parts (c,d) S).map (·.1)).map (J R):=bc;rw[l,m]at ho;rcases ho.2 with⟨rfl,hz⟩|⟨q,cap,cur,rfl,hb,r⟩;·rw[hz]at ho⊢;exact⟨af,0,h,g,Dw ho (cB _),λ_ ⟨_,_,e⟩=>aG⟩
  .exact⟨ab ⟨q,0,af⟩,cap,h,g,Dw ho (cB _),λb ⟨o,n,e⟩=>aG⟩
def yY(ms:List bO)(S:List jS)(i:Nat):List (Int×Int):=match ms[i]? with
 |some m=>if m.k=1 then((parts (m.fr,m.n) S).map (·.1)).map (λj=>((i:Int),j))else[]
 |none=>[]
def mA(ms:List bO)(S:List jS)(i:Nat):List (Int×Int):=(dU i).flatMap (yY ms S)
def ti(ms:List bO)(S:List jS):List (Int×Int):=G.jB (ms.length:Int) [] (mA ms S ms.length)
def RN ms S i:mA ms S (i+1)=mA ms S i++yY ms S i:=by simp[mA,ta]
def YN n(E a b):G.jB n E (a++b)=G.jB n (G.jB n E a) b:=by grind[G.jB]
def apw{l S}(h:S.Perm (iJ l)){e j}(a:j∈(parts e S).map (·.1)):0<=j/\j<(l.length:Int):=by grind[parts,A4]
def RM{ms S}(a:S.length=ms.length):∀i,(mA ms S i).length<=i*ms.length
 |0=>by simp[mA]
 |i+1=>by
  rw[RN,db,Ap];have h1:=RM a i
  have b:(yY ms S i).length<=ms.length:=by
   unfold yY;split
   .split;·rw[hM,hM,<-a];exact ae3 _ _
    .exact cB _
   .exact cB _
  omega
def aua{e}(h:eX e):rB e:=by obtain⟨h1,a,b⟩:=h;exact⟨by grind[cN],by grind[cN]⟩
def axL A c ms w(N:cZ w A ms)(hv:As (ms.map cm))(Y:ms.length<=1048576):
 aC ax 180 #[ae A ms.length c] w λe w'=>∃p S,S.Perm (iJ (ms.map cm))/\j4 S/\e=aB (ay (ab ⟨p,0,af⟩))/\∃z I,cj w w' (Dh p z I S):=by
 have E:=hid N;have q:=hid hv;go_enter func180,ntmps180;have a:=a8 w;go_step;refine ah ?_;refine ag ?_;refine ah ?_;refine ag ?_;refine an ?_;replace a:=a.new (bg af 0 0 35 2 []) ⟨av.refl _ _,Row.nil _ _ _ _,λb ⟨_,_,e⟩=>aG⟩;go_step;refine ah ?_;refine v3 ?_;refine an ?_;have o:=a.pk [0];go_wp2_with fail;go_loopw [3,8] (λy i wr=>∃(j:Nat) (aL:Option bT) (c2:Nat),j<=ms.length/\y=ae aL j c2/\i=J R (j:Int)/\ak w (λ_=>False) wr [bg aL j c2 35 2 (mz ((ms.take j).map cm))]) (λy i wr=>ms.length -(c' i).toNat);case atStart=>exact⟨0,_,0,cB _,aa,aa,o⟩
 case round=>
  clear a o;obtain⟨j,aL,c2,X,rfl,rfl,a⟩:=hrel;by_cases hlt:j<ms.length
  .have O:(j:Int)<(ms.length:Int):=ad;obtain⟨m,d⟩:∃m,ms[j]?=ab m:=⟨_,cF hlt⟩;obtain⟨g,l,f,h,r,s,t⟩:=cZ.jt E d;have C:=hid r;have V:=hid s;have D:=hid t;have G:=hid d;clear r s t d;have H:aE (mz ((ms.take (j+1)).map cm)=mz ((ms.take j).map cm)++[J R m.to,J R (cD m)]):=hid (by rw[gx,G,Ck,fR,alZ,Zr];rfl);go_step;refine ah ?_;refine a7 (ai az) ?_;refine ah ?_;refine aI (ay (ab ⟨g,(l+j*5),af⟩)) (b4 24 73 5 (bj 6) (bj 8) aa ey aw g l (ms.length) c j ((l+j*5)) (by show ae A _ _=_;rw[C]) aa hlt aa) ?_;refine aI _ (by(refine e5 73 _ aa g _ aa _ (D _ a.only) gi aa aw)) ?_;refine bn a #[J R 0,J R 0,J R 0,J R 0,ae af 0 0] (λU w1 a=>?_);refine bb a 0 (ar #[J R m.k,J R m.to,J R m.fr,J R m.n,ae f m.data.length h]) (λZ a=>?_);refine b5 ?_;refine bh a 0 #[J R m.k,J R m.to,J R m.fr,J R m.n,ae f m.data.length h] ?_;refine bH (uZ m.k m.to m.fr m.n f m.data.length h _) a (λbI a=>?_);refine e' a #[J R m.to,J R (cD m)] 35 (λT b9 a=>?_);refine kd (m:=1) a 2 16 (aX.cellsOf (m:=1) (a.aV 0) aa) (by intro u x;simp only[gD,fS,or_false]at x;rcases x with rfl|rfl<;>rfl) (λQ W cE a=>?_) (hby:=by omega);refine ed ?_;refine pad (j:Int) 1 ((j+1:Nat):Int) ?_;refine bU ?_;go_wp2_with fail;go_roundw;case rel=>exact⟨_,_,_,ad,aa,aa,by rw[H];exact a.pick [2]⟩
   case measure=>grind[c']
  .have O:¬(j:Int)<(ms.length:Int):=ad;obtain rfl:j=ms.length:=ad;have v:ms.take ms.length=ms:=ll;rw[v]at a;have F:aE (ms.length=(ms.map cm).length):=hid bc;clear v;go_step;refine ah ?_;refine a7 (ai ao) ?_;refine b5 ?_;refine aR ((show aC ax 251 #[ae aL ms.length c2] _ λe w'=>_ from by rw[F.out];exact asn aL c2 (ms.map cm) _ (Row.UJ (a.atR 0)).2 (λe L=>by obtain⟨m,d,rfl⟩:=gQ.1 L;exact aua (q.1 _ (List.mem_map_of_mem d)).1) aG q)) ?_;rintro e cV ⟨p,S,P,M,rfl,B,dz,K⟩;replace a:=a.new _ K;refine Gr ?_;go_wp2_with fail;go_ret;exact⟨p,S,P,M,aa,B,dz,a.fresh 0⟩
structure Gy (ms:List bO):Prop where
 dL:ms.length<=1000
 right:As (ms.map cm)
 src:∀m∈ms,m.k=1->eX (m.fr,m.n)
def F3(i:Nat)(m:bO)(S:List jS):List (Int×Int):=((parts (m.fr,m.n) S).map (·.1)).map (λj=>((i:Int),j))
def RJ{ms S i m}(h:ms[i]?=ab m)(hk:m.k=1):yY ms S i=F3 i m S:=by grind[yY,F3]
theorem RL{ms S i m}(h:ms[i]?=ab m)(hk:m.k≠1):yY ms S i=[]:=by grind[yY]
def LN n:∀(l E),(G.jB n E l).length<=E.length+l.length
 |[],E=>b7 _
 |e::l,E=>by
  have h:=LN n l (G.qa n E e)
  have a:(G.qa n E e).length<=E.length+1:=by
   unfold G.qa;split;·simp
   .exact Nat.le_succ _
  have cq:G.jB n E (e::l)=G.jB n (G.qa n E e) l:=rfl;rw[cq,jV];omega
def anF A c ms w(hl:cZ w A ms)(hv:Gy ms):
 aC ax 91 #[ae A ms.length c] w λe w'=>∃b F S,S.Perm (iJ (ms.map cm))/\j4 S/\e=aB (ay (ab ⟨b,0,af⟩))/\cj w w' (xc F b ms.length (ti ms S)):=by
 have M:=hid hl;have cP:=hid hv.right;have qY:=hid hv.src;have eR:=hv.dL;go_enter func91,ntmps91;have a:=a8 w;go_step;refine ah ?_;refine ag ?_;refine an ?_;go_step;refine ah ?_;refine v2 ?_;refine aR (aqb ms.length _ ad) ?_;rintro e w1 ⟨b,F,rfl,s⟩;replace a:=a.new _ s;refine aT ?_;refine ag ?_;refine an ?_;go_step;refine ah ?_;refine ag ?_;refine aR (axL A c ms _ (M.out.aH a.only) cP ad) ?_;rintro e aU ⟨p,S,v,Y,rfl,I,dz,s⟩;replace a:=a.new _ s;refine aT ?_;refine ag ?_;refine an ?_;have T:S.length=ms.length:=by rw[v.length_eq,AH,hM]
 have V:=RM (S:=S) T;have b1:=hid v;have L:=hid Y;have Z:∀e,∀j∈(parts e S).map (·.1),0<=j/\j<((ms.map cm).length:Int):=λe j hj=>apw v hj;have r2:=hid Z;have ys:aE (∀i,i<=ms.length->(G.jB ms.length [] (mA ms S i)).length<=1000000):=hid (λi hi=>by have h1:=LN ms.length (mA ms S i) [];have Q:=V i;have h3:i*ms.length<=1000*1000:=Q' ad ad;simp only[mT]at h1;omega);clear v Y V Z hv hl;go_step;refine ah ?_;refine v3 ?_;refine an ?_;have r:=a.pk [1,0];go_wp2_with fail;go_loopw [18] (λo wr=>∃(j:Nat) (F:Nat->Prop),j<=ms.length/\o=J R (j:Int)/\ak w (λ_=>False) wr [xc F b ms.length (G.jB ms.length [] (mA ms S j)),Dh p I dz S]) (λo wr=>ms.length -(c' o).toNat);case atStart=>exact⟨0,F,cB _,aa,r⟩
 case round=>
  clear a r;obtain⟨j,F,hj,rfl,a⟩:=hrel;by_cases hlt:j<ms.length
  .have cf:(j:Int)<(ms.length:Int):=ad;obtain⟨m,D⟩:∃m,ms[j]?=ab m:=⟨_,cF hlt⟩;obtain⟨C,y,f,l,u,U,X⟩:=cZ.jt M D;have cv:=hid u;have iV:=hid U;have dm:=hid X;have B:=hid D;clear u U X D;go_step;refine ah ?_;refine a7 (ai az) ?_;refine an ?_;go_step;refine ah ?_;refine ag ?_;refine aI (ay (ab ⟨C,(y+j*5),af⟩)) (b4 24 73 5 (bj 16) (bj 18) aa ey aw C y (ms.length) c j ((y+j*5)) (by show ae A _ _=_;rw[cv]) aa hlt aa) ?_;refine aI (ar #[J R m.k,J R m.to,J R m.fr,J R m.n,ae f m.data.length l]) (by(refine e5 73 (bj 21) aa C (y+j*5) aa ([J R m.k,J R m.to,J R m.fr,J R m.n,ae f m.data.length l]:List aO) (dm _ a.only) gi aa aw)) ?_;refine bn a #[J R 0,J R 0,J R 0,J R 0,ae af 0 0] (λer bI a=>?_);refine ag ?_;refine bb a 0 (ar #[J R m.k,J R m.to,J R m.fr,J R m.n,ae f m.data.length l]) (λb9 a=>?_);refine an ?_;by_cases hk:m.k=1
   .have aks:aE (mA ms S (j+1)=mA ms S j++F3 j m S):=hid (by rw[RN,RJ B hk]);have yD:=hid (qY m (cW B) hk);have gP:=hid hk;clear hk;go_step;refine ah ?_;refine bh a 0 #[J R m.k,J R m.to,J R m.fr,J R m.n,ae f m.data.length l] ?_;refine aR ((show aC ax 79 #[ar #[J R m.k,J R m.to,J R m.fr,J R m.n,ae f m.data.length l]] _ λe w'=>_ from by rw[gP.out];exact Bn m.to m.fr m.n f m.data.length l _)) ?_;rintro e cE ⟨rfl,g⟩;replace a:=a.aH g;refine aT ?_;refine v3 ?_;refine bn a #[J R 0,J R 0] (λfQ cV a=>?_);refine bb a 0 (ar #[J R m.fr,J R m.n]) (λdJ a=>?_);refine ag ?_;refine an ?_;go_step;refine ah ?_;refine ag ?_;refine an ?_;obtain⟨d,t⟩:=ex ((parts (m.fr,m.n) S).map (·.1));have Qs:aE (∀W,oG W p S->aC ax 181 #[ay (ab ⟨p,0,af⟩),ar #[J R m.fr,J R m.n]] W λe w'=>∃H N,e=aB (ae H d.length N)/\cj W w' (bg H d.length N 3 1 (d.map (J R)))):=hid (λW h=>by rw[<-t];exact atB p S m.fr m.n W h L yD);have akN:=hid t;have iu:d.length<=ms.length:=by rw[<-t,hM,<-T];exact ae3 _ _
    have akM:aE (∀x∈d,0<=x/\x<(ms.length:Int)):=hid (λx hx=>by have h:=r2 (m.fr,m.n) x (by rw[t];exact hx);rwa [hM]at h);clear t;go_step;refine ah ?_;refine ag ?_;refine bh a 0 #[J R m.fr,J R m.n] ?_;refine aR (Qs _ (Dh.is (a.at 3))) ?_;rintro e dB ⟨lE,O,rfl,s⟩;replace a:=a.new _ s;refine aT ?_;refine v2 ?_;refine an ?_;have r:=a.pk [3,4,0];go_wp2_with fail;go_loopw [33] (λo wr=>∃(q:Nat) (F:Nat->Prop),q<=d.length/\o=J R (q:Int)/\ak w (λ_=>False) wr [xc F b ms.length (G.jB ms.length [] (mA ms S j++(d.take q).map (λx=>((j:Int),x)))),Dh p I dz S,bg lE d.length O 3 1 (d.map (J R))]) (λo wr=>d.length -(c' o).toNat);case atStart=>exact⟨0,F,cB _,aa,by rw[List.take_zero,lJ,kR];exact r⟩
    case round=>
     clear a r;obtain⟨q,F,hq,rfl,a⟩:=hrel;by_cases Is:q<d.length
     .have aru:(q:Int)<(d.length:Int):=ad;obtain⟨x,hx⟩:∃x,d[q]?=ab x:=⟨_,cF Is⟩;have dH:=hid hx;have Dg:=akM x (cW hx);have E:(d.map (J R))[q]?=ab (J R x):=by rw[List.getElem?_map,hx];rfl
      have Er:=hid E;obtain⟨P,u,_⟩:=(a.atR 2).cell E;subst u;have jz:aE (mA ms S j++(d.take (q+1)).map (λx=>((j:Int),x))=(mA ms S j++(d.take q).map (λx=>((j:Int),x)))++[((j:Int),x)]):=hid (by rw[gx,hx,Ck,fR,kQ];rfl);have p0:aE ((G.jB ms.length [] (mA ms S j++(d.take q).map (λx=>((j:Int),x)))).length<=1048576):=hid (by have h1:=ys j ad;have Q:=LN ms.length ((d.take q).map (λx=>((j:Int),x))) (G.jB ms.length [] (mA ms S j));rw[<-YN,hM,oe]at Q;omega);clear hx E;go_step;refine ah ?_;refine a7 (ai az) ?_;refine an ?_;go_step;refine ah ?_;refine aI (ay (ab ⟨P,q,af⟩)) (b4 82 3 1 (bj 31) (bj 33) aa jo aw P 0 (d.length) O q q aa aa Is ad) ?_;refine aI (J R x) (kH (a.atR 2) Er aa aa aw) ?_;refine ag ?_;refine an ?_;go_step;refine ah ?_;refine v4 ?_;refine e' a #[J R (j:Int),J R x] 192 (λK eZ a=>?_);refine aR (aqa b ms.length (j:Int) x _ F K _ (a.has 1 aa) (a.aV 0) (λh=>a.ne (i:=1) (j:=0) aa aa aS K h aa) (by unfold cN;omega) (by unfold cN;omega) p0) ?_;rintro e gV ⟨v5,VI,rfl,bP⟩;replace a:=a.eQ 1 bP;refine aT ?_;refine an ?_;go_step;refine ah ?_;refine pad (q:Int) 1 ((q+1:Nat):Int) ?_;refine ag ?_;refine an ?_;go_wp2_with fail;go_roundw;case rel=>exact⟨q+1,_,ad,aa,by rw[jz.out,YN];exact a.pick [1,2,3]⟩
      case measure=>simp[c']<;>omega
     .have aru:¬(q:Int)<(d.length:Int):=ad;obtain rfl:q=d.length:=ad;have z:aE (mA ms S (j+1)=mA ms S j++(d.take d.length).map (λx=>((j:Int),x))):=hid (by rw[aks,F3,akN,ll]);go_step;refine ah ?_;refine a7 (ai ao) ?_;refine an ?_;go_step;refine ah ?_;refine pad (j:Int) 1 ((j+1:Nat):Int) ?_;refine ag ?_;refine an ?_;go_wp2_with fail;go_roundw;case rel=>exact⟨j+1,_,ad,aa,by rw[z.out];exact a.pick [0,1]⟩
      case measure=>simp[c']<;>omega
   .have z:aE (mA ms S (j+1)=mA ms S j):=hid (by rw[RN,RL B hk,kR]);go_step;refine ah ?_;refine bh a 0 #[J R m.k,J R m.to,J R m.fr,J R m.n,ae f m.data.length l] ?_;refine aR (Bo m.k m.to m.fr m.n f m.data.length l _ hk) ?_;rintro e hZ ⟨rfl,g⟩;replace a:=a.aH g;refine aT ?_;refine v3 ?_;refine bn a #[J R 0,J R 0] (λfQ jQ a=>?_);refine bb a 0 (ar #[J R 0,J R 0]) (λke a=>?_);refine ag ?_;refine an ?_;go_step;refine ah ?_;refine ag ?_;refine an ?_;go_step;refine ah ?_;refine pad (j:Int) 1 ((j+1:Nat):Int) ?_;refine ag ?_;refine an ?_;go_wp2_with fail;go_roundw;case rel=>exact⟨j+1,_,ad,aa,by rw[z.out];exact a.pick [2,3]⟩
    case measure=>grind[c']
  .have cf:¬(j:Int)<(ms.length:Int):=ad;obtain rfl:j=ms.length:=ad;go_step;refine ah ?_;refine a7 (ai ao) ?_;refine an ?_;go_step;refine ah ?_;refine v2 ?_;refine an ?_;go_wp2_with fail;go_ret;exact⟨b,F,S,b1,L,aa,a.fresh 0⟩
def mL(A:Option bT)(xs:List Int):bu:=⟨λb=>0<xs.length/\ej A b,λw=>dy w A xs,λw w' h c d a=>by obtain⟨b,off,rfl,hc⟩:=d a;have hb:=h b ⟨a,_,_,aa⟩ (c b ⟨a,_,_,aa⟩);grind[D5]⟩
def afF{w w' A xs}(g:au w w')(h:dy w' A xs)(c:∀k off,A=ab ⟨k,off,af⟩->w.heap.size<=k):cj w w' (mL A xs):=⟨g,h,λb hb=>by obtain⟨a,o,d,e⟩:=hb;obtain⟨k,off,cq,hc⟩:=h a;rw[e]at cq;cases cq;exact⟨c _ _ e,vf w' _ (hc 0 a)⟩⟩
def isLit(ms:List bO)(i:Nat):Bool:=match ms[i]? with|some m=>decide (m.k=2)|none=>ao
def kb(ms:List bO)(j:Nat):List Int:=((dU j).filter (isLit ms)).map (λi:Nat=>(i:Int))
def atg{ms j m}(h:ms[j]?=ab m)(hk:m.k=2):kb ms (j+1)=kb ms j++[(j:Int)]:=by grind[isLit,kb,ta]
def atf{ms j m}(h:ms[j]?=ab m)(hk:m.k≠2):kb ms (j+1)=kb ms j:=by grind[isLit,kb,ta]
theorem No ms j:(kb ms j).length<=j:=by grind[kb]
def ad7 A(c b)ms w(E:cZ w A ms)(Q:ms.length<=1000):
 aC ax 177 #[ar #[ae A ms.length c,ay (ab ⟨b,0,af⟩)]] w λe w'=>∃l q,e=aB (ae l (kb ms ms.length).length q)/\cj w w' (bg l (kb ms ms.length).length q 3 1 ((kb ms ms.length).map (J R))):=by
 have B:=hid E;go_enter func177,ntmps177;have a:=a8 w;go_step;refine ah ?_;refine bL a (ar _) (λI w1 a=>?_);refine ag ?_;refine an ?_;go_step;refine ah ?_;refine ag ?_;refine an ?_;replace a:=a.new (bg _ 0 0 3 1 []) ⟨av.refl _ _,Row.nil _ _ _ _,λb ⟨_,_,e⟩=>aG⟩;go_step;refine ah ?_;refine ag ?_;refine pl a 1 0 ?_;refine v2 ?_;refine an ?_;have p:=a.pk [0];go_wp2_with fail;go_loopw [3,9] (λx i wr=>∃(j n:Nat) (aL:Option bT) (c2:Nat),j<=ms.length/\aE ((kb ms j).length=n)/\n<=j/\x=ae aL n c2/\i=J R (j:Int)/\ak w (λ_=>False) wr [bg aL n c2 3 1 ((kb ms j).map (J R))]) (λx i wr=>ms.length -(c' i).toNat);case atStart=>exact⟨0,0,_,0,cB _,aa,b7 _,aa,aa,p⟩
 case round=>
  clear a p;obtain⟨j,n,aL,c2,P,f,S,rfl,rfl,a⟩:=hrel;by_cases hlt:j<ms.length
  .have F:(j:Int)<(ms.length:Int):=ad;obtain⟨m,h⟩:∃m,ms[j]?=ab m:=⟨_,cF hlt⟩;obtain⟨D,T,H,O,r,s,t⟩:=cZ.jt B h;have y:=hid r;have M:=hid s;have z:=hid t;have o:=hid h;clear r s t h;go_step;refine ah ?_;refine a7 (ai az) ?_;refine an ?_;go_step;refine ah ?_;refine ag ?_;refine aI _ (b4 24 73 5 _ _ aa ey aw _ _ _ _ _ _ (by show ae A _ _=_;rw[y]) aa hlt aa) ?_;refine aI _ (by(refine e5 73 _ aa D _ aa _ (z _ a.only) gi aa aw)) ?_;refine bn a #[J _ 0,J _ 0,J _ 0,J _ 0,ae _ 0 0] (λL U a=>?_);refine ag ?_;refine bb a 0 (ar _) (λV a=>?_);refine an ?_;by_cases hk:m.k=2
   .have d:=hid (atg o hk);have C:aE ((kb ms _).length=n+1):=hid (by rw[d,db,f];rfl);have g:=hid hk;clear hk;go_step;refine ah ?_;refine ag ?_;refine pl a 0 0 ?_;refine dp g (ai az) ?_;refine an ?_;go_step;refine ah ?_;refine v2 ?_;refine e' a #[J R (j:Int)] 3 (λK W a=>?_);refine kd (m:=1) a 2 8 (aX.cellsOf (m:=1) (a.aV 0) aa) (by intro u v;simp only[gD,fS,or_false]at v;subst v;rfl) (λG N X a=>?_) (hby:=by omega);refine ag ?_;refine an ?_;go_step;refine ah ?_;refine pad _ 1 ((j+1:Nat):Int) ?_;refine ag ?_;refine an ?_;go_wp2_with fail;go_roundw;case rel=>exact⟨_,_,_,_,ad,C,ad,aa,aa,by rw[d,fR];exact a.pick [2]⟩
    case measure=>grind[c']
   .have d:=hid (atf o hk);have g:=hid hk;clear hk;go_step;refine ah ?_;refine ag ?_;refine pl a 0 0 ?_;refine dp g (ai ao) ?_;refine an ?_;go_step;refine ah ?_;refine pad _ 1 ((j+1:Nat):Int) ?_;refine ag ?_;refine an ?_;go_wp2_with fail;go_roundw;case rel=>exact⟨j+1,n,_,_,ad,hid (by rw[d];exact f),ad,aa,aa,by rw[d];exact a.pick [1]⟩
    case measure=>grind[c']
  .have F:¬(j:Int)<(ms.length:Int):=ad;obtain rfl:j=ms.length:=ad;go_step;refine ah ?_;refine a7 (ai ao) ?_;refine an ?_;go_step;refine ah ?_;refine v2 ?_;refine an ?_;go_wp2_with fail;go_ret;exact⟨aL,c2,by rw[f];rfl,by rw[f];exact a.fresh 0⟩
def anM A(c b)ms E F o w(l:cZ w A ms)(eR:ms.length<=1000)(Z:E.length<=1048576)(hx:G.wV E (ms.map (·.n)) (kb ms ms.length) o [])(H:G.hL w F b ms.length E):
 aC ax 175 #[ar #[ae A ms.length c,ay (ab ⟨b,0,af⟩)]] w λe w'=>∃d f,e=aB (ae d o.length f)/\cj w w' (mL d o):=by
 have P:=hid l;have v:aE (∀W,av (λ_=>False) w W->aC _ _ _ W λe w'=>∃d f,e=aB _/\cj W w' _):=hid (λW g=>ad7 A c b ms W (l.aH g) eR)
 have t:aE (∀W gX ik gd gz,av (λ_=>False) w W->dy W gX (ms.map (·.n))->dy W gd _->aC ax 249 _ W λe w'=>∃d f,e=aB (bo #[ae d o.length f,ai az])/\cj W w' (mL d o)):=hid (λW gX ik gd gz g z T=>by have Sb:=z;have q:=G.anJ b _ E F gX ik _ gd gz _ W (G.hL.aH H g) z T aG (by grind[No]) Z o [] hx az aa;rw[hM]at q;refine q.mono λe w' hq=>?_;obtain⟨d,f,U,V,_,X,Y⟩:=hq;exact⟨d,f,U,afF Y V X⟩);have gA:=No ms ms.length;obtain⟨lt,I⟩:=ex (kb ms ms.length);rw[I]at v t gA;clear l hx I H;go_enter func175,ntmps175;have a:=a8 w;go_step;refine ah ?_;refine bL a (ar _) (λM w1 a=>?_);refine ag ?_;refine an ?_;go_step;refine ah ?_;refine ag ?_;refine an ?_;replace a:=a.new (bg _ 0 0 3 1 []) ⟨av.refl _ _,Row.nil _ _ _ _,λb ⟨_,_,e⟩=>aG⟩;go_step;refine ah ?_;refine ag ?_;refine pl a 1 0 ?_;refine v2 ?_;refine an ?_;have x:=a.pk [0,1];go_wp2_with fail;go_loopw [3,11] (λL r wr=>∃(j:Nat) (aL:Option bT) (c2:Nat),j<=ms.length/\L=ae aL j c2/\r=J R (j:Int)/\ak w (λ_=>False) wr [bg aL j c2 3 1 (((ms.take j).map (·.n)).map (J R)),aj M #[ae A ms.length c,ay (ab ⟨b,0,af⟩)] 181]) (λL r wr=>ms.length -(c' r).toNat);case atStart=>exact⟨0,_,0,cB _,aa,aa,x⟩
 case round=>
  clear a x;obtain⟨j,aL,c2,hj,rfl,rfl,a⟩:=hrel;by_cases hlt:j<ms.length
  .have cf:(j:Int)<(ms.length:Int):=ad;obtain⟨m,p⟩:∃m,ms[j]?=ab m:=⟨_,cF hlt⟩;obtain⟨y,bM,aW,aZ,B,C,D⟩:=cZ.jt P p;have N:=hid B;have iV:=hid C;have O:=hid D;have Q:=hid p;clear B C D p;have S:aE ((ms.take _).map (·.n)=(ms.take j).map _++[m.n]):=hid (by rw[gx,Q,Ck,fR];rfl);go_step;refine ah ?_;refine a7 (ai az) ?_;refine an ?_;go_step;refine ah ?_;refine aI _ (b4 24 73 5 _ _ aa ey aw y bM _ c j _ (by show ae A _ _=_;rw[N]) aa hlt aa) ?_;refine aI _ (by(refine e5 73 _ aa y _ aa _ (O _ a.only) gi aa aw)) ?_;refine bn a #[J _ 0,J _ 0,J _ 0,J _ 0,ae _ 0 0] (λeL aU a=>?_);refine bb a 0 (ar _) (λbI a=>?_);refine an ?_;go_step;refine ah ?_;refine v2 ?_;refine pl a 0 3 ?_;refine e' a #[J R m.n] 3 (λOX b9 a=>?_);refine kd (m:=1) a 2 8 (aX.cellsOf (m:=1) (a.aV 0) aa) (by intro u K;simp only[gD,fS,or_false]at K;subst K;rfl) (λKl LW cE a=>?_) (hby:=by omega);refine ag ?_;refine an ?_;go_step;refine ah ?_;refine pad _ 1 ((j+1:Nat):Int) ?_;refine ag ?_;refine an ?_;go_wp2_with fail;go_roundw;case rel=>exact⟨_,_,_,ad,aa,aa,by rw[S,fR];exact a.pick [2,3]⟩
   case measure=>grind[c']
  .have cf:¬(j:Int)<(ms.length:Int):=ad;obtain rfl:j=ms.length:=ad;rw[ll]at a;go_step;refine ah ?_;refine a7 (ai ao) ?_;refine an ?_;go_step;refine cx ?_;refine bN a [4,5] (λi u=>match i with|4=>ae u.A lt.length u.c|5=>bo #[ae u.A o.length u.c,ai az]|_=>a1) (λh=>λ|4=>bg ((h 4).A) lt.length ((h 4).c) 3 1 (lt.map (J R))|5=>mL (h 5).A o|_=>emp) (λ_=>[]) (λ|1=>[1]|3=>[1]|5=>[0,6]|_=>[]) (λ|4=>[4]|5=>[5]|_=>[]) [0,1,6,7] (λh=>?_);refine aJ ?_;refine dl 0 1 ?_;refine aJ ?_;refine eO 0 #[ae A ms.length c,ay (ab ⟨b,0,af⟩)] ?_;refine dh (λs Fr a=>(v s a.only).mono ?_) ?_;·rintro e dr ⟨d,f,rfl,k⟩;exact⟨{A:=d,c:=f},aa,a.new _ k⟩
   refine dh (λs Fr a=>(t s aL c2 _ _ a.only (Row.Ob (a.atR 0)) (Row.Ob (a.atR 1))).mono ?_) ?_;·rintro e dr ⟨d,f,rfl,k⟩;exact⟨{A:=d,c:=f},aa,a.new _ k⟩
   refine np ?_;refine bQ λcV a=>?_;generalize (h 4).A=ahz at a⊢;generalize (h 4).c=ank at a⊢;generalize (h 5).A=Kn at a⊢;generalize (h 5).c=LY at a⊢;go_step;refine ah ?_;refine v2 ?_;refine an ?_;go_wp2_with fail;go_ret;exact⟨_,⟨_,aa⟩,a.fresh 3⟩
def an0{ms S}(hv:Gy ms)(a:S.Perm (iJ (ms.map cm))):(ti ms S).length<=1000000:=by have h1:=LN ms.length (mA ms S ms.length) [];have b:=RM (ms:=ms) (S:=S) (by rw[a.length_eq,AH,hM]) ms.length;have c:=Q' hv.dL hv.dL;simp only[mT]at h1;unfold ti;omega
structure Conv (ms:List bO) (S:List jS) (o od:List Int):Prop where
 ok:Gy ms
 perm:S.Perm (iJ (ms.map cm))
 nG:j4 S
 ch:G.wV (ti ms S) (ms.map (·.n)) (kb ms ms.length) o []
 ord:G.oH (ti ms S) ms.length (kb ms ms.length++o) od
 all:G.nQ ms.length (kb ms ms.length++o) od=[]
 R7:o.length<=1048576
def anX A c ms S(o od)w(r:cZ w A ms)(hc:Conv ms S o od):
 aC ax 88 #[ae A ms.length c] w λe w'=>∃b k n C U,e=aB (ar #[ae A ms.length c,ay (ab ⟨b,0,af⟩),ae k o.length n,ae C od.length U])/\cj w w' (bY [mL k o,mL C od]):=by
 have N:=hc.ok.dL;have cO:=hid r;have c6:=hid hc;have I:aE (∀b W,av (λ_=>False) w W->aC _ _ _ W λe w'=>∃f j,e=aB _/\cj W w' _):=hid (λb W g=>ad7 A c b ms W (r.aH g) N);have D:aE (∀W,av (λ_=>False) w W->aC _ 91 _ W λe w'=>∃b F,e=aB _/\cj W w' (xc F b _ (ti ms S))):=hid (λW g=>(anF A c ms W (r.aH g) hc.ok).mono λe w' ⟨b,F,Ri,h1,x,V,y⟩=>⟨b,F,V,by rw[aqf (hc.perm.trans h1.symm) hc.nG x];exact y⟩);have fp:=an0 hc.ok hc.perm;have H:aE (∀W b F,av (λ_=>False) w W->(xc F b _ _).p W->aC _ _ _ W λe w'=>∃f j,e=aB _/\cj W w' _):=hid (λW b F g hg=>anM A c b ms _ F o W (r.aH g) N ad hc.ch hg)
 have t:aE (∀W b F s cs,(xc F b ms.length (ti ms S)).p W->dy W s _->aC ax 176 _ W λe w'=>∃f j,e=aB (bo #[ae f od.length j,ai az])/\cj W w' (mL f od)):=hid (λW b F s cs h1 x=>by have z:=No ms ms.length;have L:=hc.R7;have q:=G.auy b _ _ F s cs _ W h1 x aG ad od hc.ord az (by rw[hc.all];rfl);rw[db]at q;refine q.mono λe w' hq=>?_;obtain⟨f,j,y,X,Y,Z⟩:=hq;exact⟨f,j,y,afF Z X Y⟩);have z:=No ms ms.length;have L:=hc.R7;obtain⟨lt,M⟩:=ex (kb ms ms.length);rw[M]at I t z;have Q:aE ((lt.length+o.length)*8<=140737488355328):=hid ad;obtain⟨E,K⟩:=ex (ti ms S);rw[K]at D H t;clear r M K fp z L hc;go_enter func88,ntmps88;have a:=a8 w;go_step;refine ah ?_;refine bn a #[ae _ 0 0,ay _,ae _ 0 0,ae _ 0 0] (λct w1 a=>?_);refine gW ?_;refine aR (D.out _ a.only) ?_;rintro e aU ⟨b,F,rfl,l⟩;replace a:=a.new _ l;refine aT ?_;refine v2 ?_;refine bn a #[ae _ 0 0,ay _,ae _ 0 0,ae _ 0 0] (λP bI a=>?_);refine bb a 0 (ar _) (λb9 a=>?_);refine b5 ?_;refine bh a 0 #[ae A ms.length c,ay (ab ⟨b,0,af⟩)] ?_;refine aR (H _ b F a.only (a.at 1)) ?_;rintro e cE ⟨k,n,rfl,l⟩;replace a:=a.new _ l;refine aT ?_;refine ag ?_;refine bb a 1 (ae k _ n) (λcV a=>?_);refine cx ?_;refine bN a [5,8,9,14] (λi u=>match i with|5=>ae u.A lt.length u.c|8=>ae u.A (lt.length+o.length) u.c|9=>bo #[ae u.A od.length u.c,ai az]|_=>a1) (λd=>λ|5=>bg ((d 5).A) lt.length ((d 5).c) 3 1 (lt.map (J R))|8=>bg ((d 8).A) (lt.length+o.length) ((d 8).c) 3 1 ((lt.map (J R))++(o.map (J R)))|9=>mL (d 9).A od|14=>aj P #[ae A ms.length c,ay (ab ⟨b,0,af⟩),ae k o.length n,ae (d 9).A od.length (d 9).c] 183|_=>emp) (λ|8=>[9]|14=>[1]|_=>[]) (λ|2=>[1]|4=>[1]|7=>[1]|8=>[0]|9=>[2,12]|_=>[]) (λ|5=>[5]|8=>[8]|9=>[9]|14=>[9]|_=>[]) [0,2,3,12,13,18] (λd=>?_);refine bx ?_;refine dl 0 1 ?_;refine aJ ?_;refine eO 0 #[ae A ms.length c,ay (ab ⟨b,0,af⟩)] ?_;refine dh (λB Fr a=>(I b B a.only).mono ?_) ?_;·rintro e dr ⟨f,j,rfl,l⟩;exact⟨{A:=f,c:=j},aa,a.new _ l⟩
 refine aJ ?_;refine dl 0 2 ?_;refine rh (m:=_) 8 (λ_ _ a=>dy.cells (a.at 1)) (T4 o) ?_ (hby:=Q);refine dh (λB Fr a=>(t B b F _ _ (a.at 0) (by have h:=a.atR 1;rw[<-fR]at h;exact Row.Ob h)).mono ?_) ?_;·rintro e dr ⟨f,j,rfl,l⟩;exact⟨{A:=f,c:=j},aa,a.new _ l⟩
 refine hG ?_;refine fY _ ?_;refine bQ λdJ a=>?_;generalize (d 5).A=Kl at a⊢;generalize (d 5).c=LW at a⊢;generalize (d 8).A=Vp at a⊢;generalize (d 8).c=Zi at a⊢;generalize (d 9).A=O at a⊢;generalize (d 9).c=T at a⊢;refine ah ?_;refine bh a 5 #[ae A ms.length c,ay (ab ⟨b,0,af⟩),ae k o.length n,ae O od.length T] ?_;refine bb a 2 (ar _) (λdB a=>?_);refine an ?_;go_wp2_with fail;refine c8 (v:=_) (gH aa _ _ _ _ _ _ _ aa (a.aV 2) underlying183 aa aw) aa (⟨b,k,n,_,_,aa,((a.pick (l':=[mL k o,mL _ od]) [0,4]).fP 2).fresh 0⟩)
abbrev j2:=bO×Option bT×Nat
theorem HE(L:List j2):(cL L).length=L.length*5:=by
 induction L with
 |nil=>rfl
 |cons x L a=>show((([J R x.1.k,J R x.1.to,J R x.1.fr,J R x.1.n,ae x.2.1 x.1.data.length x.2.2]:List aO):List aO)++cL L).length=_;rw[db,a];simp;omega
def EM(L a:List j2):cL (L++a)=cL L++cL a:=List.flatMap_append
def RI(x:j2):cL [x]=([J R x.1.k,J R x.1.to,J R x.1.fr,J R x.1.n,ae x.2.1 x.1.data.length x.2.2]:List aO):=rfl
def anU(L:List j2)j x(hx:L[j]?=ab x):cL L=cL (L.take j)++(([J R x.1.k,J R x.1.to,J R x.1.fr,J R x.1.n,ae x.2.1 x.1.data.length x.2.2]:List aO)++cL (L.drop (j+1))):=by obtain⟨a,hx⟩:=eM.1 hx;rw[<-RI,<-EM,<-EM];congr 1;subst hx;simp
def anR(L:List j2)j x(hx:L[j]?=ab x):∀(i) v,(([J R x.1.k,J R x.1.to,J R x.1.fr,J R x.1.n,ae x.2.1 x.1.data.length x.2.2]:List aO):List aO)[i]?=ab v->(cL L)[j*5+i]?=ab v:=λi v hv=>by
 have b:=(eM.1 hx).1;have hi:i<5:=(eM.1 hv).1;have a:(cL (L.take j)).length=j*5:=by grind[HE]
 rw[anU L j x hx,oI ad,a,show j*5+i -j*5=i by omega,tZ ad];exact hv
def yW(L:List j2)(p:j2->Bool):Int:=match L.findIdx? p with|some k=>(k:Int)|none=>-1
def anT A (c g:Nat) lb (L:List j2) p w (cd:L.length<=1073741824) (hr:Row 0 w A L.length c 73 5 (cL L)) (s:∀args w,(kB g args).run ax w=bf (.enter g args) w)
 (hp:∀x W,x∈L->au w W->aC ax g (#[ar #[J R x.1.k,J R x.1.to,J R x.1.fr,J R x.1.n,ae x.2.1 x.1.data.length x.2.2]]++lb) W λe w'=>e=aB (ai (p x))/\au W w'):
 aC ax 191 #[ae A L.length c,dS (eu g) #[] lb] w λe w'=>e=aB (J R (yW L p))/\au w w':=by
 have G:=hr;obtain⟨hlen,_⟩:=G;have B:=hid s;have C:=hid hp;have r:aE (∀W,au w W->Row 0 W A L.length c 73 5 (cL L)):=hid (λW g=>Ji hr g);clear hr s hp hlen;go_enter func191,ntmps191;have a:=a8 w;go_step;refine ah ?_;refine ag ?_;refine ah ?_;refine v3 ?_;refine an ?_;go_wp2_with fail;go_loopw [8] (λl wr=>∃j:Nat,j<=L.length/\l=J R (j:Int)/\(∀(i:Nat) (x:j2),i<j->L[i]?=ab x->p x=ao)/\ak w (λ_=>False) wr []) (λl wr=>L.length -(c' l).toNat);case atStart=>grind
 case round=>
  clear a;obtain⟨j,I,rfl,u,a⟩:=hrel;by_cases hlt:j<L.length
  .have F:(j:Int)<(L.length:Int):=ad;obtain⟨x,hx⟩:∃x,L[j]?=ab x:=⟨_,cF hlt⟩;obtain⟨d,cur,t,E,_,_,_,_⟩:=(r.out _ a.only).blk ad;obtain⟨jf,z⟩:=ex (p x);have H:=cW hx;have D:=hid (anR L j x hx);have q:=hid hx;have b:=hid z;have o:=hid u;have m:=hid t;clear hx z u E t;go_step;refine ah ?_;refine ag ?_;refine ah ?_;refine v2 ?_;refine jk ?_;refine aI (ay (ab ⟨d,(j*5),af⟩)) (b4 24 73 5 (bj 12) (bj 13) aa ey aw d 0 (L.length) c j ((j*5)) (by show ae A _ _=_;rw[m]) aa hlt ad) ?_;refine aI _ (by(refine e5 73 _ aa d _ aa _ (Row.range (r _ a.only) m (λi v hi=>D i v hi)) gi aa aw)) ?_;refine bH ((by have h:=C.out x _ H a.only;rw[b.out]at h;exact h)) a (λw1 a=>?_) (hr:=by(go_simp;exact B _ _));refine an ?_;cases jf with
   |true=>
    refine ah ?_;refine eg ?_;go_wp2_with fail;go_ret;exact⟨by rw[show yW L p=(j:Int)from by unfold yW;rw[show L.findIdx? p=ab j from Mk q b o]];rfl,a.only⟩
   |false=>
    refine ah ?_;refine pad (j:Int) 1 ((j+1:Nat):Int) ?_;refine bU ?_;go_wp2_with fail;go_roundw;case rel=>exact⟨j+1,ad,rfl,λi y hi f=>by rcases vz.1 hi with h|rfl;exact o i y h f;rw[q]at f;cases f;exact b,a⟩
    case measure=>simp[c']<;>omega
  .have F:¬(j:Int)<(L.length:Int):=ad;obtain rfl:j=L.length:=ad;go_step;refine ah ?_;refine ag ?_;refine ah ?_;refine ag ?_;refine an ?_;go_wp2_with fail;go_ret;exact⟨by rw[show yW L p=-1 from by grind[yW,Mj]];rfl,a.only⟩
def anS A (c g:Nat) lb (L:List j2) (p:j2->Bool) w (cd:L.length<=1073741824) (hr:Row 0 w A L.length c 73 5 (cL L)) (B:∀args w,(kB g args).run ax w=bf (.enter g args) w)
 (hp:∀x W,x∈L->av (ej A) w W->aC ax g (#[ar #[J R x.1.k,J R x.1.to,J R x.1.fr,J R x.1.n,ae x.2.1 x.1.data.length x.2.2]]++lb) W λe w'=>e=aB (ai (p x))/\au W w'):
 aC ax 104 #[ae A L.length c,dS (eu g) #[] lb] w λe w'=>∃P,e=aB (ae P (L.filter (λx=>!p x)).length c)/\Turned w w' (bg A L.length c 73 5 (cL L)) (bg P (L.filter (λx=>!p x)).length c 73 5 (cL (L.filter (λx=>!p x)))):=by
 have U:=hid B;have D:0<L.length->_:=λh=>hr.blk h;obtain⟨N,K⟩:=ex (yW L p);have X:aE (∀W,av (ej A) w W->Row 0 W A L.length c 73 5 (cL L)->aC ax 191 #[ae A L.length c,dS (eu g) #[] lb] W λe w'=>e=aB (J R N)/\au W w'):=hid (λW o h=>by have q:=anT A c g lb L p W cd h B (λx fh hx g2=>hp x fh hx (o.trans g2.to (λ_ _ h=>h)));rw[K]at q;exact q);have Y:=hid hp;have hr1:=hid hr;have IL:=hid (λb (hb:ej A b)=>(Row.lt hr hb).2);by_cases C9:N=-1;clear B hp
 .subst C9;have hno:L.filter (λx=>!p x)=L:=by grind[Aj,yW]
  rw[hno];clear hno K D hr;go_enter Tryz.func104,Tryz.ntmps104;have a:=ak.start (t:=bg A L.length c 73 5 (cL L)) ⟨hr1,IL⟩;go_step;refine ah ?_;refine kf ?_;refine bH (X.out _ a.only (a.at 0)) a (λw1 a=>?_);refine cA ?_;refine pk (ai az) ?_;refine ah ?_;refine eg ?_;go_wp2_with fail;go_ret;exact⟨A,aa,a.gu 0⟩
 .obtain⟨d,qj⟩:∃d,L.findIdx? p=ab d:=by grind[yW]
  have SI:N=(d:Int):=by grind[yW]
  subst SI;obtain⟨jF,uF,hb1⟩:=List.findIdx?_eq_some_iff_getElem.1 qj;obtain⟨G,cur,rfl,kZ,ka,hcm,hcs,E⟩:=D ad;have arE:¬(d:Int)=-1:=ad;have SE:(L.take d).filter (λx=>!p x)=L.take d:=by grind[Aj,p6]
  have hx1:L[d]?=ab L[d]:=cF jF
  have hst:∃f fG,cur=(cL ((L.take (d+1)).filter (λx=>!p x))++(f++(cL (L.drop (d+1))++fG))).toArray/\f.length=5/\((L.take (d+1)).filter (λx=>!p x)).length=d:=by
   have bF:(L.take (d+1)).filter (λx=>!p x)=L.take d:=by grind[gx]
   refine⟨cL [L[d]],cur.toList.drop (L.length*5),?_,ba,aG⟩;rw[bF,<-kQ,<-kQ,<-EM,<-EM,show L.take d++[L[d]]++L.drop _=L by simp,<-E,oJ]
  obtain⟨f,fG,Ic,f',l⟩:=hst;have aqx:∀b,ej (ab (⟨G,0,af⟩:bT)) b->b=G:=λb ⟨off,sp,e⟩=>by grind
  have hsz:cur.size=c*5:=hcs;have k3:fG.length+L.length*5=c*5:=by grind[HE]
  have QG:=hid k3;have r:=hid ka;have Q:=hid hcm;have qZ:=hid hsz;have oD:=hid Ic;have BZ:=hid E;have lf:=hid kZ;clear k3 K qj hb1 SE uF hx1 ka hcm hcs E D hr kZ hsz Ic;go_enter Tryz.func104,Tryz.ntmps104;have a:ak w (ej (ab (⟨G,0,af⟩:bT))) w [aj G cur 73]:=(ak.start (t:=bg (ab (⟨G,0,af⟩:bT)) L.length c 73 5 (cL L)) ⟨hr1,IL⟩).as 0 aa _ (λ_=>lf) (λb hb=>⟨0,af,by rw[show b=G from hb]⟩);go_step;refine ah ?_;refine kf ?_;refine bH (X.out _ a.only (by have h:=Jt (n:=L.length) (a.aV 0) r Q qZ;rw[show cur.toList.take (L.length*5)=cL L from BZ]at h;exact h)) a (λaU a=>?_);refine cA ?_;refine a7 (ai ao) ?_;refine b5 ?_;refine pad (d:Int) 1 ((d+1:Nat):Int) ?_;refine bU ?_;have bK:=a;rw[oD]at a;go_wp2_with fail;go_loopw [5,6] (λaQ O wr=>∃(i j:Nat) (f:List aO),i<j/\j<=L.length/\aQ=J R (i:Int)/\O=J R (j:Int)/\((L.take j).filter (λx=>!p x)).length=i/\f.length+i*5=j*5/\ak w (ej (ab (⟨G,0,af⟩:bT))) wr [aj G (cL ((L.take j).filter (λx=>!p x))++(f++(cL (L.drop j)++fG))).toArray 73]) (λaQ O wr=>L.length -(c' O).toNat);case atStart=>exact⟨d,d+1,_,ad,ad,aa,aa,l,ad,a⟩
  case round=>
   clear a bK l f';obtain⟨i,j,f,jd,hj,rfl,rfl,l,f',a⟩:=hrel;by_cases hlt:j<L.length
   .have cf:(j:Int)<(L.length:Int):=ad;obtain⟨x,hx⟩:∃x,L[j]?=ab x:=⟨_,cF hlt⟩;have kq:=cW hx;obtain⟨jf,o0⟩:=ex (p x);have hdr:cL (L.drop j)=([J R x.1.k,J R x.1.to,J R x.1.fr,J R x.1.n,ae x.2.1 x.1.data.length x.2.2]:List aO)++cL (L.drop (j+1)):=by rw[<-RI,<-EM];congr 1;obtain⟨h1,rfl⟩:=eM.1 hx;simp
    obtain⟨pre,M⟩:=ex (cL ((L.take j).filter (λx=>!p x)));have S':pre.length=i*5:=by grind[HE]
    obtain⟨eO,I⟩:=ex (cL (L.drop (j+1)));rw[hdr,M,I]at a
    have xv:∀(k:Nat) (v:aO),(([J R x.1.k,J R x.1.to,J R x.1.fr,J R x.1.n,ae x.2.1 x.1.data.length x.2.2]:List aO):List aO)[k]?=ab v->(pre++(f++(([J R x.1.k,J R x.1.to,J R x.1.fr,J R x.1.n,ae x.2.1 x.1.data.length x.2.2]:List aO)++eO++fG)))[j*5+k]?=ab v:=λk v hk=>by have arb:k<5:=(eM.1 hk).1;rw[oI ad,oI ad,kQ,tZ (by show _<5;omega),show j*5+k -pre.length -f.length=k by omega];exact hk
    have Z:=hid S';have r4:=hid xv;have u:=hid hx;have s:=hid o0;have wQ:=hid M;have T:=hid I;have m:=hid l;have akw:=hid hdr;clear hx o0 M I hdr xv l;go_step;refine ah ?_;refine v4 ?_;refine gW ?_;refine aI (ay (ab ⟨G,(j*5),af⟩)) (b4 24 73 5 (bj 22) (bj 23) aa ey aw G 0 (L.length) c j ((j*5)) aa aa hlt ad) ?_;refine aI _ (by(refine e5 73 _ aa G (j*5) aa _ ((a.aV 0).rangeAt (j*5) _ (λk v hk=>by rw[List.getElem?_toArray];exact r4 k v hk)) gi aa aw)) ?_;refine bn a #[J R 0,J R 0,J R 0,J R 0,ae af 0 0] (λfQ bI a=>?_);refine bb a 0 (ar #[J R x.1.k,J R x.1.to,J R x.1.fr,J R x.1.n,ae x.2.1 x.1.data.length x.2.2]) (λb9 a=>?_);refine an ?_;cases jf with
    |true=>
     refine b5 ?_;refine bh a 0 #[J R x.1.k,J R x.1.to,J R x.1.fr,J R x.1.n,ae x.2.1 x.1.data.length x.2.2] ?_;refine bH ((by have h:=Y.out x _ kq a.only;rw[s.out]at h;exact h)) a (λcE a=>?_) (hr:=by(first|(go_simp;done)|(go_simp;exact U.out _ _)));refine cA ?_;refine pad (j:Int) 1 ((j+1:Nat):Int) ?_;refine bU ?_;go_wp2_with fail;go_roundw;case rel=>exact⟨i,j+1,f++([J R _,J R _,J R _,J R x.1.n,ae _ _ x.2.2]:List _),ad,ad,aa,aa,by rw[show(L.take _).filter (λx=>!p x)=(L.take j).filter (λx=>!p x)from by rw[gx,u,s8];simp[s.out]];exact m,by rw[db];show f.length+5+_=_;omega,by rw[show(L.take _).filter (λx=>!p x)=(L.take j).filter (λx=>!p x)from by rw[gx,u,s8];simp[s.out],wQ.out,T.out];have h:ak _ _ _ [aj G (pre++(f++(([J R x.1.k,J R x.1.to,J R x.1.fr,J R x.1.n,ae x.2.1 x.1.data.length x.2.2]:List aO)++eO++fG))).toArray 73]:=a.pick [1];simpa using h⟩
     case measure=>simp[c']<;>omega
    |false=>
     refine b5 ?_;refine bh a 0 #[J R x.1.k,J R x.1.to,J R x.1.fr,J R x.1.n,ae x.2.1 x.1.data.length x.2.2] ?_;refine bH ((by have h:=Y.out x _ kq a.only;rw[s.out]at h;exact h)) a (λcV a=>?_) (hr:=by(first|(go_simp;done)|(go_simp;exact U.out _ _)));refine kf ?_;refine bh a 0 #[J R x.1.k,J R x.1.to,J R x.1.fr,J R x.1.n,ae x.2.1 x.1.data.length x.2.2] ?_;refine aI _ (b4 24 73 5 _ _ aa ey aw G 0 _ c i ((i*5)) aa aa ad ad) ?_;refine NS a 1 (Gg (cs':=(pre++(([J R x.1.k,J R x.1.to,J R x.1.fr,J R x.1.n,ae x.2.1 x.1.data.length x.2.2]:List aO)++(f++(([J R x.1.k,J R x.1.to,J R x.1.fr,J R x.1.n,ae x.2.1 x.1.data.length x.2.2]:List aO)++eO++fG)).drop 5)).toArray) (ar #[J R x.1.k,J R x.1.to,J R x.1.fr,J R x.1.n,ae x.2.1 x.1.data.length x.2.2]) aa aa aa (a.aV 1) (by show i*5+5<=_;rw[iY,db,db,db,db,Z];show _<=_+(_+(5+_+_));omega) aw aw (by have e:=zp ([J R x.1.k,J R x.1.to,J R x.1.fr,J R x.1.n,ae x.2.1 x.1.data.length x.2.2]:List aO) pre (f++(([J R x.1.k,J R x.1.to,J R x.1.fr,J R x.1.n,ae x.2.1 x.1.data.length x.2.2]:List aO)++eO++fG)) (by rw[db,db,db];show 5<=_+(5+_+_);omega);rw[Z]at e;exact e)) (λdJ a=>?_);refine b5 ?_;refine pad (i:Int) 1 ((i+1:Nat):Int) ?_;refine cA ?_;refine pad (j:Int) 1 ((j+1:Nat):Int) ?_;refine bU ?_;go_wp2_with fail;go_roundw;case rel=>exact⟨i+1,j+1,(f++([J R x.1.k,J R x.1.to,J R x.1.fr,J R x.1.n,ae x.2.1 x.1.data.length x.2.2]:List aO)).drop 5,ad,ad,aa,aa,by rw[(show(L.take _).filter (λx=>!p x)=(L.take j).filter (λx=>!p x)++[x]from by rw[gx,u,s8];simp[s.out]),db,m];rfl,by rw[s9,db];show f.length+5 -5+_=_;omega,by rw[(show(L.take _).filter (λx=>!p x)=(L.take j).filter (λx=>!p x)++[x]from by rw[gx,u,s8];simp[s.out]),EM,wQ,RI,T];have h:ak _ _ _ [aj G (pre++(([J R x.1.k,J R x.1.to,J R x.1.fr,J R x.1.n,ae x.2.1 x.1.data.length x.2.2]:List aO)++(f++(([J R x.1.k,J R x.1.to,J R x.1.fr,J R x.1.n,ae x.2.1 x.1.data.length x.2.2]:List aO)++eO++fG)).drop 5)).toArray 73]:=a.pick [1];rw[show pre++(([J R x.1.k,J R x.1.to,J R x.1.fr,J R x.1.n,ae x.2.1 x.1.data.length x.2.2]:List aO)++(f++(([J R x.1.k,J R x.1.to,J R x.1.fr,J R x.1.n,ae x.2.1 x.1.data.length x.2.2]:List aO)++eO++fG)).drop 5)=pre++([J R x.1.k,J R x.1.to,J R x.1.fr,J R x.1.n,ae x.2.1 x.1.data.length x.2.2]:List aO)++((f++([J R x.1.k,J R x.1.to,J R x.1.fr,J R x.1.n,ae x.2.1 x.1.data.length x.2.2]:List aO)).drop 5++(eO++fG))from by rw[kQ,kQ,<-kQ f,List.drop_append_of_le_length (by rw[db];show 5<=_+5;omega)]]at h;exact h⟩
     case measure=>simp[c']<;>omega
   .have cf:¬(j:Int)<(L.length:Int):=ad;obtain rfl:j=L.length:=ad;rw[ll]at a l;rw[List.drop_length]at a;have m:=hid l;clear l;go_step;refine ah ?_;refine v4 ?_;refine an ?_;obtain⟨cu,z⟩:=ex ((cL (L.filter (λx=>!p x))++(f++(cL []++fG))).toArray);have Ie:cu.size=c*5:=by rw[<-z,iY,db,db,db,HE,m];have:=QG.out;show _+(_+(0+_))=_;omega
    have hcut:cu.toList.take (i*5)=cL (L.filter (λx=>!p x)):=by rw[<-z,<-m,<-HE];simp
    rw[z]at a;have S:=hid Ie;have Ea:=hid hcut;clear z Ie hcut;refine gW ?_;refine aI (ae (ab ⟨G,i*5,af⟩) (L.length -i) (c -i)) (agl 24 73 5 (bj 36) (bj 37) aa ey aw G L.length c i (L.length -i) aa aa ad r.out (by have:=r.out;omega)) ?_;refine aeZ (C:=λy=>y.size=cu.size/\y.toList.take (i*5)=cu.toList.take (i*5)) a 0 (afT (sz:=5) aa ba ey ba ba aw ad (a.aV 0) (by rw[S];have:=r.out;omega)) (λhZ y Sx a=>?_);refine an ?_;obtain⟨F,H⟩:=Sx;rw[Ea]at H;rw[S]at F;replace a:ak _ _ _ [aj G y 73]:=a;have QN:=hid F;have vq:=hid H;clear F H;refine gW ?_;refine aI (ae (ab (⟨G,0,af⟩:bT)) i c) (rF 24 73 5 (bj 39) (bj 40) aa ey aw (ab (⟨G,0,af⟩:bT)) L.length c i aa aa (by have:=r.out;omega)) ?_;refine bU ?_;have V:=a.u1 0 i c 5 (cL (L.filter (λx=>!p x))) vq (by have:=r.out;omega) Q QN;rw[<-m]at V;go_wp2_with fail;go_ret;exact⟨_,by rw[m.out];rfl,V.gu 0⟩
def nE(old:List Int)(ev:List Int)(i:Nat)(m:bO):bO:=if m.k=1/\(i:Int)∈ev then⟨2,m.to,0,0,(old.drop m.fr.toNat).take m.n.toNat⟩else m
def u0(old ev:List Int)(ms:List bO)(j:Nat):List bO:=ms.mapIdx (λi m=>if i<j then nE old ev i m else m)
def lW(old ev:List Int)(ms:List bO):List bO:=ms.mapIdx (nE old ev)
theorem axP(old ev)ms:u0 old ev ms 0=ms:=by unfold u0;refine wW λi=>?_;rw[List.getElem?_mapIdx];cases ms[i]?<;>simp
def axO(old ev)ms:u0 old ev ms ms.length=lW old ev ms:=by unfold u0 lW;refine wW λi=>?_;grind
def agG(old ev)ms j:(u0 old ev ms j).length=ms.length:=by simp[u0]
def agF{old ev ms j m}(h:ms[j]?=ab m):(u0 old ev ms j)[j]?=ab m:=by grind[u0]
def UU{old ev ms j m}(h:ms[j]?=ab m):u0 old ev ms (j+1)=(u0 old ev ms j).set j (nE old ev j m):=by have a:=(eM.1 h).1;refine wW λi=>?_;grind[u0]
def af8{a:Type}{l:List a}{j x}(h:l[j]?=ab x):l.set j x=l:=by grind[List.set_getElem_self]
def aol{aq w FX A n c}{l:List j2}{L}(h:ak aq FX w (CE A n c l::L)):ak aq FX w (bg A n c 73 5 (cL l)::gK l::L):=by
 refine(h.as 0 aa (both (bg A n c 73 5 (cL l)) (gK l)) (λa=>⟨a.1,a.2,λb hb d=>?_⟩) (λb hb=>hb)).fw;obtain⟨x,hx,o,f,d⟩:=d;obtain⟨k,m,hb⟩:=hb;obtain⟨_,cs,i⟩:=(a.2 x hx).2.1 b o f d;rcases a.1.2 with⟨e,_⟩|⟨g,cap,cur,e,_,j,_⟩;·grind
 .grind
def ak.ao2{aq w FX L}{l:List j2}{m A c}j(h:ak aq FX w (gK l::cz A c m.data::L)):ak aq FX w (gK (l.set j (m,A,c))::L):=by
 refine h.star.as 0 aa _ (λa x hx=>?_) (λb hb=>?_)
 .rcases al0 hx with hx|rfl;·exact a.1 x hx
  .exact a.2.1
 .obtain⟨x,hx,hb⟩:=hb;rcases al0 hx with hx|rfl;·exact bZ ⟨x,hx,hb⟩
  .exact cc hb
def ZO:∀{l:List j2} {j x},j<l.length->cL (l.set j x)=(cL l).take (j*5)++(jD x.1 x.2.1 x.2.2++(cL l).drop (j*5+5))
 |[],_,_,h=>absurd h (Ao _)
 |y::l,0,x,_=>aa
 |y::l,j+1,x,h=>by have b:=ZO (l:=l) (j:=j) (x:=x) aG;have bF:∀(a:j2) (k:List j2),cL (a::k)=jD a.1 a.2.1 a.2.2++cL k:=λ_ _=>aa;have cq:(jD y.1 y.2.1 y.2.2).length=5:=rfl;have t1:(jD y.1 y.2.1 y.2.2).take (j*5+5)=jD y.1 y.2.1 y.2.2:=ub ad;have t2:(jD y.1 y.2.1 y.2.2).drop (j*5+5+5)=[]:=List.drop_eq_nil_of_le ad;rw[List.set_cons_succ,bF,bF,b,Ap,YA,List.drop_append,cq,t1,t2,show j*5+5 -5=j*5 by omega,show j*5+5+5 -5=j*5+5 by omega,l0,kQ]
def av6{P o}{a:b3}{w g n c j}{l:List j2}{x p q}(h:Row 0 w (ab ⟨g,0,af⟩) n c 73 5 (cL l))(C:j<n)(hn:l.length=n)(ho:o.op=.store 73 p q)(hx:a.eval p=ay (ab ⟨g,j*5,af⟩))(z:a.eval q=ar (jD x.1 x.2.1 x.2.2).toArray)(hi:(P.info? 73).map (·.size)=ab 5):
 ∃w',(bz a.eval o).run P w=bf .skip w'/\Turned w w' (bg (ab ⟨g,0,af⟩) n c 73 5 (cL l)) (bg (ab ⟨g,0,af⟩) n c 73 5 (cL (l.set j x))):=by
 obtain⟨G,cur,t,y,m,hcm,hcs,u⟩:=h.blk ad;cases t;have D:j*5+5<=n*5:=ad;have E:n*5<=c*5:=oK _ m;obtain⟨w',h1,f,s,A⟩:=N7 (P:=P) (k:=j*5) (v:=ar (jD x.1 x.2.1 x.2.2).toArray) ho hx z y (by show j*5+5<=_;omega) (by rw[hi];rfl) aw;refine⟨w',h1,s.mono (G:=ej (ab ⟨g,0,af⟩)) (λi _ e=>⟨0,af,bc⟩),?_,λb hb=>?_⟩
 .have B:cur.toList.length=c*5:=ad;have d:(jD x.1 x.2.1 x.2.2).length=5:=rfl
  have e:lay cur (j*5) (jD x.1 x.2.1 x.2.2)=(cur.toList.take (j*5)++(jD x.1 x.2.1 x.2.2++(cur.toList.drop (j*5)).drop 5)).toArray:=by have q:=zp (jD x.1 x.2.1 x.2.2) (cur.toList.take (j*5)) (cur.toList.drop (j*5)) aG;rw[oJ,oe,Am ad,d]at q;exact q
  have r:aX w' g (cur.toList.take (j*5)++(jD x.1 x.2.1 x.2.2++(cur.toList.drop (j*5)).drop 5)).toArray 73:=by rw[<-e];exact f
  have hr:=Jt (n:=n) (c:=c) (sz:=5) r m hcm aG
  have hx2:(cur.toList.take (j*5)++(jD x.1 x.2.1 x.2.2++(cur.toList.drop (j*5)).drop 5)).take (n*5)=cL (l.set j x):=by rw[ZO ad,<-u,YA,oe,Am ad,al5,YA,d,List.drop_drop,al5,List.drop_take,Nat.min_eq_right ad,Am ad,ub (l:=jD x.1 x.2.1 x.2.2) ad];congr 2
  show Row 0 w' _ _ _ _ _ _;rw[<-hx2];exact hr
 .obtain⟨F,H,e⟩:=hb;cases e;exact⟨aX.lt f,bZ ⟨_,_,aa⟩⟩
def axQ(s A E)(b0 c O)(old ev)n(g1 g2)ms w(hold:bX w s old)(hc0:old.length<=b0)(gU:old.length<=1048576)(hl:cZ w A ms)(eR:ms.length<=1000)(qi:∀m∈ms,m.data.length<=140737488355328)(iL:dy w E ev)(aBf:ev.length<=1048576)(lr:∀m∈ms,m.k=1->∃f q:Nat,m.fr=(f:Int)/\m.n=(q:Int)/\f+q<=old.length):
 aC ax 103 #[ae s old.length b0,eN (old.length:Int) n g1 g2 (ae A ms.length c),ae E ev.length O] w λe w'=>∃D F l,l.map (·.1)=lW old ev ms/\e=aB (bo #[eN (old.length:Int) n g1 g2 (ae D ms.length F),ai az])/\cj w w' (bY [bg D ms.length F 73 5 (cL l),gK l]):=by
 have cO:=hid hl;have B6:=hid hold;have qY:=hid lr;have qU:=hid qi;have wP:aE (∀(j:Nat) W,au w W->aC ax 190 #[ae E ev.length O,J R (j:Int)] W λe w'=>e=aB (ai (decide ((j:Int)∈ev)))/\au W w'):=hid (λj W g=>(G.HG E O ev (j:Int) W (iL.only g (λ_ _ _ h=>h)) ad).mono λ_ _ ⟨h1,h2⟩=>⟨h1,h2▸av.refl _ _⟩);clear hl hold lr iL qi;go_enter func103,ntmps103;have a:=a8 w;go_step;refine ah ?_;refine bL a (ar (a' (old.length:Int) n g1 g2 (ae A ms.length c))) (λY w1 a=>?_);refine bn a (a' 0 0 dq.zero dq.zero (ae af 0 0)) (λZ aU a=>?_);refine cA ?_;refine pl a 1 0 ?_ (hv:=kE);refine v2 ?_;refine aI (ai ao) (by(go_simp;try simp)) ?_;refine ah ?_;refine bh a 1 (a' (old.length:Int) n g1 g2 (ae A ms.length c)) ?_ (hv:=(e4 _)) (hk:=by omega) (hz:=(by rw[bD];rfl));refine ag ?_;refine pl a 1 66 ?_ (hv:=fi);refine aR (JN _ n g1 g2 _ A c ms _ aa (cO.out.aH a.only) (eb eR aS) qU) ?_;rintro e bI ⟨aL,c2,bG,rfl,hF,kO⟩;replace a:=a.new _ hF;refine aT ?_;refine bn a (a' 0 0 dq.zero dq.zero (ae af 0 0)) (λet b9 a=>?_);refine bb a 0 (ar (a' (old.length:Int) n g1 g2 (ae aL ms.length c2))) (λcE a=>?_) (hk:=by show 0+gB (a' _ _ _ _ _)<=_;simp only[bD];decide) (hz:=by show _=ab (gB (a' _ _ _ _ _));rw[bD];rfl) (h1:=(sf aa)) (hc:=xy);refine an ?_;obtain⟨l,vT,rfl⟩:=kO;replace a:=aol (a.front 1);refine b5 ?_;refine pl a 4 66 ?_ (hv:=fi);refine eg ?_;have bK:=a.pk [0,1,2,3,4];go_wp2_with fail;go_loopw [26] (λU wr=>∃(j:Nat) (l:List j2),j<=ms.length/\U=J R (j:Int)/\aE (l.map (·.1)=u0 old ev ms j)/\ak w (λ_=>False) wr [bg aL ms.length c2 73 5 (cL l),gK l,aj et (a' (old.length:Int) n g1 g2 (ae aL ms.length c2)) 26,aj Z (a' 0 0 dq.zero dq.zero (ae af 0 0)) 26,aj Y (a' (old.length:Int) n g1 g2 (ae A ms.length c)) 26]) (λU wr=>ms.length -(c' U).toNat);case atStart=>exact⟨0,l,cB _,aa,hid (by grind[axP]),bK⟩
 case round=>
  clear a bK vT;obtain⟨j,l,hj,rfl,p,a⟩:=hrel;by_cases hlt:j<ms.length
  .have cf:(j:Int)<(ms.length:Int):=ad;obtain⟨m,S⟩:∃m,ms[j]?=ab m:=⟨_,cF hlt⟩;obtain⟨y,B,o,r,bB,eA,dg⟩:=cZ.jt cO S;have cv:=hid bB;have iV:=hid eA;have K:=hid dg;have t:=hid S;clear bB eA dg S;go_step;refine ah ?_;refine a7 (ai az) ?_;refine an ?_;by_cases hk:m.k=1
   .obtain⟨f,q,Q,T,CU⟩:=qY m (cW t) hk;obtain⟨bs,P⟩:=ex ((old.drop f).take q);have hbl:q=bs.length:=by rw[<-P,oe,s9];omega
    subst hbl;rw[hk,Q,T]at K;have r0:=hid P;have M:=hid (And.intro hk (And.intro Q T));clear hk Q T P;refine b5 ?_;refine aI (ay (ab ⟨y,(B+j*5),af⟩)) (b4 24 73 5 (bj 24) (bj 26) aa ey aw y B (ms.length) c j ((B+j*5)) (by show ae A _ _=_;rw[cv]) aa hlt aa) ?_;refine aI _ (by(refine e5 73 _ aa y _ aa _ (K _ a.only) gi aa aw)) ?_;refine bn a #[J R 0,J R 0,J R 0,J R 0,ae af 0 0] (λV cV a=>?_);refine ag ?_;refine bb a 0 (ar #[J R 1,J R m.to,J R (f:Int),J R (bs.length:Int),ae o m.data.length r]) (λdJ a=>?_);refine ah ?_;refine bh a 0 #[J R 1,J R m.to,J R (f:Int),J R (bs.length:Int),ae o m.data.length r] ?_;refine bH (Bn m.to (f:Int) (bs.length:Int) o m.data.length r _) a (λdB a=>?_);refine v3 ?_;refine bn a #[J R 0,J R 0] (λX eZ a=>?_);refine bb a 0 (ar #[J R (f:Int),J R (bs.length:Int)]) (λgV a=>?_);refine bU ?_;by_cases z:(j:Int)∈ev
    .have L:aE (decide ((j:Int)∈ev)=az):=hid (by simpa using z);have C:aE (nE old ev j m=⟨2,m.to,0,0,bs⟩):=hid (by rw[nE,if_pos ⟨M.1,z⟩,M.2.1,M.2.2];show(⟨2,m.to,0,0,(old.drop f).take bs.length⟩:bO)=_;rw[r0]);obtain⟨x,hx⟩:∃x,l[j]?=ab x:=⟨l[j]'(by have h:=congrArg q3 p;rw[hM,agG]at h;omega),cF _⟩;obtain⟨H,rk,_⟩:=(a.atR 2).cell (EP hx 0 _ aa);subst rk;have gw:aE (l.length=ms.length):=hid (by have h:=congrArg q3 p;rwa [hM,agG]at h);clear z hx;refine o8 ?_;refine bH ((by have h:=wP.out j _ a.only;rw[L.out]at h;exact h)) a (λhZ a=>?_);refine hI ?_;refine bN a [14,15,17] (λi u=>match i with|14=>ae (ab ⟨u.b,0,af⟩) 1 1|15=>ar #[J R 2,J R m.to,J R 0,J R 0,ae u.A bs.length u.c]|_=>a1) (λd=>λ|14=>aj ((d 14).b) #[ae (fm s b0 f 1) bs.length (b0 -f)] 22|15=>cz (d 15).A (d 15).c bs|17=>bg (ab ⟨H,0,af⟩) ms.length c2 73 5 (cL (l.set j (⟨2,m.to,0,0,bs⟩,(d 15).A,(d 15).c)))|_=>emp) (λ|17=>[2]|_=>[]) (λ|1=>[4]|4=>[1]|7=>[0]|9=>[0]|11=>[0]|15=>[21]|_=>[]) (λ|14=>[14]|15=>[15]|17=>[15]|_=>[]) [0,1,3,4,5,6,21,22,24] (λd=>?_);refine aJ ?_;refine dl 0 66 ?_ (hv:=fi);refine bx ?_;refine dl 0 1 ?_;refine bx ?_;refine dl 0 0 ?_;refine aJ ?_;refine dl 0 0 ?_;refine aJ ?_;refine dl 0 1 ?_;refine aK _ (λ_ _ _=>mw 3 _ _ 3 aa _ _ ((f+bs.length:Nat):Int) aa aa ad ad ad) ?_;refine aK _ (λ_ _ _=>Bl 22 5 1 _ _ _ aa dK aw s _ b0 f _ bs.length aa aa aa ad ad) ?_;refine kD _ 22 ?_;refine dh (λwl Fr a=>((TJ m.to (d 14).b (fm s b0 f 1) (b0 -f) bs wl ((a.aV 0).cell 0 aa) (by have h:=(B6.out.aH a.only).win (i:=f) (q:=f+bs.length) (eb (b7 _) hc0) CU;rw[show f+bs.length -f=bs.length by omega,r0]at h;exact h) ad)).mono ?_) ?_;·rintro e dr ⟨D,F,rfl,kn,g⟩;exact⟨{A:=D,c:=F},aa,a.lS g kn⟩
     refine aK _ (λ_ _ _=>b4 24 73 5 _ _ aa ey aw H 0 _ c2 j ((j*5)) aa aa hlt ad) ?_;refine L9 (λ_ _ a=>av6 (x:=(⟨2,_,0,0,bs⟩,(d 15).A,(d 15).c)) (a.atR 0) hlt gw aa aa aa aw) ?_;refine bQ λjQ a=>?_;generalize (d 14).b=ahV at a⊢;generalize (d 15).A=I at a⊢;generalize (d 15).c=N at a⊢;replace a:=ak.ao2 j (m:=⟨2,m.to,0,0,bs⟩) (a.pick (l':=[gK l,cz I N bs,aj X #[J R (f:Int),J R (bs.length:Int)] 35,aj V #[J R 1,J R m.to,J R (f:Int),J R (bs.length:Int),ae o m.data.length r] 73,aj et (a' (old.length:Int) n g1 g2 (ae (ab ⟨H,0,af⟩) ms.length c2)) 26,aj Z (a' 0 0 dq.zero dq.zero (ae af 0 0)) 26,aj Y (a' (old.length:Int) n g1 g2 (ae A ms.length c)) 26,aj ahV #[ae (fm s b0 f 1) bs.length (b0 -f)] 22,bg (ab ⟨H,0,af⟩) ms.length c2 73 5 (cL (l.set j (⟨2,m.to,0,0,bs⟩,I,N)))]) [2,7,0,1,3,4,5,6,8]);refine ah ?_;refine pad (j:Int) 1 ((j+1:Nat):Int) ?_;refine bU ?_;go_wp2_with fail;go_roundw;case rel=>exact⟨j+1,(l.set j (⟨2,_,0,0,bs⟩,I,N)),ad,aa,hid (by rw[List.map_set,p,UU t,C]),a.pick [7,0,3,4,5]⟩
     case measure=>simp[c']<;>omega
    .have L:aE (decide ((j:Int)∈ev)=ao):=hid (by simpa using z);have C:aE (nE old ev j m=m):=hid (by rw[nE,if_neg (λh=>z h.2)]);clear z;refine o8 ?_;refine bH ((by have h:=wP.out j _ a.only;rw[L.out]at h;exact h)) a (λke a=>?_);refine ed ?_;refine pad (j:Int) 1 ((j+1:Nat):Int) ?_;refine bU ?_;go_wp2_with fail;go_roundw;case rel=>exact⟨j+1,l,ad,aa,hid (by rw[UU t,show nE _ ev j m=m from C,af8 (agF t)];exact p),a.pick [2,3,4,5,6]⟩
     case measure=>simp[c']<;>omega
   .have C:aE (nE old ev j m=m):=hid (by rw[nE,if_neg (λh=>hk h.1)]);refine b5 ?_;refine aI (ay (ab ⟨y,(B+j*5),af⟩)) (b4 24 73 5 (bj 24) (bj 26) aa ey aw y B (ms.length) c j ((B+j*5)) (by show ae A _ _=_;rw[cv]) aa hlt aa) ?_;refine aI _ (by(refine e5 73 _ aa y _ aa _ (K _ a.only) gi aa aw)) ?_;refine bn a #[J R 0,J R 0,J R 0,J R 0,ae af 0 0] (λV k8 a=>?_);refine ag ?_;refine bb a 0 (ar #[J R m.k,J R m.to,J R m.fr,J R m.n,ae o m.data.length r]) (λmn a=>?_);refine ah ?_;refine bh a 0 #[J R m.k,J R m.to,J R m.fr,J R m.n,ae o m.data.length r] ?_;refine bH (Bo m.k m.to m.fr m.n o m.data.length r _ hk) a (λnn a=>?_);refine v3 ?_;refine bn a #[J R 0,J R 0] (λX pO a=>?_);refine bb a 0 (ar #[J R 0,J R 0]) (λrK a=>?_);refine kf ?_;iterate 3 refine ps ?_
    refine ed ?_;refine pad (j:Int) 1 ((j+1:Nat):Int) ?_;refine bU ?_;go_wp2_with fail;go_roundw;case rel=>exact⟨j+1,l,ad,aa,hid (by rw[UU t,show nE _ ev j m=m from C,af8 (agF t)];exact p),a.pick [2,3,4,5,6]⟩
    case measure=>simp[c']<;>omega
  .have cf:¬(j:Int)<(ms.length:Int):=ad;obtain rfl:j=ms.length:=ad;rw[axO]at p;go_step;refine ah ?_;refine a7 (ai ao) ?_;refine ah ?_;refine bh a 2 (a' (old.length:Int) n g1 g2 (ae aL ms.length c2)) ?_ (hv:=(e4 _)) (hk:=by omega) (hz:=(by rw[bD];rfl));refine bb a 3 (ar (a' (old.length:Int) n g1 g2 (ae aL ms.length c2))) (λu4 a=>?_) (hk:=by show 0+gB (a' _ _ _ _ _)<=_;simp only[bD];decide) (hz:=by show _=ab (gB (a' _ _ _ _ _));rw[bD];rfl) (h1:=(sf aa)) (hc:=xy);refine bU ?_;go_wp2_with fail;refine c8 (v:=_) (ml aa aa aa (a.aV 3) aw (by rw[bD];rfl)) aa (⟨aL,c2,l,p,aa,((a.pick (l':=[bg aL ms.length c2 73 5 (cL l),gK l]) [0,1]).fP 2).fresh 0⟩)
instance aB3:Inhabited bO:=⟨⟨0,0,0,0,[]⟩⟩
def rc(A:Option bT)(n sz:Nat)(xs:List aO):bu:=⟨λb=>0<n/\ej A b,λw=>Cells w sz A n xs,λw w' h d a=>⟨a.1,λhn=>by obtain⟨⟨dX,gr,c⟩,rfl,hc⟩:=a.2 hn;have hb:w'.heap[dX]?=w.heap[dX]?:=h dX ⟨hn,gr,c,aa⟩ (d dX ⟨hn,gr,c,aa⟩);grind[u',D5]⟩⟩
def oU(x:j2):List Value:=jD x.1 x.2.1 x.2.2
def L2(x y:j2):Int:=zR x.1.to y.1.to
theorem Nt(x y):GO L2 x y=decide (x.1.to<y.1.to):=by grind[GO,L2,zR]
def axG:Sort.SWO (GO L2) where
 irrefl x:=by grind[Nt]
 trans x y z h1 h2:=by grind[Nt]
 ntrans x y z h1 h2:=by grind[Nt]
def axq(x y)W:aC ax 107 #[ar (oU x).toArray,ar (oU y).toArray] W λe w'=>e=aB (J R (zR x.1.to y.1.to))/\∃q b,w'=GP (W.drewN q) b:=by have hcon:=λa=>Zz x.1.to y.1.to a;generalize zR x.1.to y.1.to=r at hcon⊢;unfold oU jD;go_enter func107,ntmps107;go_wp2_with (go_at_call 108;refine(hcon _).mono ?_;rintro e w' ⟨rfl,rfl⟩);go_ret;exact⟨aa,0,_,by rw[PI,PI,Sort.grow_grow];rfl⟩
def apn args w:(kB 107 args).run ax w=bf (.enter 107 args) w:=ba
def av.avl F w(blk off)d(hb:F blk):av F w (Xc oU 5 w blk off d):=
 ⟨aa,aa,aa,by show w.heap.size<=(w.heap.modify blk _).size;rw[ahF];exact b7 _,λk _ hn=>by show(w.heap.modify blk _)[k]?=_;rw[Array.getElem?_modify,if_neg (λe:blk=k=>hn (e▸hb))]⟩
def Z'{l:List j2}{j c x}(hx:l[j]?=ab x){v}(hv:(oU x)[c]?=ab v):(cL l)[j*5+c]?=ab v:=EP hx c v hv
def Row.arK{w g n c}{l:List j2}(h:Row 0 w (ab ⟨g,0,af⟩) n c 73 5 (cL l))(hn:l.length=n)(f:0<n):PH oU 5 w g 0 l.toArray:=λt b=>by
 obtain⟨G,cur,d,i,_⟩:=h.blk f;cases d;rw[Xd]at b;have j:t<l.length*5:=ad;have e:t/5<l.length:=ad;rw[Xb oU 5 l.toArray t b,getElem!_pos l.toArray _ ad];refine⟨?_,by grind[World.frozen?]⟩;have hx:l[t/5]?=ab l[t/5]:=cF e;have a:t%5<(oU l[t/5]).length:=by show _<5;omega
 have hv:=Z' hx (cF a);rw[show t/5*5+t%5=t by omega]at hv;have:=h.cellAt hv;rw[js,this];simp only[List.getElem_toArray];rw[getElem!_pos (oU _) (t%5) a];rfl
def avt{w g n d}(h:PH oU 5 w g 0 d)(hn:d.size=n):Cells w 5 (ab ⟨g,0,af⟩) n (cL d.toList):=by
 refine⟨by grind[ZN],λ_=>⟨_,rfl,λj v hv=>?_⟩⟩;have b:=(eM.1 hv).1;rw[ZN,Array.length_toList]at b;have c:j/5<d.size:=ad;have hx:d.toList[j/5]?=ab d[j/5]:=bc;have a:j%5<(oU d[j/5]).length:=by show _<5;omega
 have hv2:=Z' hx (cF a);rw[show j/5*5+j%5=j by omega,hv]at hv2;have hc:=(h j (by grind[Xd])).1;rw[Xb oU 5 d j b,getElem!_pos d _ c,getElem!_pos (oU d[j/5]) (j%5) a]at hc;rw[hv2,mW];exact hc
def axh(n c)A(l:List j2)w(hr:Row 0 w A n c 73 5 (cL l))(hn:l.length=n)(hlen:n<=1048576):
 aC ax 106 #[ae A n c,dS (eu 107) #[] #[]] w λe w'=>e=aB (bo #[])/\∃l',l'.Perm l/\l'.Pairwise (λx y=>x.1.to<=y.1.to)/\Turned w w' (bg A n c 73 5 (cL l)) (rc A n 5 (cL l')):=by
 rcases l1 n with p|f;·subst p;obtain rfl:l=[]:=j8 hn;refine(aie Tryz.adU A c _ w).mono ?_;rintro e w' ⟨rfl,rfl⟩;exact⟨aa,[],Cc _,Hj,av.refl _ _,⟨rfl,λh=>absurd h (al9 _)⟩,λb hb=>absurd hb.1 (al9 _)⟩
 .obtain⟨g,cur,rfl,q,_⟩:=hr.blk f;have hlt:=aX.lt q;have a:=hr.arK hn f;subst hn
  have h:=aif Tryz.adU 5 isAgg73 sizeOf73 oU (λ_=>aa) (λx v hv=>EL x.1 x.2.1 x.2.2 v hv) L2 axG 107 #[] g 0 c l.toArray w apn
   (λm os fJ _ x y=>axq x y _) a hlt aG;simp only[iY]at h;change aC ax 106 _ _ _ at h;refine h.mono ?_;clear h;rintro e w' ⟨rfl,cr,m,os,k,s,rfl⟩;have hsz:cr.size=l.length:=by have:=k.1;simpa using this
  have d:av (λi=>i=g) w (GP (Xc oU 5 (Sort.ahead w m) g 0 cr) os):=((av.YQ (λi=>i=g) w m).trans (av.avl (λi=>i=g) _ g 0 cr aa) (λ_ _ h=>h)).trans (av.aaK _ _ os) (λ_ _ h=>h);refine⟨aa,cr.toList,?_,?_,d.mono (G:=ej (ab ⟨g,0,af⟩)) (λi _ e=>⟨0,af,bc⟩),avt ?_ hsz,λb hb=>?_⟩
  .have:=k.2.2;have bF:(cr.extract 0 l.length).toList=cr.toList:=by rw[<-hsz];simp
   grind
  .rw[mv];intro i j hi t r;have:=s i j (cB _) r aG;grind[Nt]
  .refine Sort.holdsK_grow oU 5 _ os g 0 cr ?_ (Sort.holdsK_putRowK oU 5 _ g 0 l.toArray cr (Sort.holdsK_ahead oU 5 w m g 0 l.toArray a) ad);show g<(w.heap.modify g _).size;rw[ahF];exact hlt
  .obtain⟨_,o,u,e⟩:=hb;cases e;exact⟨wY hlt d.size,bZ ⟨_,_,aa⟩⟩
def amH m A c w:
 aC ax 105 #[nC m A c] w λe w'=>e=aB (ai (!decide (m.k=2)))/\au w w':=by
 obtain⟨r,hr⟩:=ex (decide (m.k=2));have b:aE ((m.k !=2)=!r):=hid aG;rw[hr];clear hr;go_enter Tryz.func105,ntmps105;have a:=a8 w;go_step;refine ah ?_;refine bL a (ar #[J R m.k,J R m.to,J R m.fr,J R m.n,ae A m.data.length c]) (λd w1 a=>?_);refine cA ?_;refine pl a 0 0 ?_;refine dp b (ai !r) ?_;refine bU ?_;go_wp2_with fail;go_ret;exact⟨aa,a.only⟩
def aww o A(n c)w:(O8 26 #[(0,J R o),(4,ae A n c)]).run ax w=bf (eN o 0 dq.zero dq.zero (ae A n c)) w:=aw
def am9{d}{a:b3}{w b cX o A n c}(ho:d.op=.build 26 #[(0,b),(4,cX)])(f:a.eval b=J R o)(h1:a.eval cX=ae A n c):
 (bz a.eval d).run ax w=bf (da (eN o 0 dq.zero dq.zero (ae A n c))) w:=by
 have hr:=aww o A n c w;unfold bz;simp only[ho,gC];have e:(#[(0,b),(4,cX)].map λ(i,x)=>(i,a.eval x))=(#[(0,J R o),(4,ae A n c)]:Array (Nat×aO)):=aG;rw[e,hr];rfl
theorem dy.cell{w A xs b off j x}(h:dy w A xs)(a:A=ab ⟨b,off,af⟩)(hx:xs[j]?=ab x):w.cell? ⟨b,off+j,af⟩=ab (J R x):=by have c:=(eM.1 hx).1;obtain⟨dY,d,e,hc⟩:=h ad;grind
def ak.ao3{aq w FX L}{l:List j2}(l':List j2)(a:∀x∈l',x∈l)(h:ak aq FX w (gK l::L)):ak aq FX w (gK l'::L):=
 h.as 0 aa _ (λc x hx=>c x (a x hx)) (λb ⟨x,hx,hb⟩=>⟨x,a x hx,hb⟩)
def ak.ao0{aq w FX L}{l l':List j2}(h:ak aq FX w (gK l::gK l'::L)):ak aq FX w (gK (l++l')::L):=
 h.star.as 0 aa _ (λa x hx=>(iX.1 hx).elim (a.1 x) (a.2.1 x)) (λb ⟨x,hx,hb⟩=>(iX.1 hx).elim (λh=>bZ ⟨x,h,hb⟩) (λh=>cc ⟨x,h,hb⟩))
def aok(l:List j2):∀u∈cL l,u.oneCell'=true:=by intro u a;obtain⟨x,_,a⟩:=List.mem_flatMap.1 a;exact EL _ _ _ u a
def fu(ms:List bO)(od:List Int):List bO:=od.filterMap (λx=>ms[x.toNat]?)
def aut{ms}{od:List Int}{j i:Nat}{m}(hx:od[j]?=ab (i:Int))(a:ms[i]?=ab m):fu ms (od.take (j+1))=fu ms (od.take j)++[m]:=by grind[gx,fu]
def lits(ms:List bO):List bO:=ms.filter (λm=>decide (m.k=2))
theorem atj(l:List j2):(l.filter (λx=>!!decide (x.1.k=2))).map (·.1)=lits (l.map (·.1)):=by
 induction l with
 |nil=>rfl
 |cons x l a=>grind[lits]
def alP(old:List Int)(ms:List bO)(o od:List Int)(out:List bO):Prop:=∃rs,rs.Perm (lits (lW old o ms))/\rs.Pairwise (λx y=>x.to<=y.to)/\out=fu ms od++rs
def amJ(C A)(b0 c)old ms S(o od)w(hold:bX w C old)(hc0:old.length<=b0)(gU:old.length<=1048576)(K:cZ w A ms)(qi:∀m∈ms,m.data.length<=140737488355328)(hc:Conv ms S o od)(vX:∀x∈od,∃i:Nat,x=(i:Int)/\i<ms.length)(acM:od.length<=1048576)(lr:∀m∈ms,m.k=1->∃f q:Nat,m.fr=(f:Int)/\m.n=(q:Int)/\f+q<=old.length):
 aC ax 45 #[ae C old.length b0,ae A ms.length c] w λe w'=>∃y aD l,alP old ms o od (l.map (·.1))/\e=aB (ae y l.length aD)/\cj w w' (bY [bg y l.length aD 73 5 (cL l),gK l]):=by
 have eR:=hc.ok.dL;have V:=hid K;have B6:=hid hold;have U:=hid qi;have qY:=hid lr;have ak3:=hid vX;have Lb:=hid hc.R7;have Ad:aE (∀W,av (λ_=>False) w W->aC ax 88 #[ae A ms.length c] W λe w'=>∃b h r d s,e=aB (ar #[ae A ms.length c,ay (ab ⟨b,0,af⟩),ae h o.length r,ae d od.length s])/\cj W w' (bY [mL h o,mL d od])):=hid (λW g=>anX A c ms S o od W (K.aH g) hc);have acM:od.length<=1048576:=acM;clear K hold qi lr vX hc;go_enter func45,ntmps45;have a:=a8 w;go_step;refine ah ?_;refine ag ?_;refine an ?_;go_step;refine ah ?_;refine ag ?_;refine aR (Ad _ a.only) ?_;rintro e w1 ⟨b,h,r,d,s,rfl,H⟩;replace a:=a.new _ H;refine aT ?_;refine bn a #[ae af 0 0,ay af,ae af 0 0,ae af 0 0] (λB aU a=>?_);refine bb a 0 (ar #[ae A ms.length c,ay (ab ⟨b,0,af⟩),ae h o.length r,ae d od.length s]) (λbI a=>?_);refine an ?_;replace a:ak _ _ _ [mL h o,mL d od,aj B #[ae A ms.length c,ay (ab ⟨b,0,af⟩),ae h o.length r,ae d od.length s] 183]:=(a.front 1).kI;go_step;refine ah ?_;refine ag ?_;refine an ?_;replace a:=(a.new (bg af 0 0 73 5 []) ⟨av.refl _ _,Row.nil _ _ _ _,λb ⟨_,_,e⟩=>aG⟩).Md;go_step;refine ah ?_;refine ag ?_;refine pl a 4 3 ?_;iterate 2 refine ag ?_
 refine an ?_;have Z:=a.pick (l':=[bg af 0 0 73 5 (cL []),gK [],mL h o,mL d od,aj B #[ae A ms.length c,ay (ab ⟨b,0,af⟩),ae h o.length r,ae d od.length s] 183]) [1,0,2,3,4];go_wp2_with fail;go_loopw [6,17] (λep N wr=>∃(j:Nat) (aL:Option bT) (c2:Nat) (l:List j2),j<=od.length/\aE (l.map (·.1)=fu ms (od.take j))/\aE (l.length=j)/\ep=ae aL j c2/\N=J R (j:Int)/\ak w (λ_=>False) wr [bg aL j c2 73 5 (cL l),gK l,mL h o,mL d od,aj B #[ae A ms.length c,ay (ab ⟨b,0,af⟩),ae h o.length r,ae d od.length s] 183]) (λep N wr=>od.length -(c' N).toNat);case atStart=>exact⟨0,_,0,[],cB _,hid aa,hid aa,aa,aa,Z⟩
 case round=>
  clear a Z;obtain⟨j,aL,c2,l,hj,E,X,rfl,rfl,a⟩:=hrel;by_cases hlt:j<od.length
  .have cf:(j:Int)<(od.length:Int):=ad;obtain⟨x,hx⟩:∃x,od[j]?=ab x:=⟨_,cF hlt⟩;obtain⟨i,Nb,c4⟩:=ak3 x (cW hx);subst Nb;obtain⟨Zd,P,aaQ,_⟩:=(a.at 3:dy _ d od) ad;have T:=hid aaQ;have yE:=hid hx;clear hx aaQ;obtain⟨m,L⟩:∃m,ms[i]?=ab m:=⟨_,cF c4⟩;obtain⟨F,O,D,G,bB,eA,dg⟩:=cZ.jt V L;have cv:=hid bB;have iV:=hid eA;have dm:=hid dg;have Y:=hid L;clear bB eA dg L;have jz:=hid (aut yE Y);go_step;refine ah ?_;refine aI (ai az) (by(go_simp;try omega)) ?_;refine an ?_;go_step;refine ah ?_;refine aI (ay (ab ⟨Zd,(P+j),af⟩)) (b4 82 3 1 (bj 15) (bj 17) aa jo ba Zd P _ s j ((P+j)) (by show ae d _ _=_;rw[T]) aa hlt ad) ?_;refine aI (J R (i:Int)) (mc aa aa (dy.cell (a.at 3) T yE) ba) ?_;refine ag ?_;refine an ?_;go_step;refine ah ?_;iterate 3 refine ag ?_
   refine aI (ay (ab ⟨F,(O+i*5),af⟩)) (b4 24 73 5 (bj 22) (bj 23) aa ey ba F O _ c i _ (by show ae A _ _=_;rw[cv]) aa c4 aa) ?_;refine aI (ar #[J R m.k,J R m.to,J R m.fr,J R m.n,ae D m.data.length G]) (by(refine e5 73 (bj 24) aa F (O+i*5) aa ([J R m.k,J R m.to,J R m.fr,J R m.n,ae D m.data.length G]:List aO) (dm _ a.only) gi aa ba)) ?_;refine aR (RH m.k m.to _ m.n D G _ _ (iV _ a.only).1 (U m (cW Y))) ?_;rintro e b9 ⟨gd,gz,rfl,kn,g⟩;replace a:=a.lS g kn;refine aT ?_;refine e' a #[J R m.k,J R m.to,J R m.fr,J R m.n,ae gd m.data.length gz] 73 (λahT cE a=>?_);refine kd (m:=1) a 2 56 (aX.cellsOf (m:=1) (a.aV 0) aa) (EL m gd gz) (λahA anl cV a=>?_) (hby:=by omega);refine ag ?_;refine an ?_;replace a:=ak.Mc (a.pick (l':=[gK l,cz gd gz m.data,aj ahT #[J R m.k,J R m.to,J R m.fr,J R m.n,ae gd m.data.length gz] 73,bg ahA (j+1) anl 73 5 ((cL l)++(jD m gd gz)),mL h o,mL d od,aj B #[ae A ms.length c,ay (ab ⟨b,0,af⟩),ae h o.length r,ae d od.length s] 183]) [3,1,0,2,4,5,6]);go_step;refine ah ?_;refine aI _ (mw 3 _ _ 3 aa _ 1 ((j+1:Nat):Int) aa aa ad ad ad) ?_;refine ag ?_;refine an ?_;go_wp2_with fail;go_roundw;case rel=>exact⟨_,_,_,l++[(m,gd,gz)],ad,hid (by rw[fR,E,jz];rfl),hid (by rw[db,X];rfl),aa,aa,by rw[CD,ER];exact a.pick [2,0,3,4,5]⟩
   case measure=>grind[c']
  .have cf:¬(j:Int)<(od.length:Int):=ad;obtain rfl:j=od.length:=ad;rw[ll]at E;go_step;refine ah ?_;refine aI (ai ao) (by(go_simp;try omega)) ?_;refine an ?_;go_step;refine ah ?_;iterate 4 refine ag ?_
   refine aI (ar _) (am9 aa aa aa) ?_;refine ag ?_;refine pl a 4 2 ?_;refine aR (axQ C A h b0 c r old o 0 _ _ ms _ (B6.out.aH a.only) hc0 gU (V.out.aH a.only) eR U (a.at 2) Lb qY) ?_;rintro e dJ ⟨u,dz,t,vT,rfl,H⟩;replace a:=a.new _ H;refine aT ?_;iterate 3 refine ag ?_
   refine bn a (a' 0 0 dq.zero dq.zero (ae af 0 0)) (λj1 dB a=>?_);refine bb a 0 (ar (a' (old.length:Int) 0 dq.zero dq.zero (ae u ms.length dz))) (λeZ a=>?_) (hk:=by show 0+gB (a' _ _ _ _ _)<=_;simp only[bD];decide) (hz:=by rfl) (h1:=(sf aa)) (hc:=xy);refine ag ?_;refine an ?_;replace a:ak _ _ _ [bg u ms.length dz 73 5 (cL t),gK t,aj j1 (a' (old.length:Int) 0 dq.zero dq.zero (ae u ms.length dz)) 26,bg aL od.length c2 73 5 (cL l),gK l,mL h o,mL d od,aj B #[ae A ms.length c,ay (ab ⟨b,0,af⟩),ae h o.length r,ae d od.length s] 183]:=(a.front 1).kI;have ack:t.length=ms.length:=by grind[lW,List.length_mapIdx]
   obtain⟨p,acj⟩:∃z,t.filter (λx=>!!decide (x.1.k=2))=z:=⟨_,aa⟩
   have K9:aE (∀W,Row 0 W u ms.length dz 73 5 (cL t)->aC ax 104 #[ae u ms.length dz,dS (eu 105) #[] #[]] W λe w'=>∃y,e=aB (ae y p.length dz)/\Turned W w' (bg u ms.length dz 73 5 (cL t)) (bg y p.length dz 73 5 (cL p))):=hid (λW hr=>by rw[<-ack]at hr⊢;rw[<-acj];exact anS u dz 105 #[] t (λx=>!decide (x.1.k=2)) W ad hr (λargs w=>lG Tryz.func105 ba aa _ w) (λx fh _ _=>amH _ _ _ fh));have Lj:aE (p.map (·.1)=lits (lW old o ms)):=hid (by grind[atj]);have yA:aE (∀x∈p,x∈t):=hid (λx hx=>aG);have aBu:p.length<=ms.length:=by grind[Al]
   clear vT acj ack;go_step;refine ah ?_;refine ag ?_;refine pl a 2 66 ?_ (hv:=fi);refine aR (K9 _ (a.atR 0)) ?_;rintro e gV ⟨lE,rfl,I⟩;replace a:=a.eQ 0 I;refine aT ?_;refine ag ?_;refine an ?_;go_step;refine ah ?_;refine ag ?_;refine aR (axh p.length dz lE p _ (a.atR 0) aa ad) ?_;rintro e hZ ⟨rfl,v,M,uJ,I⟩;replace a:=a.eQ 0 I;refine aT ?_;refine an ?_;go_step;refine ah ?_;iterate 2 refine ag ?_
   refine kd (m:=p.length) a 3 56 (a.at 0) (aok v) (λQ Zl jQ a=>?_) (hby:=by omega);refine ag ?_;refine an ?_;replace a:=(a.pick (l':=[gK t,gK l,bg Q (od.length+p.length) Zl 73 5 ((cL l)++(cL v))]) [1,4,3]).ao3 v (λx hx=>yA x (M.mem_iff.1 hx));replace a:=ak.ao0 (a.pick (l':=[gK l,gK v,bg Q (od.length+p.length) Zl 73 5 ((cL l)++(cL v))]) [1,0,2]);have gA:(l++v).length=od.length+p.length:=by rw[db,X,M.length_eq]
   rw[<-CD]at a;go_wp2_with fail;go_ret;exact⟨_,_,l++v,⟨_,by rw[<-Lj];exact M.map _,List.pairwise_map.2 uJ,by rw[fR,E]⟩,by rw[gA];rfl,by rw[gA];exact((a.pick (l':=[_,_]) [1,0]).fP 2).fresh 0⟩
structure Ch (old:List Int) (ms:List bO) (o:List Int) (rs:List bO):Prop where
 perm:rs.Perm (lits (lW old o ms))
 lt:rs.Pairwise (λx y=>x.to<y.to)
def atm{rs:List bO}(h:rs.Pairwise (λx y=>x.to<y.to)){x y}(hx:x∈rs)(b:y∈rs)(h1:x.to<=y.to)(a:y.to<=x.to):x=y:=by grind[List.mem_iff_getElem,mv]
def Ch.unique{old ms o rs a}(h:Ch old ms o rs)(b:a.Perm (lits (lW old o ms)))(d:a.Pairwise (λx y=>x.to<=y.to)):a=rs:=
 (b.trans h.perm.symm).eq_of_pairwise (le:=λx y:bO=>x.to<=y.to) (λ_ _ hx e h1 c=>atm h.lt ((b.trans h.perm.symm).mem_iff.1 hx) e h1 c) d (h.lt.imp (λh=>Es h))
theorem Oj{old ev ms m}(h:m∈lW old ev ms):∃i x,ms[i]?=ab x/\m=nE old ev i x:=by grind[lW]
def amI{old ms o od rs}(hr:Ch old ms o rs)(d:old.length<=1048576)(b:∀m∈ms,m.data.length<=140737488355328):∀m∈fu ms od++rs,m.data.length<=140737488355328:=by
 intro m a;rcases iX.1 a with a|a;·obtain⟨x,_,hx⟩:=List.mem_filterMap.1 a;exact b m (cW hx)
 .have c:=(List.mem_filter.1 (hr.perm.mem_iff.1 a)).1;grind[Oj,nE]
def aur ms od:(fu ms od).length<=od.length:=List.length_filterMap_le _ _
def ati(old o)ms:(lits (lW old o ms)).length<=ms.length:=eb (Al _ _) (by simp[lW])
structure BH (old:List Int) (ms:List bO) (S:List jS) (o od:List Int) (rs:List bO):Prop where
 iH:Conv ms S o od
 idx:∀x∈od,∃i:Nat,x=(i:Int)/\i<ms.length
 dL:od.length<=1000
 src:∀m∈ms,m.k=1->∃f q:Nat,m.fr=(f:Int)/\m.n=(q:Int)/\f+q<=old.length
 rs:Ch old ms o rs
def BH.len{old ms S o od rs}(h:BH old ms S o od rs):(fu ms od++rs).length<=2000:=by have h1:=aur ms od;have a:=h.rs.perm.length_eq;have b:=ati old o ms;have c:=h.iH.ok.dL;have d:=h.dL;rw[db];omega
def Y0(g A)(b0 c)old ms S(o od)rs w(hold:bX w g old)(hc0:old.length<=b0)(r:old.length<=1048576)(p:cZ w A ms)(n:∀m∈ms,m.data.length<=140737488355328)(hc:BH old ms S o od rs):
 aC ax 45 #[ae g old.length b0,ae A ms.length c] w λe w'=>∃a d t,e=aB (ae a (fu ms od++rs).length d)/\cj w w' t/\ie t a d (fu ms od++rs):=
 (amJ g A b0 c old ms S o od w hold hc0 r p n hc.iH hc.idx (eb hc.dL aS) hc.src).mono λe w' ⟨a,d,l,⟨i,h1,j,k⟩,s,f⟩=>by
  obtain rfl:=hc.rs.unique h1 j;have q:l.length=(fu ms od++i).length:=aG;refine⟨a,d,CE a (fu ms od++i).length d l,aG,⟨f.1,?_,?_⟩,l,k,aa⟩;·rw[<-q];exact⟨f.2.1.1,f.2.1.2.1.1⟩
  .intro b hb;exact f.2.2 b (hb.elim bZ (λh=>cc (bZ h)))
def avO {P w e p f ty b} {t B t2 gY:Nat} {cs c tmps} (h:e.results=#[yj p ty,yj f b]) (k:tmps.getD p a1=ay (ab ⟨B,0,af⟩)) (l:tmps.getD f a1=ay (ab ⟨gY,0,af⟩)) (hb:aX w B cs t) (hb2:aX w gY c t2)
 (hu:(P.underlying ty).map (λd=>d.isRow)=ab az) (hi:(P.info? ty).map (·.size)=ab cs.size) (Th:(P.underlying b).map (λd=>d.isRow)=ab az) (xn:(P.info? b).map (·.size)=ab c.size):(oC e tmps).run P w=bf (bo #[ar cs,ar c]) w:=by
 cases hq:P.underlying ty with
 |none=>grind
 |some d=>
  cases oq:P.underlying b with
  |none=>grind
  |some g=>
   have r:d.isRow=true:=aG;have s:g.isRow=true:=aG;have j:=D7 (P:=P) w B t ty cs (0,0) d hb hq aG hi;have hl2:=D7 (P:=P) w gY t2 b c (0,0) g hb2 oq aG xn
   have hr:(oC e tmps).run P w=((vg (tmps.getD p a1)).run P w).andThen λa m=>((wN ty a).run P m).andThen λx n=>((vg (tmps.getD f a1)).run P n).andThen λi o=>((wN b i).run P o).andThen λbk q=>bf (bo #[x,bk]) q:=by simp only[oC,h];simp;try rfl
   rw[hr,k,l];simp only[vg,kg,jI,j,hl2]
def cj.JI{w w' q t}(h:cj w w' (k6 q t)):cj w w' t:=⟨h.1,h.2.1.2,h.2.2⟩
def aoc(k A)(b0 c n)(g1 g2)old ms S(o od)rs w(y:old.length<=1048576)(hc0:old.length<=b0)(hold:bX w k old)(G:p7 w k)(x:cZ w A ms)(hv:r6 old.length n ms)(r:∀m∈ms,m.data.length<=140737488355328)(hg1:g1.l=im old)(hg2:g2.l=im (Be old ms))(H:(Be old ms).length<=1048576)(hc:BH old ms S o od rs):
 aC ax 28 #[ae k old.length b0,eN (old.length:Int) (n:Int) g1 g2 (ae A ms.length c)] w λe w'=>∃d f t,e=aB (bo #[eN (old.length:Int) (n:Int) g1 g2 (ae d (fu ms od++rs).length f),ar #[J R 0,J R 0]])/\cj w w' t/\ie t d f (fu ms od++rs):=by
 have O:=hc.len;have F:=amI (od:=od) hc.rs y r;have M:aE (∀W,au w W->aC ax 78 #[ae k old.length b0,eN (old.length:Int) (n:Int) g1 g2 (ae A ms.length c)] W λe w'=>e=aB (ar #[J R 0,J R 0])/\au W w'):=hid (λW g=>ayb old.length n b0 g1 g2 k A c old ms W aa y hc0 (hold.aH g) (G.aH g) (x.aH g) hv r hg1 hg2 H);have C:aE (∀W,au w W->aC ax 45 #[ae k old.length b0,ae A ms.length c] W λe w'=>∃d f t,e=aB (ae d (fu ms od++rs).length f)/\cj W w' t/\ie t d f (fu ms od++rs)):=hid (λW g=>Y0 k A b0 c old ms S o od rs W (hold.aH g) hc0 y (x.aH g) r hc);have D:aE (∀W aL c2 t,ie t aL c2 (fu ms od++rs)->t.p W->aC ax 56 #[eN (old.length:Int) (n:Int) g1 g2 (ae A ms.length c),ae aL (fu ms od++rs).length c2] W λe w'=>∃d f t,e=aB (eN (old.length:Int) (n:Int) g1 g2 (ae d (fu ms od++rs).length f))/\cj W w' t/\ie t d f (fu ms od++rs)):=hid (λW aL c2 t h P=>JN (old.length:Int) (n:Int) g1 g2 (ae A ms.length c) aL c2 (fu ms od++rs) W aa (h.xR P) ad F);obtain⟨j,E⟩:=ex ((fu ms od++rs));rw[E]at C D⊢;clear O F E hold G x hv r hg1 hg2 H hc;go_enter func28,ntmps28;have a:=a8 w;go_step;refine ah ?_;refine bL a (ar (a' (old.length:Int) (n:Int) g1 g2 (ae A ms.length c))) (λU w1 a=>?_);refine bn a (a' 0 0 dq.zero dq.zero (ae af 0 0)) (λK Z a=>?_);refine bn a #[J R 0,J R 0] (λL bI a=>?_);refine b5 ?_;refine bh a 2 (a' (old.length:Int) (n:Int) g1 g2 (ae A ms.length c)) ?_ (hv:=(e4 _)) (hk:=by omega) (hz:=(by rw[bD];rfl));refine bH (M _ a.only) a (λb9 a=>?_);refine bn a #[J R 0,J R 0] (λV cE a=>?_);refine bb a 0 (ar #[J R 0,J R 0]) (λcV a=>?_);refine ah ?_;refine bh a 0 #[J R 0,J R 0] ?_;refine pk (ar #[J R 0,J R 0]) ?_;refine pk (ai ao) ?_;refine cx ?_;refine bN a [4,5,7,8] (λi u=>match i with|4=>ae u.A j.length u.c|5=>ar (a' (old.length:Int) (n:Int) g1 g2 (ae u.A j.length u.c))|_=>a1) (λb=>λ|4=>k6 (ie (b 4).t (b 4).A (b 4).c j) (b 4).t|5=>k6 (ie (b 5).t (b 5).A (b 5).c j) (b 5).t|7=>aj K (a' (old.length:Int) (n:Int) g1 g2 (ae (b 5).A j.length (b 5).c)) 26|8=>aj L #[J R 0,J R 0] 49|_=>emp) (λ|7=>[2]|8=>[1]|_=>[]) (λ|0=>[3]|3=>[3]|5=>[8]|_=>[]) (λ|4=>[4]|5=>[5]|7=>[5]|_=>[]) [0,3,8,9,11,12] (λb=>?_);refine eO 0 (a' (old.length:Int) (n:Int) g1 g2 (ae A ms.length c)) ?_ (hv:=(e4 _)) (hk:=by omega) (hz:=(by rw[bD];rfl));refine bx ?_;refine dl 0 66 ?_ (hv:=fi);refine dh (λB Fr a=>(C B a.only).mono ?_) ?_;·rintro e Q ⟨d,f,t,rfl,s,q⟩;exact⟨{A:=d,c:=f,t:=t},aa,(a.new _ s).k6 q⟩
 refine dh (λB Fr a=>(D B (b 4).A (b 4).c (b 4).t (a.at (t:=k6 (ie (b 4).t (b 4).A (b 4).c j) (b 4).t) 0).1 (a.at (t:=k6 (ie (b 4).t (b 4).A (b 4).c j) (b 4).t) 0).2).mono ?_) ?_;·rintro e Q ⟨d,f,t,rfl,s,q⟩;exact⟨{A:=d,c:=f,t:=t},aa,(a.new _ s).k6 q⟩
 refine fJ (ar #[J R 0,J R 0]) ?_;refine fY (ar _) ?_ (hk:=by show 0+gB (a' _ _ _ _ _)<=_;simp only[bD];decide) (hz:=by show _=ab (gB (a' _ _ _ _ _));rw[bD];rfl) (h1:=(sf aa)) (hc:=xy);refine fY _ ?_;refine bQ λdJ a=>?_;generalize (b 4).A=T at a⊢;generalize (b 4).c=X at a⊢;generalize (b 4).t=Y at a⊢;generalize (b 5).A=I at a⊢;generalize (b 5).c=N at a⊢;generalize (b 5).t=z at a⊢;have q:=(a.at (t:=k6 (ie z I N j) z) 3).1;go_wp2_with fail;refine c8 (v:=_) (avO aa aa aa (a.aV 4) (a.aV 5) aw (by rw[bD];rfl) aw aw) aa ⟨_,_,z,aa,(a.fresh 3).JI,q⟩
def awu(B p q k c)(bd o n)(g h)A w:(O8 135 #[(0,ar #[ay (ab ⟨B,0,af⟩),J R bd,J R 0]),(1,eN o n g h (ae A k c)),(2,ay (ab ⟨p,0,af⟩)),(3,ay (ab ⟨q,0,af⟩))]).run ax w=bf (ar (hN (ay (ab ⟨B,0,af⟩)) bd 0 o n g h (ae A k c) (ay (ab ⟨p,0,af⟩)) (ay (ab ⟨q,0,af⟩)) 0 0 ao)) w:=by obtain⟨a,bF⟩:=g;obtain⟨b,cq⟩:=h;obtain⟨d,cX,bk,iw,hR,L,M,N,O,P,e,f,i,j,l,m,r,s,t,u,v,x,y,z,C,D,E,F,G,H,I,K,rfl⟩:=FO a bF;obtain⟨Q,S,bx,c5,hG,np,Kf,Kg,BB,Kh,T,U,V,W,X,Y,Z,ahh,ahi,ahj,ahk,ahl,ahm,ahn,aho,ahp,ahq,ahr,ahs,aht,ahu,ahv,rfl⟩:=FO b cq;kernel_rfl
def am7{l}{a:b3}{w b d f j B p q k c bd o n g h A}(ho:l.op=.build 135 #[(0,b),(1,d),(2,f),(3,j)])(m:a.eval b=ar #[ay (ab ⟨B,0,af⟩),J R bd,J R 0])(h1:a.eval d=eN o n g h (ae A k c))(r:a.eval f=ay (ab ⟨p,0,af⟩))(s:a.eval j=ay (ab ⟨q,0,af⟩)):
 (bz a.eval l).run ax w=bf (da (ar (hN (ay (ab ⟨B,0,af⟩)) bd 0 o n g h (ae A k c) (ay (ab ⟨p,0,af⟩)) (ay (ab ⟨q,0,af⟩)) 0 0 ao))) w:=by
 have hr:=awu B p q k c bd o n g h A w;unfold bz;simp only[ho,gC];have e:(#[(0,b),(1,d),(2,f),(3,j)].map λ(i,x)=>(i,a.eval x))=(#[(0,ar #[ay (ab ⟨B,0,af⟩),J R bd,J R 0]),(1,eN o n g h (ae A k c)),(2,ay (ab ⟨p,0,af⟩)),(3,ay (ab ⟨q,0,af⟩))]:Array _):=aG;rw[e,hr];rfl
def rC(d:dF)(bd o n:Nat)(g1 g2:dq)(ms:List bO):pg:=sy d (dV d.size 0 (max o n)).2 bd (mC (jM o n g1 g2 ms))
def EE(d:dF)(bd o n:Nat)(g1 g2:dq)(ms:List bO):(Int×Int)⊕pT:=
 if sD ms<ms.length then .inl (16,(sD ms:Int))
 else if(rC d bd o n g1 g2 ms).has=ao then Hr ⟨0,0,ao,rC d bd o n g1 g2 ms,d⟩
 else if Dp bd ms (rC d bd o n g1 g2 ms).last=az then Hr ⟨if(rC d bd o n g1 g2 ms).last.cur=((dO bd ms).length:Int)then 2 else 1,(rC d bd o n g1 g2 ms).last.cur.toNat,az,rC d bd o n g1 g2 ms,d⟩
 else .inl (19,(rC d bd o n g1 g2 ms).last.cur)
def EB(aq:aP)(FX:Nat->Prop)(B:Nat)(m:nX)(F:bu)(d:dF)(bd o n:Nat)(g1 g2:dq)(ms:List bO)(out:(Int×Int)⊕pT)(e:Ending)(w':aP):Prop:=match out with
 |.inl f=>e=aB (bo #[ay af,ar #[J R f.1,J R f.2]])/\ak aq FX w' [aN B m d,F]
 |.inr s=>∃(di dD p b c2:Nat) (g c:bu) (a aL:Option bT),s7 g p bd ms/\ie c a b ms/\e=aB (bo #[ay (ab ⟨di,0,af⟩),ar #[J R 0,J R 0]])/\ak aq FX w' [fI ⟨B,di,dD,bd,o,n,p,b,(dV d.size 0 (max o n)).2,(mC (jM o n g1 g2 ms)).toNat,g1,g2,a,ms⟩ g c 0 s aL c2 m,F]
def UW r s:0<=(lB r s).1:=by
 unfold lB;split;·exact(T1 _).1
 .omega
def TI r:0<=(qv r).1/\(qv r).1<=4611686018427387903:=by
 unfold qv;split;·omega
 .exact⟨UW _ _,ad⟩
def RY{bs r}(h:uo bs=ab r):0<=r.cur/\r.cur<=4611686018427387903/\0<=r.off:=by
 unfold uo at h;simp only at h;split at h;·grind
 .split at h;·grind
  .obtain⟨a,b,rfl⟩:=Option.map_eq_some_iff.1 h;unfold Ih;exact⟨(TI _).1,(TI _).2,(TI _).1⟩
theorem am2:∀{l},l≠[]->Rr l∈l
 |[],h=>absurd aa h
 |x::l,_=>by
  show l.foldl (λb y=>if y.seq>b.seq then y else b) x∈x::l
  have key:∀(l) (b:Rec),l.foldl (λb y=>if y.seq>b.seq then y else b) b∈b::l:=by
   intro l;induction l with
   |nil=>simp
   |cons y l a=>grind
  exact key l x
theorem NM{d first bound id}(h:(sy d first bound id).has=az):(sy d first bound id).last∈uX d first bound:=by grind[T6,T7,zu,am2]
def Us{d first bound r}(h:r∈uX d first bound):∃bs,uo bs=ab r:=by
 unfold uX w3 at h;simp at h;rcases h with h|h;·exact⟨_,h⟩
 .exact⟨_,h⟩
def auj{d first bound}(a:jA d first bound)id:(sy d first bound id).last.data.length<=140737488355328:=by
 cases h:(sy d first bound id).has with
 |false=>
  rw[T6]at h;rw[T7];unfold zu at h⊢;simp only[decide_eq_false_iff_not]at h⊢;rw[j8 (l:=List.filter _ _) ad];exact cB _
 |true=>grind[afw,NM]
def aps(o n)(g1 g2)ms K(h:∀m∈ms,m.data.length<=K):(jM o n g1 g2 ms).length<=89+ms.length*(25+K):=by
 have h1:∀l:List _,(∀m∈l,m.data.length<=K)->(l.flatMap sa).length<=l.length*(25+K):=by
  intro l;induction l with
  |nil=>simp
  |cons x l c=>
   intro h;rw[List.flatMap_cons,db,jV,Ap];grind[sa,ja,r8]
 have a:=h1 ms h
 have b:(rq o n g1 g2 ms.length).length=89:=by unfold rq xi oY;simp only[db,g1.len,g2.len];simp[ja,r8,FQ]
 unfold jM;rw[db];omega
def Jq {P w b p u ty} {t B:Nat} {cs tmps v} (h:b.results=#[.tmp u,yj p ty]) (c:tmps.getD p a1=ay (ab ⟨B,0,af⟩)) (hv:tmps.getD u a1=v) (hb:aX w B cs t)
 (hu:(P.underlying ty).map (λd=>d.isRow)=ab az) (hi:(P.info? ty).map (·.size)=ab cs.size):(oC b tmps).run P w=bf (bo #[v,ar cs]) w:=by
 have j:tmps[p]?.getD a1=ay (ab ⟨B,0,af⟩):=by simpa using c
 cases hq:P.underlying ty with
 |none=>grind
 |some d=>
  have g:d.isRow=true:=aG;have i:=D7 (P:=P) w B t ty cs (0,0) d hb hq aG hi
  have hr:(oC b tmps).run P w=((vg (tmps.getD p a1)).run P w).andThen λa e=>((wN ty a).run P e).andThen λx f=>bf (bo #[tmps.getD u a1,x]) f:=by simp only[oC,h];simp
  grind[vg,kg,jI]
def atQ:∀l,0<=Dr l/\Dr l<18446744073709551616
 |[]=>by decide
 |[_]=>wrap_u64 _
 |_::_::_=>wrap_u64 _
def amw B m d(bd o n c)(g1 g2)A ms(aq w)FX F(Y:dt d)(cp:d.down=ao)(hb:1<=bd/\bd<=65536)(ho:o<=1048576/\n<=1048576)(hv:r6 o n ms)(SU:gq d.size bd (max o n)<=d.cnt)(fp:(dO bd ms).length<=1048576)(Z:∀W,av FX aq W->cZ W A ms)(a:ak aq FX w [aN B m d,F]):
 aC ax 12 #[dc B,J R (bd:Int),eN (o:Int) (n:Int) g1 g2 (ae A ms.length c)] w λe w'=>EB aq FX B m F d bd o n g1 g2 ms (EE d bd o n g1 g2 ms) e w':=by
 have hj:jA d (dV d.size 0 (max o n)).2 bd:=⟨Y,hb.1,hb.2,by unfold gq at SU;exact SU⟩
 have Sy:∀m∈ms,m.data.length<=1048576:=λm D=>by
  have h1:=hv.fits m D;by_cases hk:m.k=1;·rw[(h1.1.copy hk).2.2.2];exact cB _
  .have h2:=h1.2.2;have h3:0<=m.to:=(w2.cm h1.1).1.1;unfold cD at h2;rw[if_neg hk]at h2;omega
 have lu:∀m∈ms,gJ m/\m.data.length<=140737488355328:=λm D=>⟨(hv.fits m D).1,eb (Sy m D) aS⟩;have y':(jM o n g1 g2 ms).length<=8796093022208:=eb (aps o n g1 g2 ms 1048576 Sy) (by have:=hv.dL;omega)
 have hes:kX (ms.map cm)<=4611686018427387903:=by
  have h1:∀l:List bO,(∀m∈l,cD m<=1048576)->kX (l.map cm)<=(l.length:Int)*1048576:=by
   intro l;induction l with
   |nil=>intro _;exact Int.le_refl _
   |cons x l ck=>
    intro h;have h3:=ck (λm D=>h m (List.mem_cons_of_mem _ D));have h4:=h x (List.mem_cons_self ..);show cD x+kX (l.map cm)<=_;rw[jV];omega
  have h2:=h1 ms (λm D=>by have h3:=(hv.fits m D).2.2;have h4:0<=m.to:=(w2.cm (hv.fits m D).1).1.1;omega);have h3:=hv.dL;omega
 have jx:=hid (λW g=>ZV o n g1 g2 A c ms W (Z W g) hv);have He:=hid (λW g=>awN A c ms W (Z W g) (λm D=>(hv.fits m D).1) (eb hv.dL aS));have qZ:=hid (λW (h:Has W (aN B m d))=>w8 B m d W h.dev Y);have r3:=hid (λW=>aea d.size bd o n g1 g2 (ae A ms.length c) ⟨Y.kt,Y.CA.2⟩ hb ho.1 ho.2 W);have Li:=hid (λW (h:Has W (aN B m d))=>adX d.size bd (max o n) B m d W h Y aa SU);have G1:=hid (λW g=>apU o n g1 g2 A c ms W ⟨hv.gr,hv.mH⟩ (Z W g) (λm D=>(hv.fits m D).1) (eb hv.dL aS) y');have Lg:=hid (λp fW du W hp hb bB=>apW p 1 fW du (jM o n g1 g2 ms) W y' hp hb bB);have U:=hid (λW (h:Has W (aN B m d))=>asL B m d (dV d.size 0 (max o n)).2 bd (mC (jM o n g1 g2 ms)) W h hj cp);have B':=hid (λW g=>JN (o:Int) (n:Int) g1 g2 (ae A ms.length c) A c ms W aa (Z W g) (eb hv.dL aS) (λm D=>(lu m D).2));have X7:=hid (λW g=>au8 (bd:Int) A c ms W (Z W g) (eb hv.dL aS) fp ad lu hes);have c9:=hv.dL;have Qi:aE (0<=mC (jM o n g1 g2 ms)):=hid (UW _ _);have CY:(rC d bd o n g1 g2 ms).last.data.length<=140737488355328:=auj hj _;have nJ:(rC d bd o n g1 g2 ms).has=az->∀r,(rC d bd o n g1 g2 ms).last=r->0<=r.cur:=λh r hr=>by obtain⟨bs,hW⟩:=Us (NM (d:=d) (first:=(dV d.size 0 (max o n)).2) (bound:=bd) (id:=mC (jM o n g1 g2 ms)) h);rw[<-hr];exact(RY hW).1
 unfold EE;rw[show sy d (dV d.size 0 (max o n)).2 bd (mC (jM o n g1 g2 ms))=rC d bd o n g1 g2 ms from aa]at U;obtain⟨j,ab9⟩:=ex (rC d bd o n g1 g2 ms);rw[ab9]at U CY nJ⊢;have jr:aE (∀br p W,s7 br p (bd:Int) ms->br.p W->aC ax 60 #[ay (ab ⟨p,0,af⟩)] W λe w'=>e=aB (J R ((dO bd ms).length:Int))/\au W w'):=hid (λbr p W b1 h=>F5 p bd ms W (b1 W h));have rv:ms.length<=1048575:=eb c9 aS;obtain⟨V,hen⟩:=ex (jM o n g1 g2 ms);rw[hen]at G1 Lg U Qi;obtain⟨M,Fh⟩:=wU Qi;rw[Fh]at U Lg;obtain⟨C,qj⟩:=ex ((dV d.size 0 (max o n)).2);rw[qj]at U;have sZ:=hid qj;have Qh:aE ((mC (jM o n g1 g2 ms)).toNat=M):=hid (by rw[hen,Fh];rfl);have Lo:aE (Jx ms=if sD ms<ms.length then(16,(sD ms:Int))else(0,0)):=hid aa;obtain⟨FP,Iu⟩:=ex (gq d.size bd (max o n));unfold mF at r3 Li;rw[qj,Iu]at r3 Li;obtain⟨X,Fu⟩:=ex (sD ms);obtain⟨b2,acn⟩:=ex ((dO bd ms).length);rw[Fu]at Lo⊢;rw[acn]at jr⊢;obtain⟨aCd,IN⟩:=ex (Jx ms);rw[IN]at Lo He;clear Y cp hv Sy lu y' hes ab9 Z hj hen Fh qj Iu IN Fu acn c9 fp Qi;by_cases Fz:X<ms.length;·have N:=Lo.out;rw[if_pos Fz]at N;subst N;rw[if_pos Fz];simp only at He;clear Fz r3 Li G1 Lg U B' X7 jr qZ;go_enter Tryz.func12,Tryz.ntmps12;go_step;refine ah ?_;refine bL a (ar (a' (o:Int) (n:Int) g1 g2 (ae A ms.length c))) (λeL w1 a=>?_);refine ag ?_;refine bn a #[J R 0,J R 0] (λfQ aU a=>?_);refine b5 ?_;refine aI (ai ao) (by(go_simp;try rfl)) ?_;refine ah ?_;refine bh a 1 (a' (o:Int) (n:Int) g1 g2 (ae A ms.length c)) ?_ (hv:=(e4 _)) (hk:=by show 0+_<=gB _;rw[js];exact b7 _) (hz:=(by rw[bD];rfl));refine bH (jx _ a.only) a (λbI a=>?_);refine bn a #[J R 0,J R 0] (λet b9 a=>?_);refine bb a 0 (ar #[J R 0,J R 0]) (λcE a=>?_);refine ah ?_;refine bh a 0 #[J R 0,J R 0] ?_;refine ag ?_;refine pk (ai ao) ?_;refine b5 ?_;refine pl a 2 66 ?_ (hv:=fi);refine bH (He _ a.only) a (λcV a=>?_);refine bn a #[J R 0,J R 0] (λj1 dJ a=>?_);refine bb a 0 (ar #[J R 16,J R (X:Int)]) (λdB a=>?_);refine ah ?_;refine bh a 0 #[J R 16,J R (X:Int)] ?_;refine ag ?_;refine pk (ai az) ?_;refine cx ?_;refine bN a [2] (λ_ _=>a1) (λ_=>λ|2=>aj fQ #[J R 16,J R (X:Int)] 49|_=>emp) (λ|2=>[2]|_=>[]) (λ|0=>[0]|_=>[]) (λ_=>[]) [0,1,3,4,5,8] (λf=>?_);refine eO 0 #[J R 16,J R (X:Int)] ?_;refine aJ ?_;refine fY (ar #[J R 16,J R (X:Int)]) ?_;refine bQ λeZ a=>?_;go_wp2_with fail;refine c8 (v:=bo #[ay af,ar #[J R 16,J R (X:Int)]]) (Jq aa aa aa (a.aV 5) aw aw) aa ?_;unfold EB;exact⟨by first|rfl|trivial,a.pick [3,4]⟩
 .have N:=Lo.out;rw[if_neg Fz]at N;subst N;rw[if_neg Fz];simp only at He;clear Fz;skip;obtain⟨out,hout⟩:=ex ((if j.has=ao then Hr ⟨0,0,ao,j,d⟩else if Dp bd ms j.last=az then Hr ⟨if j.last.cur=(b2:Int)then 2 else 1,j.last.cur.toNat,az,j,d⟩else .inl (19,j.last.cur):(Int×Int)⊕pT));rw[hout];have Eg:=hid hout;have wP:=hid nJ;have Qj:=hid CY;clear hout nJ CY;go_enter Tryz.func12,Tryz.ntmps12;go_step;refine ah ?_;refine bL a (ar (a' (o:Int) (n:Int) g1 g2 (ae A ms.length c))) (λeL gV a=>?_);refine ag ?_;refine bn a #[J R 0,J R 0] (λfQ hZ a=>?_);refine b5 ?_;refine aI (ai ao) (by(go_simp;try rfl)) ?_;refine ah ?_;refine bh a 1 (a' (o:Int) (n:Int) g1 g2 (ae A ms.length c)) ?_ (hv:=(e4 _)) (hk:=by show 0+_<=gB _;rw[js];exact b7 _) (hz:=(by rw[bD];rfl));refine bH (jx _ a.only) a (λjQ a=>?_);refine bn a #[J R 0,J R 0] (λet ke a=>?_);refine bb a 0 (ar #[J R 0,J R 0]) (λk8 a=>?_);refine ah ?_;refine bh a 0 #[J R 0,J R 0] ?_;refine ag ?_;refine pk (ai ao) ?_;refine b5 ?_;refine pl a 2 66 ?_ (hv:=fi);refine bH (He _ a.only) a (λmn a=>?_);refine bn a #[J R 0,J R 0] (λj1 nn a=>?_);refine bb a 0 (ar #[J R 0,J R 0]) (λpO a=>?_);refine ah ?_;refine bh a 0 #[J R 0,J R 0] ?_;refine ag ?_;refine pk (ai ao) ?_;refine cx ?_;refine bN a [1,4,8,9] (λi u=>match i with|1=>J R (d.size:Int)|4=>bo #[ar #[J R (d.size:Int),J R (bd:Int),J R 0,J R ((max o n:Nat):Int),J R (C:Int),J R ((2*eo d.size bd:Nat):Int),J R (FP:Int)],J R 0]|8=>ay (ab ⟨u.b,0,af⟩)|_=>a1) (λf=>λ|8=>aj ((f 8).b) #[J R 0,J R 0,J R 0,J R 0,J R 0,J R 0,J R 0] 93|9=>aj ((f 8).b) #[J R (d.size:Int),J R (bd:Int),J R 0,J R ((max o n:Nat):Int),J R (C:Int),J R ((2*eo d.size bd:Nat):Int),J R (FP:Int)] 93|_=>emp) (λ|9=>[14]|_=>[]) (λ|1=>[4]|3=>[3]|_=>[]) (λ|8=>[8]|9=>[8]|_=>[]) [0,1,2,3,4,5,7,10,15] (λf=>?_);refine aJ ?_;refine dA (λE _ a=>qZ E (a.has 0)) ?_;refine aJ ?_;refine eO 0 (a' (o:Int) (n:Int) g1 g2 (ae A ms.length c)) ?_ (hv:=(e4 _)) (hk:=by show 0+_<=gB _;rw[js];exact b7 _) (hz:=(by rw[bD];rfl));refine dA (λE _ _=>r3 E) ?_;iterate 3 refine aJ ?_
  refine se #[J R 0,J R 0,J R 0,J R 0,J R 0,J R 0,J R 0] ?_;refine fY (ar #[J R (d.size:Int),J R (bd:Int),J R 0,J R ((max o n:Nat):Int),J R (C:Int),J R ((2*eo d.size bd:Nat):Int),J R (FP:Int)]) ?_;refine aJ ?_;refine bQ λrK a=>?_;generalize (f 8).b=qL at a⊢;replace a:=a.drop 6;replace a:=a.drop 6;refine b5 ?_;refine pk (ai az) ?_;refine ah ?_;refine bh a 6 #[J R (d.size:Int),J R (bd:Int),J R 0,J R ((max o n:Nat):Int),J R (C:Int),J R ((2*eo d.size bd:Nat):Int),J R (FP:Int)] ?_;refine ag ?_;refine bH (Li _ (a.has 4)) a (λu4 a=>?_);refine cA ?_;refine pk (ai ao) ?_;refine ah ?_;refine bh a 3 (a' (o:Int) (n:Int) g1 g2 (ae A ms.length c)) ?_ (hv:=(e4 _)) (hk:=by show 0+_<=gB _;rw[js];exact b7 _) (hz:=(by rw[bD];rfl));refine aR (G1 _ a.only) ?_;rintro e x0 ⟨Q,S,rfl,P⟩;replace a:=a.new _ P;refine aT ?_;refine v5 ?_;refine cx ?_;refine bN a [6,7,8] (λi u=>match i with|6=>ae (ab ⟨u.b,0,af⟩) 1 1|7=>J aF (M:Int)|8=>bo #[ay (ab ⟨u.b,0,af⟩),J R 0]|_=>a1) (λf=>λ|6=>aj ((f 6).b) #[ae Q V.length S] 22|8=>qu (f 8).b B C bd (M:Int) j (f 8).A (f 8).c|_=>emp) (λ_=>[]) (λ|3=>[7]|7=>[14,0]|8=>[5]|_=>[]) (λ|6=>[6]|8=>[8]|_=>[]) [0,1,2,3,4,5,6,7,14,15,16] (λf=>?_);iterate 3 refine aJ ?_
  refine dl 0 4 ?_;iterate 2 refine aJ ?_
  refine kD #[ae Q V.length S] 22 ?_;refine dA (λE _ a=>Lg _ Q S E ((a.aV 0).cell 0 aa) (a.jW 1).1 (λb off e=>(a.has (t:=cz Q S V) 1).2 b ⟨off,af,e⟩)) ?_;refine dh (λE Fr a=>(U E (a.has 0)).mono ?_) ?_;·rintro e dr ⟨dD,rfl,aW,aZ,P⟩;exact⟨{b:=dD,A:=aW,c:=aZ},aa,a.new _ P⟩
  iterate 5 refine aJ ?_
  refine bQ λBw a=>?_;generalize (f 6).b=VB at a⊢;generalize (f 8).b=s at a⊢;generalize (f 8).A=K at a⊢;generalize (f 8).c=L at a⊢;replace a:=a.drop 9;refine b5 ?_;refine pk (ai ao) ?_;refine an ?_;skip;refine cx ?_;refine bN a [6,10,13] (λi u=>match i with|6=>ar (a' (o:Int) (n:Int) g1 g2 (ae u.A ms.length u.c))|10=>ay (ab ⟨u.b,0,af⟩)|13=>ay (ab ⟨u.b,0,af⟩)|_=>a1) (λf=>λ|6=>k6 (ie (f 6).t (f 6).A (f 6).c ms) (f 6).t|10=>k6 (s7 (f 10).t (f 10).b (bd:Int) ms) (f 10).t|13=>aj ((f 13).b) (hN (dc B) (bd:Int) 0 (o:Int) (n:Int) g1 g2 (ae (f 6).A ms.length (f 6).c) (ay (ab ⟨(f 10).b,0,af⟩)) (ay (ab ⟨s,0,af⟩)) 0 0 ao) 135|_=>emp) (λ_=>[]) (λ|3=>[4]|5=>[4]|9=>[4]|_=>[]) (λ|6=>[6]|10=>[10]|13=>[6,10,13]|_=>[]) [0,1,2,3,4,5,6,7,8,9,16,20,23] (λf=>?_);iterate 3 refine aJ ?_
  refine eO 0 (a' (o:Int) (n:Int) g1 g2 (ae A ms.length c)) ?_ (hv:=(e4 _)) (hk:=by show 0+_<=gB _;rw[js];exact b7 _) (hz:=(by rw[bD];rfl));refine aJ ?_;refine dl 0 66 ?_ (hv:=fi);refine dh (λE Fr a=>(B' E a.only).mono ?_) ?_;·rintro e dr ⟨aA,aD,t,rfl,P,kO⟩;exact⟨{A:=aA,c:=aD,t:=t},aa,(a.new _ P).k6 kO⟩
  iterate 2 refine aJ ?_
  refine dl 0 66 ?_ (hv:=fi);refine dh (λE Fr a=>(X7 E a.only).mono ?_) ?_;·rintro e dr ⟨p,t,rfl,P,O⟩;exact⟨{b:=p,t:=t},aa,(a.new _ P).k6 O⟩
  refine aJ ?_;refine aK (ar (hN (dc B) (bd:Int) 0 (o:Int) (n:Int) g1 g2 (ae (f 6).A ms.length (f 6).c) (ay (ab ⟨(f 10).b,0,af⟩)) (ay (ab ⟨s,0,af⟩)) 0 0 ao)) (λ_ _ _=>am7 aa aa aa aa aa) ?_;refine aoC (ar (hN (dc B) (bd:Int) 0 (o:Int) (n:Int) g1 g2 (ae (f 6).A ms.length (f 6).c) (ay (ab ⟨(f 10).b,0,af⟩)) (ay (ab ⟨s,0,af⟩)) 0 0 ao)) ?_;refine aJ ?_;refine bQ λBx a=>?_;generalize (f 6).A=G at a⊢;generalize (f 6).c=H at a⊢;generalize (f 6).t=T at a⊢;generalize (f 10).b=y at a⊢;generalize (f 10).t=I at a⊢;generalize (f 13).b=z at a⊢;replace a:=a.front 10;obtain⟨kO,a⟩:=a.JI;replace a:ak _ _ _ [T,cz Q S V,aj j1 #[J R 0,J R 0] 49,aj et #[J R 0,J R 0] 49,aj fQ #[J R 0,J R 0] 49,aj eL (a' (o:Int) (n:Int) g1 g2 (ae A ms.length c)) 26,aN B m d,F,aj qL #[J R (d.size:Int),J R (bd:Int),J R 0,J R ((max o n:Nat):Int),J R (C:Int),J R ((2*eo d.size bd:Nat):Int),J R (FP:Int)] 93,aj VB #[ae Q V.length S] 22,qu s B C bd (M:Int) j K L,k6 (s7 I y (bd:Int) ms) I,aj z (hN (dc B) (bd:Int) 0 (o:Int) (n:Int) g1 g2 (ae G ms.length H) (ay (ab ⟨y,0,af⟩)) (ay (ab ⟨s,0,af⟩)) 0 0 ao) 135]:=a;replace a:=a.front 11;obtain⟨O,a⟩:=a.JI;replace a:ak _ _ _ [I,T,cz Q S V,aj j1 #[J R 0,J R 0] 49,aj et #[J R 0,J R 0] 49,aj fQ #[J R 0,J R 0] 49,aj eL (a' (o:Int) (n:Int) g1 g2 (ae A ms.length c)) 26,aN B m d,F,aj qL #[J R (d.size:Int),J R (bd:Int),J R 0,J R ((max o n:Nat):Int),J R (C:Int),J R ((2*eo d.size bd:Nat):Int),J R (FP:Int)] 93,aj VB #[ae Q V.length S] 22,qu s B C bd (M:Int) j K L,aj z (hN (dc B) (bd:Int) 0 (o:Int) (n:Int) g1 g2 (ae G ms.length H) (ay (ab ⟨y,0,af⟩)) (ay (ab ⟨s,0,af⟩)) 0 0 ao) 135]:=a;cases hh:j.has with
  |false=>
   have ho:=Eg.out;rw[if_pos hh]at ho;subst ho;have Ed:aE (∀W,Has W (qu s B C bd (M:Int) j K L)->aC ax 58 #[ay (ab ⟨s,0,af⟩)] W λe w'=>e=aB (bo #[ar #[J aF 0,J aF 0,J R 0,J R 0,ae af 0 0],ai ao])/\au W w'):=hid (λW h=>by have q:=Ty s B C bd (M:Int) j K L W h Qj;rw[hh]at q;exact q);clear hh;refine b5 ?_;refine bH (Ed.out _ (a.has 11)) a (λDK a=>?_);refine v3 ?_;refine bn a #[J aF 0,J aF 0,J R 0,J R 0,ae af 0 0] (λDQ JM a=>?_);refine bb a 0 (ar #[J aF 0,J aF 0,J R 0,J R 0,ae af 0 0]) (λU0 a=>?_);refine ag ?_;refine ah ?_;refine v2 ?_;refine jk ?_;refine bb a 6 (ar #[J R 0,J R 0]) (λU1 a=>?_);refine an ?_;go_wp2_with fail;refine c8 (v:=bo #[ay (ab ⟨z,0,af⟩),ar #[J R 0,J R 0]]) (Jq aa aa aa (a.aV 6) aw aw) aa ?_;unfold EB;simp only;rw[sZ,Qh];have cb:ak _ _ _ [aj z (hN (dc B) (bd:Int) 0 (o:Int) (n:Int) g1 g2 (ae G ms.length H) (ay (ab ⟨y,0,af⟩)) (ay (ab ⟨s,0,af⟩)) 0 0 ao) 135,qu s B C bd (M:Int) j K L,aN B m d,I,T,F]:=a.pick [13,12,8,1,2,9];exact⟨z,s,y,H,L,I,T,G,K,O,kO,by first|rfl|trivial,cb.fP 5⟩
  |true=>
   obtain⟨r,hr⟩:=ex j.last;have kZ:=wP hh r hr;obtain⟨q,hq⟩:=wU kZ;have j6:=hid hq;have Ed:aE (∀W,Has W (qu s B C bd (M:Int) j K L)->aC ax 58 #[ay (ab ⟨s,0,af⟩)] W λe w'=>∃aA aD,e=aB (bo #[ar (recC r aA aD),ai az])/\cj W w' (cz aA aD r.data)):=hid (λW h=>by have q:=Ty s B C bd (M:Int) j K L W h Qj;rw[hh,hr]at q;exact q);have ho:=Eg.out;rw[if_neg (by rw[hh];simp),hr,hq]at ho;have X5:=hid ho;clear ho hq kZ hh wP Eg Qj;refine b5 ?_;refine aR (Ed.out _ (a.has 11)) ?_;rintro e U2 ⟨Gt,HA,rfl,P⟩;replace a:=a.new _ P;refine aT ?_;refine v3 ?_;refine bn a #[J aF 0,J aF 0,J R 0,J R 0,ae af 0 0] (λDQ U3 a=>?_);refine bb a 0 (ar #[J aF r.seq,J aF r.id,J R r.cur,J R r.off,ae Gt r.data.length HA]) (λagY a=>?_);refine ag ?_;refine ah ?_;refine eg ?_;obtain⟨xB,uE⟩:=ex (Dp bd ms r);have ho:=X5.out;rw[uE]at ho;have XW:=hid uE;have Qx:=hid ho;clear ho uE X5;cases xB with
   |false=>
    have ho:=Qx.out;rw[if_neg bc]at ho;subst ho;refine b5 ?_;refine bh a 0 #[J aF r.seq,J aF r.id,J R r.cur,J R r.off,ae Gt r.data.length HA] ?_;have HB:=(a.pk [14,2,0,1,3,4,5,6,7,8,9,10,11,12,13]).t2;refine aR (YS z y (bd:Int) ms I _ (dc B) (ae G ms.length H) (ay (ab ⟨s,0,af⟩)) (bd:Int) 0 (o:Int) (n:Int) 0 0 g1 g2 ao r Gt HA aq _ FX O rv HB) ?_;rintro e ayh ⟨N,a⟩;clear HB;rw[XW]at N;subst N;replace a:=a.bk;refine aT ?_;refine hI ?_;refine bN a [4] (λ_ _=>a1) (λ_=>λ|4=>aj fQ #[J R 19,J R (q:Int)] 49|_=>emp) (λ|4=>[8]|_=>[]) (λ|1=>[2]|_=>[]) (λ_=>[]) [0,1,2,3,4,5,6,7,9,10,11,12,13,14,19] (λf=>?_);refine aJ ?_;refine aK (J R (q:Int)) (λ_ _ a=>by(rw[<-j6];exact fM aa aa (a.aV 0) aa aw)) ?_;iterate 2 refine aJ ?_
    refine fY (ar #[J R 19,J R (q:Int)]) ?_;refine bQ λayi a=>?_;go_wp2_with fail;refine c8 (v:=bo #[ay af,ar #[J R 19,J R (q:Int)]]) (Jq aa aa aa (a.aV 14) aw aw) aa ?_;unfold EB;exact⟨by first|rfl|trivial,a.pick [9,10]⟩
   |true=>
    refine b5 ?_;refine bh a 0 #[J aF r.seq,J aF r.id,J R r.cur,J R r.off,ae Gt r.data.length HA] ?_;have HB:=(a.pk [14,2,0,1,3,4,5,6,7,8,9,10,11,12,13]).t2;refine aR (YS z y (bd:Int) ms I _ (dc B) (ae G ms.length H) (ay (ab ⟨s,0,af⟩)) (bd:Int) 0 (o:Int) (n:Int) 0 0 g1 g2 ao r Gt HA aq _ FX O rv HB) ?_;rintro e ayj ⟨N,a⟩;clear HB;rw[XW]at N;subst N;replace a:=a.bk;refine aT ?_;refine hI ?_;refine bN a [7,10,13] (λ_ _=>a1) (λ_=>λ|7=>aj z (hN (dc B) (bd:Int) 0 (o:Int) (n:Int) g1 g2 (ae G ms.length H) (ay (ab ⟨y,0,af⟩)) (ay (ab ⟨s,0,af⟩)) 1 0 ao) 135|10=>aj z (hN (dc B) (bd:Int) 0 (o:Int) (n:Int) g1 g2 (ae G ms.length H) (ay (ab ⟨y,0,af⟩)) (ay (ab ⟨s,0,af⟩)) 1 (q:Int) ao) 135|13=>aj z (hN (dc B) (bd:Int) 0 (o:Int) (n:Int) g1 g2 (ae G ms.length H) (ay (ab ⟨y,0,af⟩)) (ay (ab ⟨s,0,af⟩)) 1 (q:Int) az) 135|_=>emp) (λ|7=>[0]|10=>[22]|13=>[25]|_=>[]) (λ|4=>[2]|_=>[]) (λ_=>[]) [1,2,3,4,5,6,7,8,9,10,11,12,13,14,28] (λf=>?_);iterate 4 refine aJ ?_
    refine aK (J R (q:Int)) (λ_ _ a=>by(rw[<-j6];exact fM aa aa (a.aV 0) aa aw)) ?_;iterate 2 refine aJ ?_
    refine fY (J R 1) ?_ (hk:=by show _+1<=_;rw[po];decide) (hc:=LQ);iterate 2 refine aJ ?_
    refine fY (J R (q:Int)) ?_ (hk:=by show _+1<=_;rw[po];decide) (hc:=YW);iterate 2 refine aJ ?_
    refine fY (ai az) ?_ (hk:=by show _+1<=_;rw[po];decide) (hc:=YX);refine bQ λayk a=>?_;have ho:=Qx.out;rw[if_pos aa]at ho;clear Qx;by_cases AZ:(q:Int)=(b2:Int)
    .rw[if_pos AZ]at ho;subst ho;have QA:=hid AZ;clear AZ;refine cx ?_;refine bN a [8] (λi _=>match i with|8=>J R (b2:Int)|_=>a1) (λ_ _=>emp) (λ_=>[]) (λ|3=>[14]|7=>[14]|8=>[0]|_=>[]) (λ_=>[]) [0,1,2,3,4,5,6,7,8,9,10,11,12,13,14,23] (λf=>?_);iterate 3 refine aJ ?_
     refine dl 0 73 ?_ (hv:=fA (j:=4) aa);iterate 3 refine aJ ?_
     refine dl 0 70 ?_ (hv:=fA (j:=1) aa);refine dA (λE _ a=>jr I y E O (a.at 0)) ?_;refine aK (ai az) (λ_ _ _=>by(have h:=QA.out;go_simp;try simp[h])) ?_;refine bQ λayl a=>?_;replace a:=a.drop 15;refine jk ?_;refine bb a 14 (J R 2) (λaym a=>?_) (hk:=by show _+1<=_;rw[po];decide) (hc:=LQ);refine jk ?_;refine bb a 7 (ar #[J R 0,J R 0]) (λayn a=>?_);refine an ?_;go_wp2_with fail;refine c8 (v:=bo #[ay (ab ⟨z,0,af⟩),ar #[J R 0,J R 0]]) (Jq aa aa aa (a.aV 7) aw aw) aa ?_;unfold EB;simp only;rw[sZ,Qh];have cb:ak _ _ _ [aj z (hN (dc B) (bd:Int) 0 (o:Int) (n:Int) g1 g2 (ae G ms.length H) (ay (ab ⟨y,0,af⟩)) (ay (ab ⟨s,0,af⟩)) 2 (q:Int) az) 135,qu s B C bd (M:Int) j K L,aN B m d,I,T,F]:=a.pick [14,13,9,0,3,10];exact⟨z,s,y,H,L,I,T,G,K,O,kO,by first|rfl|trivial,cb.fP 5⟩
    .rw[if_neg AZ]at ho;subst ho;have QA:=hid AZ;clear AZ;refine cx ?_;refine bN a [8] (λi _=>match i with|8=>J R (b2:Int)|_=>a1) (λ_ _=>emp) (λ_=>[]) (λ|3=>[14]|7=>[14]|8=>[0]|_=>[]) (λ_=>[]) [0,1,2,3,4,5,6,7,8,9,10,11,12,13,14,23] (λf=>?_);iterate 3 refine aJ ?_
     refine dl 0 73 ?_ (hv:=fA (j:=4) aa);iterate 3 refine aJ ?_
     refine dl 0 70 ?_ (hv:=fA (j:=1) aa);refine dA (λE _ a=>jr I y E O (a.at 0)) ?_;refine aK (ai ao) (λ_ _ _=>by(have h:=QA.out;go_simp;try simp[h])) ?_;refine bQ λayo a=>?_;replace a:=a.drop 15;refine jk ?_;refine bb a 7 (ar #[J R 0,J R 0]) (λayp a=>?_);refine an ?_;go_wp2_with fail;refine c8 (v:=bo #[ay (ab ⟨z,0,af⟩),ar #[J R 0,J R 0]]) (Jq aa aa aa (a.aV 7) aw aw) aa ?_;unfold EB;simp only;rw[sZ,Qh];have cb:ak _ _ _ [aj z (hN (dc B) (bd:Int) 0 (o:Int) (n:Int) g1 g2 (ae G ms.length H) (ay (ab ⟨y,0,af⟩)) (ay (ab ⟨s,0,af⟩)) 1 (q:Int) az) 135,qu s B C bd (M:Int) j K L,aN B m d,I,T,F]:=a.pick [14,13,9,0,3,10];exact⟨z,s,y,H,L,I,T,G,K,O,kO,by first|rfl|trivial,cb.fP 5⟩
structure wv where
 bd:Nat
 o:Nat
 n:Nat
 g1:dq
 g2:dq
 ms:List bO
structure nW (C:wv) (d:dF):Prop where
 ok:dt d
 bd:1<=C.bd/\C.bd<=65536
 sz:C.o<=1048576/\C.n<=1048576
 rJ:r6 C.o C.n C.ms
 lay:gq d.size C.bd (max C.o C.n)<=d.cnt
 dL:(dO C.bd C.ms).length<=1048576
 ch:∀bl∈dO C.bd C.ms,∃t:Nat,bl.to=(t:Int)/\0<=cD bl/\cD bl<=(C.bd:Int)/\(t:Int)+cD bl<=(C.n:Int)/\(bl.k=1->0<=bl.fr/\bl.fr+bl.n<=(C.o:Int))
def wv.E(C:wv)(d:dF):o9:=⟨0,0,0,C.bd,C.o,C.n,0,0,(dV d.size 0 (max C.o C.n)).2,(mC (jM C.o C.n C.g1 C.g2 C.ms)).toNat,C.g1,C.g2,af,C.ms⟩
structure rT where
 st:Int
 nx:Int
 wr:Int
 bt:Int
 pos:Int
def yO(x:rT):List Value:=[J R x.st,J R x.nx,J R x.wr,J R x.bt,J R x.pos]
def zt(C:wv)(d:dF):(Int×Int)⊕pT:=EE d C.bd C.o C.n C.g1 C.g2 C.ms
def mX(C:wv)(d:dF):rT×dF:=match zt C d with
 |.inl f=>(⟨0,0,R.wrap (d.eD -d.eD),f.1,f.2⟩,sE d)
 |.inr s=>(⟨s.st,s.nx,R.wrap ((pL (C.E d) s).2.d.eD -d.eD),(pL (C.E d) s).1,0⟩,sE (pL (C.E d) s).2.d)
theorem agA{E E'}(h:E'.bd=E.bd/\E'.o=E.o/\E'.n=E.n/\E'.first=E.first/\E'.id=E.id/\E'.g1=E.g1/\E'.g2=E.g2/\E'.ms=E.ms)s:gL E' s=gL E s/\Bv E' s=Bv E s:=by obtain⟨h1,a,b,c,d,e,f,g⟩:=h;unfold gL Bv AE nF;rw[h1,a,b,c,d,e,f,g];exact⟨aa,aa⟩
def awo{E E'}(h:E'.bd=E.bd/\E'.o=E.o/\E'.n=E.n/\E'.first=E.first/\E'.id=E.id/\E'.g1=E.g1/\E'.g2=E.g2/\E'.ms=E.ms)s:pL E' s=pL E s:=by
 have key:∀(k) s,tB E' k s=tB E k s:=by
  intro k;induction k with
  |zero=>intro s;rfl
  |succ k a=>grind[tB,agA]
 unfold pL;rw[(agA h s).2,key,h.1,h.2.2.2.2.2.2.2]
def TW{C d E s}(h:nW C d)(q:d.down=ao)(p:d.cache.length<=1000000000)(hn:zt C d=Hr s)(A:E.bd=C.bd/\E.o=C.o/\E.n=C.n/\E.first=(dV d.size 0 (max C.o C.n)).2/\E.id=(mC (jM C.o C.n C.g1 C.g2 C.ms)).toNat/\E.ms=C.ms):p8 E s/\s.d=d:=by
 obtain⟨bF,cq,y,H,z,i⟩:=A;have K:jA d _ _:=⟨h.ok,h.bd.1,h.bd.2,by have:=h.lay;unfold gq at this;exact this⟩
 have J:max C.o C.n<=d.bytes.length:=by have h1:=Dk (s:=_) (N:=max C.o C.n) (e:=0) (x:=2*eo d.size C.bd) h.ok.kt;rw[h.ok.len,Nat.mul_comm _];refine eb h1 (Nat.mul_le_mul_left _ ?_);have:=h.lay;unfold gq at this;omega
 have F:∀bl∈dO _ _,((km d bl).length:Int)=cD bl:=λbl c=>by
  obtain⟨t,_,v,_,w,g⟩:=h.ch bl c;unfold km cD at*;by_cases hk:bl.k=1;·rw[if_pos hk]at*;obtain⟨dX,dY⟩:=g hk;rw[zC h.ok ad];omega
  .grind
 have l:BI E d:=by
  refine⟨by rw[bF];exact h.bd.1,by rw[bF];exact h.bd.2,by rw[cq,y,i];exact h.rJ,ad,ad,by rw[bF,i];exact h.dL,?_,?_⟩;·rw[z];have h1:=UW ⟨im (jM C.o C.n C.g1 C.g2 C.ms),0,0,0⟩ 8;grind[mC,lB,T1]
  .rw[bF,i];intro bl c;obtain⟨t,u,v,G,w,g⟩:=h.ch bl c;have I:=F bl c;refine⟨t,⟨u,λhk=>?_,ad,ad⟩,λhk=>by grind[cD]⟩;obtain⟨dX,dY⟩:=g hk;have pr:0<=bl.n:=by grind[cD]
   exact⟨bl.fr.toNat,bl.n.toNat,ad,ad,ad⟩
 obtain⟨a,b⟩:=ex (rC d C.bd C.o C.n C.g1 C.g2 C.ms)
 have m:0<=a.next/\a.next<18446744073709551616:=by rw[<-b,rC,aeL];exact atQ _
 have B:a.has=az->0<=a.last.cur/\0<=a.last.off:=λhh=>by rw[<-b]at hh⊢;obtain⟨bs,D⟩:=Us (NM (d:=d) (first:=(dV d.size 0 (max C.o C.n)).2) (bound:=C.bd) (id:=mC (jM C.o C.n C.g1 C.g2 C.ms)) hh);have hr:=RY D;exact⟨hr.1,hr.2.2⟩
 unfold zt EE at hn;rw[b]at hn;obtain⟨L,cd⟩:=ex (dO C.bd C.ms);have hch:=h.ch;rw[cd]at hn hch;clear b;split at hn;·grind
 .split at hn;·have j:=Rk hn;subst j;exact⟨⟨l,aG,q,p,m,cB _,λh=>aG⟩,aa⟩
  .split at hn
   .rename_i r f;have r:a.has=true:=aG;have hr:=B r;have j:=Rk hn;unfold Dp at f;rw[cd]at f;simp at f;obtain⟨M,O,P⟩:=f;subst j;refine⟨⟨l,aG,q,p,m,?_,λ_ hst=>?_⟩,aa⟩;·grind
    .grind[stepT,cm]
   .grind
def UA{E s}(h:p8 E s):jT s.d (pL E s).2.d:=by
 unfold pL;split;·exact jT.refl h.j.dev
 .grind[afQ]
def afB{d}(a:dt d):jT d (sE d)/\(sE d).down=ao/\(sE d).cache=[]:=by have h:=Ui a (λ_=>ao);exact⟨⟨⟨h.kt,h.um,h.len,h.small,h.cache,h.dL,show cN (-1) by(unfold cN;omega)⟩,aa,aa⟩,aa,aa⟩
def nW.xb{C d cr}(h:nW C d)(e:jT d cr):nW C cr:=⟨e.ok,h.bd,h.sz,h.rJ,by rw[e.size,e.cnt];exact h.lay,h.dL,h.ch⟩
def Y4{C d}(h:nW C d)(g:d.down=ao)(e:d.cache.length<=1000000000):jT d (mX C d).2/\(mX C d).2.down=ao/\(mX C d).2.cache=[]:=by
 unfold mX;cases hn:zt C d with
 |inl f=>exact afB h.ok
 |inr s=>
  obtain⟨h1,c⟩:=TW (E:=C.E d) h g e hn ⟨aa,aa,aa,aa,aa,aa⟩;have a:=UA h1;rw[c]at a;have b:=afB a.ok;exact⟨a.trans b.1,b.2⟩
def ame(P:aO)(t:bu)(pk:Int):Prop:=∀W,t.p W->aC ax 158 #[P] W λe w'=>e=aB (J R pk)/\au W w'
def Y3(B c b di)m d(st nx wr bt pos eD)u(aq w)FX F(g:dt d)(a:ak aq FX w [aj di #[J R st,J R nx,J R wr,J R bt,J R pos] 158,aj b #[J R eD] 3,aj c #[(dc B)] 32,aN B m d,F]):
 CallsD ax 233 #[ay (ab ⟨c,0,af⟩),ay (ab ⟨b,0,af⟩),ay (ab ⟨di,0,af⟩)] u w λe k w'=>k=u/\e=aB (bo #[])/\∃f,ak aq FX w' [aj di #[J R st,J R nx,J R (R.wrap (d.eD -eD)),J R bt,J R pos] 158,aj b #[J R eD] 3,aj c #[(dc B)] 32,aN B f (sE d),F]:=by
 have h:=hid g;clear g;go_enter_d func233,ntmps233;go_step;refine cx ?_;refine bN a [1,6] (λi _=>match i with|1=>ar #[J R d.eD,J R d.hD,J R d.iv,J R d.hi,J R d.mo]|_=>a1) (λ_=>λ|6=>aj di #[J R st,J R nx,J R (R.wrap (d.eD -eD)),J R bt,J R pos] 158|_=>emp) (λ|6=>[0]|_=>[]) (λ|0=>[2]|1=>[3]|3=>[1]|_=>[]) (λ_=>[]) [1,2,3,4,6,11] (λn=>?_);refine dl 0 0 ?_;refine dA (λl _ a=>Mb B m d l (a.has 0)) ?_;refine fJ (J R d.eD) ?_;refine dl 0 0 ?_;refine aK (J R (R.wrap (d.eD -eD))) (λ_ _ _=>by(go_simp;try rfl)) ?_;refine aJ ?_;refine fY (J R (R.wrap (d.eD -eD))) ?_;refine bQ λw1 a=>?_;replace a:=a.drop 4;refine ah ?_;refine pl a 1 0 ?_;refine aR (aoZ B m d _ (a.has 2) h) ?_;rintro e o ⟨rfl,f,j⟩;replace a:=a.eQ 2 j;refine x4 ?_;go_wp2_with fail;first|go_end0|refine bodyPost_ret (results_none rfl _ _ _) rfl ?_
 exact⟨aa,f,a.pick [4,0,1,2,3]⟩
def amP C(B c)A m d(aq w)FX F(h:nW C d)(N:d.down=ao)(fZ:d.cache.length<=1000000000)(hl:∀W,av FX aq W->cZ W A C.ms)(a:ak aq FX w [aN B m d,F]):
 aC ax 157 #[dc B,J R (C.bd:Int),eN (C.o:Int) (C.n:Int) C.g1 C.g2 (ae A C.ms.length c)] w λe w'=>∃pk,pk<=(C.bd:Int)/\∃P,e=aB (bo #[ar (yO (mX C d).1).toArray,P])/\∃t,ame P t pk/\∃aY,ak aq FX w' [t,aN B aY (mX C d).2,F]:=by
 have fe:=hid h.ok;have L:=hid (λW F G=>amw B m d C.bd C.o C.n c C.g1 C.g2 A C.ms aq W FX F h.ok N h.bd h.sz h.rJ h.lay h.dL hl G);cases hn:EE d C.bd C.o C.n C.g1 C.g2 C.ms with
 |inl f=>
  have hat:mX C d=(⟨0,0,R.wrap (d.eD -d.eD),f.1,f.2⟩,sE d):=by unfold mX zt;rw[hn]
  rw[hat];obtain⟨I,K⟩:=f;simp only[yO];clear hat;have M:aE (∀W F,ak aq FX W [aN B m d,F]->aC ax 12 #[dc B,J R (C.bd:Int),eN (C.o:Int) (C.n:Int) C.g1 C.g2 (ae A C.ms.length c)] W λe w'=>e=aB (bo #[ay af,ar #[J R I,J R K]])/\ak aq FX w' [aN B m d,F]):=hid (λW F G=>by have q:=L W F G;rw[hn]at q;exact q);clear hn L h N fZ hl;go_enter_defers Tryz.func157,Tryz.ntmps157;go_step;refine ah ?_;refine bL a (ay (ab ⟨B,0,af⟩)) (λu w1 a=>?_);refine bL a (ar (a' (C.o:Int) (C.n:Int) C.g1 C.g2 (ae A C.ms.length c))) (λD aU a=>?_);refine bn a #[J R 0,J R 0,J R 0,J R 0,J R 0] (λv bI a=>?_);refine ed ?_;refine pl a 2 0 ?_;refine bH (Mb B m d _ (a.has 3)) a (λb9 a=>?_);refine pk (J R d.eD) ?_;refine bn a #[J R 0] (λx cE a=>?_);refine bb a 0 (J R d.eD) (λcV a=>?_);refine b5 ?_;refine Ua {target:=.fn (eu 233) #[ay (ab ⟨u,0,af⟩),ay (ab ⟨x,0,af⟩),ay (ab ⟨v,0,af⟩)],args:=#[]} aw ?_;refine ah ?_;refine pl a 3 0 ?_;refine ag ?_;refine bh a 2 (a' (C.o:Int) (C.n:Int) C.g1 C.g2 (ae A C.ms.length c)) ?_ (hv:=(e4 _)) (hk:=by show 0+_<=gB _;rw[js];exact b7 _) (hz:=(by rw[bD];rfl));have r:=(a.pk [4,0,1,2,3,5]).t1;refine aR (M _ _ r) ?_;rintro e dJ ⟨rfl,a⟩;clear r;replace a:=a.cX;refine aT ?_;refine v5 ?_;refine bb a 2 (ar #[J R I,J R K]) (λdB a=>?_);refine b5 ?_;refine aI (ai ao) (by(go_simp;try rfl)) ?_;refine ah ?_;refine bh a 2 #[J R 0,J R 0,J R 0,J R I,J R K] ?_;refine ag ?_;refine bb a 2 (ar #[J R 0,J R 0,J R 0,J R I,J R K]) (λeZ a=>?_);refine bU ?_;go_wp2_with fail;have r:=(a.pk [2,1,4,0,3,5]).t4;refine PK (f:=233) (args:=#[ay (ab ⟨u,0,af⟩),ay (ab ⟨x,0,af⟩),ay (ab ⟨v,0,af⟩)]) bc (by simp[go_sem]) ?_;refine(Y3 B u x v m d 0 0 0 I K d.eD _ aq _ FX _ fe r).mono ?_;clear r a;rintro e zM aU ⟨rfl,rfl,S,a⟩;replace a:=a.hR;have akx:=(a.pick (l':=[aN B S (sE d),F]) [3,5]).new emp ⟨av.refl _ _,trivial,λ_ h=>h.elim⟩;exact⟨_,ml aa aa aa (a.aV 0) aw aw,0,alN _,ay af,by first|rfl|trivial,emp,λW _=>amB W,S,akx⟩
 |inr s=>
  have Se:∀B di dD p g b,pL (⟨B,di,dD,C.bd,C.o,C.n,p,g,(dV d.size 0 (max C.o C.n)).2,(mC (jM C.o C.n C.g1 C.g2 C.ms)).toNat,C.g1,C.g2,b,C.ms⟩:o9) s=pL (C.E d) s:=λB di dD p g b=>awo (E:=C.E d) (E':=⟨B,di,dD,C.bd,C.o,C.n,p,g,(dV d.size 0 (max C.o C.n)).2,(mC (jM C.o C.n C.g1 C.g2 C.ms)).toNat,C.g1,C.g2,b,C.ms⟩) ⟨aa,aa,aa,aa,aa,aa,aa,aa⟩ s;have O:∀B di dD p g b,p8 (⟨B,di,dD,C.bd,C.o,C.n,p,g,(dV d.size 0 (max C.o C.n)).2,(mC (jM C.o C.n C.g1 C.g2 C.ms)).toNat,C.g1,C.g2,b,C.ms⟩:o9) s/\s.d=d:=λB di dD p g b=>TW h N fZ hn ⟨aa,aa,aa,aa,aa,aa⟩;obtain⟨rc,H,Q⟩:∃rc H,pL (C.E d) s=(rc,H):=⟨_,_,aa⟩;have iL:=UA (O 0 0 0 0 0 af).1;rw[Se,Q]at iL;have hat:mX C d=(⟨s.st,s.nx,R.wrap (H.d.eD -d.eD),rc,0⟩,sE H.d):=by unfold mX zt;rw[hn];simp only;rw[Q]
  rw[hat];simp only[yO];have uJ:=(O 0 0 0 0 0 af).2;obtain⟨st,nx,bE,j,i⟩:=s;simp only at uJ⊢;obtain rfl:i=d:=uJ;have vl:=hid iL.ok;have M:aE (∀W F,ak aq FX W [aN B m i,F]->aC ax 12 #[dc B,J R (C.bd:Int),eN (C.o:Int) (C.n:Int) C.g1 C.g2 (ae A C.ms.length c)] W λe w'=>∃ di dD p g c2 l k b aL,s7 l p C.bd C.ms/\ie k b g C.ms/\e=aB (bo #[ay (ab ⟨di,0,af⟩),ar #[J R 0,J R 0]])/\ak aq FX w' [fI ⟨B,di,dD,C.bd,C.o,C.n,p,g,(dV i.size 0 (max C.o C.n)).2,(mC (jM C.o C.n C.g1 C.g2 C.ms)).toNat,C.g1,C.g2,b,C.ms⟩ l k 0 ⟨st,nx,bE,j,i⟩ aL c2 m,F]):=hid (λW F G=>by have q:=L W F G;rw[hn]at q;exact q);have Ej:aE (∀di dD p g b l k pk aL c2 m W F,s7 l p C.bd C.ms->ie k b g C.ms->ak aq FX W [fI ⟨B,di,dD,C.bd,C.o,C.n,p,g,(dV i.size 0 (max C.o C.n)).2,(mC (jM C.o C.n C.g1 C.g2 C.ms)).toNat,C.g1,C.g2,b,C.ms⟩ l k pk ⟨st,nx,bE,j,i⟩ aL c2 m,F]->aC ax 13 #[ay (ab ⟨di,0,af⟩)] W λe w'=>e=aB (ar #[J R rc,J R 0])/\∃b8,gM ⟨B,di,dD,C.bd,C.o,C.n,p,g,(dV i.size 0 (max C.o C.n)).2,(mC (jM C.o C.n C.g1 C.g2 C.ms)).toNat,C.g1,C.g2,b,C.ms⟩ l k pk H b8/\ak aq FX w' [b8,F]):=hid (λdi dD p g b l k pk aL c2 m W F Y X G=>by have q:=amK _ l k pk _ aL c2 m aq W FX F Y X (O B di dD p g b).1 G;rw[Se,Q]at q;exact q);obtain⟨y,qj⟩:=ex ((dV i.size 0 (max C.o C.n)).2);obtain⟨z,Fh⟩:=ex ((mC (jM C.o C.n C.g1 C.g2 C.ms)).toNat);rw[qj,Fh]at M Ej;clear hat iL O Se hn L h N fZ hl Q qj Fh;go_enter_defers Tryz.func157,Tryz.ntmps157;go_step;refine ah ?_;refine bL a (ay (ab ⟨B,0,af⟩)) (λu gV a=>?_);refine bL a (ar (a' (C.o:Int) (C.n:Int) C.g1 C.g2 (ae A C.ms.length c))) (λD hZ a=>?_);refine bn a #[J R 0,J R 0,J R 0,J R 0,J R 0] (λv jQ a=>?_);refine ed ?_;refine pl a 2 0 ?_;refine bH (Mb B m i _ (a.has 3)) a (λke a=>?_);refine pk (J R i.eD) ?_;refine bn a #[J R 0] (λx k8 a=>?_);refine bb a 0 (J R i.eD) (λmn a=>?_);refine b5 ?_;refine Ua {target:=.fn (eu 233) #[ay (ab ⟨u,0,af⟩),ay (ab ⟨x,0,af⟩),ay (ab ⟨v,0,af⟩)],args:=#[]} aw ?_;refine ah ?_;refine pl a 3 0 ?_;refine ag ?_;refine bh a 2 (a' (C.o:Int) (C.n:Int) C.g1 C.g2 (ae A C.ms.length c)) ?_ (hv:=(e4 _)) (hk:=by show 0+_<=gB _;rw[js];exact b7 _) (hz:=(by rw[bD];rfl));have r:=(a.pk [4,0,1,2,3,5]).t1;refine aR (M _ _ r) ?_;rintro e nn ⟨di,dD,p,g,c2,l,k,b,aL,Y,X,rfl,a⟩;clear r;replace a:=a.cX;refine aT ?_;refine v5 ?_;refine bb a 2 (ar #[J R 0,J R 0]) (λpO a=>?_);refine b5 ?_;refine aI (ai az) (by(go_simp;try rfl)) ?_;refine an ?_;replace a:ak _ _ _ [cJ ⟨B,di,dD,C.bd,C.o,C.n,p,g,y,z,C.g1,C.g2,b,C.ms⟩ 0 st (nx:Int) bE,cY ⟨B,di,dD,C.bd,C.o,C.n,p,g,y,z,C.g1,C.g2,b,C.ms⟩ j aL c2,aN B m i,l,k,aj x #[J R i.eD] 3,aj v #[J R 0,J R 0,J R 0,J R 0,J R 0] 158,aj D (a' (C.o:Int) (C.n:Int) C.g1 C.g2 (ae A C.ms.length c)) 26,aj u #[ay (ab ⟨B,0,af⟩)] 32,F]:=ak.kI (a.pick (l':=[fI ⟨B,di,dD,C.bd,C.o,C.n,p,g,y,z,C.g1,C.g2,b,C.ms⟩ l k 0 ⟨st,nx,bE,j,i⟩ aL c2 m,aj x #[J R i.eD] 3,aj v #[J R 0,J R 0,J R 0,J R 0,J R 0] 158,aj D (a' (C.o:Int) (C.n:Int) C.g1 C.g2 (ae A C.ms.length c)) 26,aj u #[ay (ab ⟨B,0,af⟩)] 32,F]) [0,1,2,3,4,5]);refine b5 ?_;refine bH (amL di (dc B) (ae b C.ms.length g) (ay (ab ⟨p,0,af⟩)) (ay (ab ⟨dD,0,af⟩)) (C.bd:Int) 0 (C.o:Int) (C.n:Int) st (nx:Int) C.g1 C.g2 bE _ (a.aV 0)) a (λrK a=>?_);refine ag ?_;refine bH (amx di (dc B) (ae b C.ms.length g) (ay (ab ⟨p,0,af⟩)) (ay (ab ⟨dD,0,af⟩)) (C.bd:Int) 0 (C.o:Int) (C.n:Int) st (nx:Int) C.g1 C.g2 bE _ (a.aV 0)) a (λu4 a=>?_);refine ag ?_;refine bb a 6 (J R st) (λx0 a=>?_);refine ag ?_;refine bb a 6 (J R (nx:Int)) (λBw a=>?_);refine an ?_;replace a:ak _ _ _ [fI ⟨B,di,dD,C.bd,C.o,C.n,p,g,y,z,C.g1,C.g2,b,C.ms⟩ l k 0 ⟨st,nx,bE,j,i⟩ aL c2 m,aj x #[J R i.eD] 3,aj v #[J R st,J R (nx:Int),J R 0,J R 0,J R 0] 158,aj D (a' (C.o:Int) (C.n:Int) C.g1 C.g2 (ae A C.ms.length c)) 26,aj u #[ay (ab ⟨B,0,af⟩)] 32,F]:=(a.pick (l':=[cJ ⟨B,di,dD,C.bd,C.o,C.n,p,g,y,z,C.g1,C.g2,b,C.ms⟩ 0 st (nx:Int) bE,cY ⟨B,di,dD,C.bd,C.o,C.n,p,g,y,z,C.g1,C.g2,b,C.ms⟩ j aL c2,aN B m i,l,k,aj x #[J R i.eD] 3,aj v #[J R st,J R (nx:Int),J R 0,J R 0,J R 0] 158,aj D (a' (C.o:Int) (C.n:Int) C.g1 C.g2 (ae A C.ms.length c)) 26,aj u #[ay (ab ⟨B,0,af⟩)] 32,F]) [0,1,2,3,4,5,6,7,8,9]).fP 5;refine ah ?_;refine ag ?_;have r:=(a.pk [0,1,2,3,4,5]).t1;refine aR (Ej di dD p g b l k 0 aL c2 m _ _ Y X r) ?_;rintro e Bx ⟨rfl,t9,hq,a⟩;clear r;replace a:=a.cX;refine aT ?_;refine ag ?_;refine bb a 2 (ar #[J R rc,J R 0]) (λDK a=>?_);refine an ?_;obtain⟨pk,kx,mx,m9,hle,rfl⟩:=hq;obtain⟨V,T,U,adD,Z⟩:=H;simp only at vl⊢;replace a:ak _ _ _ [cJ ⟨B,di,dD,C.bd,C.o,C.n,p,g,y,z,C.g1,C.g2,b,C.ms⟩ pk V (T:Int) U,cY ⟨B,di,dD,C.bd,C.o,C.n,p,g,y,z,C.g1,C.g2,b,C.ms⟩ adD kx mx,aN B m9 Z,l,k,aj x #[J R i.eD] 3,aj v #[J R st,J R (nx:Int),J R 0,J R rc,J R 0] 158,aj D (a' (C.o:Int) (C.n:Int) C.g1 C.g2 (ae A C.ms.length c)) 26,aj u #[ay (ab ⟨B,0,af⟩)] 32,F]:=ak.kI (a.pick (l':=[fI ⟨B,di,dD,C.bd,C.o,C.n,p,g,y,z,C.g1,C.g2,b,C.ms⟩ l k pk ⟨V,T,U,adD,Z⟩ kx mx m9,aj x #[J R i.eD] 3,aj v #[J R st,J R (nx:Int),J R 0,J R rc,J R 0] 158,aj D (a' (C.o:Int) (C.n:Int) C.g1 C.g2 (ae A C.ms.length c)) 26,aj u #[ay (ab ⟨B,0,af⟩)] 32,F]) [0,1,2,3,4,5]);refine ah ?_;refine bh a 6 #[J R st,J R (nx:Int),J R 0,J R rc,J R 0] ?_;refine ag ?_;refine bb a 6 (ar #[J R st,J R (nx:Int),J R 0,J R rc,J R 0]) (λJM a=>?_);refine bU ?_;go_wp2_with fail;have r:=(a.pk [6,5,8,2,0,1,3,4,7,9]).t4;refine PK (f:=233) (args:=#[ay (ab ⟨u,0,af⟩),ay (ab ⟨x,0,af⟩),ay (ab ⟨v,0,af⟩)]) bc (by simp[go_sem]) ?_;refine(Y3 B u x v m9 Z st (nx:Int) 0 rc 0 i.eD _ aq _ FX _ vl r).mono ?_;clear r a;rintro e zM aU ⟨rfl,rfl,S,a⟩;replace a:=a.hR;exact⟨_,ml aa aa aa (a.aV 0) aw aw,pk,Int.le_trans hle (by show max 0 (C.bd:Int)<=_;omega),ay (ab ⟨di,0,af⟩),by first|rfl|trivial,cJ ⟨B,di,dD,C.bd,C.o,C.n,p,g,y,z,C.g1,C.g2,b,C.ms⟩ pk V (T:Int) U,λW hp=>amC di (dc B) (ae b C.ms.length g) (ay (ab ⟨p,0,af⟩)) (ay (ab ⟨dD,0,af⟩)) (C.bd:Int) pk (C.o:Int) (C.n:Int) V (T:Int) C.g1 C.g2 U W hp,S,a.pick [4,3,9]⟩
section
section
variable {P:ew} {ops:Array cT} {Q:Exit->b3->aP->Prop} {md:Region.Mode} {n:Nat} {r:Option Nat}
def YT {i f d:Nat} {b:Array Bool} {a e:b3} {w:aP} {oi:cT} (v:aO) (h:GR (Fr af) n P md ops Q f (b.setIfInBounds i az) e w) (ho:ops[i]?=ab oi:=by rfl) (k:∀w,(bz a.eval oi).run P w=bf (da v) w:=by(intro w;go_simp;try with_reducible rfl)) (j:oi.dst=ab d:=by rfl) (g:a.put (ab d) v=e:=by((try simp only[Act.put,List.setIfInBounds_toArray,List.set_cons_zero,List.set_cons_succ]);rfl))
 (hs:Region.noSelect ops=true:=by kernel_rfl) (hf:Region.free md ops b i=true:=by kernel_rfl) (hr:(sX md ops b).contains i=true:=by kernel_rfl) (hw:c7 oi (c3 ops a.tmps)=true:=by kernel_rfl) (hab:∀w,oi.about P w a.eval=none:=by(intro _;rfl)) (E7:∀c a w,Q (.panic c) (a.put oi.dst v) w->Q (.panic c) a w:=by(intro _ _ _ h;exact h)):GR (Fr af) n P md ops Q (f+1) b a w:=by
 rw[<-j]at g;subst g;exact wpAnyIn_take aa ho hs hf hr E7 ⟨bZ ⟨hw,k⟩,hab⟩ h
def amy {i j x s t:Nat} {m:Array Bool} {a g:b3} {w:aP} {oi b:cT} {v u:aO} (c:aP->Prop) (p:c w)
 (h1:∀w,c w->(bz a.eval oi).run P w=bf (da v) w/\(bz (a.put b.dst u).eval oi).run P w=bf (da v) w)
 (l:∀w,c w->∃f args,(bz a.eval b).run P w=bf (.enter f args) w/\(bz (a.put oi.dst v).eval b).run P w=bf (.enter f args) w/\aC P f args w λe w'=>e=aB u/\c w')
 (h:∀w,c w->GR (Fr r) n P md ops Q x ((m.setIfInBounds i az).setIfInBounds j az) g w)
 (hr:sX md ops m=[i,j]:=by kernel_rfl) (hr1:sX md ops (m.setIfInBounds i az)=[j]:=by kernel_rfl) (hr2:sX md ops (m.setIfInBounds j az)=[i]:=by kernel_rfl)
 (MQ:ops[i]?=ab oi:=by rfl) (C':ops[j]?=ab b:=by rfl) (sl:oi.dst=ab s:=by rfl) (jE:b.dst=ab t:=by rfl) (ha:(a.put (ab s) v).put (ab t) u=g:=by((try simp only[Act.put,List.setIfInBounds_toArray,List.set_cons_zero,List.set_cons_succ]);rfl)) (uF:tx oi=true:=by kernel_rfl) (qp:tx b=true:=by kernel_rfl) (hne:i≠j:=by decide) (hd:∀d,oi.dst=ab d->b.dst≠ab d:=by(intro d h;injection h with h;subst h;decide))
 (w1:c7 oi (c3 ops a.tmps)=true:=by kernel_rfl) (aU:c7 b (c3 ops a.tmps)=true:=by kernel_rfl) (bI:c7 oi (c3 ops (a.put b.dst u).tmps)=true:=by kernel_rfl) (b9:c7 b (c3 ops (a.put oi.dst v).tmps)=true:=by kernel_rfl):
 GR (Fr r) n P md ops Q (x+2) m a w:=by
 rw[<-sl,<-jE]at ha;subst ha
 have rd:∀(a) w K,(bz _ oi).run P w=bf (da v) w->K (a.put oi.dst v) w->aib (Fr r) n P oi a w K Q:=λa w K k hk=>by refine NL (K0:=λ_ _=>False) (next0:=λg w'=>g=a.put oi.dst v/\w'=w) (λg w' ⟨h1,l⟩=>aG) uF ?_;unfold iy;rw[k];exact⟨aa,aa⟩
 have q:∀(a) w K,(∃f args,(bz a.eval b).run P w=bf (.enter f args) w/\aC P f args w λe w'=>e=aB u/\c w')->(∀w',c w'->K (a.put b.dst u) w')->aib (Fr r) n P b a w K Q:=λa w K ⟨f,_,k,hc⟩ hk=>by refine NL (K0:=λ_ _=>False) (next0:=λg w'=>g=a.put b.dst u/\c w') (λg w' ⟨h1,l⟩=>aG) qp ?_;unfold iy;rw[k];exact hc.mono λe w' ⟨h1,l⟩=>by grind
 refine PQ hr bc (KA MQ (λK o=>?_) (KA C' (λK o=>?_) O6));·rw[if_pos w1];refine rd _ _ _ (h1 w p).1 (o _ _ (PQ hr1 bc (KA C' (λz y=>?_) O6)));rw[if_pos b9];obtain⟨f,args,_,k,hc⟩:=l w p;exact q _ _ _ ⟨f,_,k,hc⟩ (λw' hw'=>y _ _ (h w' hw'))
 .rw[if_pos aU];obtain⟨f,args,k,_,hc⟩:=l w p;refine q _ _ _ ⟨f,_,k,hc⟩ (λw' hw'=>o _ _ (PQ hr2 bc (KA MQ (λz y=>?_) O6)));grind[Array.setIfInBounds_comm,Act.put_comm]
def Dn(n k:Nat):Array Bool:=((dU n).map (λj=>decide (j<k))).toArray
def atu{n k}:(Dn n k).setIfInBounds k az=Dn n (k+1):=by unfold Dn;apply Array.ext bc;grind
def YU(f:(dU ops.size).all (λk=>sX md ops (Dn ops.size k)==[k])=az\/True):∀(m k) a w l,k+m=ops.size->ops.toList.drop k=l->(∀q,k<=q->q<ops.size->sX md ops (Dn ops.size q)=[q])->sX md ops (Dn ops.size ops.size)=[]->wpListIn (Fr r) n P ops Q l a w->GR (Fr r) n P md ops Q m (Dn ops.size k) a w
 |0,k,a,w,l,hk,b,c,hz,h=>by obtain rfl:k=ops.size:=ad;rw[QX bc]at b;subst b;exact⟨hz,h⟩
 |m+1,k,a,w,l,hk,b,c,hz,h=>by
  have hlt:k<ops.toList.length:=aG;rw[Hl hlt]at b;subst b;have ho:ops[k]?=ab ops.toList[k]:=bc;refine PQ (c k (b7 _) ad) bc (KA ho (λK e=>?_) O6);unfold wpListIn at h;have key:=λa w h=>e _ _ (by rw[atu];exact YU f m (k+1) a w _ ad aa (λq h1 d=>c q ad d) hz h);split at h;·grind[Oper.wpIn_mono]
  .grind
end
section
variable {P:ew} {ops:Array cT} {rest:List cT} {Q:Exit->b3->aP->Prop} {o:cT} {a:b3} {w aq:aP} {FX:Nat->Prop} {l:List bu}
def awr w (N sz) (t ty e) i z (g:P.underlying t=ab (.slice e)) (hi:P.info? e=ab i) (hz:i.zero=ab z) (hsize:i.size=sz) (hzs:z.cells.size=sz) (hsz:0<sz)
 A n xs (hx:Cells w sz A n xs) aL (m c2) news (hr:Cells w sz aL m news) (h1:∀u∈news,u.oneCell'=az) (hm:0<m)
 (h63:n+m<=eG) (hbytes:(n+m)*i.bytes<=140737488355328) (d':N<=w.heap.size):
 ∃B c w',(Builtin.append_ #[t,t] ty #[ae A n n,ae aL m c2]).run P w=bf (ae (ab ⟨B,0,af⟩) (n+m) c) w'/\Row N w' (ab ⟨B,0,af⟩) (n+m) c e sz (xs++news)/\au w w'/\w.heap.size<=B:=by
 have hlx:=hx.1;have f:=hr.1;obtain⟨a,rfl,hnews⟩:=hr.2 hm;have l:Src P i.size t _ m _ w:=Src.ofSlice w g a m c2 _ (by rw[hr.1,hsize]) hnews h1
 have hold:(Builtin.firstCells i.size n (ae A n n)).run P w.drew=bf xs.toArray w.drew:=by
  rw[hsize];rcases l1 n with b|b
  .subst b;obtain rfl:=j8 (by rw[hlx,Nat.zero_mul]);cases A with
   |none=>exact run_firstCells_none w.drew sz 0 0 0
   |some a=>exact K3 w.drew sz 0 a 0 0 [] bc (λj u o=>by simp at o)
  .obtain⟨a,rfl,hc⟩:=hx.2 b;exact K3 _ sz n a n n xs hlx hc
 have hrun:=run_append_grow_src (P:=P) w t t ty e i z g hi hz A n n xs hold _ m _ l ad (by unfold eG at h63;omega) (growslice_fits ad hbytes);have d:=grownCap_ge w (n+m) n e;have k:=grownCap_le_maxLen w _ n e h63;have hlen:(xs++news).length=(n+m)*sz:=by rw[db,hlx,f,vx]
 refine⟨_,_,_,hrun,⟨hlen,cc ⟨_,_,_,aa,d',fO _ _,d,k,?_,?_⟩⟩,au.trans (av.drew _) (av.alloc _ _),b7 _⟩;·have h:=oK sz d;simp only[Array.size_append,iY,Builtin.zeroCells,hlx,f];simp[hzs];rw[vx]at h;rw[Nat.sub_mul,vx];omega
 .simp only[Array.toList_append,kQ];rw[<-kQ,<-hlen];exact List.take_left
def auR {s x:Operand} {t e sz n m c2:Nat} {A aL:Option bT} {xs news:List aO} {c:Nat->Nat->b3} (d:ak aq FX w l) (bytes:Nat) (hx0:Cells w sz A n xs) (hr:Cells w sz aL m news) (h1:∀u∈news,u.oneCell'=az)
 (h:∀B b w',ak aq FX w' (bg (ab ⟨B,0,af⟩) (n+m) b e sz (xs++news)::l)->wpList P ops Q rest (c B b) w') (hm:0<m:=by decide) (hsz:0<sz:=by decide) (ho:o.op=.call {callee:=.builtin .append,args:=#[s,x],argTypes:=#[t,t]}:=by rfl) (hs:a.eval s=ae A n n:=by rfl) (hx:a.eval x=ae aL m c2:=by rfl)
 (ht:P.underlying t=ab (.slice e):=by kernel_rfl) (lq:(P.info? e).map (λi=>(i.zero.isSome,(i.zero.map (·.cells.size)).getD 0,i.size,i.bytes))=ab (az,sz,sz,bytes):=by kernel_rfl) (hb0:0<bytes:=by decide) (hby:(n+m)*bytes<=140737488355328:=by omega)
 (hw:c7 o (c3 ops a.tmps)=true:=by kernel_rfl) (ha:∀B b,a.put o.dst (ae (ab ⟨B,0,af⟩) (n+m) b)=c B b:=by(intro _ _;((try simp only[Act.put,List.setIfInBounds_toArray,List.set_cons_zero,List.set_cons_succ]);rfl))):wpList P ops Q (o::rest) a w:=by
 refine wpList_step λK k=>?_;rw[if_pos hw];cases hq:P.info? e with
 |none=>simp[hq]at lq
 |some i=>
  rw[hq]at lq;simp at lq;obtain⟨bF,cq,f,g⟩:=lq;obtain⟨z,hz⟩:=Option.isSome_iff_exists.1 bF;rw[hz]at cq;simp at cq;subst g;have hle:(n+m)<=(n+m)*i.bytes:=Nat.le_mul_of_pos_right _ hb0;obtain⟨B,b,w',hrun,h1,j,p⟩:=awr (P:=P) w w.heap.size sz t o.type e i z ht hq hz f cq hsz A n xs hx0 aL m c2 news hr h1 hm (by grind[eG]) hby (b7 _);unfold iy bz;simp only[ho,resolve,invoke,builtin,gC,kg,jI,pj,kj,lJ,hs,hx,hrun];have hk:=k _ _ (h B b w' (d.lz j h1));rw[<-ha]at hk;exact hk
end
def YZ{d}(h:dt d){n a}(hn:cN n):dt (pq d n a):=⟨h.kt,h.um,h.len,h.small,h.cache,h.dL,by have:cN (max n (-1)):=by{unfold cN at*;omega};exact this⟩
def iz(l:List (Int×Int)):List Value:=l.flatMap (λk=>[J R k.1,J aF k.2])
def ZJ l:(iz l).length=l.length*2:=by
 induction l with
 |nil=>rfl
 |cons x l a=>grind[iz]
def L4{l j x}(hx:l[j]?=ab x):∀(i) v,([J R x.1,J aF x.2]:List aO)[i]?=ab v->(iz l)[j*2+i]?=ab v:=by
 induction l generalizing j with
 |nil=>grind
 |cons y l a=>
  intro i v hv;have hc:iz (y::l)=[J R y.1,J aF y.2]++iz l:=ba;have hi:i<2:=(eM.1 hv).1;rw[hc];cases j with
  |zero=>grind
  |succ j=>grind
def fB(C:wv):List (Int×Int)->dF->List rT×dF
 |[],d=>([],d)
 |k::l,d=>if(mX C (pq d k.1 k.2)).1.bt=18 then((mX C (pq d k.1 k.2)).1::(fB C l (mX C (pq d k.1 k.2)).2).1,(fB C l (mX C (pq d k.1 k.2)).2).2)else([(mX C (pq d k.1 k.2)).1],(mX C (pq d k.1 k.2)).2)
def apr(x:rT×Int):Array Value:=#[ar (yO x.1).toArray,J R x.2]
def YP(bd:Nat)(all:List rT)(pre:List (rT×Int)):Prop:=pre.map (·.1)<+:all/\∀x∈pre,x.2<=(bd:Int)
def apY(bd:Nat)(all:List rT)(pre:List (rT×Int)):Prop:=pre.map (·.1)=all/\∀x∈pre,x.2<=(bd:Int)
def amQ C(B b' cG r s c cs)(A g)m d f aq FX(h:nW C d)(cp:d.down=ao)(fZ:d.cache.length<=1000000000)(hl:∀W,av FX aq W->cZ W A C.ms)(hsc:∀W,av FX aq W->Cells W 2 g f.length (iz f))(fL:f.length<=cs/\f.length<=1048576)(lP:∀k∈f,cN k.1):
 LB ax 156 #[ay (ab ⟨b',0,af⟩),ay (ab ⟨cG,0,af⟩),ay (ab ⟨r,0,af⟩),ay (ab ⟨s,0,af⟩)] apr aq FX (bY [aj b' #[ae g f.length cs] 65,aj cG #[(dc B)] 32,aj r #[J R (C.bd:Int)] 3,aj s (a' (C.o:Int) (C.n:Int) C.g1 C.g2 (ae A C.ms.length c)) 26,aN B m d]) (λu=>∃aY,u=bY [aj b' #[ae g f.length cs] 65,aj cG #[(dc B)] 32,aj r #[J R (C.bd:Int)] 3,aj s (a' (C.o:Int) (C.n:Int) C.g1 C.g2 (ae A C.ms.length c)) 26,aN B aY (fB C (f++[(-1,0)]) d).2]) (YP C.bd (fB C (f++[(-1,0)]) d).1) (apY C.bd (fB C (f++[(-1,0)]) d).1) (λ_=>emp):=by
 intro l S hB W F t bW h0 a;have nw:=hid h;have yz:=hid hsc;have tV:=hid hl;have jy:=hid fL;have az1:=hid lP;obtain⟨L,cd⟩:=ex (f++[((-1:Int),(0:Int))]);have xd:L.length=f.length+1:=aG;have akP:aE (∀k∈L,cN k.1):=hid (λk hk=>by grind[cN]);have P5:aE (iz f++[J R (-1),J aF 0]=iz L):=hid (by grind[iz]);rw[cd]at bW⊢;obtain⟨all,jL,CN⟩:∃all jL,fB C L d=(all,jL):=⟨_,_,aa⟩;rw[CN]at bW⊢;simp only at bW⊢;have P0:=hid CN;have Qn:=hid xd;have P0:=hid CN;have Qn:=hid xd;have mu:=hid cp;have yr:=hid fZ;clear cd xd CN cp fZ h hl hsc lP;go_enter Tryz.func156,ntmps156;replace a:ak aq FX W [aj b' #[ae g f.length cs] 65,aj cG #[(dc B)] 32,aj r #[J R (C.bd:Int)] 3,aj s (a' (C.o:Int) (C.n:Int) C.g1 C.g2 (ae A C.ms.length c)) 26,aN B m d,t,F]:=a.kI;go_step;refine ah ?_;refine pl a 0 0 ?_;refine pl a 0 0 ?_;refine ag ?_;refine pl a 0 0 ?_;refine ag ?_;refine aI (ae g f.length f.length) (agk 65 105 2 (bj 10) (bj 12) (bj 14) aa Tryz.underlying65 aw g f.length cs f.length f.length aa aa aa (b7 _) jy.1) ?_;refine ag ?_;refine e' a #[J R (-1),J aF 0] 105 (λOW w1 a=>?_);refine auR (e:=105) (sz:=2) (m:=1) (xs:=iz f) (news:=[J R (-1),J aF 0]) a 16 (yz _ a.only) (aX.cellsOf (m:=1) (a.aV 0) aa) (by intro u hu;simp only[gD,fS,or_false]at hu;rcases hu with rfl|rfl<;>rfl) (λN Q rK a=>?_) (hby:=by omega);rw[P5]at a;refine eg ?_;have bK:=a.pk [0,2,3,4,5,6,7,8];go_wp2_with fail;go_loopw [20] (λaQ wr=>∃(j:Nat) (pre:List (rT×Int)) (Y:nX) (G:dF) (t2:bu),j<=L.length/\aE (pre.map (·.1)++(fB C (L.drop j) G).1=all)/\aE ((fB C (L.drop j) G).2=jL)/\nW C G/\G.down=ao/\G.cache.length<=1000000000/\aE (∀x∈pre,x.2<=(C.bd:Int))/\aQ=J R (j:Int)/\S pre t2/\ak aq FX wr [bg (ab ⟨N,0,af⟩) (f.length+1) Q 105 2 (iz L),aj b' #[ae g f.length cs] 65,aj cG #[(dc B)] 32,aj r #[J R (C.bd:Int)] 3,aj s (a' (C.o:Int) (C.n:Int) C.g1 C.g2 (ae A C.ms.length c)) 26,aN B Y G,t2,F]) (λaQ wr=>L.length -(bR aQ).toNat);case atStart=>exact⟨0,[],m,d,t,cB _,hid (by rw[Yp,P0];rfl),hid (by rw[Yp,P0]),nw,mu,yr,hid (λ_ h=>(fS h).elim),aa,h0,bK⟩
 case round=>
  clear a bK h0;obtain⟨j,pre,Y,G,t2,hj,hall,Ig,Z,Sz,Sw,nL,rfl,hS,a⟩:=hrel;by_cases hlt:j<L.length
  .have cf:(j:Int)<((f.length+1:Nat):Int):=by have:=Qn.out;omega
   obtain⟨x,hx⟩:∃x,L[j]?=ab x:=⟨_,cF hlt⟩;have r4:=hid (L4 hx);have acd:=akP x (cW hx);have X:=hall.out;have hz:=Ig.out;rw[Hl hlt,show L[j]=x from by rw[cF hlt]at hx;exact Lx hx]at X hz;rw[fB]at X hz;have AX:nW C (pq G x.1 x.2):=⟨YZ Z.ok acd,Z.bd,Z.sz,Z.rJ,Z.lay,Z.dL,Z.ch⟩;have iL:=Y4 AX Sz Sw;have S4:=AX.xb iL.1;have vj:=hid (λW m F ac=>amP C B c A m (pq G x.1 x.2) aq W FX F AX Sz Sw tV ac);obtain⟨y,w,hy⟩:∃y w,mX C (pq G x.1 x.2)=(y,w):=⟨_,_,aa⟩;rw[hy]at X hz iL S4 vj;simp only at X hz iL S4 vj;obtain⟨P,O⟩:=x;have acq:j<f.length+1:=ad;have wQ:aE (∀p,p<=(C.bd:Int)->YP C.bd all (pre++[(y,p)])):=hid (λp hp=>⟨by rw[<-X,fR];split;exact⟨(fB C (L.drop (j+1)) w).1,bc⟩;exact⟨[],bc⟩,λz hz=>by rcases iX.1 hz with h|h;exact nL z h;obtain rfl:=ua.1 h;exact hp⟩);have XO:aE (y.bt=18->(pre.map (·.1)++[y])++(fB C (L.drop (j+1)) w).1=all/\(fB C (L.drop (j+1)) w).2=jL):=hid (λh=>aG);have Ye:aE (y.bt≠18->pre.map (·.1)++[y]=all/\w=jL):=hid (λh=>aG);obtain⟨K,H,M,E,I⟩:=y;simp only[yO]at vj;simp only at XO Ye;have vl:=hid iL;clear hx X hz AX hy hall Ig iL Sz Sw acd;go_step;refine ah ?_;refine ed ?_;refine aI (ay (ab ⟨N,(0+j*2),af⟩)) (b4 65 105 2 (bj 18) (bj 20) aa Tryz.underlying65 aw N 0 ((f.length+1)) Q j ((0+j*2)) aa aa acq aa) ?_;refine aI (ar #[J R P,J aF O]) (e5 105 (bj 22) aa N (0+j*2) aa ([J R P,J aF O]:List aO) (Row.range (a.atR 0) aa (λi v hi=>by rw[js];exact r4 i v hi)) underlying105 aa aw) ?_;refine bn a #[J R 0,J aF 0] (λT aU a=>?_);refine bb a 0 (ar #[J R P,J aF O]) (λbI a=>?_);refine ah ?_;refine pl a 3 0 ?_;refine ag ?_;refine pl a 0 0 ?_;refine ag ?_;refine pl a 0 1 ?_;refine aR (aoJ B Y G P O _ (a.has 6)) ?_;rintro e b9 ⟨rfl,bP⟩;replace a:=a.eQ 6 bP;refine aT ?_;refine ah ?_;refine pl a 3 0 ?_;refine pl a 4 0 ?_;refine bh a 5 (a' (C.o:Int) (C.n:Int) C.g1 C.g2 (ae A C.ms.length c)) ?_ (hv:=(e4 _)) (hk:=by omega) (hz:=(by rw[bD];rfl));have HB:=(a.pk [6,0,1,2,3,4,5,7,8]).t1;refine aR (vj _ Y _ HB) ?_;rintro e cE ⟨pk,MY,YG,rfl,dk,aqJ,D,a⟩;clear HB;replace a:=a.bk;refine aT ?_;refine v3 ?_;refine bn a #[J R 0,J R 0,J R 0,J R 0,J R 0] (λU cV a=>?_);refine bb a 0 (ar #[J R K,J R H,J R M,J R E,J R I]) (λdJ a=>?_);refine hI ?_;refine(yn (n:=0)).1 (wpIn_region_any (F:=Fr af) aw ?_);skip;refine YT (i:=0) (dS (wz l) #[] #[]) ?_;refine YT (i:=2) YG ?_;have XE:=a.aH (av.drew _);refine amy (i:=1) (j:=3) (v:=ar #[J R K,J R H,J R M,J R E,J R I]) (u:=J R pk) (λw'=>ak aq FX w' [aj U #[J R K,J R H,J R M,J R E,J R I] 158,dk,aN B D w,aj T #[J R P,J aF O] 105,bg (ab ⟨N,0,af⟩) (f.length+1) Q 105 2 (iz L),aj b' #[ae g f.length cs] 65,aj cG #[(dc B)] 32,aj r #[J R (C.bd:Int)] 3,aj s (a' (C.o:Int) (C.n:Int) C.g1 C.g2 (ae A C.ms.length c)) 26,t2,F]) XE (λw' a=>⟨?_,?_⟩) (λw' a=>⟨158,#[YG],?_,?_,(aqJ w' (a.at (t:=dk) 1)).mono λe aU h=>⟨h.1,a.aH h.2⟩⟩) (λcE a=>?_);·first|exact mG (cs':=#[J R K,J R H,J R M,J R E,J R I]) aa aa (a.aV 0) aw (of_decide_eq_true aw) aw aw|(go_simp;done)|(go_simp;rfl)
   .first|exact mG (cs':=#[J R K,J R H,J R M,J R E,J R I]) aa aa (a.aV 0) aw (of_decide_eq_true aw) aw aw|(go_simp;done)|(go_simp;rfl)
   . (go_simp;try with_reducible rfl)
   . (go_simp;try with_reducible rfl)
   clear XE;refine YU (cc trivial) 8 4 _ _ _ aa aa (λq h1 h2=>?_) aw ?_;·have h3:q<12:=h2;rcases(show q=4\/q=5\/q=6\/q=7\/q=8\/q=9\/q=10\/q=11 by omega)with rfl|rfl|rfl|rfl|rfl|rfl|rfl|rfl<;>(show _=_;kernel_rfl)
   have HB:=(a.pick (l':=[t2,aj U #[J R K,J R H,J R M,J R E,J R I] 158,dk,aN B D w,aj T #[J R P,J aF O] 105,bg (ab ⟨N,0,af⟩) (f.length+1) Q 105 2 (iz L),aj b' #[ae g f.length cs] 65,aj cG #[(dc B)] 32,aj r #[J R (C.bd:Int)] 3,aj s (a' (C.o:Int) (C.n:Int) C.g1 C.g2 (ae A C.ms.length c)) 26,F]) [9,0,1,2,3,4,5,6,7,8,10]).Hy;have pZ:ak aq FX cE [t2,both emp (bY [aj U #[J R K,J R H,J R M,J R E,J R I] 158,dk,aN B D w,aj T #[J R P,J aF O] 105,bg (ab ⟨N,0,af⟩) (f.length+1) Q 105 2 (iz L),aj b' #[ae g f.length cs] 65,aj cG #[(dc B)] 32,aj r #[J R (C.bd:Int)] 3,aj s (a' (C.o:Int) (C.n:Int) C.g1 C.g2 (ae A C.ms.length c)) 26,F])]:=((HB.pick (l':=[bY [aj U #[J R K,J R H,J R M,J R E,J R I] 158,dk,aN B D w,aj T #[J R P,J aF O] 105,bg (ab ⟨N,0,af⟩) (f.length+1) Q 105 2 (iz L),aj b' #[ae g f.length cs] 65,aj cG #[(dc B)] 32,aj r #[J R (C.bd:Int)] 3,aj s (a' (C.o:Int) (C.n:Int) C.g1 C.g2 (ae A C.ms.length c)) 26,F],t2]) [1,0]).new emp ⟨av.refl _ _,trivial,λ_ h=>h.elim⟩).star.pick [1,0];refine JR (bW pre (⟨K,H,M,E,I⟩,pk) _ _ _ (wQ pk MY) hS pZ) (λb cV hb=>?_) (λ_ _ he=>he.elim (λh=>⟨_,h.1⟩) (λh=>⟨_,h.1⟩)) (HP aa aa (by simp only[pj,kj,lJ];rfl));clear HB pZ a;rcases JG hb with⟨rfl,V,Mu,a⟩|⟨rfl,V,Mu,a⟩
   .clear hb;replace a:ak _ _ _ [V,aj U #[J R K,J R H,J R M,J R E,J R I] 158,dk,aN B D w,aj T #[J R P,J aF O] 105,bg (ab ⟨N,0,af⟩) (f.length+1) Q 105 2 (iz L),aj b' #[ae g f.length cs] 65,aj cG #[(dc B)] 32,aj r #[J R (C.bd:Int)] 3,aj s (a' (C.o:Int) (C.n:Int) C.g1 C.g2 (ae A C.ms.length c)) 26,F]:=ak.xW ((a.pick (l':=[both emp (bY [aj U #[J R K,J R H,J R M,J R E,J R I] 158,dk,aN B D w,aj T #[J R P,J aF O] 105,bg (ab ⟨N,0,af⟩) (f.length+1) Q 105 2 (iz L),aj b' #[ae g f.length cs] 65,aj cG #[(dc B)] 32,aj r #[J R (C.bd:Int)] 3,aj s (a' (C.o:Int) (C.n:Int) C.g1 C.g2 (ae A C.ms.length c)) 26,F]),V]) [1,0]).fw.pick (l':=[V,bY [aj U #[J R K,J R H,J R M,J R E,J R I] 158,dk,aN B D w,aj T #[J R P,J aF O] 105,bg (ab ⟨N,0,af⟩) (f.length+1) Q 105 2 (iz L),aj b' #[ae g f.length cs] 65,aj cG #[(dc B)] 32,aj r #[J R (C.bd:Int)] 3,aj s (a' (C.o:Int) (C.n:Int) C.g1 C.g2 (ae A C.ms.length c)) 26,F]]) [2,1]);refine wg ?_;by_cases E0:E=18
    .have PS:=hid E0;have XM:=hid (XO E0);clear E0;refine v4 ?_;refine pl a 1 3 ?_;refine dp PS (ai ao) ?_;refine ed ?_;refine pad (j:Int) 1 ((j+1:Nat):Int) ?_;refine bU ?_;go_wp2_with fail;go_roundw;case rel=>exact⟨j+1,_,D,w,V,ad,hid (by rw[fR];exact XM.1),hid XM.2,S4,vl.2.1,by rw[vl.2.2];exact cB _,hid (λz hz=>(wQ pk MY).2 z hz),aa,Mu,a.pick [5,6,7,8,9,3,0,10]⟩
     case measure=>simp[bR]<;>omega
    .have PS:=hid E0;obtain⟨hg1,hg2⟩:=Ye E0;subst hg2;have Aa:=hid hg1;clear E0 hg1;refine v4 ?_;refine pl a 1 3 ?_;refine dp PS (ai az) ?_;refine bU ?_;go_wp2_with fail;first|go_end0|refine bodyPost_ret (results_none rfl _ _ _) rfl ?_
     exact w0.all (u:=bY [aj b' #[ae g f.length cs] 65,aj cG #[(dc B)] 32,aj r #[J R (C.bd:Int)] 3,aj s (a' (C.o:Int) (C.n:Int) C.g1 C.g2 (ae A C.ms.length c)) 26,aN B D w]) ⟨by rw[fR];exact Aa,(wQ pk MY).2⟩ Mu ⟨D,aa⟩ (ak.pick (ak.bY (l:=[aj b' #[ae g f.length cs] 65,aj cG #[(dc B)] 32,aj r #[J R (C.bd:Int)] 3,aj s (a' (C.o:Int) (C.n:Int) C.g1 C.g2 (ae A C.ms.length c)) 26,aN B D w]) (a.pick (l':=[aj b' #[ae g f.length cs] 65,aj cG #[(dc B)] 32,aj r #[J R (C.bd:Int)] 3,aj s (a' (C.o:Int) (C.n:Int) C.g1 C.g2 (ae A C.ms.length c)) 26,aN B D w,V,F]) [6,7,8,9,3,0,10])) [1,0,2])
   .clear hb;replace a:ak _ _ _ [V,aj U #[J R K,J R H,J R M,J R E,J R I] 158,dk,aN B D w,aj T #[J R P,J aF O] 105,bg (ab ⟨N,0,af⟩) (f.length+1) Q 105 2 (iz L),aj b' #[ae g f.length cs] 65,aj cG #[(dc B)] 32,aj r #[J R (C.bd:Int)] 3,aj s (a' (C.o:Int) (C.n:Int) C.g1 C.g2 (ae A C.ms.length c)) 26,F]:=ak.xW ((a.pick (l':=[both emp (bY [aj U #[J R K,J R H,J R M,J R E,J R I] 158,dk,aN B D w,aj T #[J R P,J aF O] 105,bg (ab ⟨N,0,af⟩) (f.length+1) Q 105 2 (iz L),aj b' #[ae g f.length cs] 65,aj cG #[(dc B)] 32,aj r #[J R (C.bd:Int)] 3,aj s (a' (C.o:Int) (C.n:Int) C.g1 C.g2 (ae A C.ms.length c)) 26,F]),V]) [1,0]).fw.pick (l':=[V,bY [aj U #[J R K,J R H,J R M,J R E,J R I] 158,dk,aN B D w,aj T #[J R P,J aF O] 105,bg (ab ⟨N,0,af⟩) (f.length+1) Q 105 2 (iz L),aj b' #[ae g f.length cs] 65,aj cG #[(dc B)] 32,aj r #[J R (C.bd:Int)] 3,aj s (a' (C.o:Int) (C.n:Int) C.g1 C.g2 (ae A C.ms.length c)) 26,F]]) [2,1]);refine wg ?_;refine v2 ?_;iterate 4 refine ps ?_
    refine bU ?_;go_wp2_with fail;first|go_end0|refine bodyPost_ret (results_none rfl _ _ _) rfl ?_
    exact w0.cut (u:=bY [aj b' #[ae g f.length cs] 65,aj cG #[(dc B)] 32,aj r #[J R (C.bd:Int)] 3,aj s (a' (C.o:Int) (C.n:Int) C.g1 C.g2 (ae A C.ms.length c)) 26,aN B D w]) (wQ pk MY) Mu (ak.pick (ak.bY (l:=[aj b' #[ae g f.length cs] 65,aj cG #[(dc B)] 32,aj r #[J R (C.bd:Int)] 3,aj s (a' (C.o:Int) (C.n:Int) C.g1 C.g2 (ae A C.ms.length c)) 26,aN B D w]) (a.pick (l':=[aj b' #[ae g f.length cs] 65,aj cG #[(dc B)] 32,aj r #[J R (C.bd:Int)] 3,aj s (a' (C.o:Int) (C.n:Int) C.g1 C.g2 (ae A C.ms.length c)) 26,aN B D w,V,F]) [6,7,8,9,3,0,10])) [1,0,2])
  .have cf:¬(j:Int)<((f.length+1:Nat):Int):=by have:=Qn.out;omega
   have X:=hall.out;have hz:=Ig.out;rw[QX ad]at X hz;obtain rfl:G=jL:=hz;have ha2:pre.map (·.1)=all:=by grind[fB]
   go_step;refine ah ?_;refine bU ?_;go_wp2_with fail;first|go_end0|refine bodyPost_ret (results_none rfl _ _ _) rfl ?_
   exact w0.all (u:=bY [aj b' #[ae g f.length cs] 65,aj cG #[(dc B)] 32,aj r #[J R (C.bd:Int)] 3,aj s (a' (C.o:Int) (C.n:Int) C.g1 C.g2 (ae A C.ms.length c)) 26,aN B Y G]) ⟨ha2,nL⟩ hS ⟨Y,aa⟩ (ak.pick (ak.bY (l:=[aj b' #[ae g f.length cs] 65,aj cG #[(dc B)] 32,aj r #[J R (C.bd:Int)] 3,aj s (a' (C.o:Int) (C.n:Int) C.g1 C.g2 (ae A C.ms.length c)) 26,aN B Y G]) (a.pick (l':=[aj b' #[ae g f.length cs] 65,aj cG #[(dc B)] 32,aj r #[J R (C.bd:Int)] 3,aj s (a' (C.o:Int) (C.n:Int) C.g1 C.g2 (ae A C.ms.length c)) 26,aN B Y G,t2,F]) [1,2,3,4,5,6,7])) [1,0,2])
end
def amS(C:wv)(B c cs)(A b)(j:List (Int×Int))w:
 aC ax 71 #[dc B,J R (C.bd:Int),eN (C.o:Int) (C.n:Int) C.g1 C.g2 (ae A C.ms.length c),ae b j.length cs] w λe w'=>∃b' cG d f,e=aB (dS (eu 156) #[] #[ay (ab ⟨b',0,af⟩),ay (ab ⟨cG,0,af⟩),ay (ab ⟨d,0,af⟩),ay (ab ⟨f,0,af⟩)])/\cj w w' (bY [aj b' #[ae b j.length cs] 65,aj cG #[(dc B)] 32,aj d #[J R (C.bd:Int)] 3,aj f (a' (C.o:Int) (C.n:Int) C.g1 C.g2 (ae A C.ms.length c)) 26]):=by
 go_enter func71,ntmps71;have a:=a8 w;go_step;refine ah ?_;refine bL a (ay _) (λg w1 a=>?_);refine bL a (J _ _) (λk l a=>?_);refine bL a (ar _) (λh m a=>?_);refine bL a (ae b _ cs) (λi p a=>?_);refine ag ?_;refine ah ?_;refine eg ?_;go_wp2_with fail;go_ret;exact⟨i,g,k,h,aa,(ak.fP 4 (a.pick (l':=[aj i _ 65,aj g _ 32,aj _ _ 3,aj h _ 26]) [0,3,2,1])).fresh 0⟩
def q9(l:List rT):List Value:=l.flatMap yO
def amR l x:q9 (l++[x])=q9 l++yO x:=by simp[q9]
def Jb(x:rT):Bool:=decide (x.bt=0)&&decide (x.pos=0)
def ri(l:List rT):Bool:=match l.getLast? with|none=>ao|some x=>Jb x
def aoX l x:ri (l++[x])=Jb x:=by simp[ri]
def amN x:∀u∈yO x,u.oneCell'=true:=by intro u a;simp only[yO,gD,fS,or_false]at a;rcases a with rfl|rfl|rfl|rfl|rfl<;>rfl
def Y6 C:∀(l) d,(fB C l d).1.length<=l.length
 |[],_=>b7 _
 |k::l,d=>by
  rw[fB];split;·have:=Y6 C l (mX C (pq d k.1 k.2)).2;simp only[jV];omega
  .simp
def afx(all:List rT)(A:Option bT)(n c:Nat)(pk:Int):List Value:=[ae A n c,ai (ri all),J R pk]
def ZM C(B c cs)(A j)m d f(aq w)FX F(h:nW C d)(y:d.down=ao)(V:d.cache.length<=1000000000)(Y:∀W,av FX aq W->cZ W A C.ms)(hsc:∀W,av FX aq W->Cells W 2 j f.length (iz f))(M:f.length<=cs/\f.length<=1048576)(X:∀k∈f,cN k.1)(a:ak aq FX w [aN B m d,F]):
 aC ax 19 #[dc B,J R (C.bd:Int),eN (C.o:Int) (C.n:Int) C.g1 C.g2 (ae A C.ms.length c),ae j f.length cs] w λe w'=>∃pk,pk<=(C.bd:Int)/\∃O S,e=aB (ar (afx (fB C (f++[(-1,0)]) d).1 O (fB C (f++[(-1,0)]) d).1.length S pk).toArray)/\∃z,ak aq FX w' [bg O (fB C (f++[(-1,0)]) d).1.length S 158 5 (q9 (fB C (f++[(-1,0)]) d).1),aN B z (fB C (f++[(-1,0)]) d).2,F]:=by
 have v:=λb' cG p q=>amQ C B b' cG p q c cs A j m d f aq FX h y V Y hsc M X;have H:=Y6 C (f++[(-1,0)]) d;rw[db,yH]at H;have jy:=hid M;obtain⟨all,jL,U⟩:∃all jL,fB C (f++[(-1,0)]) d=(all,jL):=⟨_,_,aa⟩;rw[U]at v H⊢;simp only at v H⊢;clear h y V Y hsc M X U;refine Cy func19 aa ?_;simp only[ntmps19,iY,jV,mT,qI,qJ,q4,q1,l0,p4];go_step;refine ah ?_;refine bL a (ar _) (λr w1 a=>?_);refine bn a #[ae _ 0 0,ai _,J _ 0] (λs aU a=>?_);refine an ?_;go_step;refine ah ?_;refine bn a #[ae _ 0 0,ai _,J _ 0] (λi bI a=>?_);refine an ?_;replace a:=a.new (bg af 0 0 158 5 []) ⟨av.refl _ _,Row.nil _ _ _ _,λb ⟨_,_,e⟩=>aG⟩;go_step;refine ah ?_;refine v2 ?_;refine bh a 3 (a' (C.o:Int) (C.n:Int) C.g1 C.g2 (ae A C.ms.length c)) ?_ (hv:=(e4 _)) (hk:=by omega) (hz:=(by rw[bD];rfl));refine ag ?_;refine aR (amS C B c cs A j f _) ?_;rintro e b9 ⟨b',cG,p,q,rfl,hF⟩;replace a:=a.new _ hF;refine aT ?_;refine an ?_;replace a:ak _ _ _ [aj b' #[ae j f.length cs] 65,aj cG #[(dc B)] 32,aj p #[J R (C.bd:Int)] 3,aj q _ 26,bg af 0 0 158 5 [],aj i #[ae af 0 0,ai ao,J R 0] 63,aj s #[ae af 0 0,ai ao,J R 0] 63,aj r (a' (C.o:Int) (C.n:Int) C.g1 C.g2 (ae A C.ms.length c)) 26,aN B m d,F]:=ak.kI (a.pick (l':=[bY _,bg af 0 0 158 5 [],aj i #[ae af 0 0,ai ao,J R 0] 63,aj s #[ae af 0 0,ai ao,J R 0] 63,aj r _ 26,aN B m d,F]) [0,1,2,3,4,5,6]);go_wp2_with fail;have Q:ak _ _ _ [bY [aj b' _ 65,aj cG _ 32,aj p _ 3,aj q _ 26,aN B m d],bY [aj i _ 63,bg af 0 0 158 5 []],bY [aj s _ 63,aj r _ 26,F]]:=ak.Zf (a.pick [0,1,2,3,8,5,4,6,7,9]);refine ag8 (encs:=(λx:rT×Int=>#[ar #[J R x.1.st,J R x.1.nx,J R x.1.wr,J R x.1.bt,J R x.1.pos],J R x.2])) aa (lG Tryz.func156 ba aa) (λ_=>aa) (v _ _ _ _) (λpre t=>∃g c1 pk,aE (pk<=(C.bd:Int))/\t=bY [aj i #[ae g pre.length c1,ai (ri (pre.map (·.1))),J R pk] 63,bg g pre.length c1 158 5 (q9 (pre.map (·.1)))]) (λ_ _ _=>False) (⟨af,0,0,hid (alN _),aa⟩) Q ?_ ?_ ?_;all_goals clear Q a
 .rintro l rd pre ⟨⟨st,nx,wr,bt,pos⟩,afm⟩ W t F L qq ⟨g,c1,pk,G,rfl⟩ a;have ak6:aE (afm<=(C.bd:Int)):=hid (L.2 _ (List.mem_append_right _ (List.mem_singleton_self _)));have hpl:pre.length<=f.length:=by have h1:=L.1.length_le;grind
  have aBR:=jy.2;replace a:=a.lX;obtain⟨N,K⟩:=ex pre.length;rw[K]at a hpl;have B4:=hid K;obtain⟨uu,y⟩:=ex (ri (pre.map (·.1)));rw[y]at a;clear y L K v;repeat((fail_if_success (with_reducible refine at_region ?_));gi_step)
  refine kv ?_;refine bn a #[J _ 0,J _ 0,J _ 0,J _ 0,J _ 0] (λqL cE a=>?_);refine bb a 0 (ar _) (λcV a=>?_);refine an ?_;repeat((fail_if_success (with_reducible refine at_region ?_));gi_step)
  refine kv ?_;refine ag ?_;refine an ?_;first|refine wpIn_skip ?_|skip
  simp only[Exit.then];refine Cs a 3 qq (λdJ a=>?_);replace a:ak _ _ _ [aj _ _ 158,aj _ _ 63,bg g N c1 _ 5 _,obj l _,both _ F]:=a;repeat((fail_if_success (with_reducible refine at_region ?_));gi_step)
  refine kv ?_;refine ag ?_;refine pl a 1 0 ?_;refine bh a 0 #[J R st,J R nx,J R wr,J R bt,J R pos] ?_;refine e' a #[J R st,J R nx,J R wr,J R bt,J R pos] 158 (λazn dB a=>?_);refine kd (m:=1) a 3 40 (aX.cellsOf (m:=1) (a.aV 0) aa) (amN ⟨st,nx,wr,bt,_⟩) (λP T eZ a=>?_) (hby:=by omega);refine ag ?_;refine bb a 2 (ae _ _ _) (λgV a=>?_);refine an ?_;repeat((fail_if_success (with_reducible refine at_region ?_));gi_step)
  refine kv ?_;refine ag ?_;refine bh a 1 #[J R bt,J R pos] ?_;refine ag ?_;refine aI (ai (Jb ⟨st,nx,wr,bt,pos⟩)) (by(unfold Jb;go_simp;by_cases cK:bt=0<;>by_cases cI:pos=0<;>simp[cK,cI])) ?_;refine ag ?_;refine bb a 2 (ai _) (λhZ a=>?_);refine an ?_;repeat((fail_if_success (with_reducible refine at_region ?_));gi_step)
  refine kv ?_;refine ag ?_;refine pl a 2 2 ?_;refine ag ?_;refine aI _ (by(go_simp;try rfl)) ?_;refine ag ?_;refine bb a 2 (J _ _) (λjQ a=>?_);refine an ?_;repeat gi_step
  have E:=a.pk [2,3,4,5];replace E:ak _ _ _ [bY [aj i #[ae P (N+1) T,ai (Jb ⟨st,nx,wr,bt,pos⟩),J R (max pk afm)] 63,bg P (N+1) T 158 5 ((q9 (pre.map (·.1)))++([J R st,J R nx,J R wr,J R bt,J R pos]))],obj l (gh {rd with state:=sV}),both emp F]:=E.fP 2;refine⟨_,?_,E⟩;exact⟨_,_,_,hid (Int.max_le.2 ⟨G,ak6⟩),by rw[db,fR,alZ,aoX,amR,B4.out];rfl⟩
 .rintro D xs t u W I ⟨g,c1,pk,G,rfl⟩ hu a;replace a:=a.lX;replace a:=(a.pk [4,0,1,2,3]).lX;obtain⟨z,rfl⟩:=hu;have Z:xs.length=all.length:=by rw[<-I.1,hM]
  rw[I.1,Z]at a;clear I Z v;replace a:ak _ _ _ [aj b' #[ae j f.length cs] 65,aj cG #[(dc B)] 32,aj p #[J R (C.bd:Int)] 3,aj q _ 26,aN B z jL,aj s #[ae af 0 0,ai ao,J R 0] 63,aj r _ 26,F,aj i #[ae g all.length c1,ai (ri all),J R pk] 63,bg g all.length c1 158 5 (q9 all),obj D (kA (ab []))]:=ak.kI (a.pick (l':=[bY _,aj s #[ae af 0 0,ai ao,J R 0] 63,aj r _ 26,F,aj i #[ae g all.length c1,ai (ri all),J R pk] 63,bg g all.length c1 158 5 (q9 all),obj D (kA (ab []))]) [5,0,1,2,3,4,6]);go_step;refine ah ?_;refine bh a 8 #[ae g all.length c1,ai (ri all),J R pk] ?_;refine bb a 5 (ar _) (λke a=>?_);refine an ?_;go_wp2_with fail;refine zq a 10 (λw' a=>⟨gH aa _ _ _ _ _ _ _ aa (a.aV 5) underlying63 aa aw,pk,G,g,c1,aa,z,a.pick [9,4,7]⟩)
 .simp
def avP {P w e u p f ty b} {t B t2 gY:Nat} {cs c tmps v} (h:e.results=#[.tmp u,yj p ty,yj f b]) (hv:tmps.getD u a1=v) (k:tmps.getD p a1=ay (ab ⟨B,0,af⟩)) (l:tmps.getD f a1=ay (ab ⟨gY,0,af⟩)) (hb:aX w B cs t) (hb2:aX w gY c t2)
 (hu:(P.underlying ty).map (λd=>d.isRow)=ab az) (hi:(P.info? ty).map (·.size)=ab cs.size) (Th:(P.underlying b).map (λd=>d.isRow)=ab az) (xn:(P.info? b).map (·.size)=ab c.size):(oC e tmps).run P w=bf (bo #[v,ar cs,ar c]) w:=by
 cases hq:P.underlying ty with
 |none=>grind
 |some d=>
  cases oq:P.underlying b with
  |none=>grind
  |some g=>
   have r:d.isRow=true:=aG;have s:g.isRow=true:=aG;have j:=D7 (P:=P) w B t ty cs (0,0) d hb hq aG hi;have hl2:=D7 (P:=P) w gY t2 b c (0,0) g hb2 oq aG xn
   have hr:(oC e tmps).run P w=((vg (tmps.getD p a1)).run P w).andThen λa m=>((wN ty a).run P m).andThen λx n=>((vg (tmps.getD f a1)).run P n).andThen λi o=>((wN b i).run P o).andThen λbk q=>bf (bo #[tmps.getD u a1,x,bk]) q:=by simp only[oC,h];simp;try rfl
   rw[hr,k,l,hv];simp only[vg,kg,jI,j,hl2]
def Cells.aH{w w' sz n A xs}(h:Cells w sz A n xs)(g:au w w'):Cells w' sz A n xs:=⟨h.1,λhn=>by obtain⟨a,rfl,hc⟩:=h.2 hn;exact⟨a,rfl,λj v hv=>g.cell (hc j v hv) (λh=>h)⟩⟩
def Cells.apart{w w' sz n N A xs F}(h:Cells w sz A n xs)(k:av F w w')(d:∀b,ej A b->b<N)(f:∀b,F b->N<=b):Cells w' sz A n xs:=⟨h.1,λhn=>by
 obtain⟨a,rfl,hc⟩:=h.2 hn;refine⟨a,rfl,λj v hv=>k.cell (hc j v hv) (λc=>?_)⟩;have e:(a.add j).block=a.block:=by grind[u']
 rw[e]at c;have h1:=d _ ⟨_,_,aa⟩;have g:=f _ c;omega⟩
def aoj C(B c cs)(A i)m d a W t N(h:nW C d)(w:d.down=ao)(E:d.cache=[])(D:ie t A c C.ms)(hsc:Cells W 2 i a.length (iz a))(s:∀b,ej i b->b<N)(v:∀b,(aN B m d).cU b->N<=b)(z:a.length<=cs/\a.length<=1048576)(x:∀k∈a,cN k.1)(u:Has W (aN B m d))(q:Has W t)(hap:∀b,t.cU b->¬(aN B m d).cU b)(hdone:ri (fB C (a++[(-1,0)]) d).1=az):
 aC ax 19 #[dc B,J R (C.bd:Int),eN (C.o:Int) (C.n:Int) C.g1 C.g2 (ae A C.ms.length c),ae i a.length cs] W λe w'=>∃pk f j l,pk<=(C.bd:Int)/\e=aB (ar #[ae f (fB C (a++[(-1,0)]) d).1.length j,ai az,J R pk])/\Turned W w' (aN B m d) (both (bg f (fB C (a++[(-1,0)]) d).1.length j 158 5 (q9 (fB C (a++[(-1,0)]) d).1)) (aN B l (fB C (a++[(-1,0)]) d).2)):=by
 refine(ZM C B c cs A i m d a W W (aN B m d).cU emp h w aG (λp g=>D.xR (t.nG W p (λb hb hlt=>g.block b hlt (hap b hb)) q.2 q.1)) (λp g=>hsc.apart g s v) z x ((ak.start u).dM.perm (Cd _ _ _))).mono ?_;rintro e w' ⟨pk,y,f,j,rfl,l,r⟩;unfold afx;rw[hdone];exact⟨pk,f,j,l,y,aa,(r.star).gu 0⟩
def avQ(s A X)(b0 c cs n size bd)(g1 g2)old ms S(o od)rs f w(gU:old.length<=1048576)(hc0:old.length<=b0)(hold:bX w s old)(qo:p7 w s)(hl:cZ w A ms)(hv:r6 old.length n ms)(hX:∀m∈ms,m.data.length<=140737488355328)(hg1:g1.l=im old)(hg2:g2.l=im (Be old ms))(acH:(Be old ms).length<=1048576)(hc:BH old ms S o od rs)(hsz:1<=size/\size<=1048576)(E9:size*(gq size bd (max old.length n)+0)<=1048576)(G:nW ⟨bd,old.length,n,g1,g2,fu ms od++rs⟩ (mI size (gq size bd (max old.length n)+0) old))(L:dt (fB ⟨bd,old.length,n,g1,g2,fu ms od++rs⟩ (f++[(-1,0)]) (mI size (gq size bd (max old.length n)+0) old)).2)(hdone:ri (fB ⟨bd,old.length,n,g1,g2,fu ms od++rs⟩ (f++[(-1,0)]) (mI size (gq size bd (max old.length n)+0) old)).1=az)(K:n<=(fB ⟨bd,old.length,n,g1,g2,fu ms od++rs⟩ (f++[(-1,0)]) (mI size (gq size bd (max old.length n)+0) old)).2.bytes.length)(hsc:Cells w 2 X f.length (iz f))(Mo:∀b,ej X b->b<w.heap.size)(fL:f.length<=cs/\f.length<=1048576)(lP:∀k∈f,cN k.1):
 aC ax 43 #[ae s old.length b0,eN (old.length:Int) (n:Int) g1 g2 (ae A ms.length c),J R (size:Int),J R (bd:Int),ae X f.length cs] w λe w'=>∃b6 c1 aL c2 pk,pk<=(bd:Int)/\e=aB (bo #[ae b6 n c1,ar #[ae aL (fB ⟨bd,old.length,n,g1,g2,fu ms od++rs⟩ (f++[(-1,0)]) (mI size (gq size bd (max old.length n)+0) old)).1.length c2,ai az,J R pk],ar #[J R 0,J R 0]])/\cj w w' (cz b6 c1 (fB ⟨bd,old.length,n,g1,g2,fu ms od++rs⟩ (f++[(-1,0)]) (mI size (gq size bd (max old.length n)+0) old)).2.bytes):=by
 obtain⟨N,d'⟩:∃z,max old.length n=z:=⟨_,aa⟩;have aqH:old.length<=N:=ad;rw[d']at G L hdone E9 K⊢;obtain⟨D,Y⟩:∃z,mI size (gq size bd N+0) old=z:=⟨_,aa⟩;rw[Y]at G L hdone K⊢;have cp:D.down=false:=by rw[<-Y];rfl
 have y9:D.cache=[]:=by rw[<-Y];rfl
 obtain⟨x,xf⟩:∃z,fu ms od++rs=z:=⟨_,aa⟩;have K6:aE (∀W,au w W->aC ax 28 #[ae s old.length b0,eN (old.length:Int) (n:Int) g1 g2 (ae A ms.length c)] W λe w'=>∃H I t,e=aB (bo #[eN (old.length:Int) (n:Int) g1 g2 (ae H x.length I),ar #[J R 0,J R 0]])/\cj W w' t/\ie t H I x):=hid (λW g=>by rw[<-xf];exact aoc s A b0 c n g1 g2 old ms S o od rs W gU hc0 (hold.aH g) (qo.aH g) (hl.aH g) hv hX hg1 hg2 acH hc)
 rw[xf]at G L hdone K⊢;have r3:aE (∀W S,aC ax 39 #[J R (size:Int),J R (bd:Int),eN (old.length:Int) (n:Int) g1 g2 S] W λe w'=>e=aB (bo #[ar (mF size bd N),J R 0])/\au W w'):=hid (λW S=>by rw[<-d'];exact aea size bd old.length n g1 g2 S hsz G.bd gU G.sz.2 W);have Ee:aE (∀W p,W.cell? ⟨p,0,af⟩=ab (ae s old.length b0)->bX W s old->aC ax 40 #[ar (mF size bd N),J R ((0:Nat):Int),ae (ab ⟨p,0,af⟩) 1 1] W λe w'=>∃B m,e=aB (bo #[dc B,J R 0])/\cj W w' (aN B m D)):=hid (λW p h1 h2=>by rw[<-Y];exact aec size bd N 0 p s b0 old W hsz.1 E9 aqH h1 h2);obtain⟨M,O,P,Q,T,U,V,hlc⟩:∃M O P Q T U V,mF size bd N=#[J R M,J R O,J R P,J R Q,J R T,J R U,J R V]:=⟨_,_,_,_,_,_,_,aa⟩;rw[hlc]at r3 Ee;obtain⟨C,ko⟩:∃z,(⟨bd,old.length,n,g1,g2,x⟩:wv)=z:=⟨_,aa⟩;rw[ko]at G L hdone K⊢;have B7:aE (∀W B aL c2 m t,ie t aL c2 x->av (λ_=>False) w W->(∀b,(aN B m D).cU b->w.heap.size<=b)->Has W (aN B m D)->Has W t->(∀b,t.cU b->¬(aN B m D).cU b)->aC ax 19 #[dc B,J R (bd:Int),eN (old.length:Int) (n:Int) g1 g2 (ae aL x.length c2),ae X f.length cs] W λe w'=>∃pk H I aY,pk<=(bd:Int)/\e=aB (ar #[ae H (fB C (f++[(-1,0)]) D).1.length I,ai az,J R pk])/\Turned W w' (aN B m D) (both (bg H (fB C (f++[(-1,0)]) D).1.length I 158 5 (q9 (fB C (f++[(-1,0)]) D).1)) (aN B aY (fB C (f++[(-1,0)]) D).2))):=hid (λW B aL c2 m t h1 h2 h3 h4 h5 h6=>by subst ko;exact aoj _ B c2 cs aL X m D f W t w.heap.size G cp y9 h1 (hsc.aH h2) Mo h3 fL lP h4 h5 h6 hdone);have MG:=L;obtain⟨r,F,hat⟩:∃a b,fB C (f++[(-1,0)]) D=(a,b):=⟨_,_,aa⟩;rw[hat]at B7 K MG⊢;simp only at B7 K MG⊢;have akv:=hid MG;have B6:=hid hold;clear hat hdone hlc Y d' gU qo hl hv hX hg1 hg2 acH hc xf hold G L MG hsc Mo fL lP;go_enter func43,ntmps43;have d:=a8 w;go_step;refine ah ?_;refine bL d (ar (a' (old.length:Int) (n:Int) g1 g2 (ae A ms.length c))) (λer w1 d=>?_);refine ag ?_;refine bn d #[ae af 0 0,ai ao,J R 0] (λx7 aU d=>?_);refine bn d #[J R 0,J R 0] (λrU bI d=>?_);refine an ?_;go_step;refine ah ?_;refine ag ?_;refine bh d 2 (a' (old.length:Int) (n:Int) g1 g2 (ae A ms.length c)) ?_ (hv:=(e4 _)) (hk:=by show 0+_<=gB _;rw[js];exact b7 _) (hz:=(by rw[bD];rfl));refine aR (K6 _ d.only) ?_;rintro e b9 ⟨aL,c2,bG,rfl,Z,kO⟩;replace d:=d.new _ Z;refine aT ?_;iterate 3 refine ag ?_
 refine bn d (a' 0 0 dq.zero dq.zero (ae af 0 0)) (λOV cE d=>?_);refine bn d #[J R 0,J R 0] (λKt cV d=>?_);refine bb d 1 (ar (a' (old.length:Int) (n:Int) g1 g2 (ae aL x.length c2))) (λdJ d=>?_) (hk:=by show 0+gB (a' _ _ _ _ _)<=_;simp only[bD];decide) (hz:=by show _=ab (gB (a' _ _ _ _ _));rw[bD];rfl) (h1:=(sf aa)) (hc:=xy);refine bb d 0 (ar #[J R 0,J R 0]) (λdB d=>?_);refine an ?_;go_step;refine ah ?_;refine bh d 0 #[J R 0,J R 0] ?_;refine aI (ar #[J R 0,J R 0]) (by(show _=_;kernel_rfl)) ?_;refine aI (ai ao) (by(show _=_;kernel_rfl)) ?_;refine an ?_;go_step;refine ah ?_;iterate 2 refine ag ?_
 refine bh d 1 (a' (old.length:Int) (n:Int) g1 g2 (ae aL x.length c2)) ?_ (hv:=(e4 _)) (hk:=by show 0+_<=gB _;rw[js];exact b7 _) (hz:=(by rw[bD];rfl));refine aR (r3 _ (ae aL x.length c2)) ?_;rintro e eZ ⟨rfl,g⟩;replace d:=d.aH g;refine aT ?_;iterate 3 refine ag ?_
 refine bn d #[J R 0,J R 0,J R 0,J R 0,J R 0,J R 0,J R 0] (λGw gV d=>?_);refine bb d 0 (ar #[J R M,J R O,J R P,J R Q,J R T,J R U,J R V]) (λhZ d=>?_);refine ag ?_;refine an ?_;go_step;refine ah ?_;refine ag ?_;refine aI (ai ao) (by(show _=_;kernel_rfl)) ?_;refine an ?_;go_step;refine ah ?_;refine bh d 0 #[J R M,J R O,J R P,J R Q,J R T,J R U,J R V] ?_;refine ag ?_;refine e' d #[ae s old.length b0] 22 (λKv jQ d=>?_);refine aR (Ee _ Kv ((d.aV 0).cell 0 aa) (B6.out.aH d.only)) ?_;rintro e ke ⟨B,m,rfl,Z⟩;replace d:=d.new _ Z;refine aT ?_;iterate 5 refine ag ?_
 refine an ?_;go_step;refine ah ?_;refine ag ?_;refine aI (ai ao) (by(show _=_;kernel_rfl)) ?_;refine an ?_;go_step;refine ah ?_;iterate 2 refine ag ?_
 refine bh d 4 (a' (old.length:Int) (n:Int) g1 g2 (ae aL x.length c2)) ?_ (hv:=(e4 _)) (hk:=by show 0+_<=gB _;rw[js];exact b7 _) (hz:=(by rw[bD];rfl));refine ag ?_;refine aR (B7 _ B aL c2 m bG kO d.only (λb hb=>((d.low _ (cW (show _[0]?=ab (aN B m D)from aa)) b hb).2).elim (λh=>h) (λh=>h.elim)) (d.has 0) (d.has 5) (d.ne (i:=5) (j:=0) aa aa aS)) ?_;rintro e k8 ⟨pk,y,E,m5,nL,rfl,bP⟩;replace d:=d.eQ 0 bP;refine aT ?_;refine bn d #[ae af 0 0,ai ao,J R 0] (λOX mn d=>?_);refine bb d 0 (ar #[ae y r.length E,ai az,J R pk]) (λnn d=>?_);refine an ?_;go_step;refine ah ?_;refine ag ?_;refine pl d 0 1 ?_;refine aI (ai ao) (by(show _=_;kernel_rfl)) ?_;refine an ?_;replace d:ak _ _ _ [bg y r.length E 158 5 (q9 r),aN B m5 F,aj OX #[ae y r.length E,ai az,J R pk] 63,aj Kv #[ae s old.length b0] 22,aj Gw #[J R M,J R O,J R P,J R Q,J R T,J R U,J R V] 93,aj Kt #[J R 0,J R 0] 49,aj OV (a' (old.length:Int) (n:Int) g1 g2 (ae aL x.length c2)) 26,bG,aj rU #[J R 0,J R 0] 49,aj x7 #[ae af 0 0,ai ao,J R 0] 63,aj er (a' (old.length:Int) (n:Int) g1 g2 (ae A ms.length c)) 26]:=(d.front 1).fw;go_step;refine cx ?_;refine bN d [1,8,9] (λi u=>match i with|1=>ae u.A F.bytes.length u.c|_=>a1) (λq=>λ|1=>cz (q 1).A (q 1).c F.bytes|8=>aj x7 #[ae y r.length E,ai az,J R pk] 63|9=>aj rU #[J R 0,J R 0] 49|_=>emp) (λ|8=>[9]|9=>[8]|_=>[]) (λ|1=>[1]|3=>[6]|4=>[12]|5=>[2]|_=>[]) (λ|1=>[1]|_=>[]) [0,1,2,3,4,5,6,7,10,12,19,20] (λq=>?_);refine aJ ?_;refine dh (λwl Fr d=>(RX B m5 F wl (d.has 0) akv).mono ?_) ?_;·rintro e dr ⟨H,I,rfl,Z⟩;exact⟨{A:=H,c:=I},aa,d.new _ Z⟩
 refine aJ ?_;refine dl 0 1 ?_ (hv:=il);refine aK (ae (q 1).A n (q 1).c) (λ_ _ d=>rF 22 5 1 (bj 73) (bj 75) aa dK aw (q 1).A F.bytes.length (q 1).c n aa aa (eb K (d.at (t:=cz (q 1).A (q 1).c F.bytes) 0).2.2)) ?_;refine eO 0 #[ae y r.length E,ai az,J R pk] ?_;refine aK (ar #[J R 0,J R 0]) (λ_ _ _=>by(show _=_;kernel_rfl)) ?_;refine aJ ?_;refine fY (ar #[ae y r.length E,ai az,J R pk]) ?_;refine fY (ar #[J R 0,J R 0]) ?_;refine pN (λpO d=>?_);replace d:ak _ _ _ [bg y r.length E 158 5 (q9 r),aN B m5 F,aj OX #[ae y r.length E,ai az,J R pk] 63,aj Kv #[ae s old.length b0] 22,aj Gw #[J R M,J R O,J R P,J R Q,J R T,J R U,J R V] 93,aj Kt #[J R 0,J R 0] 49,aj OV (a' (old.length:Int) (n:Int) g1 g2 (ae aL x.length c2)) 26,bG,aj er (a' (old.length:Int) (n:Int) g1 g2 (ae A ms.length c)) 26,cz (q 1).A (q 1).c F.bytes,aj x7 #[ae y r.length E,ai az,J R pk] 63,aj rU #[J R 0,J R 0] 49]:=d;generalize (q 1).A=ahC at d⊢;generalize (q 1).c=ano at d⊢;go_wp2_with fail;refine c8 (v:=bo #[ae ahC n ano,ar #[ae y r.length E,ai az,J R pk],ar #[J R 0,J R 0]]) (avP aa aa aa aa (d.aV 10) (d.aV 11) aw aw aw aw) aa ⟨_,_,_,_,pk,nL,aa,d.fresh 9⟩
section
attribute [local irreducible] wpList cM
end
section
attribute [local irreducible] wpList cM
end
section
attribute [local irreducible] wpList cM
end
section
attribute [local irreducible] wpList cM
def vF(s:Nat)(m:bO):Nat:=(cD m -1).toNat/s+1
def oP(s:Nat)(ms:List bO):Nat:=(ms.map (vF s)).sum
def ZB{s}{ms:List bO}{j m}(h:ms[j]?=ab m):oP s (ms.take (j+1))=oP s (ms.take j)+vF s m:=by grind[oP,gx]
def anu{m}{s:Nat}(h:0<cD m):mY m (s:Int)=((vF s m:Nat):Int):=by grind[mY,cnt,vF]
section
variable {P:ew} {fn:Func} {cC:Ending->aP->Prop} {aq:aP} {FX:Nat->Prop} {sI:Array aO} {v:aO}
end
end
section
attribute [local irreducible] wpList cM
def awS k cs a w(hsc:Cells w 2 k a.length (iz a))(y:0<a.length->∀f,k=ab f->f.spot=af)(P:a.length<=1048576):
 aC ax 20 #[ae k a.length cs] w λe w'=>∃q s,e=aB (ae q a.length s)/\cj w w' (bg q a.length s 105 2 (iz a)):=by
 have E:=hid hsc;have C:=hid y;clear hsc y;go_enter func20,ntmps20;have d:=a8 w;go_step;refine ah ?_;refine ag ?_;refine ah ?_;refine ag ?_;refine ah ?_;refine v3 ?_;refine an ?_;replace d:=d.new (bg af 0 0 105 2 []) ⟨av.refl _ _,Row.nil _ _ _ _,λb ⟨_,_,e⟩=>aG⟩;have r:=d;go_wp2_with fail;go_loopw [3,8] (λB l wr=>∃(j:Nat) (A:Option bT) (c:Nat),j<=a.length/\B=ae A j c/\l=J R (j:Int)/\ak w (λ_=>False) wr [bg A j c 105 2 (iz (a.take j))]) (λB l wr=>a.length -(bR l).toNat);case atStart=>exact⟨0,_,0,cB _,aa,aa,r⟩
 case round=>
  clear d r;obtain⟨j,A,c,O,rfl,rfl,d⟩:=hrel;by_cases hlt:j<a.length
  .have H:(j:Int)<(a.length:Int):=ad;obtain⟨x,hx⟩:∃x,a[j]?=ab x:=⟨_,cF hlt⟩;have G:=hid (L4 hx);have F:aE (iz (a.take (j+1))=iz (a.take j)++[J R x.1,J aF x.2]):=hid (by grind[gx,iz]);obtain⟨n,o⟩:=x;obtain⟨f,t,hcc⟩:=E.2 ad;obtain⟨g,p,I⟩:=f;have hsp:I=none:=by have h:=C.out;rw[t]at h;exact h ad _ aa
   subst hsp;subst t;have D:aE (w.rangeAt g _ [J _ n,J _ o]):=hid (λi v hi=>by have h:=hcc _ v (G i v hi);rw[mW]at h;rw[Nat.add_assoc];exact h);clear hx hcc;go_step;refine ah ?_;refine a7 (ai az) ?_;refine ah ?_;refine aI (ay (ab ⟨g,(p+j*2),af⟩)) (b4 29 44 2 (bj 6) (bj 8) aa Tryz.underlying29 aw g p (a.length) cs j ((p+j*2)) aa aa hlt aa) ?_;refine aI _ (e5 44 _ aa g _ aa _ (λi v hi=>d.only.cell (D i v hi) (λh=>h)) underlying44 aa aw) ?_;refine bn d #[J _ 0,J _ 0] (λM w1 d=>?_);refine bb d 0 (ar _) (λQ d=>?_);refine b5 ?_;refine bh d 0 #[J R n,J aF o] ?_;refine e' d #[J R n,J aF o] 105 (λL S d=>?_);refine kd (m:=1) d 2 16 (aX.cellsOf (m:=1) (d.aV 0) aa) (by intro u z;simp at z;rcases z with rfl|rfl<;>rfl) (λK N T d=>?_) (hby:=by omega);refine ed ?_;refine pad (j:Int) 1 ((j+1:Nat):Int) ?_;refine bU ?_;go_wp2_with fail;go_roundw;case rel=>exact⟨_,_,_,ad,aa,aa,by rw[F];exact d.pick [2]⟩
   case measure=>grind[bR]
  .have H:¬(j:Int)<(a.length:Int):=ad;obtain rfl:j=a.length:=ad;go_step;refine ah ?_;refine a7 (ai ao) ?_;refine ah ?_;refine eg ?_;go_wp2_with fail;go_ret;exact⟨A,c,aa,by have h:=d.fresh 0;rwa [ll]at h⟩
end
end Go.Proofs.YtcmhplknoglbkaaGreat
