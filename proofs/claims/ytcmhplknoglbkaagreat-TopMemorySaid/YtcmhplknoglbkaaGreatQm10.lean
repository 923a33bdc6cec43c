/- Part 10 of the proof of TopMemorySaid. -/
import Derived.Test.YtcmhplknoglbkaaGreatQm0
import Derived.Test.YtcmhplknoglbkaaGreatQm1
import Derived.Test.YtcmhplknoglbkaaGreatQm3
import Derived.Test.YtcmhplknoglbkaaGreatQm5
import Derived.Test.YtcmhplknoglbkaaGreatQm6
import Derived.Test.YtcmhplknoglbkaaGreatQm7
import Derived.Test.YtcmhplknoglbkaaGreatQm8
import Derived.Test.YtcmhplknoglbkaaGreatQm9
set_option linter.all false
set_option maxRecDepth 100000
set_option maxHeartbeats 4000000
open Go.Proofs.Tryz
open Array renaming size->gw,size_modify->ahz
open Bool renaming false->ao,true->az
open Go renaming Addr->bT,Calls->aD,Value->aP,asAddr->ve,bodyPost_ret->c',callFunc->kB,cell_of_one->p2,heap_alloc_new->fL,loadVar->wP,results->nw,run_loadVar_row->D1,undef->a7,wpList_nil->an
open Go.Addr renaming add->u7
open Go.Ending renaming returned->aB
open Go.Fn renaming func->ed
open Go.IntKind renaming i64->R
open Go.Lib renaming compareInt->zC
open Go.Obj renaming cells->bo
open Go.Operand renaming tmp->bj
open Go.Proofs.AnyF renaming slices_SortFunc_none->ah9
open Go.Proofs.AnyQ renaming slices_SortFunc->aia
open Go.Proofs.Tryz renaming prog->ax,underlying22->dW,underlying24->ee,underlying73->fO,underlying82->jo
open Go.Proofs renaming intOf->c5,ltOf->GI
open Go.Result renaming andThen_ok->jE,ok->bf
open Go.ResultVar renaming cell->x7
open Go.RowKit renaming Hid->aE
open Go.Sem renaming run_pure->kh
open Go.Sort renaming HoldsK->Pv,alloc_eq_grow->Pw,get_flatK->WV,grow->GJ,putRowK->WW,size_flatK->WX
open Go.Value renaming agg->ar,bool->ai,func->dI,int->J,pointer->ay,slice->ae,tuple->bn
open Go.World renaming block_lt_of_cell?->vd,cell?_of_block->DZ
open Go.World.ownsRow renaming lt->wN
open List.Pairwise renaming imp_of_mem->alK,nil->Ha
open List.Perm renaming refl->Ca,swap->Cb
open List renaming append_assoc->kD,append_nil->kE,eq_nil_of_length_eq_zero->j3,ext_getElem?->z8,filter_append->sT,filter_eq_self->z',getElem?_append_left->tQ,getElem?_append_right->pn,getElem?_eq_getElem->cE,getElem?_eq_some_iff->eJ,length->q4,length_append->c7,length_drop->tS,length_filter_le->Ac,length_map->hB,length_nil->mq,length_take->po,map_append->fP,mem_append->iX,mem_cons->gy,mem_iff_getElem?->p9,mem_of_getElem?->cX,mem_or_eq_of_mem_set->alS,not_mem_nil->fQ,pairwise_iff_getElem->mr,range->dQ,range_succ->sV,size_toArray->iK,take_add_one->gq,take_append->Yh,take_append_drop->oa,take_length->lp,take_of_length_le->tU,take_take->alX
open Nat renaming le_refl->b9,le_trans->dT,lt_irrefl->al1,lt_of_lt_of_le->wZ,min_eq_left->Ci,mul_le_mul->QU,succ_mul->Ae,zero_add->iY,zero_le->cC
open Option renaming getD_some->vw,map_some->q6,none->af,some->ab,toList_some->Cj
open Option.some renaming injEq->w2
open Or renaming inl->b1,inr->cm
namespace Go.Proofs.YtcmhplknoglbkaaGreat
open Go.RowKit Go.MapKept Go.Shelf Go.Lib
def Ah(l:List (Int×Int)):Prop:=(∀e∈l,eY e/\0<e.2)/\∀(i j:Nat) (x y:Int×Int),j<i->l[i]?=ab x->l[j]?=ab y->meets x y=ao
theorem FK(a b):meets a b=meets b a:=by grind[meets]
def atP{a b}(h:a.1+a.2<=b.1):meets a b=false:=by grind[meets]
def atb{a b}(h:meets a b=ao)(hab:a.1<=b.1)(hb:0<b.2):a.1+a.2<=b.1:=by grind[meets]
def Ah.pairwise{l}(h:Ah l):(iN l).Pairwise (λx y=>meets x.1 y.1=ao):=by rw[mr];intro i j hi a b;have bE:=EK l i;have cr:=EK l j;rw[Az]at hi a;rw[cE ad,cE hi]at bE;rw[cE ad,cE a]at cr;simp only[q6,w2]at bE cr;rw[bE,cr,FK];exact h.2 j i _ _ b (cE a) (cE hi)
theorem aal{l}(h:Ah l):∃S,S.Perm (iN l)/\j0 S:=by
 have d:=List.mergeSort_perm (iN l) (λx y=>decide (x.1.1<=y.1.1));have f:=List.pairwise_mergeSort (le:=λx y:jO=>decide (x.1.1<=y.1.1)) (λa b c h1 j=>aH) (λa b=>aH) (iN l);refine⟨_,d,?_,λx hx=>?_⟩
 .have hn:=d.symm.pairwise h.pairwise (λh=>by grind[FK])
  have e:∀x∈(iN l).mergeSort (λx y=>decide (x.1.1<=y.1.1)),0<x.1.2:=λx hx=>by obtain⟨i,hi,_⟩:=AX.1 (d.mem_iff.1 hx);exact(h.1 _ (cX hi)).2
  refine alK (λ{_ y} _ g h=>?_) (f.and hn);exact atb h.2 (of_decide_eq_true h.1) (e y g)
 .obtain⟨i,hi,_⟩:=AX.1 (d.mem_iff.1 hx);exact h.1 _ (cX hi)
def avX{l S}(c:S.Perm (iN l))(b:j0 S):Ah l:=by
 refine⟨λe f=>?_,λi j x y g hx d=>?_⟩;·obtain⟨i,hi⟩:=p9.1 f;exact b.2 (e,(i:Int)) (c.mem_iff.2 (AX.2 ⟨i,hi,aa⟩))
 .have h1:(iN l).Pairwise (λx y=>meets x.1 y.1=ao):=c.pairwise (b.1.imp (λh=>atP h)) (λh=>by grind[FK]);rw[mr]at h1;have hi:=(eJ.1 hx).1;have k:=(eJ.1 d).1;have a:=h1 j i (by grind[Az]) (by grind[Az]) g;have bE:=EK l i;have cr:=EK l j;rw[hx,cE aH]at bE;rw[d,cE aH]at cr;simp only[q6,w2]at bE cr;rw[bE,cr,FK]at a;exact a
def ap8{S}(a:j0 S){x y}(hx:x∈S)(d:y∈S)(h1:x.1.1<=y.1.1)(e:y.1.1<=x.1.1):x=y:=by
 obtain⟨i,hi⟩:=p9.1 hx;obtain⟨j,b⟩:=p9.1 d;rcases Nat.lt_trichotomy i j with h|h|h;·have c:=a.lt hi b h;have:=(a.at hi).2;omega
 .grind
 .have c:=a.lt b hi h;have:=(a.at b).2;omega
def aam{S}(a:j0 S):S.Pairwise (λx y=>x.1.1<=y.1.1):=
 alK (λhx _ h=>by have:=(a.2 _ hx).2;omega) a.1
def aqb{S T}(b:S.Perm T)(a:j0 S)(d:j0 T):S=T:=
 b.eq_of_pairwise (le:=λx y:jO=>x.1.1<=y.1.1) (λ_ _ hx e h1 c=>ap8 a hx (b.mem_iff.2 e) h1 c) (aam a) (aam d)
def QB(base:Nat)(w:World)(p:Nat)(S:List jO):Prop:=∃A c,w.heap[p]?=ab (bo #[ae A S.length c] 411 (0,0))/\nC w A S/\S.length<=1048576/\base<=p/\∀b off,A=ab ⟨b,off,af⟩->base<=b
set_option maxHeartbeats 4000000 in
theorem atJ A c l w(hl:kU w A l)(ks:∀e∈l,rA e)(fY:l.length<=1048576):
 aD ax 251 #[ae A l.length c] w λe w'=>au w w'/\((∃p S,e=aB (ay (ab ⟨p,0,af⟩))/\S.Perm (iN l)/\j0 S/\QB w.heap.size w' p S)\/(e=aB (ay af)/\¬∃S,S.Perm (iN l)/\j0 S)):=by
 have bZ:=hid (And.intro hl ks);obtain⟨i0,jd,hz0,hz1,hz2⟩:=info_parts asp;have Y:=hid (And.intro jd (And.intro hz0 (And.intro hz1 hz2)));have K4:=hid (av.alloc (F:=λ_=>False) w (bo #[ae af 0 0] 411));have pd:=hid (And.intro (fL w (bo #[ae af 0 0] 411)) (show(w.alloc (bo #[ae af 0 0] 411)).heap.size=w.heap.size+1 by simp));clear hl ks jd hz0 hz1 hz2;go_enter func251,ntmps251;go_wp2_with fail;generalize w.alloc (bo #[ae af 0 0] 411)=ic at*;have hs1:=pd.out.2;generalize hp:w.heap.size=p at*;have B4:=hid hp;clear hp;go_loopw [11] (λi wr=>∃k:Nat,k<=l.length/\i=J R k/\aE (∀e∈l.take k,eY e/\0<e.2)/\(∃lF,wr.heap[p]?=ab (bo #[lF] 411 (0,0))/\wr.ownsRow (p+1) 413 3 lF k (rf (iN (l.take k))))/\av (λi=>p<=i) ic wr) (λi _=>l.length -(c5 i).toNat);case atStart=>exact⟨0,cC _,aa,hid bg,⟨_,pd.out.1,⟨bc,b1 ⟨aa,aa⟩⟩⟩,av.refl _ _⟩
 case round=>
  obtain⟨k,hk,rfl,abA,⟨lF,hx,hrow⟩,B⟩:=hrel;obtain⟨s,o,rfl⟩:=aeD hrow;have R6:=B.size;have X:aE (au w wr):=hid ((((au.to K4.out).trans B (λ_ _ h=>h)).mono (λi hi h=>by rw[B4.out]at hi;omega)));have C:=hid (And.intro hx (And.intro hrow B));have nh:=p2 hx;clear hx hrow B;by_cases hlt:k<l.length
  .have hb0:(k:Int)<(l.length:Int):=ad;obtain⟨hD,off,rfl,hcell⟩:=(bZ.out.1.aI X.out) ad;obtain⟨c1,c2⟩:=hcell k hlt;obtain⟨e,he⟩:∃e,l[k]?=ab e:=⟨_,cE hlt⟩;simp only[he,vw]at c1 c2;have L:=hid (And.intro he (bZ.out.2 e (cX he)));obtain⟨a,b⟩:=e;simp only at c1 c2;have PY:=hid (av.alloc (F:=λ_=>False) wr (bo #[J R a,J R b] 35));have V:=hid (yH wr (J R a) (J R b) 35);obtain⟨v,hv⟩:∃v:Bool,lE (a,b)=v:=⟨_,aa⟩;have cJ:=hid hv
   have OR:aE (∀W,aD ax 115 #[ar #[J R a,J R b]] W λe w'=>e=aB (ai v)/\au W w'):=hid (λW=>by have h:=agP a b W L.out.2.1 L.out.2.2;rw[cJ.out]at h;exact h);clear hcell he hv;cases v with
   |false=>
    go_wp2_with (go_at_call 115;refine(OR.out _).mono ?_;rintro e g ⟨rfl,q⟩);go_ret;refine⟨au.trans X.out (au.trans PY.out q),cm ⟨aa,aeb L.out.1 (λh=>?_)⟩⟩;have:=Gd.2 h.1;rw[cJ.out]at this;cases this
   |true=>
    have ry:=Gd.1 cJ.out;by_cases hb:b=0;·have Sg:(b==0)=true:=aH;have PN:=hid hb;clear ry hb;go_wp2_with (go_at_call 115;refine(OR.out _).mono ?_;rintro e g ⟨rfl,q⟩;have Sm:=q.cell V.out.1 (λh=>h);have Sn:=q.cell V.out.2 (λh=>h));go_ret;exact⟨au.trans X.out (au.trans PY.out q),cm ⟨aa,aeb L.out.1 (λh=>by have h1:0<b:=h.2;rw[PN.out]at h1;omega)⟩⟩
    .have Sg:(b==0)=false:=aH;have PN:aE (eY (a,b)/\0<b):=hid ⟨ry,by have h1:0<=b:=ry.2.1;omega⟩;clear ry hb;go_wp2_with (go_at_call 115;refine(OR.out _).mono ?_;rintro e g ⟨rfl,q⟩;have Sm:=q.cell V.out.1 (λh=>h);have Sn:=q.cell V.out.2 (λh=>h));have N:=hid (au.trans PY.out q);have zP:aE (∀i,(ae s k o).ownBlock=ab i->p+1<=i/\i<wr.heap.size):=hid (λi h=>wN C.out.2.1 i h)
     have n:aE (∀w',av (λi=>p+1<=i/\i<wr.heap.size) g w'->w'.cell? ⟨p,0,af⟩=ab (ae s k o)/\w'.cell? ⟨wr.heap.size,0,af⟩=ab (J R a)/\w'.cell? ⟨wr.heap.size,1,af⟩=ab (J R b)):=
      hid (λw' h=>⟨h.cell (N.out.cell (p2 C.out.1) (λh=>h)) (by show¬(p+1<=p/\_);omega),h.cell Sm (by show¬(_/\wr.heap.size<wr.heap.size);omega),h.cell Sn (by show¬(_/\wr.heap.size<wr.heap.size);omega)⟩);have acG:=N.out.size;clear q Sm Sn;refine ayx aw 12 (λw'=>w'.cell? ⟨p,0,af⟩=ab (ae s k o)/\w'.cell? ⟨wr.heap.size,0,af⟩=ab (J R a)/\w'.cell? ⟨wr.heap.size,1,af⟩=ab (J R b)) (n.out _ (av.drew _)) (λhHeld=>?_);refine Bv (i:=0) (v:=?_) aa aw aw aw aw (λ_ _ _ h=>h) (b1 ⟨bc,?_⟩) hHeld ?_;rotate_left;focus (intro E hz;obtain⟨G,H,I⟩:=hz;go_simp;try with_reducible rfl)
     refine Bv (i:=1) (v:=?_) aa aw aw aw aw (λ_ _ _ h=>h) (b1 ⟨bc,?_⟩) hHeld ?_;rotate_left;focus (intro E hz;obtain⟨G,H,I⟩:=hz;go_simp;try with_reducible rfl)
     refine Bv (i:=2) (v:=?_) aa aw aw aw aw (λ_ _ _ h=>h) (b1 ⟨bc,?_⟩) hHeld ?_;rotate_left;focus (intro E hz;obtain⟨G,H,I⟩:=hz;go_simp;try with_reducible rfl)
     refine Bv (i:=3) (v:=?_) aa aw aw aw aw (λ_ _ _ h=>h) (b1 ⟨bc,?_⟩) hHeld ?_;rotate_left;focus (intro E hz;obtain⟨G,H,I⟩:=hz;go_simp;try with_reducible rfl)
     refine Bv (i:=4) (v:=?_) aa aw aw aw aw (λ_ _ _ h=>h) (b1 ⟨bc,?_⟩) hHeld ?_;rotate_left;focus (intro E hz;obtain⟨G,H,I⟩:=hz;go_simp;try with_reducible rfl)
     refine Bv (i:=5) (v:=?_) aa aw aw aw aw (λ_ _ _ h=>h) (b1 ⟨bc,?_⟩) hHeld ?_;rotate_left;focus (intro E hz;obtain⟨G,H,I⟩:=hz;go_simp;try with_reducible rfl)
     refine Bv (i:=6) (v:=?_) aa aw aw aw aw (λ_ _ _ h=>h) (b1 ⟨bc,?_⟩) hHeld ?_;rotate_left;focus (intro E hz;obtain⟨G,H,I⟩:=hz;go_simp;try with_reducible rfl)
     refine Bv (i:=7) (v:=?_) aa aw aw aw aw (λ_ _ _ h=>h) (b1 ⟨bc,?_⟩) hHeld ?_;rotate_left;focus (intro E hz;obtain⟨G,H,I⟩:=hz;go_simp;try with_reducible rfl)
     clear hHeld;refine JC (rs:=[8]) aw bg ?_;refine pS.cons aa bc (λK f=>?_) ?_;rotate_left;exact pS.nil;go_simp;have PX:aE (au g (g.alloc (bo #[J R a,J R b,J R k] 413)).drew):=hid (au.trans (av.alloc _ _) (av.drew _));have ME:=fL g (bo #[J R a,J R b,J R k] 413);have XG:aE ((g.alloc (bo #[J R a,J R b,J R k] 413)).drew.heap[g.heap.size]?=ab (bo #[J R a,J R b,J R k] 413 (0,0))/\(g.alloc (bo #[J R a,J R b,J R k] 413)).drew.heap.size=g.heap.size+1):=hid ⟨ME,by show(g.alloc _).heap.size=_;simp⟩;clear ME;refine f.out _ _ (λ_=>n.out _ (au.to PX.out)) ?_;clear f K;generalize (g.alloc (bo #[J R a,J R b,J R k] 413)).drew=dv at*;refine JC (rs:=[9]) aw bg ?_;refine pS.cons aa bc (λK f=>?_) ?_;rotate_left;exact pS.nil;have vZ:=XG.out.2;refine wp_append_own _ (bj 28) (bj 32) 409 bc (p+1) 413 i0 _ 3 24 underlying409 Y.out.1 Y.out.2.1 Y.out.2.2.1 Y.out.2.2.2 aa ad _ k (rf (iN (l.take k))) aa (aeE C.out.2.1 (au.trans N.out PX.out) (λ_ _ h=>h)) ⟨g.heap.size,0,af⟩ 1 1 [J R a,J R b,J R k] aa aa (atM XG.out.1) (by intro u hu;simp at hu;rcases hu with rfl|rfl|rfl<;>rfl) (by grind[maxLen]) ad ad ?_;intro v9 eU SQ abC _;obtain⟨kx,mv,rfl⟩:=aeD SQ;have O:aE (av (λi=>p+1<=i/\i<wr.heap.size) g eU):=hid ((au.to PX.out).trans (av.of_grownBy abC (λi e=>b1 (zP.out i e))) (λ_ _ h=>h));have XH:=hid SQ;clear SQ abC;refine f.out _ _ (λ_=>n.out _ O.out) ?_;clear f K;refine JC (rs:=[10]) aw bg ?_;refine pS.cons aa bc (λK f=>?_) ?_;rotate_left;exact pS.nil;go_simp;refine f.out _ _ (λ_=>n.out _ O.out) ?_;clear f K;refine JC (rs:=[11]) aw bg ?_;refine pS.cons aa bc (λK f=>?_) ?_;rotate_left;exact pS.nil;go_simp;refine f.out _ _ (λ_=>n.out _ O.out) ?_;clear f K;have Qw:aE (eU.heap[p]?=ab (bo #[ae s k o] 411 (0,0))):=hid (O.out.heap (N.out.heap C.out.1 (λh=>h)) ad);have FM:=p2 Qw.out;have n4:=free_of_one Qw.out;refine JC (rs:=[12]) aw bg ?_;refine pS.cons aa bc (λK f=>?_) ?_;rotate_left;exact pS.nil;go_simp;refine f.out _ _ (λh=>absurd aa h) ?_;clear f K;refine ayq aw ?_ _;go_wp2;go_roundw
     case rel=>
      refine⟨_,ad,by go_num,hid (aqa L.out.1 abA.out PN.out),⟨_,one_setCell Qw.out,?_⟩,?_⟩
      .have bE:rf (iN (l.take (k+1)))=rf (iN (l.take k))++[J R a,J R b,J R k]:=by rw[gq,L.out.1];show rf (iN (l.take k++[(a,b)]))=_;rw[apv,ans,po,Ci ad];rfl
       rw[bE];refine ownsRow_setCell_other XH.out ?_ _;intro h;have:=(wN XH.out p h).1;omega
      .exact((C.out.2.2.trans N.out (λ_ _ h=>h.elim)).trans O.out (λi _ h=>ad)).trans (av.setCell (F:=λi=>p<=i) eU (p:=_) (b9 _) _) (λ_ _ h=>h)
     case measure=>grind[c5]
  .obtain rfl:k=l.length:=ad;have hrow:=C.out.2.1;have hgd:=abA.out;rw[lp]at hrow hgd;have bV:=hid (And.intro hrow hgd)
   have Kk:aE (aD ax 307 #[ae s l.length o,dI (ed 308) #[] #[]] wr λe w'=>e=aB (bn #[])/\∃d,d.Perm (iN l)/\d.Pairwise (λx y=>x.1.1<=y.1.1)/\nC w' s d/\av (λi=>p+1<=i) wr w'):=hid (by
    by_cases h0:l.length=0;·obtain rfl:=j3 h0;refine(axm s o _ wr).mono ?_;rintro e w' ⟨rfl,rfl⟩;exact⟨aa,[],Ca _,Ha,λh=>ad,av.refl _ _⟩
    .refine(axg (p+1) l.length o s (iN l) wr bV.out.1 (by grind[Az]) (by grind[Az])).mono ?_;rintro e w' ⟨rfl,d,h1,z,Q,h4⟩;exact⟨aa,d,h1,z,Q,h4.mono (λi hi h=>(wN bV.out.1 i h).1)⟩);clear hrow hgd;go_wp2_with (go_at_call 307;have cd:=Kk.out;with_reducible refine cd.mono ?_;clear cd;rintro e aT ⟨rfl,d,oY,hst,fG,nH⟩;have fw:=nH.cell nh (by show¬(p+1<=p);omega));have t:aE (d.length=l.length):=hid (by rw[oY.length_eq,Az]);have j:=hid (And.intro oY (And.intro hst (And.intro fG (And.intro (nH.heap C.out.1 ad) (show au w aT from((au.to X.out).trans nH (λ_ _ h=>h)).mono (λi hi h=>by rw[B4.out]at hi;omega))))))
   have XY:aE (∀x∈d,eY x.1/\0<x.1.2):=hid (λx hx=>by obtain⟨i,hi,_⟩:=AX.1 (oY.mem_iff.1 hx);exact bV.out.2 _ (cX hi));clear oY hst fG nH Kk nh;obtain⟨nQ,rfl⟩:∃nQ:World,nQ=wr:=⟨_,aa⟩;go_loopw [47] (λi wr=>∃k:Nat,k<=l.length/\i=J R k/\aE (∀i x y,i+1<k->d[i]?=ab x->d[i+1]?=ab y->x.1.1+x.1.2<=y.1.1)/\au aT wr) (λi _=>l.length -(c5 i).toNat);case atStart=>exact⟨0,cC _,aa,hid (λi x y h=>ad),av.refl _ _⟩
   case round=>
    obtain⟨k,hk,rfl,hR,B⟩:=hrel;have D:=hid B;have lN:=B.cell fw (λh=>h);clear B;by_cases hlt:k<l.length
    .have hb0:(k:Int)<(l.length:Int):=ad;by_cases CV:k=0
     .subst CV;go_wp2_with fail;go_quiet (fail);go_wp2;go_roundw;case rel=>exact⟨1,ad,by go_num,hid (λi x y h=>ad),au.trans D.out (av.drewN _ _)⟩
      case measure=>grind[c5]
     .obtain⟨m,hm⟩:∃m,k=m+1:=⟨k -1,ad⟩;have Z:=hid hm;have rr:(1:Int)<=(k:Int):=ad;have hk2:0<k:=ad;have vN:(k:Int)<=1048576:=ad;have hb2:(m:Int)<(l.length:Int):=ad;have hb3:m<l.length:=ad;have aBf:R.wrap ((k:Int) -1)=(m:Int):=by grind[IntWalk.i64_in]
      obtain⟨x,hx⟩:∃x,d[m]?=ab x:=⟨_,cE (by have:=t.out;omega)⟩;obtain⟨y,hy⟩:∃y,d[k]?=ab y:=⟨_,cE (by have:=t.out;omega)⟩;obtain⟨hD,off,rfl,hcell⟩:=(j.out.2.2.1.aI D.out) aH;have c8:=(hcell k (by have:=t.out;omega)).1;have c4:=(hcell m (by have:=t.out;omega)).1;have iR:=(hcell m (by have:=t.out;omega)).2.1;simp only[hx,hy,vw]at c8 c4 iR;have P:=hid (And.intro hx hy);have MY:=(XY.out x (cX hx)).1;obtain⟨v1,v2,v3⟩:=MY
      have n:aE (∀w',au wr w'->w'.cell? ⟨p,0,af⟩=ab (ae (ab ⟨hD,off,af⟩) l.length o)/\w'.cell? ⟨hD,off+k*3,af⟩=ab (J R y.1.1)/\w'.cell? ⟨hD,off+m*3,af⟩=ab (J R x.1.1)/\w'.cell? ⟨hD,off+m*3+1,af⟩=ab (J R x.1.2)):=
       hid (λw' h=>⟨h.cell lN (λh=>h),h.cell c8 (λh=>h),h.cell c4 (λh=>h),h.cell iR (λh=>h)⟩);clear hcell hx hy c8 c4 iR hm CV;have eV:aE (∀r:Bool,decide (y.1.1<x.1.1+x.1.2)=r->True):=hid (λ_ _=>trivial);obtain⟨⟨cW,bk⟩,iu⟩:=x;obtain⟨⟨M,bG⟩,da⟩:=y;simp only at v1 v2 v3 n P;by_cases U:M<cW+bk
      .have hd:decide (M<cW+bk)=true:=by simpa using U
       have pe:=hid U;clear U eV;go_wp2_with fail
       go_region_held3 (λw'=>w'.cell? ⟨p,0,af⟩=ab (ae (ab ⟨hD,off,af⟩) l.length o)/\w'.cell? ⟨hD,off+k*3,af⟩=ab (J R M)/\w'.cell? ⟨hD,off+m*3,af⟩=ab (J R cW)/\w'.cell? ⟨hD,off+m*3+1,af⟩=ab (J R bk))
        (first
          |exact n.out _ (av.drew _)
          |exact n.out _ T)
        (first
          |(go_at_call 117;refine(l1 cW bk _ v1 v2 v3).mono ?_;rintro e jj ⟨rfl,ha0⟩;have T:au wr jj:=au.trans (av.drew _) ha0))
       all_goals
        go_wp2;go_ret;exact⟨au.trans j.out.2.2.2.2 (au.trans D.out T),cm ⟨aa,atQ j.out.1 j.out.2.1 P.out.1 (by rw[<-Z.out];exact P.out.2) pe.out⟩⟩
      .have hd:decide (M<cW+bk)=false:=by simpa using U
       have pe:aE (cW+bk<=M):=hid ad;clear U eV;go_wp2_with fail
       go_region_held3 (λw'=>w'.cell? ⟨p,0,af⟩=ab (ae (ab ⟨hD,off,af⟩) l.length o)/\w'.cell? ⟨hD,off+k*3,af⟩=ab (J R M)/\w'.cell? ⟨hD,off+m*3,af⟩=ab (J R cW)/\w'.cell? ⟨hD,off+m*3+1,af⟩=ab (J R bk))
        (first
          |exact n.out _ (av.drew _)
          |exact n.out _ T)
        (first
          |(go_at_call 117;refine(l1 cW bk _ v1 v2 v3).mono ?_;rintro e jj ⟨rfl,ha0⟩;have T:au wr jj:=au.trans (av.drew _) ha0))
       all_goals
        go_wp2;go_roundw
        case rel=>
         refine⟨k+1,ad,by go_num,hid (λi x y h h1 z=>?_),au.trans D.out T⟩;rcases Nat.lt_or_eq_of_le (show i<=m by have:=Z.out;omega)with Q|Q;·exact hR.out i x y (by have:=Z.out;omega) h1 z
         .subst Q;rw[P.out.1]at h1;rw[<-Z.out,P.out.2]at z;cases h1;cases z;exact pe.out
        case measure=>grind[c5]
    .obtain rfl:k=l.length:=ad;have ef:aE (j0 d):=hid (ap9 j.out.2.1 XY.out (λi x y h1 z=>hR.out i x y (by have Q:=(eJ.1 z).1;have:=t.out;omega) h1 z));go_wp2;go_ret;have E7:QB p wr p d:=⟨s,o,by rw[t.out];exact D.out.heap j.out.2.2.2.1 (λh=>h),j.out.2.2.1.aI D.out,by rw[t.out];exact fY,b9 _,λb off e=>by subst e;have:=(wN bV.out.1 b aa).1;omega⟩;refine⟨au.trans j.out.2.2.2.2 D.out,b1 ?_⟩
     first
      |exact⟨p,d,aa,j.out.1,ef.out,E7⟩
      |exact⟨p,d,aa,j.out.1,ef.out,by rw[B4.out];exact E7⟩
      |exact⟨p,rfl,d,j.out.1,ef.out,E7⟩
def atK A c l w(a:kU w A l)(d:∀e∈l,rA e)(b:l.length<=1048576)(hr:Ah l):
 aD ax 251 #[ae A l.length c] w λe w'=>∃p S,e=aB (ay (ab ⟨p,0,af⟩))/\S.Perm (iN l)/\j0 S/\QB w.heap.size w' p S/\au w w':=
 by grind[atJ,absurd,aal]
open Go.RowKit Go.MapKept
def aeF{w w':World}{base e sz:Nat}{v m xs}{cT:Nat->Prop}(h:w.ownsRow base e sz v m xs)(c:∀b,cT b->b<w.heap.size->w'.heap[b]?=w.heap[b]?)(a:∀g,v.ownBlock=ab g->cT g):w'.ownsRow base e sz v m xs:=by
 refine⟨h.1,?_⟩;rcases h.2 with h2|⟨g,cap,cur,rfl,hb,hh,r⟩;·grind
 .exact cm ⟨g,_,_,aa,hb,Dl c (a g aa) hh,r⟩
def d'.same{fv w w' b enc}{ok:fv->Prop}{a}{cT:Nat->Prop}(h:d' w b enc ok a)(d:∀b,cT b->b<w.heap.size->w'.heap[b]?=w.heap[b]?)(c:cT b):d' w' b enc ok a:=by obtain⟨es,e,hb,r⟩:=h;exact⟨es,_,Dl d c hb,r⟩
def xa(F:Nat->Prop)(b:Nat)(n:Int)(E:List (Int×Int)):bq:=⟨F,λw=>G.hA w F b n E,λw w' h _ c=>by obtain⟨⟨fV,mo,fI,e4,eX,g⟩,r⟩:=c;refine⟨⟨fV,mo,fI,e4,eX,{g with blk:=Dl h g.Gt g.blk,mX:=g.mX.same h g.DN,out:=g.out.same h g.DP,ng:=g.ng.same h g.DO,qE:=λu=>⟨λv hv=>aeF ((g.qE u).1 v hv) h (λq a=>g.xZ _ (sn hv) q a),(g.qE u).2⟩,qC:=λu=>⟨λv hv=>aeF ((g.qC u).1 v hv) h (λq a=>g.xY _ (sn hv) q a),(g.qC u).2⟩}⟩,r⟩⟩
def ap7(n:Nat)w(h1:n<=1048576):
 aD ax 179 #[J R (n:Int)] w λe w'=>∃b F,e=aB (ay (ab ⟨b,0,af⟩))/\cf w w' (xa F b (n:Int) []):=
 (G.ad7 (n:Int) w ad ad).mono λe w' ⟨b,c,a,g⟩=>⟨b,_,c,g,a,λ_ h=>h⟩
def ap6 b(n i j)E F B w(c:Has w (xa F b n E))(hb:aX w B #[J R i,J R j] 192)(hn:¬F B)(hi:cO i)(g:cO j)(m:E.length<=1048576):
 aD ax 182 #[ay (ab ⟨b,0,af⟩),ae (ab ⟨B,0,af⟩) 1 1] w λe w'=>∃v d,e=aB v/\Turned w w' (xa F b n E) (xa d b n (G.jz n E [(i,j)])):=by
 have l:kU w (ab ⟨B,0,af⟩) [(i,j)]:=λ_=>⟨B,0,rfl,λk hk=>by obtain rfl:k=0:=aH;exact⟨hb.cell 0 aa,hb.cell 1 aa⟩⟩;exact(G.Yv b n E F (ab ⟨B,0,af⟩) 1 [(i,j)] w c.1 l (λe a=>by obtain rfl:=List.mem_singleton.1 a;exact⟨hi,g⟩) aH (λblk off e=>aH)).mono λe w' ⟨a,f,ho⟩=>⟨_,_,a,ho,f,λb h=>⟨h.elim (λh=>wZ (c.2 _ h) ho.size) (λh=>h.2),h.elim b1 (λh=>cm h.1)⟩⟩
def Dc(p:Nat)(A:Option bT)(c:Nat)(S:List jO):bq:=⟨λb=>b=p\/(0<S.length/\eh A b),λw=>w.heap[p]?=ab (bo #[ae A S.length c] 411 (0,0))/\nC w A S/\S.length<=1048576,λw w' h g i=>by obtain⟨h1,d,f⟩:=i;refine⟨Dl h (b1 rfl) h1,λa=>?_,f⟩;obtain⟨b,off,e,hc⟩:=d a;have hb:w'.heap[b]?=w.heap[b]?:=h b (cm ⟨a,off,af,e⟩) (g b (cm ⟨a,off,af,e⟩));grind[DZ]⟩
def Dc.is{p A c S w}(h:(Dc p A c S).p w):oG w p S:=⟨A,c,h.1,h.2.1,h.2.2⟩
def aso A c l w(q:kU w A l)(s:∀e∈l,rA e)(r:l.length<=1048576)(hr:Ah l):
 aD ax 251 #[ae A l.length c] w λe w'=>∃p S,S.Perm (iN l)/\j0 S/\e=aB (ay (ab ⟨p,0,af⟩))/\∃d f,cf w w' (Dc p d f S):=
 (atK A c l w q s r hr).mono λe w' ⟨p,S,n,h1,i,⟨d,f,j,h,k,u,m⟩,g⟩=>⟨p,S,h1,i,n,d,f,g,⟨j,h,k⟩,λb hb=>by
  rcases hb with rfl|⟨hS,o,sp,e⟩;·grind
  .obtain⟨t,off,a,hc⟩:=h hS;rw[e]at a;injection a with a;injection a with bE cr fz;subst bE cr fz;exact⟨m _ _ e,vd w' _ (hc 0 hS).1⟩⟩
def atz p S(c d)w(i:oG w p S)(j:j0 S)(k:eY (c,d)):
 aD ax 181 #[ay (ab ⟨p,0,af⟩),ar #[J R c,J R d]] w λe w'=>∃a f,e=aB (ae a ((parts (c,d) S).map (·.1)).length f)/\cf w w' (ba a ((parts (c,d) S).map (·.1)).length f 3 1 (((parts (c,d) S).map (·.1)).map (J R))):=
 (atx p S c d w i j k).mono λe w' ⟨v,h,ho,g⟩=>by
  have l:(parts (c,d) S).length=((parts (c,d) S).map (·.1)).length:=bg;have m:(parts (c,d) S).map (λx=>J R x.1)=((parts (c,d) S).map (·.1)).map (J R):=bg;rw[l,m]at ho;rcases ho.2 with⟨rfl,hz⟩|⟨q,cap,cur,rfl,hb,r⟩;·rw[hz]at ho⊢;exact⟨af,0,h,g,Dn ho (cC _),λ_ ⟨_,_,e⟩=>aH⟩
  .exact⟨ab ⟨q,0,af⟩,cap,h,g,Dn ho (cC _),λb ⟨o,n,e⟩=>aH⟩
def yL(ms:List bO)(S:List jO)(i:Nat):List (Int×Int):=match ms[i]? with
 |some m=>if m.k=1 then((parts (m.fr,m.n) S).map (·.1)).map (λj=>((i:Int),j))else[]
 |none=>[]
def my(ms:List bO)(S:List jO)(i:Nat):List (Int×Int):=(dQ i).flatMap (yL ms S)
def s6(ms:List bO)(S:List jO):List (Int×Int):=G.jz (ms.length:Int) [] (my ms S ms.length)
def Rz ms S i:my ms S (i+1)=my ms S i++yL ms S i:=by simp[my,sV]
def Yu n(E a b):G.jz n E (a++b)=G.jz n (G.jz n E a) b:=by grind[G.jz]
def apt{l S}(h:S.Perm (iN l)){e j}(a:j∈(parts e S).map (·.1)):0<=j/\j<(l.length:Int):=by grind[parts,AX]
def Ry{ms S}(a:S.length=ms.length):∀i,(my ms S i).length<=i*ms.length
 |0=>by simp[my]
 |i+1=>by
  rw[Rz,c7,Ae];have h1:=Ry a i
  have b:(yL ms S i).length<=ms.length:=by
   unfold yL;split
   .split;·rw[hB,hB,<-a];exact aeL _ _
    .exact cC _
   .exact cC _
  omega
def at6{e}(h:eY e):rA e:=by obtain⟨h1,a,b⟩:=h;exact⟨by grind[cO],by grind[cO]⟩
def axE A c ms w(N:cU w A ms)(hv:Ah (ms.map ck))(Y:ms.length<=1048576):
 aD ax 180 #[ae A ms.length c] w λe w'=>∃p S,S.Perm (iN (ms.map ck))/\j0 S/\e=aB (ay (ab ⟨p,0,af⟩))/\∃z I,cf w w' (Dc p z I S):=by
 have E:=hid N;have q:=hid hv;go_enter func180,ntmps180;have a:=a8 w;go_step;refine ah ?_;refine ag ?_;refine ah ?_;refine ag ?_;refine an ?_;replace a:=a.new (ba af 0 0 35 2 []) ⟨av.refl _ _,Row.nil _ _ _ _,λb ⟨_,_,e⟩=>aH⟩;go_step;refine ah ?_;refine v3 ?_;refine an ?_;have o:=a.pk [0];go_wp2_with fail;go_loopw [3,8] (λy i wr=>∃(j:Nat) (aK:Option bT) (c2:Nat),j<=ms.length/\y=ae aK j c2/\i=J R (j:Int)/\ak w (λ_=>False) wr [ba aK j c2 35 2 (mx ((ms.take j).map ck))]) (λy i wr=>ms.length -(c5 i).toNat);case atStart=>exact⟨0,_,0,cC _,aa,aa,o⟩
 case round=>
  clear a o;obtain⟨j,aK,c2,X,rfl,rfl,a⟩:=hrel;by_cases hlt:j<ms.length
  .have O:(j:Int)<(ms.length:Int):=ad;obtain⟨m,d⟩:∃m,ms[j]?=ab m:=⟨_,cE hlt⟩;obtain⟨g,l,f,h,r,s,t⟩:=cU.jb E d;have C:=hid r;have V:=hid s;have D:=hid t;have G:=hid d;clear r s t d;have H:aE (mx ((ms.take (j+1)).map ck)=mx ((ms.take j).map ck)++[J R m.to,J R (cG m)]):=hid (by rw[gq,G,Cj,fP,List.map_singleton,Y5];rfl);go_step;refine ah ?_;refine a1 (ai az) ?_;refine ah ?_;refine aG (ay (ab ⟨g,(l+j*5),af⟩)) (b4 24 73 5 (bj 6) (bj 8) aa ee aw g l (ms.length) c j ((l+j*5)) (by show ae A _ _=_;rw[C]) aa hlt aa) ?_;refine aG _ (by(refine eW 73 _ aa g _ aa _ (D _ a.only) fO aa aw)) ?_;refine bl a #[J R 0,J R 0,J R 0,J R 0,ae af 0 0] (λU w1 a=>?_);refine a' a 0 (ar #[J R m.k,J R m.to,J R m.fr,J R m.n,ae f m.data.length h]) (λZ a=>?_);refine b5 ?_;refine bh a 0 #[J R m.k,J R m.to,J R m.fr,J R m.n,ae f m.data.length h] ?_;refine bC (tt m.k m.to m.fr m.n f m.data.length h _) a (λbF a=>?_);refine e7 a #[J R m.to,J R (cG m)] 35 (λT b8 a=>?_);refine jV (m:=1) a 2 16 (aX.cellsOf (m:=1) (a.aW 0) aa) (by intro u x;simp only[gy,fQ,or_false]at x;rcases x with rfl|rfl<;>rfl) (λQ W cA a=>?_) (hby:=by omega);refine dV ?_;refine pad (j:Int) 1 ((j+1:Nat):Int) ?_;refine bX ?_;go_wp2_with fail;go_roundw;case rel=>exact⟨_,_,_,ad,aa,aa,by rw[H];exact a.pick [2]⟩
   case measure=>grind[c5]
  .have O:¬(j:Int)<(ms.length:Int):=ad;obtain rfl:j=ms.length:=ad;have v:ms.take ms.length=ms:=lp;rw[v]at a;have F:aE (ms.length=(ms.map ck).length):=hid bg;clear v;go_step;refine ah ?_;refine a1 (ai ao) ?_;refine b5 ?_;refine aR ((show aD ax 251 #[ae aK ms.length c2] _ λe w'=>_ from by rw[F.out];exact aso aK c2 (ms.map ck) _ (Row.Uv (a.atR 0)).2 (λe L=>by obtain⟨m,d,rfl⟩:=List.mem_map.1 L;exact at6 (q.1 _ (List.mem_map_of_mem d)).1) aH q)) ?_;rintro e cR ⟨p,S,P,M,rfl,B,dx,K⟩;replace a:=a.new _ K;refine Gl ?_;go_wp2_with fail;go_ret;exact⟨p,S,P,M,aa,B,dx,a.fresh 0⟩
structure Gs (ms:List bO):Prop where
 dM:ms.length<=1000
 right:Ah (ms.map ck)
 src:∀m∈ms,m.k=1->eY (m.fr,m.n)
def FV(i:Nat)(m:bO)(S:List jO):List (Int×Int):=((parts (m.fr,m.n) S).map (·.1)).map (λj=>((i:Int),j))
def Rw{ms S i m}(h:ms[i]?=ab m)(hk:m.k=1):yL ms S i=FV i m S:=by grind[yL,FV]
theorem Rx{ms S i m}(h:ms[i]?=ab m)(hk:m.k≠1):yL ms S i=[]:=by grind[yL]
def LF n:∀(l E),(G.jz n E l).length<=E.length+l.length
 |[],E=>b9 _
 |e::l,E=>by
  have h:=LF n l (G.qd n E e)
  have a:(G.qd n E e).length<=E.length+1:=by
   unfold G.qd;split;·simp
   .exact Nat.le_succ _
  have cr:G.jz n E (e::l)=G.jz n (G.qd n E e) l:=rfl;rw[cr,List.length_cons];omega
def anx A c ms w(hl:cU w A ms)(hv:Gs ms):
 aD ax 91 #[ae A ms.length c] w λe w'=>∃b F S,S.Perm (iN (ms.map ck))/\j0 S/\e=aB (ay (ab ⟨b,0,af⟩))/\cf w w' (xa F b ms.length (s6 ms S)):=by
 have M:=hid hl;have cJ:=hid hv.right;have q1:=hid hv.src;have eR:=hv.dM;go_enter func91,ntmps91;have a:=a8 w;go_step;refine ah ?_;refine ag ?_;refine an ?_;go_step;refine ah ?_;refine v2 ?_;refine aR (ap7 ms.length _ ad) ?_;rintro e w1 ⟨b,F,rfl,s⟩;replace a:=a.new _ s;refine aU ?_;refine ag ?_;refine an ?_;go_step;refine ah ?_;refine ag ?_;refine aR (axE A c ms _ (M.out.aI a.only) cJ ad) ?_;rintro e aT ⟨p,S,v,Y,rfl,I,dx,s⟩;replace a:=a.new _ s;refine aU ?_;refine ag ?_;refine an ?_;have T:S.length=ms.length:=by rw[v.length_eq,Az,hB]
 have V:=Ry (S:=S) T;have bZ:=hid v;have L:=hid Y;have Z:∀e,∀j∈(parts e S).map (·.1),0<=j/\j<((ms.map ck).length:Int):=λe j hj=>apt v hj;have r0:=hid Z;have yf:aE (∀i,i<=ms.length->(G.jz ms.length [] (my ms S i)).length<=1000000):=hid (λi hi=>by have h1:=LF ms.length (my ms S i) [];have Q:=V i;have h3:i*ms.length<=1000*1000:=QU ad ad;simp only[mq]at h1;omega);clear v Y V Z hv hl;go_step;refine ah ?_;refine v3 ?_;refine an ?_;have r:=a.pk [1,0];go_wp2_with fail;go_loopw [18] (λo wr=>∃(j:Nat) (F:Nat->Prop),j<=ms.length/\o=J R (j:Int)/\ak w (λ_=>False) wr [xa F b ms.length (G.jz ms.length [] (my ms S j)),Dc p I dx S]) (λo wr=>ms.length -(c5 o).toNat);case atStart=>exact⟨0,F,cC _,aa,r⟩
 case round=>
  clear a r;obtain⟨j,F,hj,rfl,a⟩:=hrel;by_cases hlt:j<ms.length
  .have cb:(j:Int)<(ms.length:Int):=ad;obtain⟨m,D⟩:∃m,ms[j]?=ab m:=⟨_,cE hlt⟩;obtain⟨C,y,f,l,u,U,X⟩:=cU.jb M D;have cq:=hid u;have iz:=hid U;have dh:=hid X;have B:=hid D;clear u U X D;go_step;refine ah ?_;refine a1 (ai az) ?_;refine an ?_;go_step;refine ah ?_;refine ag ?_;refine aG (ay (ab ⟨C,(y+j*5),af⟩)) (b4 24 73 5 (bj 16) (bj 18) aa ee aw C y (ms.length) c j ((y+j*5)) (by show ae A _ _=_;rw[cq]) aa hlt aa) ?_;refine aG (ar #[J R m.k,J R m.to,J R m.fr,J R m.n,ae f m.data.length l]) (by(refine eW 73 (bj 21) aa C (y+j*5) aa ([J R m.k,J R m.to,J R m.fr,J R m.n,ae f m.data.length l]:List aP) (dh _ a.only) fO aa aw)) ?_;refine bl a #[J R 0,J R 0,J R 0,J R 0,ae af 0 0] (λeo bF a=>?_);refine ag ?_;refine a' a 0 (ar #[J R m.k,J R m.to,J R m.fr,J R m.n,ae f m.data.length l]) (λb8 a=>?_);refine an ?_;by_cases hk:m.k=1
   .have ako:aE (my ms S (j+1)=my ms S j++FV j m S):=hid (by rw[Rz,Rw B hk]);have yr:=hid (q1 m (cX B) hk);have gO:=hid hk;clear hk;go_step;refine ah ?_;refine bh a 0 #[J R m.k,J R m.to,J R m.fr,J R m.n,ae f m.data.length l] ?_;refine aR ((show aD ax 79 #[ar #[J R m.k,J R m.to,J R m.fr,J R m.n,ae f m.data.length l]] _ λe w'=>_ from by rw[gO.out];exact Bk m.to m.fr m.n f m.data.length l _)) ?_;rintro e cA ⟨rfl,g⟩;replace a:=a.aI g;refine aU ?_;refine v3 ?_;refine bl a #[J R 0,J R 0] (λfl cR a=>?_);refine a' a 0 (ar #[J R m.fr,J R m.n]) (λdz a=>?_);refine ag ?_;refine an ?_;go_step;refine ah ?_;refine ag ?_;refine an ?_;obtain⟨d,t⟩:=ex ((parts (m.fr,m.n) S).map (·.1));have Qd:aE (∀W,oG W p S->aD ax 181 #[ay (ab ⟨p,0,af⟩),ar #[J R m.fr,J R m.n]] W λe w'=>∃H N,e=aB (ae H d.length N)/\cf W w' (ba H d.length N 3 1 (d.map (J R)))):=hid (λW h=>by rw[<-t];exact atz p S m.fr m.n W h L yr);have akH:=hid t;have iq:d.length<=ms.length:=by rw[<-t,hB,<-T];exact aeL _ _
    have akG:aE (∀x∈d,0<=x/\x<(ms.length:Int)):=hid (λx hx=>by have h:=r0 (m.fr,m.n) x (by rw[t];exact hx);rwa [hB]at h);clear t;go_step;refine ah ?_;refine ag ?_;refine bh a 0 #[J R m.fr,J R m.n] ?_;refine aR (Qd _ (Dc.is (a.at 3))) ?_;rintro e dv ⟨kv,O,rfl,s⟩;replace a:=a.new _ s;refine aU ?_;refine v2 ?_;refine an ?_;have r:=a.pk [3,4,0];go_wp2_with fail;go_loopw [33] (λo wr=>∃(q:Nat) (F:Nat->Prop),q<=d.length/\o=J R (q:Int)/\ak w (λ_=>False) wr [xa F b ms.length (G.jz ms.length [] (my ms S j++(d.take q).map (λx=>((j:Int),x)))),Dc p I dx S,ba kv d.length O 3 1 (d.map (J R))]) (λo wr=>d.length -(c5 o).toNat);case atStart=>exact⟨0,F,cC _,aa,by rw[List.take_zero,List.map_nil,kE];exact r⟩
    case round=>
     clear a r;obtain⟨q,F,hq,rfl,a⟩:=hrel;by_cases Ig:q<d.length
     .have aru:(q:Int)<(d.length:Int):=ad;obtain⟨x,hx⟩:∃x,d[q]?=ab x:=⟨_,cE Ig⟩;have dG:=hid hx;have Db:=akG x (cX hx);have E:(d.map (J R))[q]?=ab (J R x):=by rw[List.getElem?_map,hx];rfl
      have Eg:=hid E;obtain⟨P,u,_⟩:=(a.atR 2).cell E;subst u;have jy:aE (my ms S j++(d.take (q+1)).map (λx=>((j:Int),x))=(my ms S j++(d.take q).map (λx=>((j:Int),x)))++[((j:Int),x)]):=hid (by rw[gq,hx,Cj,fP,kD];rfl);have p4:aE ((G.jz ms.length [] (my ms S j++(d.take q).map (λx=>((j:Int),x)))).length<=1048576):=hid (by have h1:=yf j ad;have Q:=LF ms.length ((d.take q).map (λx=>((j:Int),x))) (G.jz ms.length [] (my ms S j));rw[<-Yu,hB,po]at Q;omega);clear hx E;go_step;refine ah ?_;refine a1 (ai az) ?_;refine an ?_;go_step;refine ah ?_;refine aG (ay (ab ⟨P,q,af⟩)) (b4 82 3 1 (bj 31) (bj 33) aa jo aw P 0 (d.length) O q q aa aa Ig ad) ?_;refine aG (J R x) (kL (a.atR 2) Eg aa aa aw) ?_;refine ag ?_;refine an ?_;go_step;refine ah ?_;refine v4 ?_;refine e7 a #[J R (j:Int),J R x] 192 (λK eU a=>?_);refine aR (ap6 b ms.length (j:Int) x _ F K _ (a.has 1 aa) (a.aW 0) (λh=>a.ne (i:=1) (j:=0) aa aa aS K h aa) (by unfold cO;omega) (by unfold cO;omega) p4) ?_;rintro e gF ⟨v5,Vq,rfl,bM⟩;replace a:=a.eP 1 bM;refine aU ?_;refine an ?_;go_step;refine ah ?_;refine pad (q:Int) 1 ((q+1:Nat):Int) ?_;refine ag ?_;refine an ?_;go_wp2_with fail;go_roundw;case rel=>exact⟨q+1,_,ad,aa,by rw[jy.out,Yu];exact a.pick [1,2,3]⟩
      case measure=>simp[c5]<;>omega
     .have aru:¬(q:Int)<(d.length:Int):=ad;obtain rfl:q=d.length:=ad;have z:aE (my ms S (j+1)=my ms S j++(d.take d.length).map (λx=>((j:Int),x))):=hid (by rw[ako,FV,akH,lp]);go_step;refine ah ?_;refine a1 (ai ao) ?_;refine an ?_;go_step;refine ah ?_;refine pad (j:Int) 1 ((j+1:Nat):Int) ?_;refine ag ?_;refine an ?_;go_wp2_with fail;go_roundw;case rel=>exact⟨j+1,_,ad,aa,by rw[z.out];exact a.pick [0,1]⟩
      case measure=>simp[c5]<;>omega
   .have z:aE (my ms S (j+1)=my ms S j):=hid (by rw[Rz,Rx B hk,kE]);go_step;refine ah ?_;refine bh a 0 #[J R m.k,J R m.to,J R m.fr,J R m.n,ae f m.data.length l] ?_;refine aR (Bl m.k m.to m.fr m.n f m.data.length l _ hk) ?_;rintro e hI ⟨rfl,g⟩;replace a:=a.aI g;refine aU ?_;refine v3 ?_;refine bl a #[J R 0,J R 0] (λfl jK a=>?_);refine a' a 0 (ar #[J R 0,J R 0]) (λke a=>?_);refine ag ?_;refine an ?_;go_step;refine ah ?_;refine ag ?_;refine an ?_;go_step;refine ah ?_;refine pad (j:Int) 1 ((j+1:Nat):Int) ?_;refine ag ?_;refine an ?_;go_wp2_with fail;go_roundw;case rel=>exact⟨j+1,_,ad,aa,by rw[z.out];exact a.pick [2,3]⟩
    case measure=>grind[c5]
  .have cb:¬(j:Int)<(ms.length:Int):=ad;obtain rfl:j=ms.length:=ad;go_step;refine ah ?_;refine a1 (ai ao) ?_;refine an ?_;go_step;refine ah ?_;refine v2 ?_;refine an ?_;go_wp2_with fail;go_ret;exact⟨b,F,S,bZ,L,aa,a.fresh 0⟩
def mK(A:Option bT)(xs:List Int):bq:=⟨λb=>0<xs.length/\eh A b,λw=>dA w A xs,λw w' h c d a=>by obtain⟨b,off,rfl,hc⟩:=d a;have hb:=h b ⟨a,_,_,aa⟩ (c b ⟨a,_,_,aa⟩);grind[DZ]⟩
def afn{w w' A xs}(g:au w w')(h:dA w' A xs)(c:∀k off,A=ab ⟨k,off,af⟩->w.heap.size<=k):cf w w' (mK A xs):=⟨g,h,λb hb=>by obtain⟨a,o,d,e⟩:=hb;obtain⟨k,off,cr,hc⟩:=h a;rw[e]at cr;cases cr;exact⟨c _ _ e,vd w' _ (hc 0 a)⟩⟩
def isLit(ms:List bO)(i:Nat):Bool:=match ms[i]? with|some m=>decide (m.k=2)|none=>ao
def ka(ms:List bO)(j:Nat):List Int:=((dQ j).filter (isLit ms)).map (λi:Nat=>(i:Int))
def ate{ms j m}(h:ms[j]?=ab m)(hk:m.k=2):ka ms (j+1)=ka ms j++[(j:Int)]:=by grind[isLit,ka,sV]
def atd{ms j m}(h:ms[j]?=ab m)(hk:m.k≠2):ka ms (j+1)=ka ms j:=by grind[isLit,ka,sV]
theorem Nc ms j:(ka ms j).length<=j:=by grind[ka]
def adP A(c b)ms w(E:cU w A ms)(Q:ms.length<=1000):
 aD ax 177 #[ar #[ae A ms.length c,ay (ab ⟨b,0,af⟩)]] w λe w'=>∃l q,e=aB (ae l (ka ms ms.length).length q)/\cf w w' (ba l (ka ms ms.length).length q 3 1 ((ka ms ms.length).map (J R))):=by
 have B:=hid E;go_enter func177,ntmps177;have a:=a8 w;go_step;refine ah ?_;refine bL a (ar _) (λI w1 a=>?_);refine ag ?_;refine an ?_;go_step;refine ah ?_;refine ag ?_;refine an ?_;replace a:=a.new (ba _ 0 0 3 1 []) ⟨av.refl _ _,Row.nil _ _ _ _,λb ⟨_,_,e⟩=>aH⟩;go_step;refine ah ?_;refine ag ?_;refine pl a 1 0 ?_;refine v2 ?_;refine an ?_;have p:=a.pk [0];go_wp2_with fail;go_loopw [3,9] (λx i wr=>∃(j n:Nat) (aK:Option bT) (c2:Nat),j<=ms.length/\aE ((ka ms j).length=n)/\n<=j/\x=ae aK n c2/\i=J R (j:Int)/\ak w (λ_=>False) wr [ba aK n c2 3 1 ((ka ms j).map (J R))]) (λx i wr=>ms.length -(c5 i).toNat);case atStart=>exact⟨0,0,_,0,cC _,aa,b9 _,aa,aa,p⟩
 case round=>
  clear a p;obtain⟨j,n,aK,c2,P,f,S,rfl,rfl,a⟩:=hrel;by_cases hlt:j<ms.length
  .have F:(j:Int)<(ms.length:Int):=ad;obtain⟨m,h⟩:∃m,ms[j]?=ab m:=⟨_,cE hlt⟩;obtain⟨D,T,H,O,r,s,t⟩:=cU.jb B h;have y:=hid r;have M:=hid s;have z:=hid t;have o:=hid h;clear r s t h;go_step;refine ah ?_;refine a1 (ai az) ?_;refine an ?_;go_step;refine ah ?_;refine ag ?_;refine aG _ (b4 24 73 5 _ _ aa ee aw _ _ _ _ _ _ (by show ae A _ _=_;rw[y]) aa hlt aa) ?_;refine aG _ (by(refine eW 73 _ aa D _ aa _ (z _ a.only) fO aa aw)) ?_;refine bl a #[J _ 0,J _ 0,J _ 0,J _ 0,ae _ 0 0] (λL U a=>?_);refine ag ?_;refine a' a 0 (ar _) (λV a=>?_);refine an ?_;by_cases hk:m.k=2
   .have d:=hid (ate o hk);have C:aE ((ka ms _).length=n+1):=hid (by rw[d,c7,f];rfl);have g:=hid hk;clear hk;go_step;refine ah ?_;refine ag ?_;refine pl a 0 0 ?_;refine dp g (ai az) ?_;refine an ?_;go_step;refine ah ?_;refine v2 ?_;refine e7 a #[J R (j:Int)] 3 (λK W a=>?_);refine jV (m:=1) a 2 8 (aX.cellsOf (m:=1) (a.aW 0) aa) (by intro u v;simp only[gy,fQ,or_false]at v;subst v;rfl) (λG N X a=>?_) (hby:=by omega);refine ag ?_;refine an ?_;go_step;refine ah ?_;refine pad _ 1 ((j+1:Nat):Int) ?_;refine ag ?_;refine an ?_;go_wp2_with fail;go_roundw;case rel=>exact⟨_,_,_,_,ad,C,ad,aa,aa,by rw[d,fP];exact a.pick [2]⟩
    case measure=>grind[c5]
   .have d:=hid (atd o hk);have g:=hid hk;clear hk;go_step;refine ah ?_;refine ag ?_;refine pl a 0 0 ?_;refine dp g (ai ao) ?_;refine an ?_;go_step;refine ah ?_;refine pad _ 1 ((j+1:Nat):Int) ?_;refine ag ?_;refine an ?_;go_wp2_with fail;go_roundw;case rel=>exact⟨j+1,n,_,_,ad,hid (by rw[d];exact f),ad,aa,aa,by rw[d];exact a.pick [1]⟩
    case measure=>grind[c5]
  .have F:¬(j:Int)<(ms.length:Int):=ad;obtain rfl:j=ms.length:=ad;go_step;refine ah ?_;refine a1 (ai ao) ?_;refine an ?_;go_step;refine ah ?_;refine v2 ?_;refine an ?_;go_wp2_with fail;go_ret;exact⟨aK,c2,by rw[f];rfl,by rw[f];exact a.fresh 0⟩
def anF A(c b)ms E F o w(l:cU w A ms)(eR:ms.length<=1000)(Z:E.length<=1048576)(hx:G.wX E (ms.map (·.n)) (ka ms ms.length) o [])(H:G.hA w F b ms.length E):
 aD ax 175 #[ar #[ae A ms.length c,ay (ab ⟨b,0,af⟩)]] w λe w'=>∃d f,e=aB (ae d o.length f)/\cf w w' (mK d o):=by
 have P:=hid l;have v:aE (∀W,av (λ_=>False) w W->aD _ _ _ W λe w'=>∃d f,e=aB _/\cf W w' _):=hid (λW g=>adP A c b ms W (l.aI g) eR)
 have t:aE (∀W gW ig fZ gu,av (λ_=>False) w W->dA W gW (ms.map (·.n))->dA W fZ _->aD ax 249 _ W λe w'=>∃d f,e=aB (bn #[ae d o.length f,ai az])/\cf W w' (mK d o)):=hid (λW gW ig fZ gu g z T=>by have RX:=z;have q:=G.anC b _ E F gW ig _ fZ gu _ W (G.hA.aI H g) z T aH (by grind[Nc]) Z o [] hx az aa;rw[hB]at q;refine q.mono λe w' hq=>?_;obtain⟨d,f,U,V,_,X,Y⟩:=hq;exact⟨d,f,U,afn Y V X⟩);have fY:=Nc ms ms.length;obtain⟨lt,I⟩:=ex (ka ms ms.length);rw[I]at v t fY;clear l hx I H;go_enter func175,ntmps175;have a:=a8 w;go_step;refine ah ?_;refine bL a (ar _) (λM w1 a=>?_);refine ag ?_;refine an ?_;go_step;refine ah ?_;refine ag ?_;refine an ?_;replace a:=a.new (ba _ 0 0 3 1 []) ⟨av.refl _ _,Row.nil _ _ _ _,λb ⟨_,_,e⟩=>aH⟩;go_step;refine ah ?_;refine ag ?_;refine pl a 1 0 ?_;refine v2 ?_;refine an ?_;have x:=a.pk [0,1];go_wp2_with fail;go_loopw [3,11] (λL r wr=>∃(j:Nat) (aK:Option bT) (c2:Nat),j<=ms.length/\L=ae aK j c2/\r=J R (j:Int)/\ak w (λ_=>False) wr [ba aK j c2 3 1 (((ms.take j).map (·.n)).map (J R)),aj M #[ae A ms.length c,ay (ab ⟨b,0,af⟩)] 181]) (λL r wr=>ms.length -(c5 r).toNat);case atStart=>exact⟨0,_,0,cC _,aa,aa,x⟩
 case round=>
  clear a x;obtain⟨j,aK,c2,hj,rfl,rfl,a⟩:=hrel;by_cases hlt:j<ms.length
  .have cb:(j:Int)<(ms.length:Int):=ad;obtain⟨m,p⟩:∃m,ms[j]?=ab m:=⟨_,cE hlt⟩;obtain⟨y,bN,aV,aY,B,C,D⟩:=cU.jb P p;have N:=hid B;have iz:=hid C;have O:=hid D;have Q:=hid p;clear B C D p;have S:aE ((ms.take _).map (·.n)=(ms.take j).map _++[m.n]):=hid (by rw[gq,Q,Cj,fP];rfl);go_step;refine ah ?_;refine a1 (ai az) ?_;refine an ?_;go_step;refine ah ?_;refine aG _ (b4 24 73 5 _ _ aa ee aw y bN _ c j _ (by show ae A _ _=_;rw[N]) aa hlt aa) ?_;refine aG _ (by(refine eW 73 _ aa y _ aa _ (O _ a.only) fO aa aw)) ?_;refine bl a #[J _ 0,J _ 0,J _ 0,J _ 0,ae _ 0 0] (λen aT a=>?_);refine a' a 0 (ar _) (λbF a=>?_);refine an ?_;go_step;refine ah ?_;refine v2 ?_;refine pl a 0 3 ?_;refine e7 a #[J R m.n] 3 (λOM b8 a=>?_);refine jV (m:=1) a 2 8 (aX.cellsOf (m:=1) (a.aW 0) aa) (by intro u K;simp only[gy,fQ,or_false]at K;subst K;rfl) (λJ9 LN cA a=>?_) (hby:=by omega);refine ag ?_;refine an ?_;go_step;refine ah ?_;refine pad _ 1 ((j+1:Nat):Int) ?_;refine ag ?_;refine an ?_;go_wp2_with fail;go_roundw;case rel=>exact⟨_,_,_,ad,aa,aa,by rw[S,fP];exact a.pick [2,3]⟩
   case measure=>grind[c5]
  .have cb:¬(j:Int)<(ms.length:Int):=ad;obtain rfl:j=ms.length:=ad;rw[lp]at a;go_step;refine ah ?_;refine a1 (ai ao) ?_;refine an ?_;go_step;refine cy ?_;refine bR a [4,5] (λi u=>match i with|4=>ae u.A lt.length u.c|5=>bn #[ae u.A o.length u.c,ai az]|_=>a7) (λh=>λ|4=>ba ((h 4).A) lt.length ((h 4).c) 3 1 (lt.map (J R))|5=>mK (h 5).A o|_=>emp) (λ_=>[]) (λ|1=>[1]|3=>[1]|5=>[0,6]|_=>[]) (λ|4=>[4]|5=>[5]|_=>[]) [0,1,6,7] (λh=>?_);refine aJ ?_;refine dl 0 1 ?_;refine aJ ?_;refine eM 0 #[ae A ms.length c,ay (ab ⟨b,0,af⟩)] ?_;refine di (λs Fr a=>(v s a.only).mono ?_) ?_;·rintro e dr ⟨d,f,rfl,k⟩;exact⟨{A:=d,c:=f},aa,a.new _ k⟩
   refine di (λs Fr a=>(t s aK c2 _ _ a.only (Row.NY (a.atR 0)) (Row.NY (a.atR 1))).mono ?_) ?_;·rintro e dr ⟨d,f,rfl,k⟩;exact⟨{A:=d,c:=f},aa,a.new _ k⟩
   refine oz ?_;refine bW λcR a=>?_;generalize (h 4).A=ahu at a⊢;generalize (h 4).c=anf at a⊢;generalize (h 5).A=Ka at a⊢;generalize (h 5).c=LP at a⊢;go_step;refine ah ?_;refine v2 ?_;refine an ?_;go_wp2_with fail;go_ret;exact⟨_,⟨_,aa⟩,a.fresh 3⟩
def anV{ms S}(hv:Gs ms)(a:S.Perm (iN (ms.map ck))):(s6 ms S).length<=1000000:=by have h1:=LF ms.length (my ms S ms.length) [];have b:=Ry (ms:=ms) (S:=S) (by rw[a.length_eq,Az,hB]) ms.length;have c:=QU hv.dM hv.dM;simp only[mq]at h1;unfold s6;omega
structure Conv (ms:List bO) (S:List jO) (o od:List Int):Prop where
 ok:Gs ms
 perm:S.Perm (iN (ms.map ck))
 nG:j0 S
 ch:G.wX (s6 ms S) (ms.map (·.n)) (ka ms ms.length) o []
 ord:G.oH (s6 ms S) ms.length (ka ms ms.length++o) od
 all:G.nN ms.length (ka ms ms.length++o) od=[]
 RS:o.length<=1048576
def anS A c ms S(o od)w(r:cU w A ms)(hc:Conv ms S o od):
 aD ax 88 #[ae A ms.length c] w λe w'=>∃b k n C U,e=aB (ar #[ae A ms.length c,ay (ab ⟨b,0,af⟩),ae k o.length n,ae C od.length U])/\cf w w' (bP [mK k o,mK C od]):=by
 have N:=hc.ok.dM;have cK:=hid r;have c6:=hid hc;have I:aE (∀b W,av (λ_=>False) w W->aD _ _ _ W λe w'=>∃f j,e=aB _/\cf W w' _):=hid (λb W g=>adP A c b ms W (r.aI g) N);have D:aE (∀W,av (λ_=>False) w W->aD _ 91 _ W λe w'=>∃b F,e=aB _/\cf W w' (xa F b _ (s6 ms S))):=hid (λW g=>(anx A c ms W (r.aI g) hc.ok).mono λe w' ⟨b,F,Q2,h1,x,V,y⟩=>⟨b,F,V,by rw[aqb (hc.perm.trans h1.symm) hc.nG x];exact y⟩);have fN:=anV hc.ok hc.perm;have H:aE (∀W b F,av (λ_=>False) w W->(xa F b _ _).p W->aD _ _ _ W λe w'=>∃f j,e=aB _/\cf W w' _):=hid (λW b F g hg=>anF A c b ms _ F o W (r.aI g) N ad hc.ch hg)
 have t:aE (∀W b F s cs,(xa F b ms.length (s6 ms S)).p W->dA W s _->aD ax 176 _ W λe w'=>∃f j,e=aB (bn #[ae f od.length j,ai az])/\cf W w' (mK f od)):=hid (λW b F s cs h1 x=>by have z:=Nc ms ms.length;have L:=hc.RS;have q:=G.aut b _ _ F s cs _ W h1 x aH ad od hc.ord az (by rw[hc.all];rfl);rw[c7]at q;refine q.mono λe w' hq=>?_;obtain⟨f,j,y,X,Y,Z⟩:=hq;exact⟨f,j,y,afn Z X Y⟩);have z:=Nc ms ms.length;have L:=hc.RS;obtain⟨lt,M⟩:=ex (ka ms ms.length);rw[M]at I t z;have Q:aE ((lt.length+o.length)*8<=140737488355328):=hid ad;obtain⟨E,K⟩:=ex (s6 ms S);rw[K]at D H t;clear r M K fN z L hc;go_enter func88,ntmps88;have a:=a8 w;go_step;refine ah ?_;refine bl a #[ae _ 0 0,ay _,ae _ 0 0,ae _ 0 0] (λcp w1 a=>?_);refine gV ?_;refine aR (D.out _ a.only) ?_;rintro e aT ⟨b,F,rfl,l⟩;replace a:=a.new _ l;refine aU ?_;refine v2 ?_;refine bl a #[ae _ 0 0,ay _,ae _ 0 0,ae _ 0 0] (λP bF a=>?_);refine a' a 0 (ar _) (λb8 a=>?_);refine b5 ?_;refine bh a 0 #[ae A ms.length c,ay (ab ⟨b,0,af⟩)] ?_;refine aR (H _ b F a.only (a.at 1)) ?_;rintro e cA ⟨k,n,rfl,l⟩;replace a:=a.new _ l;refine aU ?_;refine ag ?_;refine a' a 1 (ae k _ n) (λcR a=>?_);refine cy ?_;refine bR a [5,8,9,14] (λi u=>match i with|5=>ae u.A lt.length u.c|8=>ae u.A (lt.length+o.length) u.c|9=>bn #[ae u.A od.length u.c,ai az]|_=>a7) (λd=>λ|5=>ba ((d 5).A) lt.length ((d 5).c) 3 1 (lt.map (J R))|8=>ba ((d 8).A) (lt.length+o.length) ((d 8).c) 3 1 ((lt.map (J R))++(o.map (J R)))|9=>mK (d 9).A od|14=>aj P #[ae A ms.length c,ay (ab ⟨b,0,af⟩),ae k o.length n,ae (d 9).A od.length (d 9).c] 183|_=>emp) (λ|8=>[9]|14=>[1]|_=>[]) (λ|2=>[1]|4=>[1]|7=>[1]|8=>[0]|9=>[2,12]|_=>[]) (λ|5=>[5]|8=>[8]|9=>[9]|14=>[9]|_=>[]) [0,2,3,12,13,18] (λd=>?_);refine bG ?_;refine dl 0 1 ?_;refine aJ ?_;refine eM 0 #[ae A ms.length c,ay (ab ⟨b,0,af⟩)] ?_;refine di (λB Fr a=>(I b B a.only).mono ?_) ?_;·rintro e dr ⟨f,j,rfl,l⟩;exact⟨{A:=f,c:=j},aa,a.new _ l⟩
 refine aJ ?_;refine dl 0 2 ?_;refine ri (m:=_) 8 (λ_ _ a=>dA.cells (a.at 1)) (TQ o) ?_ (hby:=Q);refine di (λB Fr a=>(t B b F _ _ (a.at 0) (by have h:=a.atR 1;rw[<-fP]at h;exact Row.NY h)).mono ?_) ?_;·rintro e dr ⟨f,j,rfl,l⟩;exact⟨{A:=f,c:=j},aa,a.new _ l⟩
 refine hW ?_;refine fS _ ?_;refine bW λdz a=>?_;generalize (d 5).A=J9 at a⊢;generalize (d 5).c=LN at a⊢;generalize (d 8).A=Ot at a⊢;generalize (d 8).c=Ri at a⊢;generalize (d 9).A=O at a⊢;generalize (d 9).c=T at a⊢;refine ah ?_;refine bh a 5 #[ae A ms.length c,ay (ab ⟨b,0,af⟩),ae k o.length n,ae O od.length T] ?_;refine a' a 2 (ar _) (λdv a=>?_);refine an ?_;go_wp2_with fail;refine c' (v:=_) (results_cell_row aa _ _ _ _ _ _ _ aa (a.aW 2) underlying183 aa aw) aa (⟨b,k,n,_,_,aa,((a.pick (l':=[mK k o,mK _ od]) [0,4]).fh 2).fresh 0⟩)
abbrev jY:=bO×Option bT×Nat
theorem Hu(L:List jY):(cD L).length=L.length*5:=by
 induction L with
 |nil=>rfl
 |cons x L a=>show((([J R x.1.k,J R x.1.to,J R x.1.fr,J R x.1.n,ae x.2.1 x.1.data.length x.2.2]:List aP):List aP)++cD L).length=_;rw[c7,a];simp;omega
def EB(L a:List jY):cD (L++a)=cD L++cD a:=List.flatMap_append
def Rt(x:jY):cD [x]=([J R x.1.k,J R x.1.to,J R x.1.fr,J R x.1.n,ae x.2.1 x.1.data.length x.2.2]:List aP):=rfl
def anP(L:List jY)j x(hx:L[j]?=ab x):cD L=cD (L.take j)++(([J R x.1.k,J R x.1.to,J R x.1.fr,J R x.1.n,ae x.2.1 x.1.data.length x.2.2]:List aP)++cD (L.drop (j+1))):=by obtain⟨a,hx⟩:=eJ.1 hx;rw[<-Rt,<-EB,<-EB];congr 1;subst hx;simp
def anM(L:List jY)j x(hx:L[j]?=ab x):∀(i) v,(([J R x.1.k,J R x.1.to,J R x.1.fr,J R x.1.n,ae x.2.1 x.1.data.length x.2.2]:List aP):List aP)[i]?=ab v->(cD L)[j*5+i]?=ab v:=λi v hv=>by
 have b:=(eJ.1 hx).1;have hi:i<5:=(eJ.1 hv).1;have a:(cD (L.take j)).length=j*5:=by grind[Hu]
 rw[anP L j x hx,pn ad,a,show j*5+i -j*5=i by omega,tQ ad];exact hv
def yJ(L:List jY)(p:jY->Bool):Int:=match L.findIdx? p with|some k=>(k:Int)|none=>-1
def anO A (c g:Nat) lb (L:List jY) p w (cv:L.length<=1073741824) (hr:Row 0 w A L.length c 73 5 (cD L)) (s:∀args w,(kB g args).run ax w=bf (.enter g args) w)
 (hp:∀x W,x∈L->au w W->aD ax g (#[ar #[J R x.1.k,J R x.1.to,J R x.1.fr,J R x.1.n,ae x.2.1 x.1.data.length x.2.2]]++lb) W λe w'=>e=aB (ai (p x))/\au W w'):
 aD ax 191 #[ae A L.length c,dI (ed g) #[] lb] w λe w'=>e=aB (J R (yJ L p))/\au w w':=by
 have G:=hr;obtain⟨hlen,_⟩:=G;have B:=hid s;have C:=hid hp;have r:aE (∀W,au w W->Row 0 W A L.length c 73 5 (cD L)):=hid (λW g=>I8 hr g);clear hr s hp hlen;go_enter func191,ntmps191;have a:=a8 w;go_step;refine ah ?_;refine ag ?_;refine ah ?_;refine v3 ?_;refine an ?_;go_wp2_with fail;go_loopw [8] (λl wr=>∃j:Nat,j<=L.length/\l=J R (j:Int)/\(∀(i:Nat) (x:jY),i<j->L[i]?=ab x->p x=ao)/\ak w (λ_=>False) wr []) (λl wr=>L.length -(c5 l).toNat);case atStart=>grind
 case round=>
  clear a;obtain⟨j,I,rfl,u,a⟩:=hrel;by_cases hlt:j<L.length
  .have F:(j:Int)<(L.length:Int):=ad;obtain⟨x,hx⟩:∃x,L[j]?=ab x:=⟨_,cE hlt⟩;obtain⟨d,cur,t,E,_,_,_,_⟩:=(r.out _ a.only).blk ad;obtain⟨jf,z⟩:=ex (p x);have H:=cX hx;have D:=hid (anM L j x hx);have q:=hid hx;have b:=hid z;have o:=hid u;have m:=hid t;clear hx z u E t;go_step;refine ah ?_;refine ag ?_;refine ah ?_;refine v2 ?_;refine jk ?_;refine aG (ay (ab ⟨d,(j*5),af⟩)) (b4 24 73 5 (bj 12) (bj 13) aa ee aw d 0 (L.length) c j ((j*5)) (by show ae A _ _=_;rw[m]) aa hlt ad) ?_;refine aG _ (by(refine eW 73 _ aa d _ aa _ (Row.range (r _ a.only) m (λi v hi=>D i v hi)) fO aa aw)) ?_;refine bC ((by have h:=C.out x _ H a.only;rw[b.out]at h;exact h)) a (λw1 a=>?_) (hr:=by(go_simp;exact B _ _));refine an ?_;cases jf with
   |true=>
    refine ah ?_;refine dU ?_;go_wp2_with fail;go_ret;exact⟨by rw[show yJ L p=(j:Int)from by unfold yJ;rw[show L.findIdx? p=ab j from Mc q b o]];rfl,a.only⟩
   |false=>
    refine ah ?_;refine pad (j:Int) 1 ((j+1:Nat):Int) ?_;refine bX ?_;go_wp2_with fail;go_roundw;case rel=>exact⟨j+1,ad,rfl,λi y hi f=>by rcases Nat.lt_succ_iff_lt_or_eq.1 hi with h|rfl;exact o i y h f;rw[q]at f;cases f;exact b,a⟩
    case measure=>simp[c5]<;>omega
  .have F:¬(j:Int)<(L.length:Int):=ad;obtain rfl:j=L.length:=ad;go_step;refine ah ?_;refine ag ?_;refine ah ?_;refine ag ?_;refine an ?_;go_wp2_with fail;go_ret;exact⟨by rw[show yJ L p=-1 from by grind[yJ,Mb]];rfl,a.only⟩
def anN A (c g:Nat) lb (L:List jY) (p:jY->Bool) w (cv:L.length<=1073741824) (hr:Row 0 w A L.length c 73 5 (cD L)) (B:∀args w,(kB g args).run ax w=bf (.enter g args) w)
 (hp:∀x W,x∈L->av (eh A) w W->aD ax g (#[ar #[J R x.1.k,J R x.1.to,J R x.1.fr,J R x.1.n,ae x.2.1 x.1.data.length x.2.2]]++lb) W λe w'=>e=aB (ai (p x))/\au W w'):
 aD ax 104 #[ae A L.length c,dI (ed g) #[] lb] w λe w'=>∃P,e=aB (ae P (L.filter (λx=>!p x)).length c)/\Turned w w' (ba A L.length c 73 5 (cD L)) (ba P (L.filter (λx=>!p x)).length c 73 5 (cD (L.filter (λx=>!p x)))):=by
 have U:=hid B;have D:0<L.length->_:=λh=>hr.blk h;obtain⟨N,K⟩:=ex (yJ L p);have X:aE (∀W,av (eh A) w W->Row 0 W A L.length c 73 5 (cD L)->aD ax 191 #[ae A L.length c,dI (ed g) #[] lb] W λe w'=>e=aB (J R N)/\au W w'):=hid (λW o h=>by have q:=anO A c g lb L p W cv h B (λx fg hx g2=>hp x fg hx (o.trans g2.to (λ_ _ h=>h)));rw[K]at q;exact q);have Y:=hid hp;have hr1:=hid hr;have IA:=hid (λb (hb:eh A b)=>(Row.lt hr hb).2);by_cases C4:N=-1;clear B hp
 .subst C4;have hno:L.filter (λx=>!p x)=L:=by grind[z',yJ]
  rw[hno];clear hno K D hr;go_enter Tryz.func104,Tryz.ntmps104;have a:=ak.start (t:=ba A L.length c 73 5 (cD L)) ⟨hr1,IA⟩;go_step;refine ah ?_;refine kg ?_;refine bC (X.out _ a.only (a.at 0)) a (λw1 a=>?_);refine cB ?_;refine pk (ai az) ?_;refine ah ?_;refine dU ?_;go_wp2_with fail;go_ret;exact⟨A,aa,a.gl 0⟩
 .obtain⟨d,qn⟩:∃d,L.findIdx? p=ab d:=by grind[yJ]
  have Sv:N=(d:Int):=by grind[yJ]
  subst Sv;obtain⟨jC,uz,hb1⟩:=List.findIdx?_eq_some_iff_getElem.1 qn;obtain⟨G,cur,rfl,k2,j9,hcm,hcs,E⟩:=D ad;have arE:¬(d:Int)=-1:=ad;have Sr:(L.take d).filter (λx=>!p x)=L.take d:=by grind[z',p9]
  have hx1:L[d]?=ab L[d]:=cE jC
  have hst:∃f fD,cur=(cD ((L.take (d+1)).filter (λx=>!p x))++(f++(cD (L.drop (d+1))++fD))).toArray/\f.length=5/\((L.take (d+1)).filter (λx=>!p x)).length=d:=by
   have bE:(L.take (d+1)).filter (λx=>!p x)=L.take d:=by grind[gq]
   refine⟨cD [L[d]],cur.toList.drop (L.length*5),?_,bc,aH⟩;rw[bE,<-kD,<-kD,<-EB,<-EB,show L.take d++[L[d]]++L.drop _=L by simp,<-E,oa]
  obtain⟨f,fD,H2,fU,l⟩:=hst;have aqt:∀b,eh (ab (⟨G,0,af⟩:bT)) b->b=G:=λb ⟨off,sp,e⟩=>by grind
  have hsz:cur.size=c*5:=hcs;have k6:fD.length+L.length*5=c*5:=by grind[Hu]
  have Qs:=hid k6;have r:=hid j9;have Q:=hid hcm;have q2:=hid hsz;have oB:=hid H2;have BY:=hid E;have lg:=hid k2;clear k6 K qn hb1 Sr uz hx1 j9 hcm hcs E D hr k2 hsz H2;go_enter Tryz.func104,Tryz.ntmps104;have a:ak w (eh (ab (⟨G,0,af⟩:bT))) w [aj G cur 73]:=(ak.start (t:=ba (ab (⟨G,0,af⟩:bT)) L.length c 73 5 (cD L)) ⟨hr1,IA⟩).as 0 aa _ (λ_=>lg) (λb hb=>⟨0,af,by rw[show b=G from hb]⟩);go_step;refine ah ?_;refine kg ?_;refine bC (X.out _ a.only (by have h:=Jh (n:=L.length) (a.aW 0) r Q q2;rw[show cur.toList.take (L.length*5)=cD L from BY]at h;exact h)) a (λaT a=>?_);refine cB ?_;refine a1 (ai ao) ?_;refine b5 ?_;refine pad (d:Int) 1 ((d+1:Nat):Int) ?_;refine bX ?_;have bJ:=a;rw[oB]at a;go_wp2_with fail;go_loopw [5,6] (λaO O wr=>∃(i j:Nat) (f:List aP),i<j/\j<=L.length/\aO=J R (i:Int)/\O=J R (j:Int)/\((L.take j).filter (λx=>!p x)).length=i/\f.length+i*5=j*5/\ak w (eh (ab (⟨G,0,af⟩:bT))) wr [aj G (cD ((L.take j).filter (λx=>!p x))++(f++(cD (L.drop j)++fD))).toArray 73]) (λaO O wr=>L.length -(c5 O).toNat);case atStart=>exact⟨d,d+1,_,ad,ad,aa,aa,l,ad,a⟩
  case round=>
   clear a bJ l fU;obtain⟨i,j,f,je,hj,rfl,rfl,l,fU,a⟩:=hrel;by_cases hlt:j<L.length
   .have cb:(j:Int)<(L.length:Int):=ad;obtain⟨x,hx⟩:∃x,L[j]?=ab x:=⟨_,cE hlt⟩;have mC:=cX hx;obtain⟨jf,oZ⟩:=ex (p x);have hdr:cD (L.drop j)=([J R x.1.k,J R x.1.to,J R x.1.fr,J R x.1.n,ae x.2.1 x.1.data.length x.2.2]:List aP)++cD (L.drop (j+1)):=by rw[<-Rt,<-EB];congr 1;obtain⟨h1,rfl⟩:=eJ.1 hx;simp
    obtain⟨pre,M⟩:=ex (cD ((L.take j).filter (λx=>!p x)));have SU:pre.length=i*5:=by grind[Hu]
    obtain⟨eM,I⟩:=ex (cD (L.drop (j+1)));rw[hdr,M,I]at a
    have xo:∀(k:Nat) (v:aP),(([J R x.1.k,J R x.1.to,J R x.1.fr,J R x.1.n,ae x.2.1 x.1.data.length x.2.2]:List aP):List aP)[k]?=ab v->(pre++(f++(([J R x.1.k,J R x.1.to,J R x.1.fr,J R x.1.n,ae x.2.1 x.1.data.length x.2.2]:List aP)++eM++fD)))[j*5+k]?=ab v:=λk v hk=>by have ara:k<5:=(eJ.1 hk).1;rw[pn ad,pn ad,kD,tQ (by show _<5;omega),show j*5+k -pre.length -f.length=k by omega];exact hk
    have Z:=hid SU;have pf:=hid xo;have u:=hid hx;have s:=hid oZ;have wS:=hid M;have T:=hid I;have m:=hid l;have akt:=hid hdr;clear hx oZ M I hdr xo l;go_step;refine ah ?_;refine v4 ?_;refine gV ?_;refine aG (ay (ab ⟨G,(j*5),af⟩)) (b4 24 73 5 (bj 22) (bj 23) aa ee aw G 0 (L.length) c j ((j*5)) aa aa hlt ad) ?_;refine aG _ (by(refine eW 73 _ aa G (j*5) aa _ ((a.aW 0).rangeAt (j*5) _ (λk v hk=>by rw[List.getElem?_toArray];exact pf k v hk)) fO aa aw)) ?_;refine bl a #[J R 0,J R 0,J R 0,J R 0,ae af 0 0] (λfl bF a=>?_);refine a' a 0 (ar #[J R x.1.k,J R x.1.to,J R x.1.fr,J R x.1.n,ae x.2.1 x.1.data.length x.2.2]) (λb8 a=>?_);refine an ?_;cases jf with
    |true=>
     refine b5 ?_;refine bh a 0 #[J R x.1.k,J R x.1.to,J R x.1.fr,J R x.1.n,ae x.2.1 x.1.data.length x.2.2] ?_;refine bC ((by have h:=Y.out x _ mC a.only;rw[s.out]at h;exact h)) a (λcA a=>?_) (hr:=by(first|(go_simp;done)|(go_simp;exact U.out _ _)));refine cB ?_;refine pad (j:Int) 1 ((j+1:Nat):Int) ?_;refine bX ?_;go_wp2_with fail;go_roundw;case rel=>exact⟨i,j+1,f++([J R _,J R _,J R _,J R x.1.n,ae _ _ x.2.2]:List _),ad,ad,aa,aa,by rw[show(L.take _).filter (λx=>!p x)=(L.take j).filter (λx=>!p x)from by rw[gq,u,sT];simp[s.out]];exact m,by rw[c7];show f.length+5+_=_;omega,by rw[show(L.take _).filter (λx=>!p x)=(L.take j).filter (λx=>!p x)from by rw[gq,u,sT];simp[s.out],wS.out,T.out];have h:ak _ _ _ [aj G (pre++(f++(([J R x.1.k,J R x.1.to,J R x.1.fr,J R x.1.n,ae x.2.1 x.1.data.length x.2.2]:List aP)++eM++fD))).toArray 73]:=a.pick [1];simpa using h⟩
     case measure=>simp[c5]<;>omega
    |false=>
     refine b5 ?_;refine bh a 0 #[J R x.1.k,J R x.1.to,J R x.1.fr,J R x.1.n,ae x.2.1 x.1.data.length x.2.2] ?_;refine bC ((by have h:=Y.out x _ mC a.only;rw[s.out]at h;exact h)) a (λcR a=>?_) (hr:=by(first|(go_simp;done)|(go_simp;exact U.out _ _)));refine kg ?_;refine bh a 0 #[J R x.1.k,J R x.1.to,J R x.1.fr,J R x.1.n,ae x.2.1 x.1.data.length x.2.2] ?_;refine aG _ (b4 24 73 5 _ _ aa ee aw G 0 _ c i ((i*5)) aa aa ad ad) ?_;refine NG a 1 (F9 (cs':=(pre++(([J R x.1.k,J R x.1.to,J R x.1.fr,J R x.1.n,ae x.2.1 x.1.data.length x.2.2]:List aP)++(f++(([J R x.1.k,J R x.1.to,J R x.1.fr,J R x.1.n,ae x.2.1 x.1.data.length x.2.2]:List aP)++eM++fD)).drop 5)).toArray) (ar #[J R x.1.k,J R x.1.to,J R x.1.fr,J R x.1.n,ae x.2.1 x.1.data.length x.2.2]) aa aa aa (a.aW 1) (by show i*5+5<=_;rw[iK,c7,c7,c7,c7,Z];show _<=_+(_+(5+_+_));omega) aw aw (by have e:=zb ([J R x.1.k,J R x.1.to,J R x.1.fr,J R x.1.n,ae x.2.1 x.1.data.length x.2.2]:List aP) pre (f++(([J R x.1.k,J R x.1.to,J R x.1.fr,J R x.1.n,ae x.2.1 x.1.data.length x.2.2]:List aP)++eM++fD)) (by rw[c7,c7,c7];show 5<=_+(5+_+_);omega);rw[Z]at e;exact e)) (λdz a=>?_);refine b5 ?_;refine pad (i:Int) 1 ((i+1:Nat):Int) ?_;refine cB ?_;refine pad (j:Int) 1 ((j+1:Nat):Int) ?_;refine bX ?_;go_wp2_with fail;go_roundw;case rel=>exact⟨i+1,j+1,(f++([J R x.1.k,J R x.1.to,J R x.1.fr,J R x.1.n,ae x.2.1 x.1.data.length x.2.2]:List aP)).drop 5,ad,ad,aa,aa,by rw[(show(L.take _).filter (λx=>!p x)=(L.take j).filter (λx=>!p x)++[x]from by rw[gq,u,sT];simp[s.out]),c7,m];rfl,by rw[tS,c7];show f.length+5 -5+_=_;omega,by rw[(show(L.take _).filter (λx=>!p x)=(L.take j).filter (λx=>!p x)++[x]from by rw[gq,u,sT];simp[s.out]),EB,wS,Rt,T];have h:ak _ _ _ [aj G (pre++(([J R x.1.k,J R x.1.to,J R x.1.fr,J R x.1.n,ae x.2.1 x.1.data.length x.2.2]:List aP)++(f++(([J R x.1.k,J R x.1.to,J R x.1.fr,J R x.1.n,ae x.2.1 x.1.data.length x.2.2]:List aP)++eM++fD)).drop 5)).toArray 73]:=a.pick [1];rw[show pre++(([J R x.1.k,J R x.1.to,J R x.1.fr,J R x.1.n,ae x.2.1 x.1.data.length x.2.2]:List aP)++(f++(([J R x.1.k,J R x.1.to,J R x.1.fr,J R x.1.n,ae x.2.1 x.1.data.length x.2.2]:List aP)++eM++fD)).drop 5)=pre++([J R x.1.k,J R x.1.to,J R x.1.fr,J R x.1.n,ae x.2.1 x.1.data.length x.2.2]:List aP)++((f++([J R x.1.k,J R x.1.to,J R x.1.fr,J R x.1.n,ae x.2.1 x.1.data.length x.2.2]:List aP)).drop 5++(eM++fD))from by rw[kD,kD,<-kD f,List.drop_append_of_le_length (by rw[c7];show 5<=_+5;omega)]]at h;exact h⟩
     case measure=>simp[c5]<;>omega
   .have cb:¬(j:Int)<(L.length:Int):=ad;obtain rfl:j=L.length:=ad;rw[lp]at a l;rw[List.drop_length]at a;have m:=hid l;clear l;go_step;refine ah ?_;refine v4 ?_;refine an ?_;obtain⟨cu,z⟩:=ex ((cD (L.filter (λx=>!p x))++(f++(cD []++fD))).toArray);have H3:cu.size=c*5:=by rw[<-z,iK,c7,c7,c7,Hu,m];have:=Qs.out;show _+(_+(0+_))=_;omega
    have hcut:cu.toList.take (i*5)=cD (L.filter (λx=>!p x)):=by rw[<-z,<-m,<-Hu];simp
    rw[z]at a;have S:=hid H3;have D4:=hid hcut;clear z H3 hcut;refine gV ?_;refine aG (ae (ab ⟨G,i*5,af⟩) (L.length -i) (c -i)) (af1 24 73 5 (bj 36) (bj 37) aa ee aw G L.length c i (L.length -i) aa aa ad r.out (by have:=r.out;omega)) ?_;refine aeH (C:=λy=>y.size=cu.size/\y.toList.take (i*5)=cu.toList.take (i*5)) a 0 (afA (sz:=5) aa bc ee bc bc aw ad (a.aW 0) (by rw[S];have:=r.out;omega)) (λhI y Si a=>?_);refine an ?_;obtain⟨F,H⟩:=Si;rw[D4]at H;rw[S]at F;replace a:ak _ _ _ [aj G y 73]:=a;have Qz:=hid F;have vm:=hid H;clear F H;refine gV ?_;refine aG (ae (ab (⟨G,0,af⟩:bT)) i c) (rF 24 73 5 (bj 39) (bj 40) aa ee aw (ab (⟨G,0,af⟩:bT)) L.length c i aa aa (by have:=r.out;omega)) ?_;refine bX ?_;have V:=a.uZ 0 i c 5 (cD (L.filter (λx=>!p x))) vm (by have:=r.out;omega) Q Qz;rw[<-m]at V;go_wp2_with fail;go_ret;exact⟨_,by rw[m.out];rfl,V.gl 0⟩
def nF(old:List Int)(ev:List Int)(i:Nat)(m:bO):bO:=if m.k=1/\(i:Int)∈ev then⟨2,m.to,0,0,(old.drop m.fr.toNat).take m.n.toNat⟩else m
def uY(old ev:List Int)(ms:List bO)(j:Nat):List bO:=ms.mapIdx (λi m=>if i<j then nF old ev i m else m)
def lU(old ev:List Int)(ms:List bO):List bO:=ms.mapIdx (nF old ev)
theorem axG(old ev)ms:uY old ev ms 0=ms:=by unfold uY;refine z8 λi=>?_;rw[List.getElem?_mapIdx];cases ms[i]?<;>simp
def axF(old ev)ms:uY old ev ms ms.length=lU old ev ms:=by unfold uY lU;refine z8 λi=>?_;grind
def agn(old ev)ms j:(uY old ev ms j).length=ms.length:=by simp[uY]
def agm{old ev ms j m}(h:ms[j]?=ab m):(uY old ev ms j)[j]?=ab m:=by grind[uY]
def UF{old ev ms j m}(h:ms[j]?=ab m):uY old ev ms (j+1)=(uY old ev ms j).set j (nF old ev j m):=by have a:=(eJ.1 h).1;refine z8 λi=>?_;grind[uY]
def afP{a:Type}{l:List a}{j x}(h:l[j]?=ab x):l.set j x=l:=by grind[List.set_getElem_self]
def aoh{aq w FX A n c}{l:List jY}{L}(h:ak aq FX w (CB A n c l::L)):ak aq FX w (ba A n c 73 5 (cD l)::gJ l::L):=by
 refine(h.as 0 aa (both (ba A n c 73 5 (cD l)) (gJ l)) (λa=>⟨a.1,a.2,λb hb d=>?_⟩) (λb hb=>hb)).fx;obtain⟨x,hx,o,f,d⟩:=d;obtain⟨k,m,hb⟩:=hb;obtain⟨_,cs,i⟩:=(a.2 x hx).2.1 b o f d;rcases a.1.2 with⟨e,_⟩|⟨g,cap,cur,e,_,j,_⟩;·grind
 .grind
def ak.aoY{aq w FX L}{l:List jY}{m A c}j(h:ak aq FX w (gJ l::cx A c m.data::L)):ak aq FX w (gJ (l.set j (m,A,c))::L):=by
 refine h.star.as 0 aa _ (λa x hx=>?_) (λb hb=>?_)
 .rcases alS hx with hx|rfl;·exact a.1 x hx
  .exact a.2.1
 .obtain⟨x,hx,hb⟩:=hb;rcases alS hx with hx|rfl;·exact b1 ⟨x,hx,hb⟩
  .exact cm hb
def Zq:∀{l:List jY} {j x},j<l.length->cD (l.set j x)=(cD l).take (j*5)++(jt x.1 x.2.1 x.2.2++(cD l).drop (j*5+5))
 |[],_,_,h=>absurd h (Nat.not_lt_zero _)
 |y::l,0,x,_=>aa
 |y::l,j+1,x,h=>by have b:=Zq (l:=l) (j:=j) (x:=x) aH;have bE:∀(a:jY) (k:List jY),cD (a::k)=jt a.1 a.2.1 a.2.2++cD k:=λ_ _=>aa;have cr:(jt y.1 y.2.1 y.2.2).length=5:=rfl;have t1:(jt y.1 y.2.1 y.2.2).take (j*5+5)=jt y.1 y.2.1 y.2.2:=tU ad;have t2:(jt y.1 y.2.1 y.2.2).drop (j*5+5+5)=[]:=List.drop_eq_nil_of_le ad;rw[List.set_cons_succ,bE,bE,b,Ae,Yh,List.drop_append,cr,t1,t2,show j*5+5 -5=j*5 by omega,show j*5+5+5 -5=j*5+5 by omega,List.nil_append,kD]
def av2{P o}{a:Act}{w g n c j}{l:List jY}{x p q}(h:Row 0 w (ab ⟨g,0,af⟩) n c 73 5 (cD l))(C:j<n)(hn:l.length=n)(ho:o.op=.store 73 p q)(hx:a.eval p=ay (ab ⟨g,j*5,af⟩))(z:a.eval q=ar (jt x.1 x.2.1 x.2.2).toArray)(hi:(P.info? 73).map (·.size)=ab 5):
 ∃w',(execOp a.eval o).run P w=bf .skip w'/\Turned w w' (ba (ab ⟨g,0,af⟩) n c 73 5 (cD l)) (ba (ab ⟨g,0,af⟩) n c 73 5 (cD (l.set j x))):=by
 obtain⟨G,cur,t,y,m,hcm,hcs,u⟩:=h.blk ad;cases t;have D:j*5+5<=n*5:=ad;have E:n*5<=c*5:=Nat.mul_le_mul_right _ m;obtain⟨w',h1,f,s,A⟩:=NT (P:=P) (k:=j*5) (v:=ar (jt x.1 x.2.1 x.2.2).toArray) ho hx z y (by show j*5+5<=_;omega) (by rw[hi];rfl) aw;refine⟨w',h1,s.mono (G:=eh (ab ⟨g,0,af⟩)) (λi _ e=>⟨0,af,bg⟩),?_,λb hb=>?_⟩
 .have B:cur.toList.length=c*5:=ad;have d:(jt x.1 x.2.1 x.2.2).length=5:=rfl
  have e:lay cur (j*5) (jt x.1 x.2.1 x.2.2)=(cur.toList.take (j*5)++(jt x.1 x.2.1 x.2.2++(cur.toList.drop (j*5)).drop 5)).toArray:=by have q:=zb (jt x.1 x.2.1 x.2.2) (cur.toList.take (j*5)) (cur.toList.drop (j*5)) aH;rw[oa,po,Ci ad,d]at q;exact q
  have r:aX w' g (cur.toList.take (j*5)++(jt x.1 x.2.1 x.2.2++(cur.toList.drop (j*5)).drop 5)).toArray 73:=by rw[<-e];exact f
  have hr:=Jh (n:=n) (c:=c) (sz:=5) r m hcm aH
  have hx2:(cur.toList.take (j*5)++(jt x.1 x.2.1 x.2.2++(cur.toList.drop (j*5)).drop 5)).take (n*5)=cD (l.set j x):=by rw[Zq ad,<-u,Yh,po,Ci ad,alX,Yh,d,List.drop_drop,alX,List.drop_take,Nat.min_eq_right ad,Ci ad,tU (l:=jt x.1 x.2.1 x.2.2) ad];congr 2
  show Row 0 w' _ _ _ _ _ _;rw[<-hx2];exact hr
 .obtain⟨F,H,e⟩:=hb;cases e;exact⟨aX.lt f,b1 ⟨_,_,aa⟩⟩
def axH(s A E)(b0 c O)(old ev)n(g1 g2)ms w(hold:b2 w s old)(hc0:old.length<=b0)(gU:old.length<=1048576)(hl:cU w A ms)(eR:ms.length<=1000)(ql:∀m∈ms,m.data.length<=140737488355328)(kr:dA w E ev)(aA4:ev.length<=1048576)(lu:∀m∈ms,m.k=1->∃f q:Nat,m.fr=(f:Int)/\m.n=(q:Int)/\f+q<=old.length):
 aD ax 103 #[ae s old.length b0,eL (old.length:Int) n g1 g2 (ae A ms.length c),ae E ev.length O] w λe w'=>∃D F l,l.map (·.1)=lU old ev ms/\e=aB (bn #[eL (old.length:Int) n g1 g2 (ae D ms.length F),ai az])/\cf w w' (bP [ba D ms.length F 73 5 (cD l),gJ l]):=by
 have cK:=hid hl;have B3:=hid hold;have q1:=hid lu;have sN:=hid ql;have wR:aE (∀(j:Nat) W,au w W->aD ax 190 #[ae E ev.length O,J R (j:Int)] W λe w'=>e=aB (ai (decide ((j:Int)∈ev)))/\au W w'):=hid (λj W g=>(G.Hw E O ev (j:Int) W (kr.only g (λ_ _ _ h=>h)) ad).mono λ_ _ ⟨h1,h2⟩=>⟨h1,h2▸av.refl _ _⟩);clear hl hold lu kr ql;go_enter func103,ntmps103;have a:=a8 w;go_step;refine ah ?_;refine bL a (ar (bb (old.length:Int) n g1 g2 (ae A ms.length c))) (λY w1 a=>?_);refine bl a (bb 0 0 dq.zero dq.zero (ae af 0 0)) (λZ aT a=>?_);refine cB ?_;refine pl a 1 0 ?_ (hv:=kI);refine v2 ?_;refine aG (ai ao) (by(go_simp;try simp)) ?_;refine ah ?_;refine bh a 1 (bb (old.length:Int) n g1 g2 (ae A ms.length c)) ?_ (hv:=(e6 _)) (hk:=by omega) (hz:=(by rw[bH];rfl));refine ag ?_;refine pl a 1 66 ?_ (hv:=e');refine aR (JB _ n g1 g2 _ A c ms _ aa (cK.out.aI a.only) (dT eR aS) sN) ?_;rintro e bF ⟨aK,c2,bD,rfl,hF,kS⟩;replace a:=a.new _ hF;refine aU ?_;refine bl a (bb 0 0 dq.zero dq.zero (ae af 0 0)) (λep b8 a=>?_);refine a' a 0 (ar (bb (old.length:Int) n g1 g2 (ae aK ms.length c2))) (λcA a=>?_) (hk:=by show 0+gw (bb _ _ _ _ _)<=_;simp only[bH];decide) (hz:=by show _=ab (gw (bb _ _ _ _ _));rw[bH];rfl) (h1:=(sc aa)) (hc:=xr);refine an ?_;obtain⟨l,vQ,rfl⟩:=kS;replace a:=aoh (a.front 1);refine b5 ?_;refine pl a 4 66 ?_ (hv:=e');refine dU ?_;have bJ:=a.pk [0,1,2,3,4];go_wp2_with fail;go_loopw [26] (λU wr=>∃(j:Nat) (l:List jY),j<=ms.length/\U=J R (j:Int)/\aE (l.map (·.1)=uY old ev ms j)/\ak w (λ_=>False) wr [ba aK ms.length c2 73 5 (cD l),gJ l,aj ep (bb (old.length:Int) n g1 g2 (ae aK ms.length c2)) 26,aj Z (bb 0 0 dq.zero dq.zero (ae af 0 0)) 26,aj Y (bb (old.length:Int) n g1 g2 (ae A ms.length c)) 26]) (λU wr=>ms.length -(c5 U).toNat);case atStart=>exact⟨0,l,cC _,aa,hid (by grind[axG]),bJ⟩
 case round=>
  clear a bJ vQ;obtain⟨j,l,hj,rfl,p,a⟩:=hrel;by_cases hlt:j<ms.length
  .have cb:(j:Int)<(ms.length:Int):=ad;obtain⟨m,S⟩:∃m,ms[j]?=ab m:=⟨_,cE hlt⟩;obtain⟨y,B,o,r,bx,et,db⟩:=cU.jb cK S;have cq:=hid bx;have iz:=hid et;have K:=hid db;have t:=hid S;clear bx et db S;go_step;refine ah ?_;refine a1 (ai az) ?_;refine an ?_;by_cases hk:m.k=1
   .obtain⟨f,q,Q,T,CR⟩:=q1 m (cX t) hk;obtain⟨bs,P⟩:=ex ((old.drop f).take q);have hbl:q=bs.length:=by rw[<-P,po,tS];omega
    subst hbl;rw[hk,Q,T]at K;have rY:=hid P;have M:=hid (And.intro hk (And.intro Q T));clear hk Q T P;refine b5 ?_;refine aG (ay (ab ⟨y,(B+j*5),af⟩)) (b4 24 73 5 (bj 24) (bj 26) aa ee aw y B (ms.length) c j ((B+j*5)) (by show ae A _ _=_;rw[cq]) aa hlt aa) ?_;refine aG _ (by(refine eW 73 _ aa y _ aa _ (K _ a.only) fO aa aw)) ?_;refine bl a #[J R 0,J R 0,J R 0,J R 0,ae af 0 0] (λV cR a=>?_);refine ag ?_;refine a' a 0 (ar #[J R 1,J R m.to,J R (f:Int),J R (bs.length:Int),ae o m.data.length r]) (λdz a=>?_);refine ah ?_;refine bh a 0 #[J R 1,J R m.to,J R (f:Int),J R (bs.length:Int),ae o m.data.length r] ?_;refine bC (Bk m.to (f:Int) (bs.length:Int) o m.data.length r _) a (λdv a=>?_);refine v3 ?_;refine bl a #[J R 0,J R 0] (λX eU a=>?_);refine a' a 0 (ar #[J R (f:Int),J R (bs.length:Int)]) (λgF a=>?_);refine bX ?_;by_cases z:(j:Int)∈ev
    .have L:aE (decide ((j:Int)∈ev)=az):=hid (by simpa using z);have C:aE (nF old ev j m=⟨2,m.to,0,0,bs⟩):=hid (by rw[nF,if_pos ⟨M.1,z⟩,M.2.1,M.2.2];show(⟨2,m.to,0,0,(old.drop f).take bs.length⟩:bO)=_;rw[rY]);obtain⟨x,hx⟩:∃x,l[j]?=ab x:=⟨l[j]'(by have h:=congrArg q4 p;rw[hB,agn]at h;omega),cE _⟩;obtain⟨H,ta,_⟩:=(a.atR 2).cell (Cz hx 0 _ aa);subst ta;have gp:aE (l.length=ms.length):=hid (by have h:=congrArg q4 p;rwa [hB,agn]at h);clear z hx;refine o9 ?_;refine bC ((by have h:=wR.out j _ a.only;rw[L.out]at h;exact h)) a (λhI a=>?_);refine hX ?_;refine bR a [14,15,17] (λi u=>match i with|14=>ae (ab ⟨u.b,0,af⟩) 1 1|15=>ar #[J R 2,J R m.to,J R 0,J R 0,ae u.A bs.length u.c]|_=>a7) (λd=>λ|14=>aj ((d 14).b) #[ae (fK s b0 f 1) bs.length (b0 -f)] 22|15=>cx (d 15).A (d 15).c bs|17=>ba (ab ⟨H,0,af⟩) ms.length c2 73 5 (cD (l.set j (⟨2,m.to,0,0,bs⟩,(d 15).A,(d 15).c)))|_=>emp) (λ|17=>[2]|_=>[]) (λ|1=>[4]|4=>[1]|7=>[0]|9=>[0]|11=>[0]|15=>[21]|_=>[]) (λ|14=>[14]|15=>[15]|17=>[15]|_=>[]) [0,1,3,4,5,6,21,22,24] (λd=>?_);refine aJ ?_;refine dl 0 66 ?_ (hv:=e');refine bG ?_;refine dl 0 1 ?_;refine bG ?_;refine dl 0 0 ?_;refine aJ ?_;refine dl 0 0 ?_;refine aJ ?_;refine dl 0 1 ?_;refine aL _ (λ_ _ _=>mu 3 _ _ 3 aa _ _ ((f+bs.length:Nat):Int) aa aa ad ad ad) ?_;refine aL _ (λ_ _ _=>F7 22 5 1 _ _ _ aa dW aw s _ b0 f _ bs.length aa aa aa ad ad) ?_;refine kH _ 22 ?_;refine di (λwl Fr a=>((Tt m.to (d 14).b (fK s b0 f 1) (b0 -f) bs wl ((a.aW 0).cell 0 aa) (by have h:=(B3.out.aI a.only).win (i:=f) (q:=f+bs.length) (dT (b9 _) hc0) CR;rw[show f+bs.length -f=bs.length by omega,rY]at h;exact h) ad)).mono ?_) ?_;·rintro e dr ⟨D,F,rfl,kp,g⟩;exact⟨{A:=D,c:=F},aa,a.lR g kp⟩
     refine aL _ (λ_ _ _=>b4 24 73 5 _ _ aa ee aw H 0 _ c2 j ((j*5)) aa aa hlt ad) ?_;refine L3 (λ_ _ a=>av2 (x:=(⟨2,_,0,0,bs⟩,(d 15).A,(d 15).c)) (a.atR 0) hlt gp aa aa aa aw) ?_;refine bW λjK a=>?_;generalize (d 14).b=ahR at a⊢;generalize (d 15).A=I at a⊢;generalize (d 15).c=N at a⊢;replace a:=ak.aoY j (m:=⟨2,m.to,0,0,bs⟩) (a.pick (l':=[gJ l,cx I N bs,aj X #[J R (f:Int),J R (bs.length:Int)] 35,aj V #[J R 1,J R m.to,J R (f:Int),J R (bs.length:Int),ae o m.data.length r] 73,aj ep (bb (old.length:Int) n g1 g2 (ae (ab ⟨H,0,af⟩) ms.length c2)) 26,aj Z (bb 0 0 dq.zero dq.zero (ae af 0 0)) 26,aj Y (bb (old.length:Int) n g1 g2 (ae A ms.length c)) 26,aj ahR #[ae (fK s b0 f 1) bs.length (b0 -f)] 22,ba (ab ⟨H,0,af⟩) ms.length c2 73 5 (cD (l.set j (⟨2,m.to,0,0,bs⟩,I,N)))]) [2,7,0,1,3,4,5,6,8]);refine ah ?_;refine pad (j:Int) 1 ((j+1:Nat):Int) ?_;refine bX ?_;go_wp2_with fail;go_roundw;case rel=>exact⟨j+1,(l.set j (⟨2,_,0,0,bs⟩,I,N)),ad,aa,hid (by rw[List.map_set,p,UF t,C]),a.pick [7,0,3,4,5]⟩
     case measure=>simp[c5]<;>omega
    .have L:aE (decide ((j:Int)∈ev)=ao):=hid (by simpa using z);have C:aE (nF old ev j m=m):=hid (by rw[nF,if_neg (λh=>z h.2)]);clear z;refine o9 ?_;refine bC ((by have h:=wR.out j _ a.only;rw[L.out]at h;exact h)) a (λke a=>?_);refine dV ?_;refine pad (j:Int) 1 ((j+1:Nat):Int) ?_;refine bX ?_;go_wp2_with fail;go_roundw;case rel=>exact⟨j+1,l,ad,aa,hid (by rw[UF t,show nF _ ev j m=m from C,afP (agm t)];exact p),a.pick [2,3,4,5,6]⟩
     case measure=>simp[c5]<;>omega
   .have C:aE (nF old ev j m=m):=hid (by rw[nF,if_neg (λh=>hk h.1)]);refine b5 ?_;refine aG (ay (ab ⟨y,(B+j*5),af⟩)) (b4 24 73 5 (bj 24) (bj 26) aa ee aw y B (ms.length) c j ((B+j*5)) (by show ae A _ _=_;rw[cq]) aa hlt aa) ?_;refine aG _ (by(refine eW 73 _ aa y _ aa _ (K _ a.only) fO aa aw)) ?_;refine bl a #[J R 0,J R 0,J R 0,J R 0,ae af 0 0] (λV k9 a=>?_);refine ag ?_;refine a' a 0 (ar #[J R m.k,J R m.to,J R m.fr,J R m.n,ae o m.data.length r]) (λmj a=>?_);refine ah ?_;refine bh a 0 #[J R m.k,J R m.to,J R m.fr,J R m.n,ae o m.data.length r] ?_;refine bC (Bl m.k m.to m.fr m.n o m.data.length r _ hk) a (λnp a=>?_);refine v3 ?_;refine bl a #[J R 0,J R 0] (λX qH a=>?_);refine a' a 0 (ar #[J R 0,J R 0]) (λrJ a=>?_);refine kg ?_;iterate 3 refine ps ?_
    refine dV ?_;refine pad (j:Int) 1 ((j+1:Nat):Int) ?_;refine bX ?_;go_wp2_with fail;go_roundw;case rel=>exact⟨j+1,l,ad,aa,hid (by rw[UF t,show nF _ ev j m=m from C,afP (agm t)];exact p),a.pick [2,3,4,5,6]⟩
    case measure=>simp[c5]<;>omega
  .have cb:¬(j:Int)<(ms.length:Int):=ad;obtain rfl:j=ms.length:=ad;rw[axF]at p;go_step;refine ah ?_;refine a1 (ai ao) ?_;refine ah ?_;refine bh a 2 (bb (old.length:Int) n g1 g2 (ae aK ms.length c2)) ?_ (hv:=(e6 _)) (hk:=by omega) (hz:=(by rw[bH];rfl));refine a' a 3 (ar (bb (old.length:Int) n g1 g2 (ae aK ms.length c2))) (λu3 a=>?_) (hk:=by show 0+gw (bb _ _ _ _ _)<=_;simp only[bH];decide) (hz:=by show _=ab (gw (bb _ _ _ _ _));rw[bH];rfl) (h1:=(sc aa)) (hc:=xr);refine bX ?_;go_wp2_with fail;refine c' (v:=_) (mh aa aa aa (a.aW 3) aw (by rw[bH];rfl)) aa (⟨aK,c2,l,p,aa,((a.pick (l':=[ba aK ms.length c2 73 5 (cD l),gJ l]) [0,1]).fh 2).fresh 0⟩)
instance aBV:Inhabited bO:=⟨⟨0,0,0,0,[]⟩⟩
def rc(A:Option bT)(n sz:Nat)(xs:List aP):bq:=⟨λb=>0<n/\eh A b,λw=>Cells w sz A n xs,λw w' h d a=>⟨a.1,λhn=>by obtain⟨⟨eF,gC,c⟩,rfl,hc⟩:=a.2 hn;have hb:w'.heap[eF]?=w.heap[eF]?:=h eF ⟨hn,gC,c,aa⟩ (d eF ⟨hn,gC,c,aa⟩);grind[u7,DZ]⟩⟩
def oR(x:jY):List Value:=jt x.1 x.2.1 x.2.2
def LV(x y:jY):Int:=zC x.1.to y.1.to
theorem Ni(x y):GI LV x y=decide (x.1.to<y.1.to):=by grind[GI,LV,zC]
def axz:Sort.SWO (GI LV) where
 irrefl x:=by grind[Ni]
 trans x y z h1 h2:=by grind[Ni]
 ntrans x y z h1 h2:=by grind[Ni]
def axk(x y)W:aD ax 107 #[ar (oR x).toArray,ar (oR y).toArray] W λe w'=>e=aB (J R (zC x.1.to y.1.to))/\∃q b,w'=GJ (W.drewN q) b:=by have hcon:=λa=>Zc x.1.to y.1.to a;generalize zC x.1.to y.1.to=r at hcon⊢;unfold oR jt;go_enter func107,ntmps107;go_wp2_with (go_at_call 108;refine(hcon _).mono ?_;rintro e w' ⟨rfl,rfl⟩);go_ret;exact⟨aa,0,_,by rw[Pw,Pw,Sort.grow_grow];rfl⟩
def apj args w:(kB 107 args).run ax w=bf (.enter 107 args) w:=bc
def av.avh F w(blk off)d(hb:F blk):av F w (WW oR 5 w blk off d):=
 ⟨aa,aa,aa,by show w.heap.size<=(w.heap.modify blk _).size;rw[ahz];exact b9 _,λk _ hn=>by show(w.heap.modify blk _)[k]?=_;rw[Array.getElem?_modify,if_neg (λe:blk=k=>hn (e▸hb))]⟩
def ZO{l:List jY}{j c x}(hx:l[j]?=ab x){v}(hv:(oR x)[c]?=ab v):(cD l)[j*5+c]?=ab v:=Cz hx c v hv
def Row.arK{w g n c}{l:List jY}(h:Row 0 w (ab ⟨g,0,af⟩) n c 73 5 (cD l))(hn:l.length=n)(f:0<n):Pv oR 5 w g 0 l.toArray:=λt b=>by
 obtain⟨G,cur,d,i,_⟩:=h.blk f;cases d;rw[WX]at b;have j:t<l.length*5:=ad;have e:t/5<l.length:=ad;rw[WV oR 5 l.toArray t b,getElem!_pos l.toArray _ ad];refine⟨?_,by grind[World.frozen?]⟩;have hx:l[t/5]?=ab l[t/5]:=cE e;have a:t%5<(oR l[t/5]).length:=by show _<5;omega
 have hv:=ZO hx (cE a);rw[show t/5*5+t%5=t by omega]at hv;have:=h.cellAt hv;rw[iY,this];simp only[List.getElem_toArray];rw[getElem!_pos (oR _) (t%5) a];rfl
def avp{w g n d}(h:Pv oR 5 w g 0 d)(hn:d.size=n):Cells w 5 (ab ⟨g,0,af⟩) n (cD d.toList):=by
 refine⟨by grind[Zp],λ_=>⟨_,rfl,λj v hv=>?_⟩⟩;have b:=(eJ.1 hv).1;rw[Zp,Array.length_toList]at b;have c:j/5<d.size:=ad;have hx:d.toList[j/5]?=ab d[j/5]:=bg;have a:j%5<(oR d[j/5]).length:=by show _<5;omega
 have hv2:=ZO hx (cE a);rw[show j/5*5+j%5=j by omega,hv]at hv2;have hc:=(h j (by grind[WX])).1;rw[WV oR 5 d j b,getElem!_pos d _ c,getElem!_pos (oR d[j/5]) (j%5) a]at hc;rw[hv2,mW];exact hc
def axb(n c)A(l:List jY)w(hr:Row 0 w A n c 73 5 (cD l))(hn:l.length=n)(hlen:n<=1048576):
 aD ax 106 #[ae A n c,dI (ed 107) #[] #[]] w λe w'=>e=aB (bn #[])/\∃l',l'.Perm l/\l'.Pairwise (λx y=>x.1.to<=y.1.to)/\Turned w w' (ba A n c 73 5 (cD l)) (rc A n 5 (cD l')):=by
 rcases Nat.eq_zero_or_pos n with p|f;·subst p;obtain rfl:l=[]:=j3 hn;refine(ah9 Tryz.adB A c _ w).mono ?_;rintro e w' ⟨rfl,rfl⟩;exact⟨aa,[],Ca _,Ha,av.refl _ _,⟨rfl,λh=>absurd h (al1 _)⟩,λb hb=>absurd hb.1 (al1 _)⟩
 .obtain⟨g,cur,rfl,q,_⟩:=hr.blk f;have hlt:=aX.lt q;have a:=hr.arK hn f;subst hn
  have h:=aia Tryz.adB 5 isAgg73 sizeOf73 oR (λ_=>aa) (λx v hv=>EA x.1 x.2.1 x.2.2 v hv) LV axz 107 #[] g 0 c l.toArray w apj
   (λm os fT _ x y=>axk x y _) a hlt aH;simp only[iK]at h;change aD ax 106 _ _ _ at h;refine h.mono ?_;clear h;rintro e w' ⟨rfl,cI,m,os,k,s,rfl⟩;have hsz:cI.size=l.length:=by have:=k.1;simpa using this
  have d:av (λi=>i=g) w (GJ (WW oR 5 (Sort.ahead w m) g 0 cI) os):=((av.Yx (λi=>i=g) w m).trans (av.avh (λi=>i=g) _ g 0 cI aa) (λ_ _ h=>h)).trans (av.aao _ _ os) (λ_ _ h=>h);refine⟨aa,cI.toList,?_,?_,d.mono (G:=eh (ab ⟨g,0,af⟩)) (λi _ e=>⟨0,af,bg⟩),avp ?_ hsz,λb hb=>?_⟩
  .have:=k.2.2;have bE:(cI.extract 0 l.length).toList=cI.toList:=by rw[<-hsz];simp
   grind
  .rw[mr];intro i j hi t r;have:=s i j (cC _) r aH;grind[Ni]
  .refine Sort.holdsK_grow oR 5 _ os g 0 cI ?_ (Sort.holdsK_putRowK oR 5 _ g 0 l.toArray cI (Sort.holdsK_ahead oR 5 w m g 0 l.toArray a) ad);show g<(w.heap.modify g _).size;rw[ahz];exact hlt
  .obtain⟨_,o,u,e⟩:=hb;cases e;exact⟨wZ hlt d.size,b1 ⟨_,_,aa⟩⟩
def amC m A c w:
 aD ax 105 #[kW m A c] w λe w'=>e=aB (ai (!decide (m.k=2)))/\au w w':=by
 obtain⟨r,hr⟩:=ex (decide (m.k=2));have b:aE ((m.k !=2)=!r):=hid aH;rw[hr];clear hr;go_enter Tryz.func105,ntmps105;have a:=a8 w;go_step;refine ah ?_;refine bL a (ar #[J R m.k,J R m.to,J R m.fr,J R m.n,ae A m.data.length c]) (λd w1 a=>?_);refine cB ?_;refine pl a 0 0 ?_;refine dp b (ai !r) ?_;refine bX ?_;go_wp2_with fail;go_ret;exact⟨aa,a.only⟩
def aws o A(n c)w:(Instr.build 26 #[(0,J R o),(4,ae A n c)]).run ax w=bf (eL o 0 dq.zero dq.zero (ae A n c)) w:=aw
def am4{d}{a:Act}{w b cW o A n c}(ho:d.op=.build 26 #[(0,b),(4,cW)])(f:a.eval b=J R o)(h1:a.eval cW=ae A n c):
 (execOp a.eval d).run ax w=bf (.value (eL o 0 dq.zero dq.zero (ae A n c))) w:=by
 have hr:=aws o A n c w;unfold execOp;simp only[ho,Sem.run_bind];have e:(#[(0,b),(4,cW)].map λ(i,x)=>(i,a.eval x))=(#[(0,J R o),(4,ae A n c)]:Array (Nat×aP)):=aH;rw[e,hr];rfl
theorem dA.cell{w A xs b off j x}(h:dA w A xs)(a:A=ab ⟨b,off,af⟩)(hx:xs[j]?=ab x):w.cell? ⟨b,off+j,af⟩=ab (J R x):=by have c:=(eJ.1 hx).1;obtain⟨eK,d,e,hc⟩:=h ad;grind
def ak.aoZ{aq w FX L}{l:List jY}(l':List jY)(a:∀x∈l',x∈l)(h:ak aq FX w (gJ l::L)):ak aq FX w (gJ l'::L):=
 h.as 0 aa _ (λc x hx=>c x (a x hx)) (λb ⟨x,hx,hb⟩=>⟨x,a x hx,hb⟩)
def ak.aoW{aq w FX L}{l l':List jY}(h:ak aq FX w (gJ l::gJ l'::L)):ak aq FX w (gJ (l++l')::L):=
 h.star.as 0 aa _ (λa x hx=>(iX.1 hx).elim (a.1 x) (a.2.1 x)) (λb ⟨x,hx,hb⟩=>(iX.1 hx).elim (λh=>b1 ⟨x,h,hb⟩) (λh=>cm ⟨x,h,hb⟩))
def aog(l:List jY):∀u∈cD l,u.oneCell'=true:=by intro u a;obtain⟨x,_,a⟩:=List.mem_flatMap.1 a;exact EA _ _ _ u a
def fq(ms:List bO)(od:List Int):List bO:=od.filterMap (λx=>ms[x.toNat]?)
def aup{ms}{od:List Int}{j i:Nat}{m}(hx:od[j]?=ab (i:Int))(a:ms[i]?=ab m):fq ms (od.take (j+1))=fq ms (od.take j)++[m]:=by grind[gq,fq]
def lits(ms:List bO):List bO:=ms.filter (λm=>decide (m.k=2))
theorem ath(l:List jY):(l.filter (λx=>!!decide (x.1.k=2))).map (·.1)=lits (l.map (·.1)):=by
 induction l with
 |nil=>rfl
 |cons x l a=>grind[lits]
def alI(old:List Int)(ms:List bO)(o od:List Int)(out:List bO):Prop:=∃rs,rs.Perm (lits (lU old o ms))/\rs.Pairwise (λx y=>x.to<=y.to)/\out=fq ms od++rs
def amE(C A)(b0 c)old ms S(o od)w(hold:b2 w C old)(hc0:old.length<=b0)(gU:old.length<=1048576)(K:cU w A ms)(ql:∀m∈ms,m.data.length<=140737488355328)(hc:Conv ms S o od)(vV:∀x∈od,∃i:Nat,x=(i:Int)/\i<ms.length)(aco:od.length<=1048576)(lu:∀m∈ms,m.k=1->∃f q:Nat,m.fr=(f:Int)/\m.n=(q:Int)/\f+q<=old.length):
 aD ax 45 #[ae C old.length b0,ae A ms.length c] w λe w'=>∃y aC l,alI old ms o od (l.map (·.1))/\e=aB (ae y l.length aC)/\cf w w' (bP [ba y l.length aC 73 5 (cD l),gJ l]):=by
 have eR:=hc.ok.dM;have V:=hid K;have B3:=hid hold;have U:=hid ql;have q1:=hid lu;have akY:=hid vV;have K2:=hid hc.RS;have zU:aE (∀W,av (λ_=>False) w W->aD ax 88 #[ae A ms.length c] W λe w'=>∃b h r d s,e=aB (ar #[ae A ms.length c,ay (ab ⟨b,0,af⟩),ae h o.length r,ae d od.length s])/\cf W w' (bP [mK h o,mK d od])):=hid (λW g=>anS A c ms S o od W (K.aI g) hc);have aco:od.length<=1048576:=aco;clear K hold ql lu vV hc;go_enter func45,ntmps45;have a:=a8 w;go_step;refine ah ?_;refine ag ?_;refine an ?_;go_step;refine ah ?_;refine ag ?_;refine aR (zU _ a.only) ?_;rintro e w1 ⟨b,h,r,d,s,rfl,H⟩;replace a:=a.new _ H;refine aU ?_;refine bl a #[ae af 0 0,ay af,ae af 0 0,ae af 0 0] (λB aT a=>?_);refine a' a 0 (ar #[ae A ms.length c,ay (ab ⟨b,0,af⟩),ae h o.length r,ae d od.length s]) (λbF a=>?_);refine an ?_;replace a:ak _ _ _ [mK h o,mK d od,aj B #[ae A ms.length c,ay (ab ⟨b,0,af⟩),ae h o.length r,ae d od.length s] 183]:=(a.front 1).kd;go_step;refine ah ?_;refine ag ?_;refine an ?_;replace a:=(a.new (ba af 0 0 73 5 []) ⟨av.refl _ _,Row.nil _ _ _ _,λb ⟨_,_,e⟩=>aH⟩).L7;go_step;refine ah ?_;refine ag ?_;refine pl a 4 3 ?_;iterate 2 refine ag ?_
 refine an ?_;have Z:=a.pick (l':=[ba af 0 0 73 5 (cD []),gJ [],mK h o,mK d od,aj B #[ae A ms.length c,ay (ab ⟨b,0,af⟩),ae h o.length r,ae d od.length s] 183]) [1,0,2,3,4];go_wp2_with fail;go_loopw [6,17] (λek N wr=>∃(j:Nat) (aK:Option bT) (c2:Nat) (l:List jY),j<=od.length/\aE (l.map (·.1)=fq ms (od.take j))/\aE (l.length=j)/\ek=ae aK j c2/\N=J R (j:Int)/\ak w (λ_=>False) wr [ba aK j c2 73 5 (cD l),gJ l,mK h o,mK d od,aj B #[ae A ms.length c,ay (ab ⟨b,0,af⟩),ae h o.length r,ae d od.length s] 183]) (λek N wr=>od.length -(c5 N).toNat);case atStart=>exact⟨0,_,0,[],cC _,hid aa,hid aa,aa,aa,Z⟩
 case round=>
  clear a Z;obtain⟨j,aK,c2,l,hj,E,X,rfl,rfl,a⟩:=hrel;by_cases hlt:j<od.length
  .have cb:(j:Int)<(od.length:Int):=ad;obtain⟨x,hx⟩:∃x,od[j]?=ab x:=⟨_,cE hlt⟩;obtain⟨i,M0,c0⟩:=akY x (cX hx);subst M0;obtain⟨YS,P,aau,_⟩:=(a.at 3:dA _ d od) ad;have T:=hid aau;have ys:=hid hx;clear hx aau;obtain⟨m,L⟩:∃m,ms[i]?=ab m:=⟨_,cE c0⟩;obtain⟨F,O,D,G,bx,et,db⟩:=cU.jb V L;have cq:=hid bx;have iz:=hid et;have dh:=hid db;have Y:=hid L;clear bx et db L;have jy:=hid (aup ys Y);go_step;refine ah ?_;refine aG (ai az) (by(go_simp;try omega)) ?_;refine an ?_;go_step;refine ah ?_;refine aG (ay (ab ⟨YS,(P+j),af⟩)) (b4 82 3 1 (bj 15) (bj 17) aa jo bc YS P _ s j ((P+j)) (by show ae d _ _=_;rw[T]) aa hlt ad) ?_;refine aG (J R (i:Int)) (mG aa aa (dA.cell (a.at 3) T ys) bc) ?_;refine ag ?_;refine an ?_;go_step;refine ah ?_;iterate 3 refine ag ?_
   refine aG (ay (ab ⟨F,(O+i*5),af⟩)) (b4 24 73 5 (bj 22) (bj 23) aa ee bc F O _ c i _ (by show ae A _ _=_;rw[cq]) aa c0 aa) ?_;refine aG (ar #[J R m.k,J R m.to,J R m.fr,J R m.n,ae D m.data.length G]) (by(refine eW 73 (bj 24) aa F (O+i*5) aa ([J R m.k,J R m.to,J R m.fr,J R m.n,ae D m.data.length G]:List aP) (dh _ a.only) fO aa bc)) ?_;refine aR (Rs m.k m.to _ m.n D G _ _ (iz _ a.only).1 (U m (cX Y))) ?_;rintro e b8 ⟨fZ,gu,rfl,kp,g⟩;replace a:=a.lR g kp;refine aU ?_;refine e7 a #[J R m.k,J R m.to,J R m.fr,J R m.n,ae fZ m.data.length gu] 73 (λahP cA a=>?_);refine jV (m:=1) a 2 56 (aX.cellsOf (m:=1) (a.aW 0) aa) (EA m fZ gu) (λahv ang cR a=>?_) (hby:=by omega);refine ag ?_;refine an ?_;replace a:=ak.L6 (a.pick (l':=[gJ l,cx fZ gu m.data,aj ahP #[J R m.k,J R m.to,J R m.fr,J R m.n,ae fZ m.data.length gu] 73,ba ahv (j+1) ang 73 5 ((cD l)++(jt m fZ gu)),mK h o,mK d od,aj B #[ae A ms.length c,ay (ab ⟨b,0,af⟩),ae h o.length r,ae d od.length s] 183]) [3,1,0,2,4,5,6]);go_step;refine ah ?_;refine aG _ (mu 3 _ _ 3 aa _ 1 ((j+1:Nat):Int) aa aa ad ad ad) ?_;refine ag ?_;refine an ?_;go_wp2_with fail;go_roundw;case rel=>exact⟨_,_,_,l++[(m,fZ,gu)],ad,hid (by rw[fP,E,jy];rfl),hid (by rw[c7,X];rfl),aa,aa,by rw[As,CA];exact a.pick [2,0,3,4,5]⟩
   case measure=>grind[c5]
  .have cb:¬(j:Int)<(od.length:Int):=ad;obtain rfl:j=od.length:=ad;rw[lp]at E;go_step;refine ah ?_;refine aG (ai ao) (by(go_simp;try omega)) ?_;refine an ?_;go_step;refine ah ?_;iterate 4 refine ag ?_
   refine aG (ar _) (am4 aa aa aa) ?_;refine ag ?_;refine pl a 4 2 ?_;refine aR (axH C A h b0 c r old o 0 _ _ ms _ (B3.out.aI a.only) hc0 gU (V.out.aI a.only) eR U (a.at 2) K2 q1) ?_;rintro e dz ⟨u,dx,t,vQ,rfl,H⟩;replace a:=a.new _ H;refine aU ?_;iterate 3 refine ag ?_
   refine bl a (bb 0 0 dq.zero dq.zero (ae af 0 0)) (λjM dv a=>?_);refine a' a 0 (ar (bb (old.length:Int) 0 dq.zero dq.zero (ae u ms.length dx))) (λeU a=>?_) (hk:=by show 0+gw (bb _ _ _ _ _)<=_;simp only[bH];decide) (hz:=by rfl) (h1:=(sc aa)) (hc:=xr);refine ag ?_;refine an ?_;replace a:ak _ _ _ [ba u ms.length dx 73 5 (cD t),gJ t,aj jM (bb (old.length:Int) 0 dq.zero dq.zero (ae u ms.length dx)) 26,ba aK od.length c2 73 5 (cD l),gJ l,mK h o,mK d od,aj B #[ae A ms.length c,ay (ab ⟨b,0,af⟩),ae h o.length r,ae d od.length s] 183]:=(a.front 1).kd;have abX:t.length=ms.length:=by grind[lU,List.length_mapIdx]
   obtain⟨p,abW⟩:∃z,t.filter (λx=>!!decide (x.1.k=2))=z:=⟨_,aa⟩
   have KY:aE (∀W,Row 0 W u ms.length dx 73 5 (cD t)->aD ax 104 #[ae u ms.length dx,dI (ed 105) #[] #[]] W λe w'=>∃y,e=aB (ae y p.length dx)/\Turned W w' (ba u ms.length dx 73 5 (cD t)) (ba y p.length dx 73 5 (cD p))):=hid (λW hr=>by rw[<-abX]at hr⊢;rw[<-abW];exact anN u dx 105 #[] t (λx=>!decide (x.1.k=2)) W ad hr (λargs w=>enters_of Tryz.func105 bc aa _ w) (λx fg _ _=>amC _ _ _ fg));have K':aE (p.map (·.1)=lits (lU old o ms)):=hid (by grind[ath]);have yo:aE (∀x∈p,x∈t):=hid (λx hx=>aH);have aBj:p.length<=ms.length:=by grind[Ac]
   clear vQ abW abX;go_step;refine ah ?_;refine ag ?_;refine pl a 2 66 ?_ (hv:=e');refine aR (KY _ (a.atR 0)) ?_;rintro e gF ⟨kv,rfl,I⟩;replace a:=a.eP 0 I;refine aU ?_;refine ag ?_;refine an ?_;go_step;refine ah ?_;refine ag ?_;refine aR (axb p.length dx kv p _ (a.atR 0) aa ad) ?_;rintro e hI ⟨rfl,v,M,uD,I⟩;replace a:=a.eP 0 I;refine aU ?_;refine an ?_;go_step;refine ah ?_;iterate 2 refine ag ?_
   refine jV (m:=p.length) a 3 56 (a.at 0) (aog v) (λQ YY jK a=>?_) (hby:=by omega);refine ag ?_;refine an ?_;replace a:=(a.pick (l':=[gJ t,gJ l,ba Q (od.length+p.length) YY 73 5 ((cD l)++(cD v))]) [1,4,3]).aoZ v (λx hx=>yo x (M.mem_iff.1 hx));replace a:=ak.aoW (a.pick (l':=[gJ l,gJ v,ba Q (od.length+p.length) YY 73 5 ((cD l)++(cD v))]) [1,0,2]);have fY:(l++v).length=od.length+p.length:=by rw[c7,X,M.length_eq]
   rw[<-As]at a;go_wp2_with fail;go_ret;exact⟨_,_,l++v,⟨_,by rw[<-K'];exact M.map _,List.pairwise_map.2 uD,by rw[fP,E]⟩,by rw[fY];rfl,by rw[fY];exact((a.pick (l':=[_,_]) [1,0]).fh 2).fresh 0⟩
structure Ce (old:List Int) (ms:List bO) (o:List Int) (rs:List bO):Prop where
 perm:rs.Perm (lits (lU old o ms))
 lt:rs.Pairwise (λx y=>x.to<y.to)
def atk{rs:List bO}(h:rs.Pairwise (λx y=>x.to<y.to)){x y}(hx:x∈rs)(b:y∈rs)(h1:x.to<=y.to)(a:y.to<=x.to):x=y:=by grind[List.mem_iff_getElem,mr]
def Ce.unique{old ms o rs a}(h:Ce old ms o rs)(b:a.Perm (lits (lU old o ms)))(d:a.Pairwise (λx y=>x.to<=y.to)):a=rs:=
 (b.trans h.perm.symm).eq_of_pairwise (le:=λx y:bO=>x.to<=y.to) (λ_ _ hx e h1 c=>atk h.lt ((b.trans h.perm.symm).mem_iff.1 hx) e h1 c) d (h.lt.imp (λh=>Int.le_of_lt h))
theorem N6{old ev ms m}(h:m∈lU old ev ms):∃i x,ms[i]?=ab x/\m=nF old ev i x:=by grind[lU]
def amD{old ms o od rs}(hr:Ce old ms o rs)(d:old.length<=1048576)(b:∀m∈ms,m.data.length<=140737488355328):∀m∈fq ms od++rs,m.data.length<=140737488355328:=by
 intro m a;rcases iX.1 a with a|a;·obtain⟨x,_,hx⟩:=List.mem_filterMap.1 a;exact b m (cX hx)
 .have c:=(List.mem_filter.1 (hr.perm.mem_iff.1 a)).1;grind[N6,nF]
def aun ms od:(fq ms od).length<=od.length:=List.length_filterMap_le _ _
def atg(old o)ms:(lits (lU old o ms)).length<=ms.length:=dT (Ac _ _) (by simp[lU])
structure BE (old:List Int) (ms:List bO) (S:List jO) (o od:List Int) (rs:List bO):Prop where
 iL:Conv ms S o od
 idx:∀x∈od,∃i:Nat,x=(i:Int)/\i<ms.length
 dM:od.length<=1000
 src:∀m∈ms,m.k=1->∃f q:Nat,m.fr=(f:Int)/\m.n=(q:Int)/\f+q<=old.length
 rs:Ce old ms o rs
def BE.len{old ms S o od rs}(h:BE old ms S o od rs):(fq ms od++rs).length<=2000:=by have h1:=aun ms od;have a:=h.rs.perm.length_eq;have b:=atg old o ms;have c:=h.iL.ok.dM;have d:=h.dM;rw[c7];omega
def YG(g A)(b0 c)old ms S(o od)rs w(hold:b2 w g old)(hc0:old.length<=b0)(r:old.length<=1048576)(p:cU w A ms)(n:∀m∈ms,m.data.length<=140737488355328)(hc:BE old ms S o od rs):
 aD ax 45 #[ae g old.length b0,ae A ms.length c] w λe w'=>∃a d t,e=aB (ae a (fq ms od++rs).length d)/\cf w w' t/\ia t a d (fq ms od++rs):=
 (amE g A b0 c old ms S o od w hold hc0 r p n hc.iL hc.idx (dT hc.dM aS) hc.src).mono λe w' ⟨a,d,l,⟨i,h1,j,k⟩,s,f⟩=>by
  obtain rfl:=hc.rs.unique h1 j;have q:l.length=(fq ms od++i).length:=aH;refine⟨a,d,CB a (fq ms od++i).length d l,aH,⟨f.1,?_,?_⟩,l,k,aa⟩;·rw[<-q];exact⟨f.2.1.1,f.2.1.2.1.1⟩
  .intro b hb;exact f.2.2 b (hb.elim b1 (λh=>cm (b1 h)))
def avK {P w e p f ty b} {t B t2 eQ:Nat} {cs c tmps} (h:e.results=#[x7 p ty,x7 f b]) (k:tmps.getD p a7=ay (ab ⟨B,0,af⟩)) (l:tmps.getD f a7=ay (ab ⟨eQ,0,af⟩)) (hb:aX w B cs t) (hb2:aX w eQ c t2)
 (hu:(P.underlying ty).map (λd=>d.isRow)=ab az) (hi:(P.info? ty).map (·.size)=ab cs.size) (S4:(P.underlying b).map (λd=>d.isRow)=ab az) (xk:(P.info? b).map (·.size)=ab c.size):(nw e tmps).run P w=bf (bn #[ar cs,ar c]) w:=by
 cases hq:P.underlying ty with
 |none=>grind
 |some d=>
  cases nI:P.underlying b with
  |none=>grind
  |some g=>
   have r:d.isRow=true:=aH;have s:g.isRow=true:=aH;have j:=D1 (P:=P) w B t ty cs (0,0) d hb hq aH hi;have hl2:=D1 (P:=P) w eQ t2 b c (0,0) g hb2 nI aH xk
   have hr:(nw e tmps).run P w=((ve (tmps.getD p a7)).run P w).andThen λa m=>((wP ty a).run P m).andThen λx n=>((ve (tmps.getD f a7)).run P n).andThen λi o=>((wP b i).run P o).andThen λbk q=>bf (bn #[x,bk]) q:=by simp only[nw,h];simp;try rfl
   rw[hr,k,l];simp only[ve,kh,jE,j,hl2]
def cf.Jw{w w' q t}(h:cf w w' (kc q t)):cf w w' t:=⟨h.1,h.2.1.2,h.2.2⟩
def an7(k A)(b0 c n)(g1 g2)old ms S(o od)rs w(y:old.length<=1048576)(hc0:old.length<=b0)(hold:b2 w k old)(G:qb w k)(x:cU w A ms)(hv:r5 old.length n ms)(r:∀m∈ms,m.data.length<=140737488355328)(hg1:g1.l=ij old)(hg2:g2.l=ij (A' old ms))(H:(A' old ms).length<=1048576)(hc:BE old ms S o od rs):
 aD ax 28 #[ae k old.length b0,eL (old.length:Int) (n:Int) g1 g2 (ae A ms.length c)] w λe w'=>∃d f t,e=aB (bn #[eL (old.length:Int) (n:Int) g1 g2 (ae d (fq ms od++rs).length f),ar #[J R 0,J R 0]])/\cf w w' t/\ia t d f (fq ms od++rs):=by
 have O:=hc.len;have F:=amD (od:=od) hc.rs y r;have M:aE (∀W,au w W->aD ax 78 #[ae k old.length b0,eL (old.length:Int) (n:Int) g1 g2 (ae A ms.length c)] W λe w'=>e=aB (ar #[J R 0,J R 0])/\au W w'):=hid (λW g=>ax4 old.length n b0 g1 g2 k A c old ms W aa y hc0 (hold.aI g) (G.aI g) (x.aI g) hv r hg1 hg2 H);have C:aE (∀W,au w W->aD ax 45 #[ae k old.length b0,ae A ms.length c] W λe w'=>∃d f t,e=aB (ae d (fq ms od++rs).length f)/\cf W w' t/\ia t d f (fq ms od++rs)):=hid (λW g=>YG k A b0 c old ms S o od rs W (hold.aI g) hc0 y (x.aI g) r hc);have D:aE (∀W aK c2 t,ia t aK c2 (fq ms od++rs)->t.p W->aD ax 56 #[eL (old.length:Int) (n:Int) g1 g2 (ae A ms.length c),ae aK (fq ms od++rs).length c2] W λe w'=>∃d f t,e=aB (eL (old.length:Int) (n:Int) g1 g2 (ae d (fq ms od++rs).length f))/\cf W w' t/\ia t d f (fq ms od++rs)):=hid (λW aK c2 t h P=>JB (old.length:Int) (n:Int) g1 g2 (ae A ms.length c) aK c2 (fq ms od++rs) W aa (h.wm P) ad F);obtain⟨j,E⟩:=ex ((fq ms od++rs));rw[E]at C D⊢;clear O F E hold G x hv r hg1 hg2 H hc;go_enter func28,ntmps28;have a:=a8 w;go_step;refine ah ?_;refine bL a (ar (bb (old.length:Int) (n:Int) g1 g2 (ae A ms.length c))) (λU w1 a=>?_);refine bl a (bb 0 0 dq.zero dq.zero (ae af 0 0)) (λK Z a=>?_);refine bl a #[J R 0,J R 0] (λL bF a=>?_);refine b5 ?_;refine bh a 2 (bb (old.length:Int) (n:Int) g1 g2 (ae A ms.length c)) ?_ (hv:=(e6 _)) (hk:=by omega) (hz:=(by rw[bH];rfl));refine bC (M _ a.only) a (λb8 a=>?_);refine bl a #[J R 0,J R 0] (λV cA a=>?_);refine a' a 0 (ar #[J R 0,J R 0]) (λcR a=>?_);refine ah ?_;refine bh a 0 #[J R 0,J R 0] ?_;refine pk (ar #[J R 0,J R 0]) ?_;refine pk (ai ao) ?_;refine cy ?_;refine bR a [4,5,7,8] (λi u=>match i with|4=>ae u.A j.length u.c|5=>ar (bb (old.length:Int) (n:Int) g1 g2 (ae u.A j.length u.c))|_=>a7) (λb=>λ|4=>kc (ia (b 4).t (b 4).A (b 4).c j) (b 4).t|5=>kc (ia (b 5).t (b 5).A (b 5).c j) (b 5).t|7=>aj K (bb (old.length:Int) (n:Int) g1 g2 (ae (b 5).A j.length (b 5).c)) 26|8=>aj L #[J R 0,J R 0] 49|_=>emp) (λ|7=>[2]|8=>[1]|_=>[]) (λ|0=>[3]|3=>[3]|5=>[8]|_=>[]) (λ|4=>[4]|5=>[5]|7=>[5]|_=>[]) [0,3,8,9,11,12] (λb=>?_);refine eM 0 (bb (old.length:Int) (n:Int) g1 g2 (ae A ms.length c)) ?_ (hv:=(e6 _)) (hk:=by omega) (hz:=(by rw[bH];rfl));refine bG ?_;refine dl 0 66 ?_ (hv:=e');refine di (λB Fr a=>(C B a.only).mono ?_) ?_;·rintro e Q ⟨d,f,t,rfl,s,q⟩;exact⟨{A:=d,c:=f,t:=t},aa,(a.new _ s).kc q⟩
 refine di (λB Fr a=>(D B (b 4).A (b 4).c (b 4).t (a.at (t:=kc (ia (b 4).t (b 4).A (b 4).c j) (b 4).t) 0).1 (a.at (t:=kc (ia (b 4).t (b 4).A (b 4).c j) (b 4).t) 0).2).mono ?_) ?_;·rintro e Q ⟨d,f,t,rfl,s,q⟩;exact⟨{A:=d,c:=f,t:=t},aa,(a.new _ s).kc q⟩
 refine fT (ar #[J R 0,J R 0]) ?_;refine fS (ar _) ?_ (hk:=by show 0+gw (bb _ _ _ _ _)<=_;simp only[bH];decide) (hz:=by show _=ab (gw (bb _ _ _ _ _));rw[bH];rfl) (h1:=(sc aa)) (hc:=xr);refine fS _ ?_;refine bW λdz a=>?_;generalize (b 4).A=T at a⊢;generalize (b 4).c=X at a⊢;generalize (b 4).t=Y at a⊢;generalize (b 5).A=I at a⊢;generalize (b 5).c=N at a⊢;generalize (b 5).t=z at a⊢;have q:=(a.at (t:=kc (ia z I N j) z) 3).1;go_wp2_with fail;refine c' (v:=_) (avK aa aa aa (a.aW 4) (a.aW 5) aw (by rw[bH];rfl) aw aw) aa ⟨_,_,z,aa,(a.fresh 3).Jw,q⟩
def avL {P w e u p f ty b} {t B t2 eQ:Nat} {cs c tmps v} (h:e.results=#[.tmp u,x7 p ty,x7 f b]) (hv:tmps.getD u a7=v) (k:tmps.getD p a7=ay (ab ⟨B,0,af⟩)) (l:tmps.getD f a7=ay (ab ⟨eQ,0,af⟩)) (hb:aX w B cs t) (hb2:aX w eQ c t2)
 (hu:(P.underlying ty).map (λd=>d.isRow)=ab az) (hi:(P.info? ty).map (·.size)=ab cs.size) (S4:(P.underlying b).map (λd=>d.isRow)=ab az) (xk:(P.info? b).map (·.size)=ab c.size):(nw e tmps).run P w=bf (bn #[v,ar cs,ar c]) w:=by
 cases hq:P.underlying ty with
 |none=>grind
 |some d=>
  cases nI:P.underlying b with
  |none=>grind
  |some g=>
   have r:d.isRow=true:=aH;have s:g.isRow=true:=aH;have j:=D1 (P:=P) w B t ty cs (0,0) d hb hq aH hi;have hl2:=D1 (P:=P) w eQ t2 b c (0,0) g hb2 nI aH xk
   have hr:(nw e tmps).run P w=((ve (tmps.getD p a7)).run P w).andThen λa m=>((wP ty a).run P m).andThen λx n=>((ve (tmps.getD f a7)).run P n).andThen λi o=>((wP b i).run P o).andThen λbk q=>bf (bn #[tmps.getD u a7,x,bk]) q:=by simp only[nw,h];simp;try rfl
   rw[hr,k,l,hv];simp only[ve,kh,jE,j,hl2]
def Cells.aI{w w' sz n A xs}(h:Cells w sz A n xs)(g:au w w'):Cells w' sz A n xs:=⟨h.1,λhn=>by obtain⟨a,rfl,hc⟩:=h.2 hn;exact⟨a,rfl,λj v hv=>g.cell (hc j v hv) (λh=>h)⟩⟩
def Cells.apart{w w' sz n N A xs F}(h:Cells w sz A n xs)(k:av F w w')(d:∀b,eh A b->b<N)(f:∀b,F b->N<=b):Cells w' sz A n xs:=⟨h.1,λhn=>by
 obtain⟨a,rfl,hc⟩:=h.2 hn;refine⟨a,rfl,λj v hv=>k.cell (hc j v hv) (λc=>?_)⟩;have e:(a.add j).block=a.block:=by grind[u7]
 rw[e]at c;have h1:=d _ ⟨_,_,aa⟩;have g:=f _ c;omega⟩
def aof C(B c cs)(A i)m d a W t N(h:qP C d)(w:d.down=ao)(E:d.cache=[])(D:ia t A c C.ms)(hsc:Cells W 2 i a.length (iA a))(s:∀b,eh i b->b<N)(v:∀b,(aN B m d).cT b->N<=b)(z:a.length<=cs/\a.length<=1048576)(x:∀k∈a,cO k.1)(u:Has W (aN B m d))(q:Has W t)(hap:∀b,t.cT b->¬(aN B m d).cT b)(hdone:pw (fR C (a++[(-1,0)]) d).1=az):
 aD ax 19 #[de B,J R (C.bd:Int),eL (C.o:Int) (C.n:Int) C.g1 C.g2 (ae A C.ms.length c),ae i a.length cs] W λe w'=>∃pk f j l,pk<=(C.bd:Int)/\e=aB (ar #[ae f (fR C (a++[(-1,0)]) d).1.length j,ai az,J R pk])/\Turned W w' (aN B m d) (both (ba f (fR C (a++[(-1,0)]) d).1.length j 158 5 (q9 (fR C (a++[(-1,0)]) d).1)) (aN B l (fR C (a++[(-1,0)]) d).2)):=by
 refine(Zo C B c cs A i m d a W W (aN B m d).cT emp h w aH (λp g=>D.wm (t.nG W p (λb hb hlt=>g.block b hlt (hap b hb)) q.2 q.1)) (λp g=>hsc.apart g s v) z x ((ak.start u).dE.perm (Cb _ _ _))).mono ?_;rintro e w' ⟨pk,y,f,j,rfl,l,r⟩;unfold aff;rw[hdone];exact⟨pk,f,j,l,y,aa,(r.star).gl 0⟩
def avM(s A X)(b0 c cs n size bd)(g1 g2)old ms S(o od)rs f w(gU:old.length<=1048576)(hc0:old.length<=b0)(hold:b2 w s old)(qt:qb w s)(hl:cU w A ms)(hv:r5 old.length n ms)(im:∀m∈ms,m.data.length<=140737488355328)(hg1:g1.l=ij old)(hg2:g2.l=ij (A' old ms))(aci:(A' old ms).length<=1048576)(hc:BE old ms S o od rs)(hsz:1<=size/\size<=1048576)(EX:size*(gv size bd (max old.length n)+0)<=1048576)(G:qP ⟨bd,old.length,n,g1,g2,fq ms od++rs⟩ (nM size (gv size bd (max old.length n)+0) old))(L:dY (fR ⟨bd,old.length,n,g1,g2,fq ms od++rs⟩ (f++[(-1,0)]) (nM size (gv size bd (max old.length n)+0) old)).2)(hdone:pw (fR ⟨bd,old.length,n,g1,g2,fq ms od++rs⟩ (f++[(-1,0)]) (nM size (gv size bd (max old.length n)+0) old)).1=az)(K:n<=(fR ⟨bd,old.length,n,g1,g2,fq ms od++rs⟩ (f++[(-1,0)]) (nM size (gv size bd (max old.length n)+0) old)).2.bytes.length)(hsc:Cells w 2 X f.length (iA f))(Mf:∀b,eh X b->b<w.heap.size)(fG:f.length<=cs/\f.length<=1048576)(l5:∀k∈f,cO k.1):
 aD ax 43 #[ae s old.length b0,eL (old.length:Int) (n:Int) g1 g2 (ae A ms.length c),J R (size:Int),J R (bd:Int),ae X f.length cs] w λe w'=>∃b6 c1 aK c2 pk,pk<=(bd:Int)/\e=aB (bn #[ae b6 n c1,ar #[ae aK (fR ⟨bd,old.length,n,g1,g2,fq ms od++rs⟩ (f++[(-1,0)]) (nM size (gv size bd (max old.length n)+0) old)).1.length c2,ai az,J R pk],ar #[J R 0,J R 0]])/\cf w w' (cx b6 c1 (fR ⟨bd,old.length,n,g1,g2,fq ms od++rs⟩ (f++[(-1,0)]) (nM size (gv size bd (max old.length n)+0) old)).2.bytes):=by
 obtain⟨N,fp⟩:∃z,max old.length n=z:=⟨_,aa⟩;have aqE:old.length<=N:=ad;rw[fp]at G L hdone EX K⊢;obtain⟨D,Y⟩:∃z,nM size (gv size bd N+0) old=z:=⟨_,aa⟩;rw[Y]at G L hdone K⊢;have cV:D.down=false:=by rw[<-Y];rfl
 have AK:D.cache=[]:=by rw[<-Y];rfl
 obtain⟨x,sg⟩:∃z,fq ms od++rs=z:=⟨_,aa⟩;have KV:aE (∀W,au w W->aD ax 28 #[ae s old.length b0,eL (old.length:Int) (n:Int) g1 g2 (ae A ms.length c)] W λe w'=>∃H I t,e=aB (bn #[eL (old.length:Int) (n:Int) g1 g2 (ae H x.length I),ar #[J R 0,J R 0]])/\cf W w' t/\ia t H I x):=hid (λW g=>by rw[<-sg];exact an7 s A b0 c n g1 g2 old ms S o od rs W gU hc0 (hold.aI g) (qt.aI g) (hl.aI g) hv im hg1 hg2 aci hc)
 rw[sg]at G L hdone K⊢;have r1:aE (∀W S,aD ax 39 #[J R (size:Int),J R (bd:Int),eL (old.length:Int) (n:Int) g1 g2 S] W λe w'=>e=aB (bn #[ar (mF size bd N),J R 0])/\au W w'):=hid (λW S=>by rw[<-fp];exact adS size bd old.length n g1 g2 S hsz G.bd gU G.sz.2 W);have D8:aE (∀W p,W.cell? ⟨p,0,af⟩=ab (ae s old.length b0)->b2 W s old->aD ax 40 #[ar (mF size bd N),J R ((0:Nat):Int),ae (ab ⟨p,0,af⟩) 1 1] W λe w'=>∃B m,e=aB (bn #[de B,J R 0])/\cf W w' (aN B m D)):=hid (λW p h1 h2=>by rw[<-Y];exact adU size bd N 0 p s b0 old W hsz.1 EX aqE h1 h2);obtain⟨M,O,P,Q,T,U,V,hlc⟩:∃M O P Q T U V,mF size bd N=#[J R M,J R O,J R P,J R Q,J R T,J R U,J R V]:=⟨_,_,_,_,_,_,_,aa⟩;rw[hlc]at r1 D8;obtain⟨C,kq⟩:∃z,(⟨bd,old.length,n,g1,g2,x⟩:wy)=z:=⟨_,aa⟩;rw[kq]at G L hdone K⊢;have B5:aE (∀W B aK c2 m t,ia t aK c2 x->av (λ_=>False) w W->(∀b,(aN B m D).cT b->w.heap.size<=b)->Has W (aN B m D)->Has W t->(∀b,t.cT b->¬(aN B m D).cT b)->aD ax 19 #[de B,J R (bd:Int),eL (old.length:Int) (n:Int) g1 g2 (ae aK x.length c2),ae X f.length cs] W λe w'=>∃pk H I aZ,pk<=(bd:Int)/\e=aB (ar #[ae H (fR C (f++[(-1,0)]) D).1.length I,ai az,J R pk])/\Turned W w' (aN B m D) (both (ba H (fR C (f++[(-1,0)]) D).1.length I 158 5 (q9 (fR C (f++[(-1,0)]) D).1)) (aN B aZ (fR C (f++[(-1,0)]) D).2))):=hid (λW B aK c2 m t h1 h2 h3 h4 h5 h6=>by subst kq;exact aof _ B c2 cs aK X m D f W t w.heap.size G cV AK h1 (hsc.aI h2) Mf h3 fG l5 h4 h5 h6 hdone);have Mv:=L;obtain⟨r,F,hat⟩:∃a b,fR C (f++[(-1,0)]) D=(a,b):=⟨_,_,aa⟩;rw[hat]at B5 K Mv⊢;simp only at B5 K Mv⊢;have aks:=hid Mv;have B3:=hid hold;clear hat hdone hlc Y fp gU qt hl hv im hg1 hg2 aci hc sg hold G L Mv hsc Mf fG l5;go_enter func43,ntmps43;have d:=a8 w;go_step;refine ah ?_;refine bL d (ar (bb (old.length:Int) (n:Int) g1 g2 (ae A ms.length c))) (λeo w1 d=>?_);refine ag ?_;refine bl d #[ae af 0 0,ai ao,J R 0] (λxV aT d=>?_);refine bl d #[J R 0,J R 0] (λrS bF d=>?_);refine an ?_;go_step;refine ah ?_;refine ag ?_;refine bh d 2 (bb (old.length:Int) (n:Int) g1 g2 (ae A ms.length c)) ?_ (hv:=(e6 _)) (hk:=by show 0+_<=gw _;rw[iY];exact b9 _) (hz:=(by rw[bH];rfl));refine aR (KV _ d.only) ?_;rintro e b8 ⟨aK,c2,bD,rfl,Z,kS⟩;replace d:=d.new _ Z;refine aU ?_;iterate 3 refine ag ?_
 refine bl d (bb 0 0 dq.zero dq.zero (ae af 0 0)) (λOK cA d=>?_);refine bl d #[J R 0,J R 0] (λKh cR d=>?_);refine a' d 1 (ar (bb (old.length:Int) (n:Int) g1 g2 (ae aK x.length c2))) (λdz d=>?_) (hk:=by show 0+gw (bb _ _ _ _ _)<=_;simp only[bH];decide) (hz:=by show _=ab (gw (bb _ _ _ _ _));rw[bH];rfl) (h1:=(sc aa)) (hc:=xr);refine a' d 0 (ar #[J R 0,J R 0]) (λdv d=>?_);refine an ?_;go_step;refine ah ?_;refine bh d 0 #[J R 0,J R 0] ?_;refine aG (ar #[J R 0,J R 0]) (by(show _=_;kernel_rfl)) ?_;refine aG (ai ao) (by(show _=_;kernel_rfl)) ?_;refine an ?_;go_step;refine ah ?_;iterate 2 refine ag ?_
 refine bh d 1 (bb (old.length:Int) (n:Int) g1 g2 (ae aK x.length c2)) ?_ (hv:=(e6 _)) (hk:=by show 0+_<=gw _;rw[iY];exact b9 _) (hz:=(by rw[bH];rfl));refine aR (r1 _ (ae aK x.length c2)) ?_;rintro e eU ⟨rfl,g⟩;replace d:=d.aI g;refine aU ?_;iterate 3 refine ag ?_
 refine bl d #[J R 0,J R 0,J R 0,J R 0,J R 0,J R 0,J R 0] (λGq gF d=>?_);refine a' d 0 (ar #[J R M,J R O,J R P,J R Q,J R T,J R U,J R V]) (λhI d=>?_);refine ag ?_;refine an ?_;go_step;refine ah ?_;refine ag ?_;refine aG (ai ao) (by(show _=_;kernel_rfl)) ?_;refine an ?_;go_step;refine ah ?_;refine bh d 0 #[J R M,J R O,J R P,J R Q,J R T,J R U,J R V] ?_;refine ag ?_;refine e7 d #[ae s old.length b0] 22 (λKj jK d=>?_);refine aR (D8 _ Kj ((d.aW 0).cell 0 aa) (B3.out.aI d.only)) ?_;rintro e ke ⟨B,m,rfl,Z⟩;replace d:=d.new _ Z;refine aU ?_;iterate 5 refine ag ?_
 refine an ?_;go_step;refine ah ?_;refine ag ?_;refine aG (ai ao) (by(show _=_;kernel_rfl)) ?_;refine an ?_;go_step;refine ah ?_;iterate 2 refine ag ?_
 refine bh d 4 (bb (old.length:Int) (n:Int) g1 g2 (ae aK x.length c2)) ?_ (hv:=(e6 _)) (hk:=by show 0+_<=gw _;rw[iY];exact b9 _) (hz:=(by rw[bH];rfl));refine ag ?_;refine aR (B5 _ B aK c2 m bD kS d.only (λb hb=>((d.low _ (cX (show _[0]?=ab (aN B m D)from aa)) b hb).2).elim (λh=>h) (λh=>h.elim)) (d.has 0) (d.has 5) (d.ne (i:=5) (j:=0) aa aa aS)) ?_;rintro e k9 ⟨pk,y,E,m5,k4,rfl,bM⟩;replace d:=d.eP 0 bM;refine aU ?_;refine bl d #[ae af 0 0,ai ao,J R 0] (λOM mj d=>?_);refine a' d 0 (ar #[ae y r.length E,ai az,J R pk]) (λnp d=>?_);refine an ?_;go_step;refine ah ?_;refine ag ?_;refine pl d 0 1 ?_;refine aG (ai ao) (by(show _=_;kernel_rfl)) ?_;refine an ?_;replace d:ak _ _ _ [ba y r.length E 158 5 (q9 r),aN B m5 F,aj OM #[ae y r.length E,ai az,J R pk] 63,aj Kj #[ae s old.length b0] 22,aj Gq #[J R M,J R O,J R P,J R Q,J R T,J R U,J R V] 93,aj Kh #[J R 0,J R 0] 49,aj OK (bb (old.length:Int) (n:Int) g1 g2 (ae aK x.length c2)) 26,bD,aj rS #[J R 0,J R 0] 49,aj xV #[ae af 0 0,ai ao,J R 0] 63,aj eo (bb (old.length:Int) (n:Int) g1 g2 (ae A ms.length c)) 26]:=(d.front 1).fx;go_step;refine cy ?_;refine bR d [1,8,9] (λi u=>match i with|1=>ae u.A F.bytes.length u.c|_=>a7) (λq=>λ|1=>cx (q 1).A (q 1).c F.bytes|8=>aj xV #[ae y r.length E,ai az,J R pk] 63|9=>aj rS #[J R 0,J R 0] 49|_=>emp) (λ|8=>[9]|9=>[8]|_=>[]) (λ|1=>[1]|3=>[6]|4=>[12]|5=>[2]|_=>[]) (λ|1=>[1]|_=>[]) [0,1,2,3,4,5,6,7,10,12,19,20] (λq=>?_);refine aJ ?_;refine di (λwl Fr d=>(aoH B m5 F wl (d.has 0) aks).mono ?_) ?_;·rintro e dr ⟨H,I,rfl,Z⟩;exact⟨{A:=H,c:=I},aa,d.new _ Z⟩
 refine aJ ?_;refine dl 0 1 ?_ (hv:=ih);refine aL (ae (q 1).A n (q 1).c) (λ_ _ d=>rF 22 5 1 (bj 73) (bj 75) aa dW aw (q 1).A F.bytes.length (q 1).c n aa aa (dT K (d.at (t:=cx (q 1).A (q 1).c F.bytes) 0).2.2)) ?_;refine eM 0 #[ae y r.length E,ai az,J R pk] ?_;refine aL (ar #[J R 0,J R 0]) (λ_ _ _=>by(show _=_;kernel_rfl)) ?_;refine aJ ?_;refine fS (ar #[ae y r.length E,ai az,J R pk]) ?_;refine fS (ar #[J R 0,J R 0]) ?_;refine pN (λqH d=>?_);replace d:ak _ _ _ [ba y r.length E 158 5 (q9 r),aN B m5 F,aj OM #[ae y r.length E,ai az,J R pk] 63,aj Kj #[ae s old.length b0] 22,aj Gq #[J R M,J R O,J R P,J R Q,J R T,J R U,J R V] 93,aj Kh #[J R 0,J R 0] 49,aj OK (bb (old.length:Int) (n:Int) g1 g2 (ae aK x.length c2)) 26,bD,aj eo (bb (old.length:Int) (n:Int) g1 g2 (ae A ms.length c)) 26,cx (q 1).A (q 1).c F.bytes,aj xV #[ae y r.length E,ai az,J R pk] 63,aj rS #[J R 0,J R 0] 49]:=d;generalize (q 1).A=ahw at d⊢;generalize (q 1).c=ani at d⊢;go_wp2_with fail;refine c' (v:=bn #[ae ahw n ani,ar #[ae y r.length E,ai az,J R pk],ar #[J R 0,J R 0]]) (avL aa aa aa aa (d.aW 10) (d.aW 11) aw aw aw aw) aa ⟨_,_,_,_,pk,k4,aa,d.fresh 9⟩
section
attribute [local irreducible] wpList cL
end
section
attribute [local irreducible] wpList cL
end
end Go.Proofs.YtcmhplknoglbkaaGreat
