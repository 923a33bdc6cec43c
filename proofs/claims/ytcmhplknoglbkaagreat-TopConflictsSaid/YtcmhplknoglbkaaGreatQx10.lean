/- Part 10 of the proof of TopConflictsSaid. -/
import Derived.Test.YtcmhplknoglbkaaGreatQx0
import Derived.Test.YtcmhplknoglbkaaGreatQx1
import Derived.Test.YtcmhplknoglbkaaGreatQx3
import Derived.Test.YtcmhplknoglbkaaGreatQx6
import Derived.Test.YtcmhplknoglbkaaGreatQx7
import Derived.Test.YtcmhplknoglbkaaGreatQx8
import Derived.Test.YtcmhplknoglbkaaGreatQx9
set_option linter.all false
set_option maxRecDepth 100000
set_option maxHeartbeats 4000000
open Go.Proofs.Tryz
open Array renaming size->ja,size_modify->age
open Bool renaming false->ao,true->az
open Go renaming Addr->bQ,Calls->aD,Value->aO,asAddr->u4,bodyPost_ret->dp,callFunc->km,cell_of_one->pH,heap_alloc_new->fz,loadVar->wC,results->oe,run_loadVar_row->DS,undef->a1,wpList_nil->an
open Go.Addr renaming add->wb
open Go.Ending renaming returned->aB
open Go.Fn renaming func->ed
open Go.IntKind renaming i64->R
open Go.Lib renaming compareInt->zu
open Go.Obj renaming cells->bl
open Go.Operand renaming tmp->bj
open Go.Proofs.AnyF renaming slices_SortFunc_none->agN
open Go.Proofs.AnyQ renaming slices_SortFunc->agO
open Go.Proofs.Tryz renaming prog->aw,underlying22->dL,underlying24->eA,underlying73->fy,underlying82->hR
open Go.Proofs renaming intOf->cO,ltOf->GD
open Go.Result renaming andThen_ok->jc,ok->a6
open Go.ResultVar renaming cell->x6
open Go.RowKit renaming Hid->aE
open Go.Sem renaming run_pure->jK
open Go.Sort renaming HoldsK->Pr,alloc_eq_grow->Ps,get_flatK->WC,grow->GF,putRowK->WD,size_flatK->WE
open Go.Value renaming agg->av,bool->ai,func->dC,int->J,pointer->ax,slice->ae,tuple->bm
open Go.World renaming block_lt_of_cell?->u3,cell?_of_block->DQ
open Go.World.ownsRow renaming lt->wB
open List.Pairwise renaming imp_of_mem->aj4,nil->Hc
open List.Perm renaming refl->BN,swap->yp
open List renaming append_assoc->j0,append_nil->j1,eq_nil_of_length_eq_zero->j2,ext_getElem?->rH,filter_append->tN,filter_eq_self->zT,getElem?_append_left->wM,getElem?_append_right->o0,getElem?_eq_getElem->cC,getElem?_eq_some_iff->e5,length->vk,length_append->c',length_drop->tP,length_filter_le->yq,length_map->gV,length_nil->l4,length_take->nJ,map_append->gp,map_nil->kp,mem_append->j3,mem_cons->gF,mem_iff_getElem?->qM,mem_of_getElem?->cY,mem_or_eq_of_mem_set->akd,not_mem_nil->fQ,pairwise_iff_getElem->l5,range->dG,range_succ->pQ,size_toArray->iG,take_add_one->gg,take_append->XZ,take_append_drop->o1,take_length->kH,take_of_length_le->tQ,take_take->QU
open Nat renaming le_refl->b4,le_trans->ea,lt_irrefl->akk,lt_of_lt_of_le->wP,min_eq_left->wQ,mul_le_mul->Eg,succ_mul->tT,zero_add->jt,zero_le->cF
open Option renaming getD_some->vo,map_some->pR,none->af,some->ab,toList_some->z1
open Option.some renaming injEq->wR
open Or renaming inl->bM,inr->b8
namespace Go.Proofs.YtcmhplknoglbkaaGreat
open Go.RowKit Go.MapKept Go.Shelf Go.Lib
def z6(l:List (Int×Int)):Prop:=(∀e∈l,et e/\0<e.2)/\∀(i j:Nat) (x y:Int×Int),j<i->l[i]?=ab x->l[j]?=ab y->meets x y=ao
theorem Fw(a b):meets a b=meets b a:=by grind[meets]
def asb{a b}(h:a.1+a.2<=b.1):meets a b=false:=by grind[meets]
def aru{a b}(h:meets a b=ao)(hab:a.1<=b.1)(hb:0<b.2):a.1+a.2<=b.1:=by grind[meets]
def z6.pairwise{l}(h:z6 l):(iH l).Pairwise (λx y=>meets x.1 y.1=ao):=by rw[l5];intro i j hi a b;have bB:=EB l i;have bY:=EB l j;rw[Am]at hi a;rw[cC ad,cC hi]at bB;rw[cC ad,cC a]at bY;simp only[pR,wR]at bB bY;rw[bB,bY,Fw];exact h.2 j i _ _ b (cC a) (cC hi)
theorem aok{l}(h:z6 l):∃S,S.Perm (iH l)/\jW S:=by
 have d:=List.mergeSort_perm (iH l) (λx y=>decide (x.1.1<=y.1.1));have f:=List.pairwise_mergeSort (le:=λx y:kj=>decide (x.1.1<=y.1.1)) (λa b c h1 j=>aF) (λa b=>aF) (iH l);refine⟨_,d,?_,λx hx=>?_⟩
 .have hn:=d.symm.pairwise h.pairwise (λh=>by grind[Fw])
  have e:∀x∈(iH l).mergeSort (λx y=>decide (x.1.1<=y.1.1)),0<x.1.2:=λx hx=>by obtain⟨i,hi,_⟩:=AP.1 (d.mem_iff.1 hx);exact(h.1 _ (cY hi)).2
  refine aj4 (λ{_ y} _ g h=>?_) (f.and hn);exact aru h.2 (of_decide_eq_true h.1) (e y g)
 .obtain⟨i,hi,_⟩:=AP.1 (d.mem_iff.1 hx);exact h.1 _ (cY hi)
def aun{l S}(c:S.Perm (iH l))(b:jW S):z6 l:=by
 refine⟨λe f=>?_,λi j x y g hx d=>?_⟩;·obtain⟨i,hi⟩:=qM.1 f;exact b.2 (e,(i:Int)) (c.mem_iff.2 (AP.2 ⟨i,hi,aa⟩))
 .have h1:(iH l).Pairwise (λx y=>meets x.1 y.1=ao):=c.pairwise (b.1.imp (λh=>asb h)) (λh=>by grind[Fw]);rw[l5]at h1;have hi:=(e5.1 hx).1;have k:=(e5.1 d).1;have a:=h1 j i (by grind[Am]) (by grind[Am]) g;have bB:=EB l i;have bY:=EB l j;rw[hx,cC aF]at bB;rw[d,cC aF]at bY;simp only[pR,wR]at bB bY;rw[bB,bY,Fw]at a;exact a
def aoj{S}(a:jW S){x y}(hx:x∈S)(d:y∈S)(h1:x.1.1<=y.1.1)(e:y.1.1<=x.1.1):x=y:=by
 obtain⟨i,hi⟩:=qM.1 hx;obtain⟨j,b⟩:=qM.1 d;rcases Nat.lt_trichotomy i j with h|h|h;·have c:=a.lt hi b h;have:=(a.at hi).2;omega
 .grind
 .have c:=a.lt b hi h;have:=(a.at b).2;omega
def Z4{S}(a:jW S):S.Pairwise (λx y=>x.1.1<=y.1.1):=
 aj4 (λhx _ h=>by have:=(a.2 _ hx).2;omega) a.1
def aon{S T}(b:S.Perm T)(a:jW S)(d:jW T):S=T:=
 b.eq_of_pairwise (le:=λx y:kj=>x.1.1<=y.1.1) (λ_ _ hx e h1 c=>aoj a hx (b.mem_iff.2 e) h1 c) (Z4 a) (Z4 d)
def QD(base:Nat)(w:World)(p:Nat)(S:List kj):Prop:=∃A c,w.heap[p]?=ab (bl #[ae A S.length c] 411 (0,0))/\mX w A S/\S.length<=1048576/\base<=p/\∀b off,A=ab ⟨b,off,af⟩->base<=b
set_option maxHeartbeats 4000000 in
theorem ar4 A c l w(hl:kI w A l)(kO:∀e∈l,q4 e)(gl:l.length<=1048576):
 aD aw 251 #[ae A l.length c] w λe w'=>ar w w'/\((∃p S,e=aB (ax (ab ⟨p,0,af⟩))/\S.Perm (iH l)/\jW S/\QD w.heap.size w' p S)\/(e=aB (ax af)/\¬∃S,S.Perm (iH l)/\jW S)):=by
 have bR:=hid (And.intro hl kO);obtain⟨i0,iX,hz0,hz1,hz2⟩:=info_parts aqC;have Y:=hid (And.intro iX (And.intro hz0 (And.intro hz1 hz2)));have Kp:=hid (au.alloc (F:=λ_=>False) w (bl #[ae af 0 0] 411));have oU:=hid (And.intro (fz w (bl #[ae af 0 0] 411)) (show(w.alloc (bl #[ae af 0 0] 411)).heap.size=w.heap.size+1 by simp));clear hl kO iX hz0 hz1 hz2;go_enter func251,ntmps251;go_wp2_with fail;generalize w.alloc (bl #[ae af 0 0] 411)=hW at*;have hs1:=oU.out.2;generalize hp:w.heap.size=p at*;have G6:=hid hp;clear hp;go_loopw [11] (λi wr=>∃k:Nat,k<=l.length/\i=J R k/\aE (∀e∈l.take k,et e/\0<e.2)/\(∃la,wr.heap[p]?=ab (bl #[la] 411 (0,0))/\wr.ownsRow (p+1) 413 3 la k (qT (iH (l.take k))))/\au (λi=>p<=i) hW wr) (λi _=>l.length -(cO i).toNat);case atStart=>exact⟨0,cF _,aa,hid a8,⟨_,oU.out.1,⟨aY,bM ⟨aa,aa⟩⟩⟩,au.refl _ _⟩
 case round=>
  obtain⟨k,hk,rfl,aa3,⟨la,hx,hrow⟩,B⟩:=hrel;obtain⟨s,o,rfl⟩:=adQ hrow;have R6:=B.size;have X:aE (ar w wr):=hid ((((ar.to Kp.out).trans B (λ_ _ h=>h)).mono (λi hi h=>by rw[G6.out]at hi;omega)));have C:=hid (And.intro hx (And.intro hrow B));have mH:=pH hx;clear hx hrow B;by_cases hlt:k<l.length
  .have hb0:(k:Int)<(l.length:Int):=ad;obtain⟨gN,off,rfl,hcell⟩:=(bR.out.1.aG X.out) ad;obtain⟨c1,c2⟩:=hcell k hlt;obtain⟨e,he⟩:∃e,l[k]?=ab e:=⟨_,cC hlt⟩;simp only[he,vo]at c1 c2;have L:=hid (And.intro he (bR.out.2 e (cY he)));obtain⟨a,b⟩:=e;simp only at c1 c2;have PW:=hid (au.alloc (F:=λ_=>False) wr (bl #[J R a,J R b] 35));have V:=hid (yB wr (J R a) (J R b) 35);obtain⟨v,hv⟩:∃v:Bool,nt (a,b)=v:=⟨_,aa⟩;have cB:=hid hv
   have OP:aE (∀W,aD aw 115 #[av #[J R a,J R b]] W λe w'=>e=aB (ai v)/\ar W w'):=hid (λW=>by have h:=afQ a b W L.out.2.1 L.out.2.2;rw[cB.out]at h;exact h);clear hcell he hv;cases v with
   |false=>
    go_wp2_with (go_at_call 115;refine(OP.out _).mono ?_;rintro e g ⟨rfl,q⟩);go_ret;refine⟨ar.trans X.out (ar.trans PW.out q),b8 ⟨aa,ads L.out.1 (λh=>?_)⟩⟩;have:=Ga.2 h.1;rw[cB.out]at this;cases this
   |true=>
    have s6:=Ga.1 cB.out;by_cases hb:b=0;·have Se:(b==0)=true:=aF;have PJ:=hid hb;clear s6 hb;go_wp2_with (go_at_call 115;refine(OP.out _).mono ?_;rintro e g ⟨rfl,q⟩;have Sp:=q.cell V.out.1 (λh=>h);have Sq:=q.cell V.out.2 (λh=>h));go_ret;exact⟨ar.trans X.out (ar.trans PW.out q),b8 ⟨aa,ads L.out.1 (λh=>by have h1:0<b:=h.2;rw[PJ.out]at h1;omega)⟩⟩
    .have Se:(b==0)=false:=aF;have PJ:aE (et (a,b)/\0<b):=hid ⟨s6,by have h1:0<=b:=s6.2.1;omega⟩;clear s6 hb;go_wp2_with (go_at_call 115;refine(OP.out _).mono ?_;rintro e g ⟨rfl,q⟩;have Sp:=q.cell V.out.1 (λh=>h);have Sq:=q.cell V.out.2 (λh=>h));have N:=hid (ar.trans PW.out q);have zI:aE (∀i,(ae s k o).ownBlock=ab i->p+1<=i/\i<wr.heap.size):=hid (λi h=>wB C.out.2.1 i h)
     have n:aE (∀w',au (λi=>p+1<=i/\i<wr.heap.size) g w'->w'.cell? ⟨p,0,af⟩=ab (ae s k o)/\w'.cell? ⟨wr.heap.size,0,af⟩=ab (J R a)/\w'.cell? ⟨wr.heap.size,1,af⟩=ab (J R b)):=
      hid (λw' h=>⟨h.cell (N.out.cell (pH C.out.1) (λh=>h)) (by show¬(p+1<=p/\_);omega),h.cell Sp (by show¬(_/\wr.heap.size<wr.heap.size);omega),h.cell Sq (by show¬(_/\wr.heap.size<wr.heap.size);omega)⟩);have ab6:=N.out.size;clear q Sp Sq;refine awN ay 12 (λw'=>w'.cell? ⟨p,0,af⟩=ab (ae s k o)/\w'.cell? ⟨wr.heap.size,0,af⟩=ab (J R a)/\w'.cell? ⟨wr.heap.size,1,af⟩=ab (J R b)) (n.out _ (au.drew _)) (λhHeld=>?_);refine Bc (i:=0) (v:=?_) aa ay ay ay ay (λ_ _ _ h=>h) (bM ⟨aY,?_⟩) hHeld ?_;rotate_left;focus (intro E hz;obtain⟨G,H,I⟩:=hz;go_simp;try with_reducible rfl)
     refine Bc (i:=1) (v:=?_) aa ay ay ay ay (λ_ _ _ h=>h) (bM ⟨aY,?_⟩) hHeld ?_;rotate_left;focus (intro E hz;obtain⟨G,H,I⟩:=hz;go_simp;try with_reducible rfl)
     refine Bc (i:=2) (v:=?_) aa ay ay ay ay (λ_ _ _ h=>h) (bM ⟨aY,?_⟩) hHeld ?_;rotate_left;focus (intro E hz;obtain⟨G,H,I⟩:=hz;go_simp;try with_reducible rfl)
     refine Bc (i:=3) (v:=?_) aa ay ay ay ay (λ_ _ _ h=>h) (bM ⟨aY,?_⟩) hHeld ?_;rotate_left;focus (intro E hz;obtain⟨G,H,I⟩:=hz;go_simp;try with_reducible rfl)
     refine Bc (i:=4) (v:=?_) aa ay ay ay ay (λ_ _ _ h=>h) (bM ⟨aY,?_⟩) hHeld ?_;rotate_left;focus (intro E hz;obtain⟨G,H,I⟩:=hz;go_simp;try with_reducible rfl)
     refine Bc (i:=5) (v:=?_) aa ay ay ay ay (λ_ _ _ h=>h) (bM ⟨aY,?_⟩) hHeld ?_;rotate_left;focus (intro E hz;obtain⟨G,H,I⟩:=hz;go_simp;try with_reducible rfl)
     refine Bc (i:=6) (v:=?_) aa ay ay ay ay (λ_ _ _ h=>h) (bM ⟨aY,?_⟩) hHeld ?_;rotate_left;focus (intro E hz;obtain⟨G,H,I⟩:=hz;go_simp;try with_reducible rfl)
     refine Bc (i:=7) (v:=?_) aa ay ay ay ay (λ_ _ _ h=>h) (bM ⟨aY,?_⟩) hHeld ?_;rotate_left;focus (intro E hz;obtain⟨G,H,I⟩:=hz;go_simp;try with_reducible rfl)
     clear hHeld;refine Jr (rs:=[8]) ay a8 ?_;refine pA.cons aa aY (λK f=>?_) ?_;rotate_left;exact pA.nil;go_simp;have PV:aE (ar g (g.alloc (bl #[J R a,J R b,J R k] 413)).drew):=hid (ar.trans (au.alloc _ _) (au.drew _));have SM:=fz g (bl #[J R a,J R b,J R k] 413);have Xj:aE ((g.alloc (bl #[J R a,J R b,J R k] 413)).drew.heap[g.heap.size]?=ab (bl #[J R a,J R b,J R k] 413 (0,0))/\(g.alloc (bl #[J R a,J R b,J R k] 413)).drew.heap.size=g.heap.size+1):=hid ⟨SM,by show(g.alloc _).heap.size=_;simp⟩;clear SM;refine f.out _ _ (λ_=>n.out _ (ar.to PV.out)) ?_;clear f K;generalize (g.alloc (bl #[J R a,J R b,J R k] 413)).drew=dz at*;refine Jr (rs:=[9]) ay a8 ?_;refine pA.cons aa aY (λK f=>?_) ?_;rotate_left;exact pA.nil;have vM:=Xj.out.2;refine wp_append_own _ (bj 28) (bj 32) 409 aY (p+1) 413 i0 _ 3 24 underlying409 Y.out.1 Y.out.2.1 Y.out.2.2.1 Y.out.2.2.2 aa ad _ k (qT (iH (l.take k))) aa (adR C.out.2.1 (ar.trans N.out PV.out) (λ_ _ h=>h)) ⟨g.heap.size,0,af⟩ 1 1 [J R a,J R b,J R k] aa aa (ar7 Xj.out.1) (by intro u hu;simp at hu;rcases hu with rfl|rfl|rfl<;>rfl) (by grind[maxLen]) ad ad ?_;intro v9 eY SU aa5 _;obtain⟨n',sP,rfl⟩:=adQ SU;have O:aE (au (λi=>p+1<=i/\i<wr.heap.size) g eY):=hid ((ar.to PV.out).trans (au.of_grownBy aa5 (λi e=>bM (zI.out i e))) (λ_ _ h=>h));have Xk:=hid SU;clear SU aa5;refine f.out _ _ (λ_=>n.out _ O.out) ?_;clear f K;refine Jr (rs:=[10]) ay a8 ?_;refine pA.cons aa aY (λK f=>?_) ?_;rotate_left;exact pA.nil;go_simp;refine f.out _ _ (λ_=>n.out _ O.out) ?_;clear f K;refine Jr (rs:=[11]) ay a8 ?_;refine pA.cons aa aY (λK f=>?_) ?_;rotate_left;exact pA.nil;go_simp;refine f.out _ _ (λ_=>n.out _ O.out) ?_;clear f K;have Qx:aE (eY.heap[p]?=ab (bl #[ae s k o] 411 (0,0))):=hid (O.out.heap (N.out.heap C.out.1 (λh=>h)) ad);have Fz:=pH Qx.out;have n4:=free_of_one Qx.out;refine Jr (rs:=[12]) ay a8 ?_;refine pA.cons aa aY (λK f=>?_) ?_;rotate_left;exact pA.nil;go_simp;refine f.out _ _ (λh=>absurd aa h) ?_;clear f K;refine awG ay ?_ _;go_wp2;go_roundw
     case rel=>
      refine⟨_,ad,by go_num,hid (aom L.out.1 aa3.out PJ.out),⟨_,one_setCell Qx.out,?_⟩,?_⟩
      .have bB:qT (iH (l.take (k+1)))=qT (iH (l.take k))++[J R a,J R b,J R k]:=by rw[gg,L.out.1];show qT (iH (l.take k++[(a,b)]))=_;rw[anC,alP,nJ,wQ ad];rfl
       rw[bB];refine ownsRow_setCell_other Xk.out ?_ _;intro h;have:=(wB Xk.out p h).1;omega
      .exact((C.out.2.2.trans N.out (λ_ _ h=>h.elim)).trans O.out (λi _ h=>ad)).trans (au.setCell (F:=λi=>p<=i) eY (p:=_) (b4 _) _) (λ_ _ h=>h)
     case measure=>grind[cO]
  .obtain rfl:k=l.length:=ad;have hrow:=C.out.2.1;have hgd:=aa3.out;rw[kH]at hrow hgd;have bO:=hid (And.intro hrow hgd)
   have JJ:aE (aD aw 307 #[ae s l.length o,dC (ed 308) #[] #[]] wr λe w'=>e=aB (bm #[])/\∃d,d.Perm (iH l)/\d.Pairwise (λx y=>x.1.1<=y.1.1)/\mX w' s d/\au (λi=>p+1<=i) wr w'):=hid (by
    by_cases h0:l.length=0;·obtain rfl:=j2 h0;refine(avz s o _ wr).mono ?_;rintro e w' ⟨rfl,rfl⟩;exact⟨aa,[],BN _,Hc,λh=>ad,au.refl _ _⟩
    .refine(avt (p+1) l.length o s (iH l) wr bO.out.1 (by grind[Am]) (by grind[Am])).mono ?_;rintro e w' ⟨rfl,d,h1,z,Q,h4⟩;exact⟨aa,d,h1,z,Q,h4.mono (λi hi h=>(wB bO.out.1 i h).1)⟩);clear hrow hgd;go_wp2_with (go_at_call 307;have b2:=JJ.out;with_reducible refine b2.mono ?_;clear b2;rintro e aW ⟨rfl,d,qc,hst,gB,nc⟩;have fH:=nc.cell mH (by show¬(p+1<=p);omega));have t:aE (d.length=l.length):=hid (by rw[qc.length_eq,Am]);have j:=hid (And.intro qc (And.intro hst (And.intro gB (And.intro (nc.heap C.out.1 ad) (show ar w aW from((ar.to X.out).trans nc (λ_ _ h=>h)).mono (λi hi h=>by rw[G6.out]at hi;omega))))))
   have XH:aE (∀x∈d,et x.1/\0<x.1.2):=hid (λx hx=>by obtain⟨i,hi,_⟩:=AP.1 (qc.mem_iff.1 hx);exact bO.out.2 _ (cY hi));clear qc hst gB nc JJ mH;obtain⟨nu,rfl⟩:∃nu:World,nu=wr:=⟨_,aa⟩;go_loopw [47] (λi wr=>∃k:Nat,k<=l.length/\i=J R k/\aE (∀i x y,i+1<k->d[i]?=ab x->d[i+1]?=ab y->x.1.1+x.1.2<=y.1.1)/\ar aW wr) (λi _=>l.length -(cO i).toNat);case atStart=>exact⟨0,cF _,aa,hid (λi x y h=>ad),au.refl _ _⟩
   case round=>
    obtain⟨k,hk,rfl,hM,B⟩:=hrel;have D:=hid B;have lC:=B.cell fH (λh=>h);clear B;by_cases hlt:k<l.length
    .have hb0:(k:Int)<(l.length:Int):=ad;by_cases y0:k=0
     .subst y0;go_wp2_with fail;go_quiet (fail);go_wp2;go_roundw;case rel=>exact⟨1,ad,by go_num,hid (λi x y h=>ad),ar.trans D.out (au.drewN _ _)⟩
      case measure=>grind[cO]
     .obtain⟨m,hm⟩:∃m,k=m+1:=⟨k -1,ad⟩;have Z:=hid hm;have ng:(1:Int)<=(k:Int):=ad;have hk2:0<k:=ad;have y1:(k:Int)<=1048576:=ad;have hb2:(m:Int)<(l.length:Int):=ad;have hb3:m<l.length:=ad;have azO:R.wrap ((k:Int) -1)=(m:Int):=by grind[IntWalk.i64_in]
      obtain⟨x,hx⟩:∃x,d[m]?=ab x:=⟨_,cC (by have:=t.out;omega)⟩;obtain⟨y,hy⟩:∃y,d[k]?=ab y:=⟨_,cC (by have:=t.out;omega)⟩;obtain⟨gN,off,rfl,hcell⟩:=(j.out.2.2.1.aG D.out) aF;have fS:=(hcell k (by have:=t.out;omega)).1;have fD:=(hcell m (by have:=t.out;omega)).1;have iM:=(hcell m (by have:=t.out;omega)).2.1;simp only[hx,hy,vo]at fS fD iM;have P:=hid (And.intro hx hy);have Ml:=(XH.out x (cY hx)).1;obtain⟨v1,v2,v3⟩:=Ml
      have n:aE (∀w',ar wr w'->w'.cell? ⟨p,0,af⟩=ab (ae (ab ⟨gN,off,af⟩) l.length o)/\w'.cell? ⟨gN,off+k*3,af⟩=ab (J R y.1.1)/\w'.cell? ⟨gN,off+m*3,af⟩=ab (J R x.1.1)/\w'.cell? ⟨gN,off+m*3+1,af⟩=ab (J R x.1.2)):=
       hid (λw' h=>⟨h.cell lC (λh=>h),h.cell fS (λh=>h),h.cell fD (λh=>h),h.cell iM (λh=>h)⟩);clear hcell hx hy fS fD iM hm y0;have fA:aE (∀r:Bool,decide (y.1.1<x.1.1+x.1.2)=r->True):=hid (λ_ _=>trivial);obtain⟨⟨df,br⟩,lh⟩:=x;obtain⟨⟨M,bF⟩,da⟩:=y;simp only at v1 v2 v3 n P;by_cases U:M<df+br
      .have hd:decide (M<df+br)=true:=by simpa using U
       have mU:=hid U;clear U fA;go_wp2_with fail
       go_region_held3 (λw'=>w'.cell? ⟨p,0,af⟩=ab (ae (ab ⟨gN,off,af⟩) l.length o)/\w'.cell? ⟨gN,off+k*3,af⟩=ab (J R M)/\w'.cell? ⟨gN,off+m*3,af⟩=ab (J R df)/\w'.cell? ⟨gN,off+m*3+1,af⟩=ab (J R br))
        (first
          |exact n.out _ (au.drew _)
          |exact n.out _ T)
        (first
          |(go_at_call 117;refine(lO df br _ v1 v2 v3).mono ?_;rintro e i' ⟨rfl,ha0⟩;have T:ar wr i':=ar.trans (au.drew _) ha0))
       all_goals
        go_wp2;go_ret;exact⟨ar.trans j.out.2.2.2.2 (ar.trans D.out T),b8 ⟨aa,asc j.out.1 j.out.2.1 P.out.1 (by rw[<-Z.out];exact P.out.2) mU.out⟩⟩
      .have hd:decide (M<df+br)=false:=by simpa using U
       have mU:aE (df+br<=M):=hid ad;clear U fA;go_wp2_with fail
       go_region_held3 (λw'=>w'.cell? ⟨p,0,af⟩=ab (ae (ab ⟨gN,off,af⟩) l.length o)/\w'.cell? ⟨gN,off+k*3,af⟩=ab (J R M)/\w'.cell? ⟨gN,off+m*3,af⟩=ab (J R df)/\w'.cell? ⟨gN,off+m*3+1,af⟩=ab (J R br))
        (first
          |exact n.out _ (au.drew _)
          |exact n.out _ T)
        (first
          |(go_at_call 117;refine(lO df br _ v1 v2 v3).mono ?_;rintro e i' ⟨rfl,ha0⟩;have T:ar wr i':=ar.trans (au.drew _) ha0))
       all_goals
        go_wp2;go_roundw
        case rel=>
         refine⟨k+1,ad,by go_num,hid (λi x y h h1 z=>?_),ar.trans D.out T⟩;rcases Nat.lt_or_eq_of_le (show i<=m by have:=Z.out;omega)with Q|Q;·exact hM.out i x y (by have:=Z.out;omega) h1 z
         .subst Q;rw[P.out.1]at h1;rw[<-Z.out,P.out.2]at z;cases h1;cases z;exact mU.out
        case measure=>grind[cO]
    .obtain rfl:k=l.length:=ad;have fa:aE (jW d):=hid (aol j.out.2.1 XH.out (λi x y h1 z=>hM.out i x y (by have Q:=(e5.1 z).1;have:=t.out;omega) h1 z));go_wp2;go_ret;have EX:QD p wr p d:=⟨s,o,by rw[t.out];exact D.out.heap j.out.2.2.2.1 (λh=>h),j.out.2.2.1.aG D.out,by rw[t.out];exact gl,b4 _,λb off e=>by subst e;have:=(wB bO.out.1 b aa).1;omega⟩;refine⟨ar.trans j.out.2.2.2.2 D.out,bM ?_⟩
     first
      |exact⟨p,d,aa,j.out.1,fa.out,EX⟩
      |exact⟨p,d,aa,j.out.1,fa.out,by rw[G6.out];exact EX⟩
      |exact⟨p,rfl,d,j.out.1,fa.out,EX⟩
def ar5 A c l w(a:kI w A l)(d:∀e∈l,q4 e)(b:l.length<=1048576)(hr:z6 l):
 aD aw 251 #[ae A l.length c] w λe w'=>∃p S,e=aB (ax (ab ⟨p,0,af⟩))/\S.Perm (iH l)/\jW S/\QD w.heap.size w' p S/\ar w w':=
 by grind[ar4,absurd,aok]
open Go.RowKit Go.MapKept
def adS{w w':World}{base e sz:Nat}{v m xs}{cR:Nat->Prop}(h:w.ownsRow base e sz v m xs)(c:∀b,cR b->b<w.heap.size->w'.heap[b]?=w.heap[b]?)(a:∀g,v.ownBlock=ab g->cR g):w'.ownsRow base e sz v m xs:=by
 refine⟨h.1,?_⟩;rcases h.2 with h2|⟨g,cap,cur,rfl,hb,hh,r⟩;·grind
 .exact b8 ⟨g,_,_,aa,hb,AT c (a g aa) hh,r⟩
def dM.same{fh w w' b enc}{ok:fh->Prop}{a}{cR:Nat->Prop}(h:dM w b enc ok a)(d:∀b,cR b->b<w.heap.size->w'.heap[b]?=w.heap[b]?)(c:cR b):dM w' b enc ok a:=by obtain⟨es,e,hb,r⟩:=h;exact⟨es,_,AT d c hb,r⟩
def rW(F:Nat->Prop)(b:Nat)(n:Int)(E:List (Int×Int)):bp:=⟨F,λw=>G.gU w F b n E,λw w' h _ c=>by obtain⟨⟨fI,mo,fx,eT,eM,g⟩,r⟩:=c;refine⟨⟨fI,mo,fx,eT,eM,{g with blk:=AT h g.Gr g.blk,mC:=g.mC.same h g.DD,out:=g.out.same h g.DF,mG:=g.mG.same h g.DE,qo:=λu=>⟨λv hv=>adS ((g.qo u).1 v hv) h (λq a=>g.xZ _ (r7 hv) q a),(g.qo u).2⟩,qm:=λu=>⟨λv hv=>adS ((g.qm u).1 v hv) h (λq a=>g.xY _ (r7 hv) q a),(g.qm u).2⟩}⟩,r⟩⟩
def aoi(n:Nat)w(h1:n<=1048576):
 aD aw 179 #[J R (n:Int)] w λe w'=>∃b F,e=aB (ax (ab ⟨b,0,af⟩))/\cf w w' (rW F b (n:Int) []):=
 (G.ado (n:Int) w ad ad).mono λe w' ⟨b,c,a,g⟩=>⟨b,_,c,g,a,λ_ h=>h⟩
def aoh b(n i j)E F B w(c:Has w (rW F b n E))(hb:aU w B #[J R i,J R j] 192)(hn:¬F B)(hi:c4 i)(g:c4 j)(m:E.length<=1048576):
 aD aw 182 #[ax (ab ⟨b,0,af⟩),ae (ab ⟨B,0,af⟩) 1 1] w λe w'=>∃v d,e=aB v/\Turned w w' (rW F b n E) (rW d b n (G.ju n E [(i,j)])):=by
 have l:kI w (ab ⟨B,0,af⟩) [(i,j)]:=λ_=>⟨B,0,rfl,λk hk=>by obtain rfl:k=0:=aF;exact⟨hb.cell 0 aa,hb.cell 1 aa⟩⟩;exact(G.Ye b n E F (ab ⟨B,0,af⟩) 1 [(i,j)] w c.1 l (λe a=>by obtain rfl:=List.mem_singleton.1 a;exact⟨hi,g⟩) aF (λblk off e=>aF)).mono λe w' ⟨a,f,ho⟩=>⟨_,_,a,ho,f,λb h=>⟨h.elim (λh=>wP (c.2 _ h) ho.size) (λh=>h.2),h.elim bM (λh=>b8 h.1)⟩⟩
def CQ(p:Nat)(A:Option bQ)(c:Nat)(S:List kj):bp:=⟨λb=>b=p\/(0<S.length/\eb A b),λw=>w.heap[p]?=ab (bl #[ae A S.length c] 411 (0,0))/\mX w A S/\S.length<=1048576,λw w' h g i=>by obtain⟨h1,d,f⟩:=i;refine⟨AT h (bM rfl) h1,λa=>?_,f⟩;obtain⟨b,off,e,hc⟩:=d a;have hb:w'.heap[b]?=w.heap[b]?:=h b (b8 ⟨a,off,af,e⟩) (g b (b8 ⟨a,off,af,e⟩));grind[DQ]⟩
def CQ.is{p A c S w}(h:(CQ p A c S).p w):oj w p S:=⟨A,c,h.1,h.2.1,h.2.2⟩
def aqB A c l w(q:kI w A l)(s:∀e∈l,q4 e)(r:l.length<=1048576)(hr:z6 l):
 aD aw 251 #[ae A l.length c] w λe w'=>∃p S,S.Perm (iH l)/\jW S/\e=aB (ax (ab ⟨p,0,af⟩))/\∃d f,cf w w' (CQ p d f S):=
 (ar5 A c l w q s r hr).mono λe w' ⟨p,S,n,h1,i,⟨d,f,j,h,k,u,m⟩,g⟩=>⟨p,S,h1,i,n,d,f,g,⟨j,h,k⟩,λb hb=>by
  rcases hb with rfl|⟨hS,o,sp,e⟩;·grind
  .obtain⟨t,off,a,hc⟩:=h hS;rw[e]at a;injection a with a;injection a with bB bY e8;subst bB bY e8;exact⟨m _ _ e,u3 w' _ (hc 0 hS).1⟩⟩
def arR p S(c d)w(i:oj w p S)(j:jW S)(k:et (c,d)):
 aD aw 181 #[ax (ab ⟨p,0,af⟩),av #[J R c,J R d]] w λe w'=>∃a f,e=aB (ae a ((parts (c,d) S).map (·.1)).length f)/\cf w w' (bk a ((parts (c,d) S).map (·.1)).length f 3 1 (((parts (c,d) S).map (·.1)).map (J R))):=
 (arP p S c d w i j k).mono λe w' ⟨v,h,ho,g⟩=>by
  have l:(parts (c,d) S).length=((parts (c,d) S).map (·.1)).length:=a8;have m:(parts (c,d) S).map (λx=>J R x.1)=((parts (c,d) S).map (·.1)).map (J R):=a8;rw[l,m]at ho;rcases ho.2 with⟨rfl,hz⟩|⟨q,cap,cur,rfl,hb,r⟩;·rw[hz]at ho⊢;exact⟨af,0,h,g,zd ho (cF _),λ_ ⟨_,_,e⟩=>aF⟩
  .exact⟨ab ⟨q,0,af⟩,cap,h,g,zd ho (cF _),λb ⟨o,n,e⟩=>aF⟩
def yH(ms:List bJ)(S:List kj)(i:Nat):List (Int×Int):=match ms[i]? with
 |some m=>if m.k=1 then((parts (m.fr,m.n) S).map (·.1)).map (λj=>((i:Int),j))else[]
 |none=>[]
def l8(ms:List bJ)(S:List kj)(i:Nat):List (Int×Int):=(dG i).flatMap (yH ms S)
def ua(ms:List bJ)(S:List kj):List (Int×Int):=G.ju (ms.length:Int) [] (l8 ms S ms.length)
def RA ms S i:l8 ms S (i+1)=l8 ms S i++yH ms S i:=by simp[l8,pQ]
def Yd n(E a b):G.ju n E (a++b)=G.ju n (G.ju n E a) b:=by grind[G.ju]
def anA{l S}(h:S.Perm (iH l)){e j}(a:j∈(parts e S).map (·.1)):0<=j/\j<(l.length:Int):=by grind[parts,AP]
def Rz{ms S}(a:S.length=ms.length):∀i,(l8 ms S i).length<=i*ms.length
 |0=>by simp[l8]
 |i+1=>by
  rw[RA,c',tT];have h1:=Rz a i
  have b:(yH ms S i).length<=ms.length:=by
   unfold yH;split
   .split;·rw[gV,gV,<-a];exact adY _ _
    .exact cF _
   .exact cF _
  omega
def ass{e}(h:et e):q4 e:=by obtain⟨h1,a,b⟩:=h;exact⟨by grind[c4],by grind[c4]⟩
def avT A c ms w(N:cX w A ms)(hv:z6 (ms.map ck))(Y:ms.length<=1048576):
 aD aw 180 #[ae A ms.length c] w λe w'=>∃p S,S.Perm (iH (ms.map ck))/\jW S/\e=aB (ax (ab ⟨p,0,af⟩))/\∃z I,cf w w' (CQ p z I S):=by
 have E:=hid N;have q:=hid hv;go_enter func180,ntmps180;have a:=bc w;go_step;refine ah ?_;refine ag ?_;refine ah ?_;refine ag ?_;refine an ?_;replace a:=a.new (bk af 0 0 35 2 []) ⟨au.refl _ _,Row.nil _ _ _ _,λb ⟨_,_,e⟩=>aF⟩;go_step;refine ah ?_;refine v3 ?_;refine an ?_;have o:=a.pk [0];go_wp2_with fail;go_loopw [3,8] (λy i wr=>∃(j:Nat) (aJ:Option bQ) (c2:Nat),j<=ms.length/\y=ae aJ j c2/\i=J R (j:Int)/\ak w (λ_=>False) wr [bk aJ j c2 35 2 (jN ((ms.take j).map ck))]) (λy i wr=>ms.length -(cO i).toNat);case atStart=>exact⟨0,_,0,cF _,aa,aa,o⟩
 case round=>
  clear a o;obtain⟨j,aJ,c2,X,rfl,rfl,a⟩:=hrel;by_cases hlt:j<ms.length
  .have O:(j:Int)<(ms.length:Int):=ad;obtain⟨m,d⟩:∃m,ms[j]?=ab m:=⟨_,cC hlt⟩;obtain⟨g,l,f,h,r,s,t⟩:=cX.ji E d;have C:=hid r;have V:=hid s;have D:=hid t;have G:=hid d;clear r s t d;have H:aE (jN ((ms.take (j+1)).map ck)=jN ((ms.take j).map ck)++[J R m.to,J R (b5 m)]):=hid (by rw[gg,G,z1,gp,List.map_singleton,Lf];rfl);go_step;refine ah ?_;refine bu (ai az) ?_;refine ah ?_;refine aI (ax (ab ⟨g,(l+j*5),af⟩)) (cq 24 73 5 (bj 6) (bj 8) aa eA ay g l (ms.length) c j ((l+j*5)) (by show ae A _ _=_;rw[C]) aa hlt aa) ?_;refine aI _ (by(refine eC 73 _ aa g _ aa _ (D _ a.only) fy aa ay)) ?_;refine bA a #[J R 0,J R 0,J R 0,J R 0,ae af 0 0] (λU w1 a=>?_);refine a' a 0 (av #[J R m.k,J R m.to,J R m.fr,J R m.n,ae f m.data.length h]) (λZ a=>?_);refine b' ?_;refine bh a 0 #[J R m.k,J R m.to,J R m.fr,J R m.n,ae f m.data.length h] ?_;refine bH (uN m.k m.to m.fr m.n f m.data.length h _) a (λbI a=>?_);refine fC a #[J R m.to,J R (b5 m)] 35 (λT cc a=>?_);refine lZ (m:=1) a 2 16 (aU.cellsOf (m:=1) (a.aX 0) aa) (by intro u x;simp only[gF,fQ,or_false]at x;rcases x with rfl|rfl<;>rfl) (λQ W cJ a=>?_) (hby:=by omega);refine en ?_;refine pad (j:Int) 1 ((j+1:Nat):Int) ?_;refine bP ?_;go_wp2_with fail;go_roundw;case rel=>exact⟨_,_,_,ad,aa,aa,by rw[H];exact a.pick [2]⟩
   case measure=>grind[cO]
  .have O:¬(j:Int)<(ms.length:Int):=ad;obtain rfl:j=ms.length:=ad;have v:ms.take ms.length=ms:=kH;rw[v]at a;have F:aE (ms.length=(ms.map ck).length):=hid a8;clear v;go_step;refine ah ?_;refine bu (ai ao) ?_;refine b' ?_;refine aP ((show aD aw 251 #[ae aJ ms.length c2] _ λe w'=>_ from by rw[F.out];exact aqB aJ c2 (ms.map ck) _ (Row.Ur (a.atR 0)).2 (λe L=>by obtain⟨m,d,rfl⟩:=List.mem_map.1 L;exact ass (q.1 _ (List.mem_map_of_mem d)).1) aF q)) ?_;rintro e c5 ⟨p,S,P,M,rfl,B,eG,K⟩;replace a:=a.new _ K;refine Ds ?_;go_wp2_with fail;go_ret;exact⟨p,S,P,M,aa,B,eG,a.fresh 0⟩
structure Dy (ms:List bJ):Prop where
 dI:ms.length<=1000
 right:z6 (ms.map ck)
 src:∀m∈ms,m.k=1->et (m.fr,m.n)
def FO(i:Nat)(m:bJ)(S:List kj):List (Int×Int):=((parts (m.fr,m.n) S).map (·.1)).map (λj=>((i:Int),j))
def Rx{ms S i m}(h:ms[i]?=ab m)(hk:m.k=1):yH ms S i=FO i m S:=by grind[yH,FO]
theorem Ry{ms S i m}(h:ms[i]?=ab m)(hk:m.k≠1):yH ms S i=[]:=by grind[yH]
def K3 n:∀(l E),(G.ju n E l).length<=E.length+l.length
 |[],E=>b4 _
 |e::l,E=>by
  have h:=K3 n l (G.pU n E e)
  have a:(G.pU n E e).length<=E.length+1:=by
   unfold G.pU;split;·simp
   .exact Nat.le_succ _
  have bY:G.ju n E (e::l)=G.ju n (G.pU n E e) l:=rfl;rw[bY,List.length_cons];omega
def YV A c ms w(hl:cX w A ms)(hv:Dy ms):
 aD aw 91 #[ae A ms.length c] w λe w'=>∃b F S,S.Perm (iH (ms.map ck))/\jW S/\e=aB (ax (ab ⟨b,0,af⟩))/\cf w w' (rW F b ms.length (ua ms S)):=by
 have M:=hid hl;have cB:=hid hv.right;have qJ:=hid hv.src;have dR:=hv.dI;go_enter func91,ntmps91;have a:=bc w;go_step;refine ah ?_;refine ag ?_;refine an ?_;go_step;refine ah ?_;refine v2 ?_;refine aP (aoi ms.length _ ad) ?_;rintro e w1 ⟨b,F,rfl,s⟩;replace a:=a.new _ s;refine aQ ?_;refine ag ?_;refine an ?_;go_step;refine ah ?_;refine ag ?_;refine aP (avT A c ms _ (M.out.aG a.only) cB ad) ?_;rintro e aW ⟨p,S,v,Y,rfl,I,eG,s⟩;replace a:=a.new _ s;refine aQ ?_;refine ag ?_;refine an ?_;have T:S.length=ms.length:=by rw[v.length_eq,Am,gV]
 have V:=Rz (S:=S) T;have bR:=hid v;have L:=hid Y;have Z:∀e,∀j∈(parts e S).map (·.1),0<=j/\j<((ms.map ck).length:Int):=λe j hj=>anA v hj;have rC:=hid Z;have yd:aE (∀i,i<=ms.length->(G.ju ms.length [] (l8 ms S i)).length<=1000000):=hid (λi hi=>by have h1:=K3 ms.length (l8 ms S i) [];have Q:=V i;have h3:i*ms.length<=1000*1000:=Eg ad ad;simp only[l4]at h1;omega);clear v Y V Z hv hl;go_step;refine ah ?_;refine v3 ?_;refine an ?_;have r:=a.pk [1,0];go_wp2_with fail;go_loopw [18] (λo wr=>∃(j:Nat) (F:Nat->Prop),j<=ms.length/\o=J R (j:Int)/\ak w (λ_=>False) wr [rW F b ms.length (G.ju ms.length [] (l8 ms S j)),CQ p I eG S]) (λo wr=>ms.length -(cO o).toNat);case atStart=>exact⟨0,F,cF _,aa,r⟩
 case round=>
  clear a r;obtain⟨j,F,hj,rfl,a⟩:=hrel;by_cases hlt:j<ms.length
  .have cN:(j:Int)<(ms.length:Int):=ad;obtain⟨m,D⟩:∃m,ms[j]?=ab m:=⟨_,cC hlt⟩;obtain⟨C,y,f,l,u,U,X⟩:=cX.ji M D;have cn:=hid u;have iR:=hid U;have dx:=hid X;have B:=hid D;clear u U X D;go_step;refine ah ?_;refine bu (ai az) ?_;refine an ?_;go_step;refine ah ?_;refine ag ?_;refine aI (ax (ab ⟨C,(y+j*5),af⟩)) (cq 24 73 5 (bj 16) (bj 18) aa eA ay C y (ms.length) c j ((y+j*5)) (by show ae A _ _=_;rw[cn]) aa hlt aa) ?_;refine aI (av #[J R m.k,J R m.to,J R m.fr,J R m.n,ae f m.data.length l]) (by(refine eC 73 (bj 21) aa C (y+j*5) aa ([J R m.k,J R m.to,J R m.fr,J R m.n,ae f m.data.length l]:List aO) (dx _ a.only) fy aa ay)) ?_;refine bA a #[J R 0,J R 0,J R 0,J R 0,ae af 0 0] (λeR bI a=>?_);refine ag ?_;refine a' a 0 (av #[J R m.k,J R m.to,J R m.fr,J R m.n,ae f m.data.length l]) (λcc a=>?_);refine an ?_;by_cases hk:m.k=1
   .have aiS:aE (l8 ms S (j+1)=l8 ms S j++FO j m S):=hid (by rw[RA,Rx B hk]);have ym:=hid (qJ m (cY B) hk);have gT:=hid hk;clear hk;go_step;refine ah ?_;refine bh a 0 #[J R m.k,J R m.to,J R m.fr,J R m.n,ae f m.data.length l] ?_;refine aP ((show aD aw 79 #[av #[J R m.k,J R m.to,J R m.fr,J R m.n,ae f m.data.length l]] _ λe w'=>_ from by rw[gT.out];exact A4 m.to m.fr m.n f m.data.length l _)) ?_;rintro e cJ ⟨rfl,g⟩;replace a:=a.aG g;refine aQ ?_;refine v3 ?_;refine bA a #[J R 0,J R 0] (λgn c5 a=>?_);refine a' a 0 (av #[J R m.fr,J R m.n]) (λdK a=>?_);refine ag ?_;refine an ?_;go_step;refine ah ?_;refine ag ?_;refine an ?_;obtain⟨d,t⟩:=ex ((parts (m.fr,m.n) S).map (·.1));have Qc:aE (∀W,oj W p S->aD aw 181 #[ax (ab ⟨p,0,af⟩),av #[J R m.fr,J R m.n]] W λe w'=>∃H N,e=aB (ae H d.length N)/\cf W w' (bk H d.length N 3 1 (d.map (J R)))):=hid (λW h=>by rw[<-t];exact arR p S m.fr m.n W h L ym);have ai9:=hid t;have kN:d.length<=ms.length:=by rw[<-t,gV,<-T];exact adY _ _
    have ai8:aE (∀x∈d,0<=x/\x<(ms.length:Int)):=hid (λx hx=>by have h:=rC (m.fr,m.n) x (by rw[t];exact hx);rwa [gV]at h);clear t;go_step;refine ah ?_;refine ag ?_;refine bh a 0 #[J R m.fr,J R m.n] ?_;refine aP (Qc _ (CQ.is (a.at 3))) ?_;rintro e dz ⟨kC,O,rfl,s⟩;replace a:=a.new _ s;refine aQ ?_;refine v2 ?_;refine an ?_;have r:=a.pk [3,4,0];go_wp2_with fail;go_loopw [33] (λo wr=>∃(q:Nat) (F:Nat->Prop),q<=d.length/\o=J R (q:Int)/\ak w (λ_=>False) wr [rW F b ms.length (G.ju ms.length [] (l8 ms S j++(d.take q).map (λx=>((j:Int),x)))),CQ p I eG S,bk kC d.length O 3 1 (d.map (J R))]) (λo wr=>d.length -(cO o).toNat);case atStart=>exact⟨0,F,cF _,aa,by rw[List.take_zero,kp,j1];exact r⟩
    case round=>
     clear a r;obtain⟨q,F,hq,rfl,a⟩:=hrel;by_cases AG:q<d.length
     .have SF:(q:Int)<(d.length:Int):=ad;obtain⟨x,hx⟩:∃x,d[q]?=ab x:=⟨_,cC AG⟩;have dP:=hid hx;have y6:=ai8 x (cY hx);have E:(d.map (J R))[q]?=ab (J R x):=by rw[List.getElem?_map,hx];rfl
      have Qz:=hid E;obtain⟨P,u,_⟩:=(a.atR 2).cell E;subst u;have ko:aE (l8 ms S j++(d.take (q+1)).map (λx=>((j:Int),x))=(l8 ms S j++(d.take q).map (λx=>((j:Int),x)))++[((j:Int),x)]):=hid (by rw[gg,hx,z1,gp,j0];rfl);have pI:aE ((G.ju ms.length [] (l8 ms S j++(d.take q).map (λx=>((j:Int),x)))).length<=1048576):=hid (by have h1:=yd j ad;have Q:=K3 ms.length ((d.take q).map (λx=>((j:Int),x))) (G.ju ms.length [] (l8 ms S j));rw[<-Yd,gV,nJ]at Q;omega);clear hx E;go_step;refine ah ?_;refine bu (ai az) ?_;refine an ?_;go_step;refine ah ?_;refine aI (ax (ab ⟨P,q,af⟩)) (cq 82 3 1 (bj 31) (bj 33) aa hR ay P 0 (d.length) O q q aa aa AG ad) ?_;refine aI (J R x) (AY (a.atR 2) Qz aa aa ay) ?_;refine ag ?_;refine an ?_;go_step;refine ah ?_;refine v4 ?_;refine fC a #[J R (j:Int),J R x] 192 (λK eY a=>?_);refine aP (aoh b ms.length (j:Int) x _ F K _ (a.has 1 aa) (a.aX 0) (λh=>a.ne (i:=1) (j:=0) aa aa bf K h aa) (by unfold c4;omega) (by unfold c4;omega) pI) ?_;rintro e gQ ⟨v5,Vf,rfl,bL⟩;replace a:=a.ek 1 bL;refine aQ ?_;refine an ?_;go_step;refine ah ?_;refine pad (q:Int) 1 ((q+1:Nat):Int) ?_;refine ag ?_;refine an ?_;go_wp2_with fail;go_roundw;case rel=>exact⟨q+1,_,ad,aa,by rw[ko.out,Yd];exact a.pick [1,2,3]⟩
      case measure=>simp[cO]<;>omega
     .have SF:¬(q:Int)<(d.length:Int):=ad;obtain rfl:q=d.length:=ad;have z:aE (l8 ms S (j+1)=l8 ms S j++(d.take d.length).map (λx=>((j:Int),x))):=hid (by rw[aiS,FO,ai9,kH]);go_step;refine ah ?_;refine bu (ai ao) ?_;refine an ?_;go_step;refine ah ?_;refine pad (j:Int) 1 ((j+1:Nat):Int) ?_;refine ag ?_;refine an ?_;go_wp2_with fail;go_roundw;case rel=>exact⟨j+1,_,ad,aa,by rw[z.out];exact a.pick [0,1]⟩
      case measure=>simp[cO]<;>omega
   .have z:aE (l8 ms S (j+1)=l8 ms S j):=hid (by rw[RA,Ry B hk,j1]);go_step;refine ah ?_;refine bh a 0 #[J R m.k,J R m.to,J R m.fr,J R m.n,ae f m.data.length l] ?_;refine aP (A5 m.k m.to m.fr m.n f m.data.length l _ hk) ?_;rintro e ib ⟨rfl,g⟩;replace a:=a.aG g;refine aQ ?_;refine v3 ?_;refine bA a #[J R 0,J R 0] (λgn jS a=>?_);refine a' a 0 (av #[J R 0,J R 0]) (λkh a=>?_);refine ag ?_;refine an ?_;go_step;refine ah ?_;refine ag ?_;refine an ?_;go_step;refine ah ?_;refine pad (j:Int) 1 ((j+1:Nat):Int) ?_;refine ag ?_;refine an ?_;go_wp2_with fail;go_roundw;case rel=>exact⟨j+1,_,ad,aa,by rw[z.out];exact a.pick [2,3]⟩
    case measure=>grind[cO]
  .have cN:¬(j:Int)<(ms.length:Int):=ad;obtain rfl:j=ms.length:=ad;go_step;refine ah ?_;refine bu (ai ao) ?_;refine an ?_;go_step;refine ah ?_;refine v2 ?_;refine an ?_;go_wp2_with fail;go_ret;exact⟨b,F,S,bR,L,aa,a.fresh 0⟩
def mn(A:Option bQ)(xs:List Int):bp:=⟨λb=>0<xs.length/\eb A b,λw=>c8 w A xs,λw w' h c d a=>by obtain⟨b,off,rfl,hc⟩:=d a;have hb:=h b ⟨a,_,_,aa⟩ (c b ⟨a,_,_,aa⟩);grind[DQ]⟩
def aeF{w w' A xs}(g:ar w w')(h:c8 w' A xs)(c:∀k off,A=ab ⟨k,off,af⟩->w.heap.size<=k):cf w w' (mn A xs):=⟨g,h,λb hb=>by obtain⟨a,o,d,e⟩:=hb;obtain⟨k,off,bY,hc⟩:=h a;rw[e]at bY;cases bY;exact⟨c _ _ e,u3 w' _ (hc 0 a)⟩⟩
def isLit(ms:List bJ)(i:Nat):Bool:=match ms[i]? with|some m=>decide (m.k=2)|none=>ao
def mI(ms:List bJ)(j:Nat):List Int:=((dG j).filter (isLit ms)).map (λi:Nat=>(i:Int))
def ary{ms j m}(h:ms[j]?=ab m)(hk:m.k=2):mI ms (j+1)=mI ms j++[(j:Int)]:=by grind[isLit,mI,pQ]
def arx{ms j m}(h:ms[j]?=ab m)(hk:m.k≠2):mI ms (j+1)=mI ms j:=by grind[isLit,mI,pQ]
theorem MD ms j:(mI ms j).length<=j:=by grind[mI]
def ac8 A(c b)ms w(E:cX w A ms)(Q:ms.length<=1000):
 aD aw 177 #[av #[ae A ms.length c,ax (ab ⟨b,0,af⟩)]] w λe w'=>∃l q,e=aB (ae l (mI ms ms.length).length q)/\cf w w' (bk l (mI ms ms.length).length q 3 1 ((mI ms ms.length).map (J R))):=by
 have B:=hid E;go_enter func177,ntmps177;have a:=bc w;go_step;refine ah ?_;refine bG a (av _) (λI w1 a=>?_);refine ag ?_;refine an ?_;go_step;refine ah ?_;refine ag ?_;refine an ?_;replace a:=a.new (bk _ 0 0 3 1 []) ⟨au.refl _ _,Row.nil _ _ _ _,λb ⟨_,_,e⟩=>aF⟩;go_step;refine ah ?_;refine ag ?_;refine pl a 1 0 ?_;refine v2 ?_;refine an ?_;have p:=a.pk [0];go_wp2_with fail;go_loopw [3,9] (λx i wr=>∃(j n:Nat) (aJ:Option bQ) (c2:Nat),j<=ms.length/\aE ((mI ms j).length=n)/\n<=j/\x=ae aJ n c2/\i=J R (j:Int)/\ak w (λ_=>False) wr [bk aJ n c2 3 1 ((mI ms j).map (J R))]) (λx i wr=>ms.length -(cO i).toNat);case atStart=>exact⟨0,0,_,0,cF _,aa,b4 _,aa,aa,p⟩
 case round=>
  clear a p;obtain⟨j,n,aJ,c2,P,f,S,rfl,rfl,a⟩:=hrel;by_cases hlt:j<ms.length
  .have F:(j:Int)<(ms.length:Int):=ad;obtain⟨m,h⟩:∃m,ms[j]?=ab m:=⟨_,cC hlt⟩;obtain⟨D,T,H,O,r,s,t⟩:=cX.ji B h;have y:=hid r;have M:=hid s;have z:=hid t;have o:=hid h;clear r s t h;go_step;refine ah ?_;refine bu (ai az) ?_;refine an ?_;go_step;refine ah ?_;refine ag ?_;refine aI _ (cq 24 73 5 _ _ aa eA ay _ _ _ _ _ _ (by show ae A _ _=_;rw[y]) aa hlt aa) ?_;refine aI _ (by(refine eC 73 _ aa D _ aa _ (z _ a.only) fy aa ay)) ?_;refine bA a #[J _ 0,J _ 0,J _ 0,J _ 0,ae _ 0 0] (λL U a=>?_);refine ag ?_;refine a' a 0 (av _) (λV a=>?_);refine an ?_;by_cases hk:m.k=2
   .have d:=hid (ary o hk);have C:aE ((mI ms _).length=n+1):=hid (by rw[d,c',f];rfl);have g:=hid hk;clear hk;go_step;refine ah ?_;refine ag ?_;refine pl a 0 0 ?_;refine di g (ai az) ?_;refine an ?_;go_step;refine ah ?_;refine v2 ?_;refine fC a #[J R (j:Int)] 3 (λK W a=>?_);refine lZ (m:=1) a 2 8 (aU.cellsOf (m:=1) (a.aX 0) aa) (by intro u v;simp only[gF,fQ,or_false]at v;subst v;rfl) (λG N X a=>?_) (hby:=by omega);refine ag ?_;refine an ?_;go_step;refine ah ?_;refine pad _ 1 ((j+1:Nat):Int) ?_;refine ag ?_;refine an ?_;go_wp2_with fail;go_roundw;case rel=>exact⟨_,_,_,_,ad,C,ad,aa,aa,by rw[d,gp];exact a.pick [2]⟩
    case measure=>grind[cO]
   .have d:=hid (arx o hk);have g:=hid hk;clear hk;go_step;refine ah ?_;refine ag ?_;refine pl a 0 0 ?_;refine di g (ai ao) ?_;refine an ?_;go_step;refine ah ?_;refine pad _ 1 ((j+1:Nat):Int) ?_;refine ag ?_;refine an ?_;go_wp2_with fail;go_roundw;case rel=>exact⟨j+1,n,_,_,ad,hid (by rw[d];exact f),ad,aa,aa,by rw[d];exact a.pick [1]⟩
    case measure=>grind[cO]
  .have F:¬(j:Int)<(ms.length:Int):=ad;obtain rfl:j=ms.length:=ad;go_step;refine ah ?_;refine bu (ai ao) ?_;refine an ?_;go_step;refine ah ?_;refine v2 ?_;refine an ?_;go_wp2_with fail;go_ret;exact⟨aJ,c2,by rw[f];rfl,by rw[f];exact a.fresh 0⟩
def alW A(c b)ms E F o w(l:cX w A ms)(dR:ms.length<=1000)(Z:E.length<=1048576)(hx:G.zS E (ms.map (·.n)) (mI ms ms.length) o [])(H:G.gU w F b ms.length E):
 aD aw 175 #[av #[ae A ms.length c,ax (ab ⟨b,0,af⟩)]] w λe w'=>∃d f,e=aB (ae d o.length f)/\cf w w' (mn d o):=by
 have P:=hid l;have v:aE (∀W,au (λ_=>False) w W->aD _ _ _ W λe w'=>∃d f,e=aB _/\cf W w' _):=hid (λW g=>ac8 A c b ms W (l.aG g) dR)
 have t:aE (∀W gJ hY fN gh,au (λ_=>False) w W->c8 W gJ (ms.map (·.n))->c8 W fN _->aD aw 249 _ W λe w'=>∃d f,e=aB (bm #[ae d o.length f,ai az])/\cf W w' (mn d o)):=hid (λW gJ hY fN gh g z T=>by have RW:=z;have q:=G.alV b _ E F gJ hY _ fN gh _ W (G.gU.aG H g) z T aF (by grind[MD]) Z o [] hx az aa;rw[gV]at q;refine q.mono λe w' hq=>?_;obtain⟨d,f,U,V,_,X,Y⟩:=hq;exact⟨d,f,U,aeF Y V X⟩);have gl:=MD ms ms.length;obtain⟨lt,I⟩:=ex (mI ms ms.length);rw[I]at v t gl;clear l hx I H;go_enter func175,ntmps175;have a:=bc w;go_step;refine ah ?_;refine bG a (av _) (λM w1 a=>?_);refine ag ?_;refine an ?_;go_step;refine ah ?_;refine ag ?_;refine an ?_;replace a:=a.new (bk _ 0 0 3 1 []) ⟨au.refl _ _,Row.nil _ _ _ _,λb ⟨_,_,e⟩=>aF⟩;go_step;refine ah ?_;refine ag ?_;refine pl a 1 0 ?_;refine v2 ?_;refine an ?_;have x:=a.pk [0,1];go_wp2_with fail;go_loopw [3,11] (λL r wr=>∃(j:Nat) (aJ:Option bQ) (c2:Nat),j<=ms.length/\L=ae aJ j c2/\r=J R (j:Int)/\ak w (λ_=>False) wr [bk aJ j c2 3 1 (((ms.take j).map (·.n)).map (J R)),aj M #[ae A ms.length c,ax (ab ⟨b,0,af⟩)] 181]) (λL r wr=>ms.length -(cO r).toNat);case atStart=>exact⟨0,_,0,cF _,aa,aa,x⟩
 case round=>
  clear a x;obtain⟨j,aJ,c2,hj,rfl,rfl,a⟩:=hrel;by_cases hlt:j<ms.length
  .have cN:(j:Int)<(ms.length:Int):=ad;obtain⟨m,p⟩:∃m,ms[j]?=ab m:=⟨_,cC hlt⟩;obtain⟨y,bS,aR,aT,B,C,D⟩:=cX.ji P p;have N:=hid B;have iR:=hid C;have O:=hid D;have Q:=hid p;clear B C D p;have S:aE ((ms.take _).map (·.n)=(ms.take j).map _++[m.n]):=hid (by rw[gg,Q,z1,gp];rfl);go_step;refine ah ?_;refine bu (ai az) ?_;refine an ?_;go_step;refine ah ?_;refine aI _ (cq 24 73 5 _ _ aa eA ay y bS _ c j _ (by show ae A _ _=_;rw[N]) aa hlt aa) ?_;refine aI _ (by(refine eC 73 _ aa y _ aa _ (O _ a.only) fy aa ay)) ?_;refine bA a #[J _ 0,J _ 0,J _ 0,J _ 0,ae _ 0 0] (λeg aW a=>?_);refine a' a 0 (av _) (λbI a=>?_);refine an ?_;go_step;refine ah ?_;refine v2 ?_;refine pl a 0 3 ?_;refine fC a #[J R m.n] 3 (λOJ cc a=>?_);refine lZ (m:=1) a 2 8 (aU.cellsOf (m:=1) (a.aX 0) aa) (by intro u K;simp only[gF,fQ,or_false]at K;subst K;rfl) (λJA La cJ a=>?_) (hby:=by omega);refine ag ?_;refine an ?_;go_step;refine ah ?_;refine pad _ 1 ((j+1:Nat):Int) ?_;refine ag ?_;refine an ?_;go_wp2_with fail;go_roundw;case rel=>exact⟨_,_,_,ad,aa,aa,by rw[S,gp];exact a.pick [2,3]⟩
   case measure=>grind[cO]
  .have cN:¬(j:Int)<(ms.length:Int):=ad;obtain rfl:j=ms.length:=ad;rw[kH]at a;go_step;refine ah ?_;refine bu (ai ao) ?_;refine an ?_;go_step;refine cx ?_;refine bN a [4,5] (λi u=>match i with|4=>ae u.A lt.length u.c|5=>bm #[ae u.A o.length u.c,ai az]|_=>a1) (λh=>λ|4=>bk ((h 4).A) lt.length ((h 4).c) 3 1 (lt.map (J R))|5=>mn (h 5).A o|_=>emp) (λ_=>[]) (λ|1=>[1]|3=>[1]|5=>[0,6]|_=>[]) (λ|4=>[4]|5=>[5]|_=>[]) [0,1,6,7] (λh=>?_);refine aK ?_;refine dl 0 1 ?_;refine aK ?_;refine eI 0 #[ae A ms.length c,ax (ab ⟨b,0,af⟩)] ?_;refine du (λs Fr a=>(v s a.only).mono ?_) ?_;·rintro e dA ⟨d,f,rfl,k⟩;exact⟨{A:=d,c:=f},aa,a.new _ k⟩
   refine du (λs Fr a=>(t s aJ c2 _ _ a.only (Row.Ns (a.atR 0)) (Row.Ns (a.atR 1))).mono ?_) ?_;·rintro e dA ⟨d,f,rfl,k⟩;exact⟨{A:=d,c:=f},aa,a.new _ k⟩
   refine oO ?_;refine bU λc5 a=>?_;generalize (h 4).A=axp at a⊢;generalize (h 4).c=ayF at a⊢;generalize (h 5).A=JC at a⊢;generalize (h 5).c=Lc at a⊢;go_step;refine ah ?_;refine v2 ?_;refine an ?_;go_wp2_with fail;go_ret;exact⟨_,⟨_,aa⟩,a.fresh 3⟩
def YZ{ms S}(hv:Dy ms)(a:S.Perm (iH (ms.map ck))):(ua ms S).length<=1000000:=by have h1:=K3 ms.length (l8 ms S ms.length) [];have b:=Rz (ms:=ms) (S:=S) (by rw[a.length_eq,Am,gV]) ms.length;have c:=Eg hv.dI hv.dI;simp only[l4]at h1;unfold ua;omega
structure Conv (ms:List bJ) (S:List kj) (o od:List Int):Prop where
 ok:Dy ms
 perm:S.Perm (iH (ms.map ck))
 nO:jW S
 ch:G.zS (ua ms S) (ms.map (·.n)) (mI ms ms.length) o []
 ord:G.wL (ua ms S) ms.length (mI ms ms.length++o) od
 all:G.q7 ms.length (mI ms ms.length++o) od=[]
 RS:o.length<=1048576
def al6 A c ms S(o od)w(r:cX w A ms)(hc:Conv ms S o od):
 aD aw 88 #[ae A ms.length c] w λe w'=>∃b k n C U,e=aB (av #[ae A ms.length c,ax (ab ⟨b,0,af⟩),ae k o.length n,ae C od.length U])/\cf w w' (bK [mn k o,mn C od]):=by
 have N:=hc.ok.dI;have cH:=hid r;have c7:=hid hc;have I:aE (∀b W,au (λ_=>False) w W->aD _ _ _ W λe w'=>∃f j,e=aB _/\cf W w' _):=hid (λb W g=>ac8 A c b ms W (r.aG g) N);have D:aE (∀W,au (λ_=>False) w W->aD _ 91 _ W λe w'=>∃b F,e=aB _/\cf W w' (rW F b _ (ua ms S))):=hid (λW g=>(YV A c ms W (r.aG g) hc.ok).mono λe w' ⟨b,F,Q4,h1,x,V,y⟩=>⟨b,F,V,by rw[aon (hc.perm.trans h1.symm) hc.nO x];exact y⟩);have ff:=YZ hc.ok hc.perm;have H:aE (∀W b F,au (λ_=>False) w W->(rW F b _ _).p W->aD _ _ _ W λe w'=>∃f j,e=aB _/\cf W w' _):=hid (λW b F g hg=>alW A c b ms _ F o W (r.aG g) N ad hc.ch hg)
 have t:aE (∀W b F s cs,(rW F b ms.length (ua ms S)).p W->c8 W s _->aD aw 176 _ W λe w'=>∃f j,e=aB (bm #[ae f od.length j,ai az])/\cf W w' (mn f od)):=hid (λW b F s cs h1 x=>by have z:=MD ms ms.length;have L:=hc.RS;have q:=G.asO b _ _ F s cs _ W h1 x aF ad od hc.ord az (by rw[hc.all];rfl);rw[c']at q;refine q.mono λe w' hq=>?_;obtain⟨f,j,y,X,Y,Z⟩:=hq;exact⟨f,j,y,aeF Z X Y⟩);have z:=MD ms ms.length;have L:=hc.RS;obtain⟨lt,M⟩:=ex (mI ms ms.length);rw[M]at I t z;have Q:aE ((lt.length+o.length)*8<=140737488355328):=hid ad;obtain⟨E,K⟩:=ex (ua ms S);rw[K]at D H t;clear r M K ff z L hc;go_enter func88,ntmps88;have a:=bc w;go_step;refine ah ?_;refine bA a #[ae _ 0 0,ax _,ae _ 0 0,ae _ 0 0] (λcA w1 a=>?_);refine hE ?_;refine aP (D.out _ a.only) ?_;rintro e aW ⟨b,F,rfl,l⟩;replace a:=a.new _ l;refine aQ ?_;refine v2 ?_;refine bA a #[ae _ 0 0,ax _,ae _ 0 0,ae _ 0 0] (λP bI a=>?_);refine a' a 0 (av _) (λcc a=>?_);refine b' ?_;refine bh a 0 #[ae A ms.length c,ax (ab ⟨b,0,af⟩)] ?_;refine aP (H _ b F a.only (a.at 1)) ?_;rintro e cJ ⟨k,n,rfl,l⟩;replace a:=a.new _ l;refine aQ ?_;refine ag ?_;refine a' a 1 (ae k _ n) (λc5 a=>?_);refine cx ?_;refine bN a [5,8,9,14] (λi u=>match i with|5=>ae u.A lt.length u.c|8=>ae u.A (lt.length+o.length) u.c|9=>bm #[ae u.A od.length u.c,ai az]|_=>a1) (λd=>λ|5=>bk ((d 5).A) lt.length ((d 5).c) 3 1 (lt.map (J R))|8=>bk ((d 8).A) (lt.length+o.length) ((d 8).c) 3 1 ((lt.map (J R))++(o.map (J R)))|9=>mn (d 9).A od|14=>aj P #[ae A ms.length c,ax (ab ⟨b,0,af⟩),ae k o.length n,ae (d 9).A od.length (d 9).c] 183|_=>emp) (λ|8=>[9]|14=>[1]|_=>[]) (λ|2=>[1]|4=>[1]|7=>[1]|8=>[0]|9=>[2,12]|_=>[]) (λ|5=>[5]|8=>[8]|9=>[9]|14=>[9]|_=>[]) [0,2,3,12,13,18] (λd=>?_);refine bF ?_;refine dl 0 1 ?_;refine aK ?_;refine eI 0 #[ae A ms.length c,ax (ab ⟨b,0,af⟩)] ?_;refine du (λB Fr a=>(I b B a.only).mono ?_) ?_;·rintro e dA ⟨f,j,rfl,l⟩;exact⟨{A:=f,c:=j},aa,a.new _ l⟩
 refine aK ?_;refine dl 0 2 ?_;refine ub (m:=_) 8 (λ_ _ a=>c8.cells (a.at 1)) (TQ o) ?_ (hby:=Q);refine du (λB Fr a=>(t B b F _ _ (a.at 0) (by have h:=a.atR 1;rw[<-gp]at h;exact Row.Ns h)).mono ?_) ?_;·rintro e dA ⟨f,j,rfl,l⟩;exact⟨{A:=f,c:=j},aa,a.new _ l⟩
 refine hD ?_;refine gi _ ?_;refine bU λdK a=>?_;generalize (d 5).A=JA at a⊢;generalize (d 5).c=La at a⊢;generalize (d 8).A=UZ at a⊢;generalize (d 8).c=YJ at a⊢;generalize (d 9).A=O at a⊢;generalize (d 9).c=T at a⊢;refine ah ?_;refine bh a 5 #[ae A ms.length c,ax (ab ⟨b,0,af⟩),ae k o.length n,ae O od.length T] ?_;refine a' a 2 (av _) (λdz a=>?_);refine an ?_;go_wp2_with fail;refine dp (v:=_) (results_cell_row aa _ _ _ _ _ _ _ aa (a.aX 2) underlying183 aa ay) aa (⟨b,k,n,_,_,aa,((a.pick (l':=[mn k o,mn _ od]) [0,4]).fv 2).fresh 0⟩)
abbrev jU:=bJ×Option bQ×Nat
theorem Hv(L:List jU):(cE L).length=L.length*5:=by
 induction L with
 |nil=>rfl
 |cons x L a=>show((([J R x.1.k,J R x.1.to,J R x.1.fr,J R x.1.n,ae x.2.1 x.1.data.length x.2.2]:List aO):List aO)++cE L).length=_;rw[c',a];simp;omega
def Es(L a:List jU):cE (L++a)=cE L++cE a:=List.flatMap_append
def Rw(x:jU):cE [x]=([J R x.1.k,J R x.1.to,J R x.1.fr,J R x.1.n,ae x.2.1 x.1.data.length x.2.2]:List aO):=rfl
def al4(L:List jU)j x(hx:L[j]?=ab x):cE L=cE (L.take j)++(([J R x.1.k,J R x.1.to,J R x.1.fr,J R x.1.n,ae x.2.1 x.1.data.length x.2.2]:List aO)++cE (L.drop (j+1))):=by obtain⟨a,hx⟩:=e5.1 hx;rw[<-Rw,<-Es,<-Es];congr 1;subst hx;simp
def al1(L:List jU)j x(hx:L[j]?=ab x):∀(i) v,(([J R x.1.k,J R x.1.to,J R x.1.fr,J R x.1.n,ae x.2.1 x.1.data.length x.2.2]:List aO):List aO)[i]?=ab v->(cE L)[j*5+i]?=ab v:=λi v hv=>by
 have b:=(e5.1 hx).1;have hi:i<5:=(e5.1 hv).1;have a:(cE (L.take j)).length=j*5:=by grind[Hv]
 rw[al4 L j x hx,o0 ad,a,show j*5+i -j*5=i by omega,wM ad];exact hv
def yD(L:List jU)(p:jU->Bool):Int:=match L.findIdx? p with|some k=>(k:Int)|none=>-1
def al3 A (c g:Nat) lb (L:List jU) p w (cz:L.length<=1073741824) (hr:Row 0 w A L.length c 73 5 (cE L)) (s:∀args w,(km g args).run aw w=a6 (.enter g args) w)
 (hp:∀x W,x∈L->ar w W->aD aw g (#[av #[J R x.1.k,J R x.1.to,J R x.1.fr,J R x.1.n,ae x.2.1 x.1.data.length x.2.2]]++lb) W λe w'=>e=aB (ai (p x))/\ar W w'):
 aD aw 191 #[ae A L.length c,dC (ed g) #[] lb] w λe w'=>e=aB (J R (yD L p))/\ar w w':=by
 have G:=hr;obtain⟨hlen,_⟩:=G;have B:=hid s;have C:=hid hp;have r:aE (∀W,ar w W->Row 0 W A L.length c 73 5 (cE L)):=hid (λW g=>I1 hr g);clear hr s hp hlen;go_enter func191,ntmps191;have a:=bc w;go_step;refine ah ?_;refine ag ?_;refine ah ?_;refine v3 ?_;refine an ?_;go_wp2_with fail;go_loopw [8] (λl wr=>∃j:Nat,j<=L.length/\l=J R (j:Int)/\(∀(i:Nat) (x:jU),i<j->L[i]?=ab x->p x=ao)/\ak w (λ_=>False) wr []) (λl wr=>L.length -(cO l).toNat);case atStart=>grind
 case round=>
  clear a;obtain⟨j,I,rfl,u,a⟩:=hrel;by_cases hlt:j<L.length
  .have F:(j:Int)<(L.length:Int):=ad;obtain⟨x,hx⟩:∃x,L[j]?=ab x:=⟨_,cC hlt⟩;obtain⟨d,cur,t,E,_,_,_,_⟩:=(r.out _ a.only).blk ad;obtain⟨iL,z⟩:=ex (p x);have H:=cY hx;have D:=hid (al1 L j x hx);have q:=hid hx;have b:=hid z;have o:=hid u;have m:=hid t;clear hx z u E t;go_step;refine ah ?_;refine ag ?_;refine ah ?_;refine v2 ?_;refine jz ?_;refine aI (ax (ab ⟨d,(j*5),af⟩)) (cq 24 73 5 (bj 12) (bj 13) aa eA ay d 0 (L.length) c j ((j*5)) (by show ae A _ _=_;rw[m]) aa hlt ad) ?_;refine aI _ (by(refine eC 73 _ aa d _ aa _ (Row.range (r _ a.only) m (λi v hi=>D i v hi)) fy aa ay)) ?_;refine bH ((by have h:=C.out x _ H a.only;rw[b.out]at h;exact h)) a (λw1 a=>?_) (hr:=by(go_simp;exact B _ _));refine an ?_;cases iL with
   |true=>
    refine ah ?_;refine dZ ?_;go_wp2_with fail;go_ret;exact⟨by rw[show yD L p=(j:Int)from by unfold yD;rw[show L.findIdx? p=ab j from Ly q b o]];rfl,a.only⟩
   |false=>
    refine ah ?_;refine pad (j:Int) 1 ((j+1:Nat):Int) ?_;refine bP ?_;go_wp2_with fail;go_roundw;case rel=>exact⟨j+1,ad,rfl,λi y hi f=>by rcases Nat.lt_succ_iff_lt_or_eq.1 hi with h|rfl;exact o i y h f;rw[q]at f;cases f;exact b,a⟩
    case measure=>simp[cO]<;>omega
  .have F:¬(j:Int)<(L.length:Int):=ad;obtain rfl:j=L.length:=ad;go_step;refine ah ?_;refine ag ?_;refine ah ?_;refine ag ?_;refine an ?_;go_wp2_with fail;go_ret;exact⟨by rw[show yD L p=-1 from by grind[yD,Lx]];rfl,a.only⟩
def al2 A (c g:Nat) lb (L:List jU) (p:jU->Bool) w (cz:L.length<=1073741824) (hr:Row 0 w A L.length c 73 5 (cE L)) (B:∀args w,(km g args).run aw w=a6 (.enter g args) w)
 (hp:∀x W,x∈L->au (eb A) w W->aD aw g (#[av #[J R x.1.k,J R x.1.to,J R x.1.fr,J R x.1.n,ae x.2.1 x.1.data.length x.2.2]]++lb) W λe w'=>e=aB (ai (p x))/\ar W w'):
 aD aw 104 #[ae A L.length c,dC (ed g) #[] lb] w λe w'=>∃P,e=aB (ae P (L.filter (λx=>!p x)).length c)/\Turned w w' (bk A L.length c 73 5 (cE L)) (bk P (L.filter (λx=>!p x)).length c 73 5 (cE (L.filter (λx=>!p x)))):=by
 have U:=hid B;have D:0<L.length->_:=λh=>hr.blk h;obtain⟨N,K⟩:=ex (yD L p);have X:aE (∀W,au (eb A) w W->Row 0 W A L.length c 73 5 (cE L)->aD aw 191 #[ae A L.length c,dC (ed g) #[] lb] W λe w'=>e=aB (J R N)/\ar W w'):=hid (λW o h=>by have q:=al3 A c g lb L p W cz h B (λx eE hx g2=>hp x eE hx (o.trans g2.to (λ_ _ h=>h)));rw[K]at q;exact q);have Y:=hid hp;have hr1:=hid hr;have Is:=hid (λb (hb:eb A b)=>(Row.lt hr hb).2);by_cases CD:N=-1;clear B hp
 .subst CD;have hno:L.filter (λx=>!p x)=L:=by grind[zT,yD]
  rw[hno];clear hno K D hr;go_enter Tryz.func104,Tryz.ntmps104;have a:=ak.start (t:=bk A L.length c 73 5 (cE L)) ⟨hr1,Is⟩;go_step;refine ah ?_;refine mO ?_;refine bH (X.out _ a.only (a.at 0)) a (λw1 a=>?_);refine cK ?_;refine pk (ai az) ?_;refine ah ?_;refine dZ ?_;go_wp2_with fail;go_ret;exact⟨A,aa,a.fM 0⟩
 .obtain⟨d,p7⟩:∃d,L.findIdx? p=ab d:=by grind[yD]
  have Sv:N=(d:Int):=by grind[yD]
  subst Sv;obtain⟨jm,qd,hb1⟩:=List.findIdx?_eq_some_iff_getElem.1 p7;obtain⟨G,cur,rfl,kM,j9,hcm,hcs,E⟩:=D ad;have apN:¬(d:Int)=-1:=ad;have ET:(L.take d).filter (λx=>!p x)=L.take d:=by grind[zT,qM]
  have hx1:L[d]?=ab L[d]:=cC jm
  have hst:∃f fg,cur=(cE ((L.take (d+1)).filter (λx=>!p x))++(f++(cE (L.drop (d+1))++fg))).toArray/\f.length=5/\((L.take (d+1)).filter (λx=>!p x)).length=d:=by
   have bB:(L.take (d+1)).filter (λx=>!p x)=L.take d:=by grind[gg]
   refine⟨cE [L[d]],cur.toList.drop (L.length*5),?_,aY,aF⟩;rw[bB,<-j0,<-j0,<-Es,<-Es,show L.take d++[L[d]]++L.drop _=L by simp,<-E,o1]
  obtain⟨f,fg,H0,gr,l⟩:=hst;have aoH:∀b,eb (ab (⟨G,0,af⟩:bQ)) b->b=G:=λb ⟨off,sp,e⟩=>by grind
  have hsz:cur.size=c*5:=hcs;have j':fg.length+L.length*5=c*5:=by grind[Hv]
  have Qt:=hid j';have r:=hid j9;have Q:=hid hcm;have qK:=hid hsz;have ln:=hid H0;have BB:=hid E;have ll:=hid kM;clear j' K p7 hb1 ET qd hx1 j9 hcm hcs E D hr kM hsz H0;go_enter Tryz.func104,Tryz.ntmps104;have a:ak w (eb (ab (⟨G,0,af⟩:bQ))) w [aj G cur 73]:=(ak.start (t:=bk (ab (⟨G,0,af⟩:bQ)) L.length c 73 5 (cE L)) ⟨hr1,Is⟩).as 0 aa _ (λ_=>ll) (λb hb=>⟨0,af,by rw[show b=G from hb]⟩);go_step;refine ah ?_;refine mO ?_;refine bH (X.out _ a.only (by have h:=Jb (n:=L.length) (a.aX 0) r Q qK;rw[show cur.toList.take (L.length*5)=cE L from BB]at h;exact h)) a (λaW a=>?_);refine cK ?_;refine bu (ai ao) ?_;refine b' ?_;refine pad (d:Int) 1 ((d+1:Nat):Int) ?_;refine bP ?_;have cj:=a;rw[ln]at a;go_wp2_with fail;go_loopw [5,6] (λaS O wr=>∃(i j:Nat) (f:List aO),i<j/\j<=L.length/\aS=J R (i:Int)/\O=J R (j:Int)/\((L.take j).filter (λx=>!p x)).length=i/\f.length+i*5=j*5/\ak w (eb (ab (⟨G,0,af⟩:bQ))) wr [aj G (cE ((L.take j).filter (λx=>!p x))++(f++(cE (L.drop j)++fg))).toArray 73]) (λaS O wr=>L.length -(cO O).toNat);case atStart=>exact⟨d,d+1,_,ad,ad,aa,aa,l,ad,a⟩
  case round=>
   clear a cj l gr;obtain⟨i,j,f,iI,hj,rfl,rfl,l,gr,a⟩:=hrel;by_cases hlt:j<L.length
   .have cN:(j:Int)<(L.length:Int):=ad;obtain⟨x,hx⟩:∃x,L[j]?=ab x:=⟨_,cC hlt⟩;have lA:=cY hx;obtain⟨iL,oD⟩:=ex (p x);have hdr:cE (L.drop j)=([J R x.1.k,J R x.1.to,J R x.1.fr,J R x.1.n,ae x.2.1 x.1.data.length x.2.2]:List aO)++cE (L.drop (j+1)):=by rw[<-Rw,<-Es];congr 1;obtain⟨h1,rfl⟩:=e5.1 hx;simp
    obtain⟨pre,M⟩:=ex (cE ((L.take j).filter (λx=>!p x)));have SY:pre.length=i*5:=by grind[Hv]
    obtain⟨eI,I⟩:=ex (cE (L.drop (j+1)));rw[hdr,M,I]at a
    have xo:∀(k:Nat) (v:aO),(([J R x.1.k,J R x.1.to,J R x.1.fr,J R x.1.n,ae x.2.1 x.1.data.length x.2.2]:List aO):List aO)[k]?=ab v->(pre++(f++(([J R x.1.k,J R x.1.to,J R x.1.fr,J R x.1.n,ae x.2.1 x.1.data.length x.2.2]:List aO)++eI++fg)))[j*5+k]?=ab v:=λk v hk=>by have apn:k<5:=(e5.1 hk).1;rw[o0 ad,o0 ad,j0,wM (by show _<5;omega),show j*5+k -pre.length -f.length=k by omega];exact hk
    have Z:=hid SY;have tM:=hid xo;have u:=hid hx;have s:=hid oD;have wG:=hid M;have T:=hid I;have m:=hid l;have aiU:=hid hdr;clear hx oD M I hdr xo l;go_step;refine ah ?_;refine v4 ?_;refine hE ?_;refine aI (ax (ab ⟨G,(j*5),af⟩)) (cq 24 73 5 (bj 22) (bj 23) aa eA ay G 0 (L.length) c j ((j*5)) aa aa hlt ad) ?_;refine aI _ (by(refine eC 73 _ aa G (j*5) aa _ ((a.aX 0).rangeAt (j*5) _ (λk v hk=>by rw[List.getElem?_toArray];exact tM k v hk)) fy aa ay)) ?_;refine bA a #[J R 0,J R 0,J R 0,J R 0,ae af 0 0] (λgn bI a=>?_);refine a' a 0 (av #[J R x.1.k,J R x.1.to,J R x.1.fr,J R x.1.n,ae x.2.1 x.1.data.length x.2.2]) (λcc a=>?_);refine an ?_;cases iL with
    |true=>
     refine b' ?_;refine bh a 0 #[J R x.1.k,J R x.1.to,J R x.1.fr,J R x.1.n,ae x.2.1 x.1.data.length x.2.2] ?_;refine bH ((by have h:=Y.out x _ lA a.only;rw[s.out]at h;exact h)) a (λcJ a=>?_) (hr:=by(first|(go_simp;done)|(go_simp;exact U.out _ _)));refine cK ?_;refine pad (j:Int) 1 ((j+1:Nat):Int) ?_;refine bP ?_;go_wp2_with fail;go_roundw;case rel=>exact⟨i,j+1,f++([J R _,J R _,J R _,J R x.1.n,ae _ _ x.2.2]:List _),ad,ad,aa,aa,by rw[show(L.take _).filter (λx=>!p x)=(L.take j).filter (λx=>!p x)from by rw[gg,u,tN];simp[s.out]];exact m,by rw[c'];show f.length+5+_=_;omega,by rw[show(L.take _).filter (λx=>!p x)=(L.take j).filter (λx=>!p x)from by rw[gg,u,tN];simp[s.out],wG.out,T.out];have h:ak _ _ _ [aj G (pre++(f++(([J R x.1.k,J R x.1.to,J R x.1.fr,J R x.1.n,ae x.2.1 x.1.data.length x.2.2]:List aO)++eI++fg))).toArray 73]:=a.pick [1];simpa using h⟩
     case measure=>simp[cO]<;>omega
    |false=>
     refine b' ?_;refine bh a 0 #[J R x.1.k,J R x.1.to,J R x.1.fr,J R x.1.n,ae x.2.1 x.1.data.length x.2.2] ?_;refine bH ((by have h:=Y.out x _ lA a.only;rw[s.out]at h;exact h)) a (λc5 a=>?_) (hr:=by(first|(go_simp;done)|(go_simp;exact U.out _ _)));refine mO ?_;refine bh a 0 #[J R x.1.k,J R x.1.to,J R x.1.fr,J R x.1.n,ae x.2.1 x.1.data.length x.2.2] ?_;refine aI _ (cq 24 73 5 _ _ aa eA ay G 0 _ c i ((i*5)) aa aa ad ad) ?_;refine I2 a 1 (F5 (cs':=(pre++(([J R x.1.k,J R x.1.to,J R x.1.fr,J R x.1.n,ae x.2.1 x.1.data.length x.2.2]:List aO)++(f++(([J R x.1.k,J R x.1.to,J R x.1.fr,J R x.1.n,ae x.2.1 x.1.data.length x.2.2]:List aO)++eI++fg)).drop 5)).toArray) (av #[J R x.1.k,J R x.1.to,J R x.1.fr,J R x.1.n,ae x.2.1 x.1.data.length x.2.2]) aa aa aa (a.aX 1) (by show i*5+5<=_;rw[iG,c',c',c',c',Z];show _<=_+(_+(5+_+_));omega) ay ay (by have e:=CS ([J R x.1.k,J R x.1.to,J R x.1.fr,J R x.1.n,ae x.2.1 x.1.data.length x.2.2]:List aO) pre (f++(([J R x.1.k,J R x.1.to,J R x.1.fr,J R x.1.n,ae x.2.1 x.1.data.length x.2.2]:List aO)++eI++fg)) (by rw[c',c',c'];show 5<=_+(5+_+_);omega);rw[Z]at e;exact e)) (λdK a=>?_);refine b' ?_;refine pad (i:Int) 1 ((i+1:Nat):Int) ?_;refine cK ?_;refine pad (j:Int) 1 ((j+1:Nat):Int) ?_;refine bP ?_;go_wp2_with fail;go_roundw;case rel=>exact⟨i+1,j+1,(f++([J R x.1.k,J R x.1.to,J R x.1.fr,J R x.1.n,ae x.2.1 x.1.data.length x.2.2]:List aO)).drop 5,ad,ad,aa,aa,by rw[(show(L.take _).filter (λx=>!p x)=(L.take j).filter (λx=>!p x)++[x]from by rw[gg,u,tN];simp[s.out]),c',m];rfl,by rw[tP,c'];show f.length+5 -5+_=_;omega,by rw[(show(L.take _).filter (λx=>!p x)=(L.take j).filter (λx=>!p x)++[x]from by rw[gg,u,tN];simp[s.out]),Es,wG,Rw,T];have h:ak _ _ _ [aj G (pre++(([J R x.1.k,J R x.1.to,J R x.1.fr,J R x.1.n,ae x.2.1 x.1.data.length x.2.2]:List aO)++(f++(([J R x.1.k,J R x.1.to,J R x.1.fr,J R x.1.n,ae x.2.1 x.1.data.length x.2.2]:List aO)++eI++fg)).drop 5)).toArray 73]:=a.pick [1];rw[show pre++(([J R x.1.k,J R x.1.to,J R x.1.fr,J R x.1.n,ae x.2.1 x.1.data.length x.2.2]:List aO)++(f++(([J R x.1.k,J R x.1.to,J R x.1.fr,J R x.1.n,ae x.2.1 x.1.data.length x.2.2]:List aO)++eI++fg)).drop 5)=pre++([J R x.1.k,J R x.1.to,J R x.1.fr,J R x.1.n,ae x.2.1 x.1.data.length x.2.2]:List aO)++((f++([J R x.1.k,J R x.1.to,J R x.1.fr,J R x.1.n,ae x.2.1 x.1.data.length x.2.2]:List aO)).drop 5++(eI++fg))from by rw[j0,j0,<-j0 f,List.drop_append_of_le_length (by rw[c'];show 5<=_+5;omega)]]at h;exact h⟩
     case measure=>simp[cO]<;>omega
   .have cN:¬(j:Int)<(L.length:Int):=ad;obtain rfl:j=L.length:=ad;rw[kH]at a l;rw[List.drop_length]at a;have m:=hid l;clear l;go_step;refine ah ?_;refine v4 ?_;refine an ?_;obtain⟨cu,z⟩:=ex ((cE (L.filter (λx=>!p x))++(f++(cE []++fg))).toArray);have H2:cu.size=c*5:=by rw[<-z,iG,c',c',c',Hv,m];have:=Qt.out;show _+(_+(0+_))=_;omega
    have hcut:cu.toList.take (i*5)=cE (L.filter (λx=>!p x)):=by rw[<-z,<-m,<-Hv];simp
    rw[z]at a;have S:=hid H2;have DW:=hid hcut;clear z H2 hcut;refine hE ?_;refine aI (ae (ab ⟨G,i*5,af⟩) (L.length -i) (c -i)) (afh 24 73 5 (bj 36) (bj 37) aa eA ay G L.length c i (L.length -i) aa aa ad r.out (by have:=r.out;omega)) ?_;refine adU (C:=λy=>y.size=cu.size/\y.toList.take (i*5)=cu.toList.take (i*5)) a 0 (aeS (sz:=5) aa aY eA aY aY ay ad (a.aX 0) (by rw[S];have:=r.out;omega)) (λib y Sh a=>?_);refine an ?_;obtain⟨F,H⟩:=Sh;rw[DW]at H;rw[S]at F;replace a:ak _ _ _ [aj G y 73]:=a;have QC:=hid F;have ve:=hid H;clear F H;refine hE ?_;refine aI (ae (ab (⟨G,0,af⟩:bQ)) i c) (qt 24 73 5 (bj 39) (bj 40) aa eA ay (ab (⟨G,0,af⟩:bQ)) L.length c i aa aa (by have:=r.out;omega)) ?_;refine bP ?_;have V:=a.A9 0 i c 5 (cE (L.filter (λx=>!p x))) ve (by have:=r.out;omega) Q QC;rw[<-m]at V;go_wp2_with fail;go_ret;exact⟨_,by rw[m.out];rfl,V.fM 0⟩
def sX(old:List Int)(ev:List Int)(i:Nat)(m:bJ):bJ:=if m.k=1/\(i:Int)∈ev then⟨2,m.to,0,0,(old.drop m.fr.toNat).take m.n.toNat⟩else m
def uP(old ev:List Int)(ms:List bJ)(j:Nat):List bJ:=ms.mapIdx (λi m=>if i<j then sX old ev i m else m)
def uO(old ev:List Int)(ms:List bJ):List bJ:=ms.mapIdx (sX old ev)
theorem avX(old ev)ms:uP old ev ms 0=ms:=by unfold uP;refine rH λi=>?_;rw[List.getElem?_mapIdx];cases ms[i]?<;>simp
def avW(old ev)ms:uP old ev ms ms.length=uO old ev ms:=by unfold uP uO;refine rH λi=>?_;grind
def afC(old ev)ms j:(uP old ev ms j).length=ms.length:=by simp[uP]
def afB{old ev ms j m}(h:ms[j]?=ab m):(uP old ev ms j)[j]?=ab m:=by grind[uP]
def Uz{old ev ms j m}(h:ms[j]?=ab m):uP old ev ms (j+1)=(uP old ev ms j).set j (sX old ev j m):=by have a:=(e5.1 h).1;refine rH λi=>?_;grind[uP]
def ae6{a:Type}{l:List a}{j x}(h:l[j]?=ab x):l.set j x=l:=by grind[List.set_getElem_self]
def amr{aq w FX A n c}{l:List jU}{L}(h:ak aq FX w (B9 A n c l::L)):ak aq FX w (bk A n c 73 5 (cE l)::gA l::L):=by
 refine(h.as 0 aa (both (bk A n c 73 5 (cE l)) (gA l)) (λa=>⟨a.1,a.2,λb hb d=>?_⟩) (λb hb=>hb)).fi;obtain⟨x,hx,o,f,d⟩:=d;obtain⟨k,m,hb⟩:=hb;obtain⟨_,cs,i⟩:=(a.2 x hx).2.1 b o f d;rcases a.1.2 with⟨e,_⟩|⟨g,cap,cur,e,_,j,_⟩;·grind
 .grind
def ak.am6{aq w FX L}{l:List jU}{m A c}j(h:ak aq FX w (gA l::cg A c m.data::L)):ak aq FX w (gA (l.set j (m,A,c))::L):=by
 refine h.star.as 0 aa _ (λa x hx=>?_) (λb hb=>?_)
 .rcases akd hx with hx|rfl;·exact a.1 x hx
  .exact a.2.1
 .obtain⟨x,hx,hb⟩:=hb;rcases akd hx with hx|rfl;·exact bM ⟨x,hx,hb⟩
  .exact b8 hb
def Y9:∀{l:List jU} {j x},j<l.length->cE (l.set j x)=(cE l).take (j*5)++(jv x.1 x.2.1 x.2.2++(cE l).drop (j*5+5))
 |[],_,_,h=>absurd h (Nat.not_lt_zero _)
 |y::l,0,x,_=>aa
 |y::l,j+1,x,h=>by have b:=Y9 (l:=l) (j:=j) (x:=x) aF;have bB:∀(a:jU) (k:List jU),cE (a::k)=jv a.1 a.2.1 a.2.2++cE k:=λ_ _=>aa;have bY:(jv y.1 y.2.1 y.2.2).length=5:=rfl;have t1:(jv y.1 y.2.1 y.2.2).take (j*5+5)=jv y.1 y.2.1 y.2.2:=tQ ad;have t2:(jv y.1 y.2.1 y.2.2).drop (j*5+5+5)=[]:=List.drop_eq_nil_of_le ad;rw[List.set_cons_succ,bB,bB,b,tT,XZ,List.drop_append,bY,t1,t2,show j*5+5 -5=j*5 by omega,show j*5+5+5 -5=j*5+5 by omega,List.nil_append,j0]
def aus{P o}{a:Act}{w g n c j}{l:List jU}{x p q}(h:Row 0 w (ab ⟨g,0,af⟩) n c 73 5 (cE l))(C:j<n)(hn:l.length=n)(ho:o.op=.store 73 p q)(hx:a.eval p=ax (ab ⟨g,j*5,af⟩))(z:a.eval q=av (jv x.1 x.2.1 x.2.2).toArray)(hi:(P.info? 73).map (·.size)=ab 5):
 ∃w',(execOp a.eval o).run P w=a6 .skip w'/\Turned w w' (bk (ab ⟨g,0,af⟩) n c 73 5 (cE l)) (bk (ab ⟨g,0,af⟩) n c 73 5 (cE (l.set j x))):=by
 obtain⟨G,cur,t,y,m,hcm,hcs,u⟩:=h.blk ad;cases t;have D:j*5+5<=n*5:=ad;have E:n*5<=c*5:=Nat.mul_le_mul_right _ m;obtain⟨w',h1,f,s,A⟩:=Np (P:=P) (k:=j*5) (v:=av (jv x.1 x.2.1 x.2.2).toArray) ho hx z y (by show j*5+5<=_;omega) (by rw[hi];rfl) ay;refine⟨w',h1,s.mono (G:=eb (ab ⟨g,0,af⟩)) (λi _ e=>⟨0,af,a8⟩),?_,λb hb=>?_⟩
 .have B:cur.toList.length=c*5:=ad;have d:(jv x.1 x.2.1 x.2.2).length=5:=rfl
  have e:lay cur (j*5) (jv x.1 x.2.1 x.2.2)=(cur.toList.take (j*5)++(jv x.1 x.2.1 x.2.2++(cur.toList.drop (j*5)).drop 5)).toArray:=by have q:=CS (jv x.1 x.2.1 x.2.2) (cur.toList.take (j*5)) (cur.toList.drop (j*5)) aF;rw[o1,nJ,wQ ad,d]at q;exact q
  have r:aU w' g (cur.toList.take (j*5)++(jv x.1 x.2.1 x.2.2++(cur.toList.drop (j*5)).drop 5)).toArray 73:=by rw[<-e];exact f
  have hr:=Jb (n:=n) (c:=c) (sz:=5) r m hcm aF
  have hx2:(cur.toList.take (j*5)++(jv x.1 x.2.1 x.2.2++(cur.toList.drop (j*5)).drop 5)).take (n*5)=cE (l.set j x):=by rw[Y9 ad,<-u,XZ,nJ,wQ ad,QU,XZ,d,List.drop_drop,QU,List.drop_take,Nat.min_eq_right ad,wQ ad,tQ (l:=jv x.1 x.2.1 x.2.2) ad];congr 2
  show Row 0 w' _ _ _ _ _ _;rw[<-hx2];exact hr
 .obtain⟨F,H,e⟩:=hb;cases e;exact⟨aU.lt f,bM ⟨_,_,aa⟩⟩
def avY(s A E)(bZ c O)(old ev)n(g1 g2)ms w(hold:bX w s old)(hc0:old.length<=bZ)(iw:old.length<=1048576)(hl:cX w A ms)(dR:ms.length<=1000)(p6:∀m∈ms,m.data.length<=140737488355328)(jO:c8 w E ev)(azD:ev.length<=1048576)(k5:∀m∈ms,m.k=1->∃f q:Nat,m.fr=(f:Int)/\m.n=(q:Int)/\f+q<=old.length):
 aD aw 103 #[ae s old.length bZ,eB (old.length:Int) n g1 g2 (ae A ms.length c),ae E ev.length O] w λe w'=>∃D F l,l.map (·.1)=uO old ev ms/\e=aB (bm #[eB (old.length:Int) n g1 g2 (ae D ms.length F),ai az])/\cf w w' (bK [bk D ms.length F 73 5 (cE l),gA l]):=by
 have cH:=hid hl;have BH:=hid hold;have qJ:=hid k5;have sB:=hid p6;have wF:aE (∀(j:Nat) W,ar w W->aD aw 190 #[ae E ev.length O,J R (j:Int)] W λe w'=>e=aB (ai (decide ((j:Int)∈ev)))/\ar W w'):=hid (λj W g=>(G.Hy E O ev (j:Int) W (jO.only g (λ_ _ _ h=>h)) ad).mono λ_ _ ⟨h1,h2⟩=>⟨h1,h2▸au.refl _ _⟩);clear hl hold k5 jO p6;go_enter func103,ntmps103;have a:=bc w;go_step;refine ah ?_;refine bG a (av (a7 (old.length:Int) n g1 g2 (ae A ms.length c))) (λY w1 a=>?_);refine bA a (a7 0 0 dS.zero dS.zero (ae af 0 0)) (λZ aW a=>?_);refine cK ?_;refine pl a 1 0 ?_ (hv:=ku);refine v2 ?_;refine aI (ai ao) (by(go_simp;try simp)) ?_;refine ah ?_;refine bh a 1 (a7 (old.length:Int) n g1 g2 (ae A ms.length c)) ?_ (hv:=(eW _)) (hk:=by omega) (hz:=(by rw[bW];rfl));refine ag ?_;refine pl a 1 66 ?_ (hv:=eH);refine aP (Jq _ n g1 g2 _ A c ms _ aa (cH.out.aG a.only) (ea dR bf) sB) ?_;rintro e bI ⟨aJ,c2,bz,rfl,hF,jY⟩;replace a:=a.new _ hF;refine aQ ?_;refine bA a (a7 0 0 dS.zero dS.zero (ae af 0 0)) (λeS cc a=>?_);refine a' a 0 (av (a7 (old.length:Int) n g1 g2 (ae aJ ms.length c2))) (λcJ a=>?_) (hk:=by show 0+ja (a7 _ _ _ _ _)<=_;simp only[bW];decide) (hz:=by show _=ab (ja (a7 _ _ _ _ _));rw[bW];rfl) (h1:=(w2 aa)) (hc:=xt);refine an ?_;obtain⟨l,xh,rfl⟩:=jY;replace a:=amr (a.front 1);refine b' ?_;refine pl a 4 66 ?_ (hv:=eH);refine dZ ?_;have cj:=a.pk [0,1,2,3,4];go_wp2_with fail;go_loopw [26] (λU wr=>∃(j:Nat) (l:List jU),j<=ms.length/\U=J R (j:Int)/\aE (l.map (·.1)=uP old ev ms j)/\ak w (λ_=>False) wr [bk aJ ms.length c2 73 5 (cE l),gA l,aj eS (a7 (old.length:Int) n g1 g2 (ae aJ ms.length c2)) 26,aj Z (a7 0 0 dS.zero dS.zero (ae af 0 0)) 26,aj Y (a7 (old.length:Int) n g1 g2 (ae A ms.length c)) 26]) (λU wr=>ms.length -(cO U).toNat);case atStart=>exact⟨0,l,cF _,aa,hid (by grind[avX]),cj⟩
 case round=>
  clear a cj xh;obtain⟨j,l,hj,rfl,p,a⟩:=hrel;by_cases hlt:j<ms.length
  .have cN:(j:Int)<(ms.length:Int):=ad;obtain⟨m,S⟩:∃m,ms[j]?=ab m:=⟨_,cC hlt⟩;obtain⟨y,B,o,r,bC,eu,dh⟩:=cX.ji cH S;have cn:=hid bC;have iR:=hid eu;have K:=hid dh;have t:=hid S;clear bC eu dh S;go_step;refine ah ?_;refine bu (ai az) ?_;refine an ?_;by_cases hk:m.k=1
   .obtain⟨f,q,Q,T,Cr⟩:=qJ m (cY t) hk;obtain⟨bs,P⟩:=ex ((old.drop f).take q);have hbl:q=bs.length:=by rw[<-P,nJ,tP];omega
    subst hbl;rw[hk,Q,T]at K;have rB:=hid P;have M:=hid (And.intro hk (And.intro Q T));clear hk Q T P;refine b' ?_;refine aI (ax (ab ⟨y,(B+j*5),af⟩)) (cq 24 73 5 (bj 24) (bj 26) aa eA ay y B (ms.length) c j ((B+j*5)) (by show ae A _ _=_;rw[cn]) aa hlt aa) ?_;refine aI _ (by(refine eC 73 _ aa y _ aa _ (K _ a.only) fy aa ay)) ?_;refine bA a #[J R 0,J R 0,J R 0,J R 0,ae af 0 0] (λV c5 a=>?_);refine ag ?_;refine a' a 0 (av #[J R 1,J R m.to,J R (f:Int),J R (bs.length:Int),ae o m.data.length r]) (λdK a=>?_);refine ah ?_;refine bh a 0 #[J R 1,J R m.to,J R (f:Int),J R (bs.length:Int),ae o m.data.length r] ?_;refine bH (A4 m.to (f:Int) (bs.length:Int) o m.data.length r _) a (λdz a=>?_);refine v3 ?_;refine bA a #[J R 0,J R 0] (λX eY a=>?_);refine a' a 0 (av #[J R (f:Int),J R (bs.length:Int)]) (λgQ a=>?_);refine bP ?_;by_cases z:(j:Int)∈ev
    .have L:aE (decide ((j:Int)∈ev)=az):=hid (by simpa using z);have C:aE (sX old ev j m=⟨2,m.to,0,0,bs⟩):=hid (by rw[sX,if_pos ⟨M.1,z⟩,M.2.1,M.2.2];show(⟨2,m.to,0,0,(old.drop f).take bs.length⟩:bJ)=_;rw[rB]);obtain⟨x,hx⟩:∃x,l[j]?=ab x:=⟨l[j]'(by have h:=congrArg vk p;rw[gV,afC]at h;omega),cC _⟩;obtain⟨H,qU,_⟩:=(a.atR 2).cell (Ev hx 0 _ aa);subst qU;have gd:aE (l.length=ms.length):=hid (by have h:=congrArg vk p;rwa [gV,afC]at h);clear z hx;refine n3 ?_;refine bH ((by have h:=wF.out j _ a.only;rw[L.out]at h;exact h)) a (λib a=>?_);refine iB ?_;refine bN a [14,15,17] (λi u=>match i with|14=>ae (ab ⟨u.b,0,af⟩) 1 1|15=>av #[J R 2,J R m.to,J R 0,J R 0,ae u.A bs.length u.c]|_=>a1) (λd=>λ|14=>aj ((d 14).b) #[ae (fF s bZ f 1) bs.length (bZ -f)] 22|15=>cg (d 15).A (d 15).c bs|17=>bk (ab ⟨H,0,af⟩) ms.length c2 73 5 (cE (l.set j (⟨2,m.to,0,0,bs⟩,(d 15).A,(d 15).c)))|_=>emp) (λ|17=>[2]|_=>[]) (λ|1=>[4]|4=>[1]|7=>[0]|9=>[0]|11=>[0]|15=>[21]|_=>[]) (λ|14=>[14]|15=>[15]|17=>[15]|_=>[]) [0,1,3,4,5,6,21,22,24] (λd=>?_);refine aK ?_;refine dl 0 66 ?_ (hv:=eH);refine bF ?_;refine dl 0 1 ?_;refine bF ?_;refine dl 0 0 ?_;refine aK ?_;refine dl 0 0 ?_;refine aK ?_;refine dl 0 1 ?_;refine aN _ (λ_ _ _=>mZ 3 _ _ 3 aa _ _ ((f+bs.length:Nat):Int) aa aa ad ad ad) ?_;refine aN _ (λ_ _ _=>Jh 22 5 1 _ _ _ aa dL ay s _ bZ f _ bs.length aa aa aa ad ad) ?_;refine lN _ 22 ?_;refine du (λwl Fr a=>((Tw m.to (d 14).b (fF s bZ f 1) (bZ -f) bs wl ((a.aX 0).cell 0 aa) (by have h:=(BH.out.aG a.only).win (i:=f) (q:=f+bs.length) (ea (b4 _) hc0) Cr;rw[show f+bs.length -f=bs.length by omega,rB]at h;exact h) ad)).mono ?_) ?_;·rintro e dA ⟨D,F,rfl,kd,g⟩;exact⟨{A:=D,c:=F},aa,a.jE g kd⟩
     refine aN _ (λ_ _ _=>cq 24 73 5 _ _ aa eA ay H 0 _ c2 j ((j*5)) aa aa hlt ad) ?_;refine Lm (λ_ _ a=>aus (x:=(⟨2,_,0,0,bs⟩,(d 15).A,(d 15).c)) (a.atR 0) hlt gd aa aa aa ay) ?_;refine bU λjS a=>?_;generalize (d 14).b=agr at a⊢;generalize (d 15).A=I at a⊢;generalize (d 15).c=N at a⊢;replace a:=ak.am6 j (m:=⟨2,m.to,0,0,bs⟩) (a.pick (l':=[gA l,cg I N bs,aj X #[J R (f:Int),J R (bs.length:Int)] 35,aj V #[J R 1,J R m.to,J R (f:Int),J R (bs.length:Int),ae o m.data.length r] 73,aj eS (a7 (old.length:Int) n g1 g2 (ae (ab ⟨H,0,af⟩) ms.length c2)) 26,aj Z (a7 0 0 dS.zero dS.zero (ae af 0 0)) 26,aj Y (a7 (old.length:Int) n g1 g2 (ae A ms.length c)) 26,aj agr #[ae (fF s bZ f 1) bs.length (bZ -f)] 22,bk (ab ⟨H,0,af⟩) ms.length c2 73 5 (cE (l.set j (⟨2,m.to,0,0,bs⟩,I,N)))]) [2,7,0,1,3,4,5,6,8]);refine ah ?_;refine pad (j:Int) 1 ((j+1:Nat):Int) ?_;refine bP ?_;go_wp2_with fail;go_roundw;case rel=>exact⟨j+1,(l.set j (⟨2,_,0,0,bs⟩,I,N)),ad,aa,hid (by rw[List.map_set,p,Uz t,C]),a.pick [7,0,3,4,5]⟩
     case measure=>simp[cO]<;>omega
    .have L:aE (decide ((j:Int)∈ev)=ao):=hid (by simpa using z);have C:aE (sX old ev j m=m):=hid (by rw[sX,if_neg (λh=>z h.2)]);clear z;refine n3 ?_;refine bH ((by have h:=wF.out j _ a.only;rw[L.out]at h;exact h)) a (λkh a=>?_);refine en ?_;refine pad (j:Int) 1 ((j+1:Nat):Int) ?_;refine bP ?_;go_wp2_with fail;go_roundw;case rel=>exact⟨j+1,l,ad,aa,hid (by rw[Uz t,show sX _ ev j m=m from C,ae6 (afB t)];exact p),a.pick [2,3,4,5,6]⟩
     case measure=>simp[cO]<;>omega
   .have C:aE (sX old ev j m=m):=hid (by rw[sX,if_neg (λh=>hk h.1)]);refine b' ?_;refine aI (ax (ab ⟨y,(B+j*5),af⟩)) (cq 24 73 5 (bj 24) (bj 26) aa eA ay y B (ms.length) c j ((B+j*5)) (by show ae A _ _=_;rw[cn]) aa hlt aa) ?_;refine aI _ (by(refine eC 73 _ aa y _ aa _ (K _ a.only) fy aa ay)) ?_;refine bA a #[J R 0,J R 0,J R 0,J R 0,ae af 0 0] (λV lf a=>?_);refine ag ?_;refine a' a 0 (av #[J R m.k,J R m.to,J R m.fr,J R m.n,ae o m.data.length r]) (λmr a=>?_);refine ah ?_;refine bh a 0 #[J R m.k,J R m.to,J R m.fr,J R m.n,ae o m.data.length r] ?_;refine bH (A5 m.k m.to m.fr m.n o m.data.length r _ hk) a (λn1 a=>?_);refine v3 ?_;refine bA a #[J R 0,J R 0] (λX re a=>?_);refine a' a 0 (av #[J R 0,J R 0]) (λrf a=>?_);refine mO ?_;iterate 3 refine ps ?_
    refine en ?_;refine pad (j:Int) 1 ((j+1:Nat):Int) ?_;refine bP ?_;go_wp2_with fail;go_roundw;case rel=>exact⟨j+1,l,ad,aa,hid (by rw[Uz t,show sX _ ev j m=m from C,ae6 (afB t)];exact p),a.pick [2,3,4,5,6]⟩
    case measure=>simp[cO]<;>omega
  .have cN:¬(j:Int)<(ms.length:Int):=ad;obtain rfl:j=ms.length:=ad;rw[avW]at p;go_step;refine ah ?_;refine bu (ai ao) ?_;refine ah ?_;refine bh a 2 (a7 (old.length:Int) n g1 g2 (ae aJ ms.length c2)) ?_ (hv:=(eW _)) (hk:=by omega) (hz:=(by rw[bW];rfl));refine a' a 3 (av (a7 (old.length:Int) n g1 g2 (ae aJ ms.length c2))) (λuV a=>?_) (hk:=by show 0+ja (a7 _ _ _ _ _)<=_;simp only[bW];decide) (hz:=by show _=ab (ja (a7 _ _ _ _ _));rw[bW];rfl) (h1:=(w2 aa)) (hc:=xt);refine bP ?_;go_wp2_with fail;refine dp (v:=_) (mL aa aa aa (a.aX 3) ay (by rw[bW];rfl)) aa (⟨aJ,c2,l,p,aa,((a.pick (l':=[bk aJ ms.length c2 73 5 (cE l),gA l]) [0,1]).fv 2).fresh 0⟩)
instance aAq:Inhabited bJ:=⟨⟨0,0,0,0,[]⟩⟩
def rc(A:Option bQ)(n sz:Nat)(xs:List aO):bp:=⟨λb=>0<n/\eb A b,λw=>Cells w sz A n xs,λw w' h d a=>⟨a.1,λhn=>by obtain⟨⟨eF,fB,c⟩,rfl,hc⟩:=a.2 hn;have hb:w'.heap[eF]?=w.heap[eF]?:=h eF ⟨hn,fB,c,aa⟩ (d eF ⟨hn,fB,c,aa⟩);grind[wb,DQ]⟩⟩
def oy(x:jU):List Value:=jv x.1 x.2.1 x.2.2
def Lg(x y:jU):Int:=zu x.1.to y.1.to
theorem MJ(x y):GD Lg x y=decide (x.1.to<y.1.to):=by grind[GD,Lg,zu]
def avO:Sort.SWO (GD Lg) where
 irrefl x:=by grind[MJ]
 trans x y z h1 h2:=by grind[MJ]
 ntrans x y z h1 h2:=by grind[MJ]
def avx(x y)W:aD aw 107 #[av (oy x).toArray,av (oy y).toArray] W λe w'=>e=aB (J R (zu x.1.to y.1.to))/\∃q b,w'=GF (W.drewN q) b:=by have hcon:=λa=>YX x.1.to y.1.to a;generalize zu x.1.to y.1.to=r at hcon⊢;unfold oy jv;go_enter func107,ntmps107;go_wp2_with (go_at_call 108;refine(hcon _).mono ?_;rintro e w' ⟨rfl,rfl⟩);go_ret;exact⟨aa,0,_,by rw[Ps,Ps,Sort.grow_grow];rfl⟩
def anr args w:(km 107 args).run aw w=a6 (.enter 107 args) w:=aY
def au.atG F w(blk off)d(hb:F blk):au F w (WD oy 5 w blk off d):=
 ⟨aa,aa,aa,by show w.heap.size<=(w.heap.modify blk _).size;rw[age];exact b4 _,λk _ hn=>by show(w.heap.modify blk _)[k]?=_;rw[Array.getElem?_modify,if_neg (λe:blk=k=>hn (e▸hb))]⟩
def Zx{l:List jU}{j c x}(hx:l[j]?=ab x){v}(hv:(oy x)[c]?=ab v):(cE l)[j*5+c]?=ab v:=Ev hx c v hv
def Row.apV{w g n c}{l:List jU}(h:Row 0 w (ab ⟨g,0,af⟩) n c 73 5 (cE l))(hn:l.length=n)(f:0<n):Pr oy 5 w g 0 l.toArray:=λt b=>by
 obtain⟨G,cur,d,i,_⟩:=h.blk f;cases d;rw[WE]at b;have j:t<l.length*5:=ad;have e:t/5<l.length:=ad;rw[WC oy 5 l.toArray t b,getElem!_pos l.toArray _ ad];refine⟨?_,by grind[World.frozen?]⟩;have hx:l[t/5]?=ab l[t/5]:=cC e;have a:t%5<(oy l[t/5]).length:=by show _<5;omega
 have hv:=Zx hx (cC a);rw[show t/5*5+t%5=t by omega]at hv;have:=h.cellAt hv;rw[jt,this];simp only[List.getElem_toArray];rw[getElem!_pos (oy _) (t%5) a];rfl
def atQ{w g n d}(h:Pr oy 5 w g 0 d)(hn:d.size=n):Cells w 5 (ab ⟨g,0,af⟩) n (cE d.toList):=by
 refine⟨by grind[Y8],λ_=>⟨_,rfl,λj v hv=>?_⟩⟩;have b:=(e5.1 hv).1;rw[Y8,Array.length_toList]at b;have c:j/5<d.size:=ad;have hx:d.toList[j/5]?=ab d[j/5]:=a8;have a:j%5<(oy d[j/5]).length:=by show _<5;omega
 have hv2:=Zx hx (cC a);rw[show j/5*5+j%5=j by omega,hv]at hv2;have hc:=(h j (by grind[WE])).1;rw[WC oy 5 d j b,getElem!_pos d _ c,getElem!_pos (oy d[j/5]) (j%5) a]at hc;rw[hv2,nL];exact hc
def avo(n c)A(l:List jU)w(hr:Row 0 w A n c 73 5 (cE l))(hn:l.length=n)(hlen:n<=1048576):
 aD aw 106 #[ae A n c,dC (ed 107) #[] #[]] w λe w'=>e=aB (bm #[])/\∃l',l'.Perm l/\l'.Pairwise (λx y=>x.1.to<=y.1.to)/\Turned w w' (bk A n c 73 5 (cE l)) (rc A n 5 (cE l')):=by
 rcases Nat.eq_zero_or_pos n with p|f;·subst p;obtain rfl:l=[]:=j2 hn;refine(agN Tryz.ac0 A c _ w).mono ?_;rintro e w' ⟨rfl,rfl⟩;exact⟨aa,[],BN _,Hc,au.refl _ _,⟨rfl,λh=>absurd h (akk _)⟩,λb hb=>absurd hb.1 (akk _)⟩
 .obtain⟨g,cur,rfl,q,_⟩:=hr.blk f;have hlt:=aU.lt q;have a:=hr.apV hn f;subst hn
  have h:=agO Tryz.ac0 5 isAgg73 sizeOf73 oy (λ_=>aa) (λx v hv=>Er x.1 x.2.1 x.2.2 v hv) Lg avO 107 #[] g 0 c l.toArray w anr
   (λm os gZ _ x y=>avx x y _) a hlt aF;simp only[iG]at h;change aD aw 106 _ _ _ at h;refine h.mono ?_;clear h;rintro e w' ⟨rfl,bD,m,os,k,s,rfl⟩;have hsz:bD.size=l.length:=by have:=k.1;simpa using this
  have d:au (λi=>i=g) w (GF (WD oy 5 (Sort.ahead w m) g 0 bD) os):=((au.Yg (λi=>i=g) w m).trans (au.atG (λi=>i=g) _ g 0 bD aa) (λ_ _ h=>h)).trans (au.Z6 _ _ os) (λ_ _ h=>h);refine⟨aa,bD.toList,?_,?_,d.mono (G:=eb (ab ⟨g,0,af⟩)) (λi _ e=>⟨0,af,a8⟩),atQ ?_ hsz,λb hb=>?_⟩
  .have:=k.2.2;have bB:(bD.extract 0 l.length).toList=bD.toList:=by rw[<-hsz];simp
   grind
  .rw[l5];intro i j hi t r;have:=s i j (cF _) r aF;grind[MJ]
  .refine Sort.holdsK_grow oy 5 _ os g 0 bD ?_ (Sort.holdsK_putRowK oy 5 _ g 0 l.toArray bD (Sort.holdsK_ahead oy 5 w m g 0 l.toArray a) ad);show g<(w.heap.modify g _).size;rw[age];exact hlt
  .obtain⟨_,o,u,e⟩:=hb;cases e;exact⟨wP hlt d.size,bM ⟨_,_,aa⟩⟩
def akV m A c w:
 aD aw 105 #[l6 m A c] w λe w'=>e=aB (ai (!decide (m.k=2)))/\ar w w':=by
 obtain⟨r,hr⟩:=ex (decide (m.k=2));have b:aE ((m.k !=2)=!r):=hid aF;rw[hr];clear hr;go_enter Tryz.func105,ntmps105;have a:=bc w;go_step;refine ah ?_;refine bG a (av #[J R m.k,J R m.to,J R m.fr,J R m.n,ae A m.data.length c]) (λd w1 a=>?_);refine cK ?_;refine pl a 0 0 ?_;refine di b (ai !r) ?_;refine bP ?_;go_wp2_with fail;go_ret;exact⟨aa,a.only⟩
def auH o A(n c)w:(Instr.build 26 #[(0,J R o),(4,ae A n c)]).run aw w=a6 (eB o 0 dS.zero dS.zero (ae A n c)) w:=ay
def alp{d}{a:Act}{w b df o A n c}(ho:d.op=.build 26 #[(0,b),(4,df)])(f:a.eval b=J R o)(h1:a.eval df=ae A n c):
 (execOp a.eval d).run aw w=a6 (.value (eB o 0 dS.zero dS.zero (ae A n c))) w:=by
 have hr:=auH o A n c w;unfold execOp;simp only[ho,Sem.run_bind];have e:(#[(0,b),(4,df)].map λ(i,x)=>(i,a.eval x))=(#[(0,J R o),(4,ae A n c)]:Array (Nat×aO)):=aF;rw[e,hr];rfl
theorem c8.cell{w A xs b off j x}(h:c8 w A xs)(a:A=ab ⟨b,off,af⟩)(hx:xs[j]?=ab x):w.cell? ⟨b,off+j,af⟩=ab (J R x):=by have c:=(e5.1 hx).1;obtain⟨eV,d,e,hc⟩:=h ad;grind
def ak.am7{aq w FX L}{l:List jU}(l':List jU)(a:∀x∈l',x∈l)(h:ak aq FX w (gA l::L)):ak aq FX w (gA l'::L):=
 h.as 0 aa _ (λc x hx=>c x (a x hx)) (λb ⟨x,hx,hb⟩=>⟨x,a x hx,hb⟩)
def ak.am4{aq w FX L}{l l':List jU}(h:ak aq FX w (gA l::gA l'::L)):ak aq FX w (gA (l++l')::L):=
 h.star.as 0 aa _ (λa x hx=>(j3.1 hx).elim (a.1 x) (a.2.1 x)) (λb ⟨x,hx,hb⟩=>(j3.1 hx).elim (λh=>bM ⟨x,h,hb⟩) (λh=>b8 ⟨x,h,hb⟩))
def amq(l:List jU):∀u∈cE l,u.oneCell'=true:=by intro u a;obtain⟨x,_,a⟩:=List.mem_flatMap.1 a;exact Er _ _ _ u a
def jR(ms:List bJ)(od:List Int):List bJ:=od.filterMap (λx=>ms[x.toNat]?)
def asK{ms}{od:List Int}{j i:Nat}{m}(hx:od[j]?=ab (i:Int))(a:ms[i]?=ab m):jR ms (od.take (j+1))=jR ms (od.take j)++[m]:=by grind[gg,jR]
def lits(ms:List bJ):List bJ:=ms.filter (λm=>decide (m.k=2))
theorem arA(l:List jU):(l.filter (λx=>!!decide (x.1.k=2))).map (·.1)=lits (l.map (·.1)):=by
 induction l with
 |nil=>rfl
 |cons x l a=>grind[lits]
def aj1(old:List Int)(ms:List bJ)(o od:List Int)(out:List bJ):Prop:=∃rs,rs.Perm (lits (uO old o ms))/\rs.Pairwise (λx y=>x.to<=y.to)/\out=jR ms od++rs
def akX(C A)(bZ c)old ms S(o od)w(hold:bX w C old)(hc0:old.length<=bZ)(iw:old.length<=1048576)(K:cX w A ms)(p6:∀m∈ms,m.data.length<=140737488355328)(hc:Conv ms S o od)(abM:∀x∈od,∃i:Nat,x=(i:Int)/\i<ms.length)(abN:od.length<=1048576)(k5:∀m∈ms,m.k=1->∃f q:Nat,m.fr=(f:Int)/\m.n=(q:Int)/\f+q<=old.length):
 aD aw 45 #[ae C old.length bZ,ae A ms.length c] w λe w'=>∃y aC l,aj1 old ms o od (l.map (·.1))/\e=aB (ae y l.length aC)/\cf w w' (bK [bk y l.length aC 73 5 (cE l),gA l]):=by
 have dR:=hc.ok.dI;have V:=hid K;have BH:=hid hold;have U:=hid p6;have qJ:=hid k5;have ajo:=hid abM;have ai2:=hid hc.RS;have D0:aE (∀W,au (λ_=>False) w W->aD aw 88 #[ae A ms.length c] W λe w'=>∃b h r d s,e=aB (av #[ae A ms.length c,ax (ab ⟨b,0,af⟩),ae h o.length r,ae d od.length s])/\cf W w' (bK [mn h o,mn d od])):=hid (λW g=>al6 A c ms S o od W (K.aG g) hc);have abN:od.length<=1048576:=abN;clear K hold p6 k5 abM hc;go_enter func45,ntmps45;have a:=bc w;go_step;refine ah ?_;refine ag ?_;refine an ?_;go_step;refine ah ?_;refine ag ?_;refine aP (D0 _ a.only) ?_;rintro e w1 ⟨b,h,r,d,s,rfl,H⟩;replace a:=a.new _ H;refine aQ ?_;refine bA a #[ae af 0 0,ax af,ae af 0 0,ae af 0 0] (λB aW a=>?_);refine a' a 0 (av #[ae A ms.length c,ax (ab ⟨b,0,af⟩),ae h o.length r,ae d od.length s]) (λbI a=>?_);refine an ?_;replace a:ak _ _ _ [mn h o,mn d od,aj B #[ae A ms.length c,ax (ab ⟨b,0,af⟩),ae h o.length r,ae d od.length s] 183]:=(a.front 1).kT;go_step;refine ah ?_;refine ag ?_;refine an ?_;replace a:=(a.new (bk af 0 0 73 5 []) ⟨au.refl _ _,Row.nil _ _ _ _,λb ⟨_,_,e⟩=>aF⟩).Ls;go_step;refine ah ?_;refine ag ?_;refine pl a 4 3 ?_;iterate 2 refine ag ?_
 refine an ?_;have Z:=a.pick (l':=[bk af 0 0 73 5 (cE []),gA [],mn h o,mn d od,aj B #[ae A ms.length c,ax (ab ⟨b,0,af⟩),ae h o.length r,ae d od.length s] 183]) [1,0,2,3,4];go_wp2_with fail;go_loopw [6,17] (λic N wr=>∃(j:Nat) (aJ:Option bQ) (c2:Nat) (l:List jU),j<=od.length/\aE (l.map (·.1)=jR ms (od.take j))/\aE (l.length=j)/\ic=ae aJ j c2/\N=J R (j:Int)/\ak w (λ_=>False) wr [bk aJ j c2 73 5 (cE l),gA l,mn h o,mn d od,aj B #[ae A ms.length c,ax (ab ⟨b,0,af⟩),ae h o.length r,ae d od.length s] 183]) (λic N wr=>od.length -(cO N).toNat);case atStart=>exact⟨0,_,0,[],cF _,hid aa,hid aa,aa,aa,Z⟩
 case round=>
  clear a Z;obtain⟨j,aJ,c2,l,hj,E,X,rfl,rfl,a⟩:=hrel;by_cases hlt:j<od.length
  .have cN:(j:Int)<(od.length:Int):=ad;obtain⟨x,hx⟩:∃x,od[j]?=ab x:=⟨_,cC hlt⟩;obtain⟨i,Mn,de⟩:=ajo x (cY hx);subst Mn;obtain⟨Ad,P,Ar,_⟩:=(a.at 3:c8 _ d od) ad;have T:=hid Ar;have rF:=hid hx;clear hx Ar;obtain⟨m,L⟩:∃m,ms[i]?=ab m:=⟨_,cC de⟩;obtain⟨F,O,D,G,bC,eu,dh⟩:=cX.ji V L;have cn:=hid bC;have iR:=hid eu;have dx:=hid dh;have Y:=hid L;clear bC eu dh L;have ko:=hid (asK rF Y);go_step;refine ah ?_;refine aI (ai az) (by(go_simp;try omega)) ?_;refine an ?_;go_step;refine ah ?_;refine aI (ax (ab ⟨Ad,(P+j),af⟩)) (cq 82 3 1 (bj 15) (bj 17) aa hR aY Ad P _ s j ((P+j)) (by show ae d _ _=_;rw[T]) aa hlt ad) ?_;refine aI (J R (i:Int)) (po aa aa (c8.cell (a.at 3) T rF) aY) ?_;refine ag ?_;refine an ?_;go_step;refine ah ?_;iterate 3 refine ag ?_
   refine aI (ax (ab ⟨F,(O+i*5),af⟩)) (cq 24 73 5 (bj 22) (bj 23) aa eA aY F O _ c i _ (by show ae A _ _=_;rw[cn]) aa de aa) ?_;refine aI (av #[J R m.k,J R m.to,J R m.fr,J R m.n,ae D m.data.length G]) (by(refine eC 73 (bj 24) aa F (O+i*5) aa ([J R m.k,J R m.to,J R m.fr,J R m.n,ae D m.data.length G]:List aO) (dx _ a.only) fy aa aY)) ?_;refine aP (Rv m.k m.to _ m.n D G _ _ (iR _ a.only).1 (U m (cY Y))) ?_;rintro e cc ⟨fN,gh,rfl,kd,g⟩;replace a:=a.jE g kd;refine aQ ?_;refine fC a #[J R m.k,J R m.to,J R m.fr,J R m.n,ae fN m.data.length gh] 73 (λagq cJ a=>?_);refine lZ (m:=1) a 2 56 (aU.cellsOf (m:=1) (a.aX 0) aa) (Er m fN gh) (λaf8 aly c5 a=>?_) (hby:=by omega);refine ag ?_;refine an ?_;replace a:=ak.Lr (a.pick (l':=[gA l,cg fN gh m.data,aj agq #[J R m.k,J R m.to,J R m.fr,J R m.n,ae fN m.data.length gh] 73,bk af8 (j+1) aly 73 5 ((cE l)++(jv m fN gh)),mn h o,mn d od,aj B #[ae A ms.length c,ax (ab ⟨b,0,af⟩),ae h o.length r,ae d od.length s] 183]) [3,1,0,2,4,5,6]);go_step;refine ah ?_;refine aI _ (mZ 3 _ _ 3 aa _ 1 ((j+1:Nat):Int) aa aa ad ad ad) ?_;refine ag ?_;refine an ?_;go_wp2_with fail;go_roundw;case rel=>exact⟨_,_,_,l++[(m,fN,gh)],ad,hid (by rw[gp,E,ko];rfl),hid (by rw[c',X];rfl),aa,aa,by rw[B8,Ew];exact a.pick [2,0,3,4,5]⟩
   case measure=>grind[cO]
  .have cN:¬(j:Int)<(od.length:Int):=ad;obtain rfl:j=od.length:=ad;rw[kH]at E;go_step;refine ah ?_;refine aI (ai ao) (by(go_simp;try omega)) ?_;refine an ?_;go_step;refine ah ?_;iterate 4 refine ag ?_
   refine aI (av _) (alp aa aa aa) ?_;refine ag ?_;refine pl a 4 2 ?_;refine aP (avY C A h bZ c r old o 0 _ _ ms _ (BH.out.aG a.only) hc0 iw (V.out.aG a.only) dR U (a.at 2) ai2 qJ) ?_;rintro e dK ⟨u,eG,t,xh,rfl,H⟩;replace a:=a.new _ H;refine aQ ?_;iterate 3 refine ag ?_
   refine bA a (a7 0 0 dS.zero dS.zero (ae af 0 0)) (λjT dz a=>?_);refine a' a 0 (av (a7 (old.length:Int) 0 dS.zero dS.zero (ae u ms.length eG))) (λeY a=>?_) (hk:=by show 0+ja (a7 _ _ _ _ _)<=_;simp only[bW];decide) (hz:=by rfl) (h1:=(w2 aa)) (hc:=xt);refine ag ?_;refine an ?_;replace a:ak _ _ _ [bk u ms.length eG 73 5 (cE t),gA t,aj jT (a7 (old.length:Int) 0 dS.zero dS.zero (ae u ms.length eG)) 26,bk aJ od.length c2 73 5 (cE l),gA l,mn h o,mn d od,aj B #[ae A ms.length c,ax (ab ⟨b,0,af⟩),ae h o.length r,ae d od.length s] 183]:=(a.front 1).kT;have abq:t.length=ms.length:=by grind[uO,List.length_mapIdx]
   obtain⟨p,abp⟩:∃z,t.filter (λx=>!!decide (x.1.k=2))=z:=⟨_,aa⟩
   have GP:aE (∀W,Row 0 W u ms.length eG 73 5 (cE t)->aD aw 104 #[ae u ms.length eG,dC (ed 105) #[] #[]] W λe w'=>∃y,e=aB (ae y p.length eG)/\Turned W w' (bk u ms.length eG 73 5 (cE t)) (bk y p.length eG 73 5 (cE p))):=hid (λW hr=>by rw[<-abq]at hr⊢;rw[<-abp];exact al2 u eG 105 #[] t (λx=>!decide (x.1.k=2)) W ad hr (λargs w=>enters_of Tryz.func105 aY aa _ w) (λx eE _ _=>akV _ _ _ eE));have ajc:aE (p.map (·.1)=lits (uO old o ms)):=hid (by grind[arA]);have ajD:aE (∀x∈p,x∈t):=hid (λx hx=>aF);have azS:p.length<=ms.length:=by grind[yq]
   clear xh abp abq;go_step;refine ah ?_;refine ag ?_;refine pl a 2 66 ?_ (hv:=eH);refine aP (GP _ (a.atR 0)) ?_;rintro e gQ ⟨kC,rfl,I⟩;replace a:=a.ek 0 I;refine aQ ?_;refine ag ?_;refine an ?_;go_step;refine ah ?_;refine ag ?_;refine aP (avo p.length eG kC p _ (a.atR 0) aa ad) ?_;rintro e ib ⟨rfl,v,M,r5,I⟩;replace a:=a.ek 0 I;refine aQ ?_;refine an ?_;go_step;refine ah ?_;iterate 2 refine ag ?_
   refine lZ (m:=p.length) a 3 56 (a.at 0) (amq v) (λQ YL jS a=>?_) (hby:=by omega);refine ag ?_;refine an ?_;replace a:=(a.pick (l':=[gA t,gA l,bk Q (od.length+p.length) YL 73 5 ((cE l)++(cE v))]) [1,4,3]).am7 v (λx hx=>ajD x (M.mem_iff.1 hx));replace a:=ak.am4 (a.pick (l':=[gA l,gA v,bk Q (od.length+p.length) YL 73 5 ((cE l)++(cE v))]) [1,0,2]);have gl:(l++v).length=od.length+p.length:=by rw[c',X,M.length_eq]
   rw[<-B8]at a;go_wp2_with fail;go_ret;exact⟨_,_,l++v,⟨_,by rw[<-ajc];exact M.map _,List.pairwise_map.2 r5,by rw[gp,E]⟩,by rw[gl];rfl,by rw[gl];exact((a.pick (l':=[_,_]) [1,0]).fv 2).fresh 0⟩
structure KJ (old:List Int) (ms:List bJ) (o:List Int) (rs:List bJ):Prop where
 perm:rs.Perm (lits (uO old o ms))
 lt:rs.Pairwise (λx y=>x.to<y.to)
def arE{rs:List bJ}(h:rs.Pairwise (λx y=>x.to<y.to)){x y}(hx:x∈rs)(b:y∈rs)(h1:x.to<=y.to)(a:y.to<=x.to):x=y:=by grind[List.mem_iff_getElem,l5]
def KJ.unique{old ms o rs a}(h:KJ old ms o rs)(b:a.Perm (lits (uO old o ms)))(d:a.Pairwise (λx y=>x.to<=y.to)):a=rs:=
 (b.trans h.perm.symm).eq_of_pairwise (le:=λx y:bJ=>x.to<=y.to) (λ_ _ hx e h1 c=>arE h.lt ((b.trans h.perm.symm).mem_iff.1 hx) e h1 c) d (h.lt.imp (λh=>Int.le_of_lt h))
theorem avV{old ev ms m}(h:m∈uO old ev ms):∃i x,ms[i]?=ab x/\m=sX old ev i x:=by grind[uO]
def akW{old ms o od rs}(hr:KJ old ms o rs)(d:old.length<=1048576)(b:∀m∈ms,m.data.length<=140737488355328):∀m∈jR ms od++rs,m.data.length<=140737488355328:=by
 intro m a;rcases j3.1 a with a|a;·obtain⟨x,_,hx⟩:=List.mem_filterMap.1 a;exact b m (cY hx)
 .have c:=(List.mem_filter.1 (hr.perm.mem_iff.1 a)).1;grind[avV,sX]
def asJ ms od:(jR ms od).length<=od.length:=List.length_filterMap_le _ _
def arz(old o)ms:(lits (uO old o ms)).length<=ms.length:=ea (yq _ _) (by simp[uO])
structure Dz (old:List Int) (ms:List bJ) (S:List kj) (o od:List Int) (rs:List bJ):Prop where
 ow:Conv ms S o od
 idx:∀x∈od,∃i:Nat,x=(i:Int)/\i<ms.length
 dI:od.length<=1000
 src:∀m∈ms,m.k=1->∃f q:Nat,m.fr=(f:Int)/\m.n=(q:Int)/\f+q<=old.length
 rs:KJ old ms o rs
def Dz.len{old ms S o od rs}(h:Dz old ms S o od rs):(jR ms od++rs).length<=2000:=by have h1:=asJ ms od;have a:=h.rs.perm.length_eq;have b:=arz old o ms;have c:=h.ow.ok.dI;have d:=h.dI;rw[c'];omega
def akY(g A)(bZ c)old ms S(o od)rs w(hold:bX w g old)(hc0:old.length<=bZ)(r:old.length<=1048576)(p:cX w A ms)(n:∀m∈ms,m.data.length<=140737488355328)(hc:Dz old ms S o od rs):
 aD aw 45 #[ae g old.length bZ,ae A ms.length c] w λe w'=>∃a d t,e=aB (ae a (jR ms od++rs).length d)/\cf w w' t/\gM t a d (jR ms od++rs):=
 (akX g A bZ c old ms S o od w hold hc0 r p n hc.ow hc.idx (ea hc.dI bf) hc.src).mono λe w' ⟨a,d,l,⟨i,h1,j,k⟩,s,f⟩=>by
  obtain rfl:=hc.rs.unique h1 j;have q:l.length=(jR ms od++i).length:=aF;refine⟨a,d,B9 a (jR ms od++i).length d l,aF,⟨f.1,?_,?_⟩,l,k,aa⟩;·rw[<-q];exact⟨f.2.1.1,f.2.1.2.1.1⟩
  .intro b hb;exact f.2.2 b (hb.elim bM (λh=>b8 (bM h)))
def aua {P w e p f ty b} {t B t2 jA:Nat} {cs c tmps} (h:e.results=#[x6 p ty,x6 f b]) (k:tmps.getD p a1=ax (ab ⟨B,0,af⟩)) (l:tmps.getD f a1=ax (ab ⟨jA,0,af⟩)) (hb:aU w B cs t) (hb2:aU w jA c t2)
 (hu:(P.underlying ty).map (λd=>d.isRow)=ab az) (hi:(P.info? ty).map (·.size)=ab cs.size) (S5:(P.underlying b).map (λd=>d.isRow)=ab az) (xg:(P.info? b).map (·.size)=ab c.size):(oe e tmps).run P w=a6 (bm #[av cs,av c]) w:=by
 cases hq:P.underlying ty with
 |none=>grind
 |some d=>
  cases oF:P.underlying b with
  |none=>grind
  |some g=>
   have r:d.isRow=true:=aF;have s:g.isRow=true:=aF;have j:=DS (P:=P) w B t ty cs (0,0) d hb hq aF hi;have hl2:=DS (P:=P) w jA t2 b c (0,0) g hb2 oF aF xg
   have hr:(oe e tmps).run P w=((u4 (tmps.getD p a1)).run P w).andThen λa m=>((wC ty a).run P m).andThen λx n=>((u4 (tmps.getD f a1)).run P n).andThen λi o=>((wC b i).run P o).andThen λbr q=>a6 (bm #[x,br]) q:=by simp only[oe,h];simp;try rfl
   rw[hr,k,l];simp only[u4,jK,jc,j,hl2]
def cf.Jn{w w' q t}(h:cf w w' (nW q t)):cf w w' t:=⟨h.1,h.2.1.2,h.2.2⟩
def amh(k A)(bZ c n)(g1 g2)old ms S(o od)rs w(y:old.length<=1048576)(hc0:old.length<=bZ)(hold:bX w k old)(G:mW w k)(x:cX w A ms)(hv:vp old.length n ms)(r:∀m∈ms,m.data.length<=140737488355328)(hg1:g1.l=gz old)(hg2:g2.l=gz (vW old ms))(H:(vW old ms).length<=1048576)(hc:Dz old ms S o od rs):
 aD aw 28 #[ae k old.length bZ,eB (old.length:Int) (n:Int) g1 g2 (ae A ms.length c)] w λe w'=>∃d f t,e=aB (bm #[eB (old.length:Int) (n:Int) g1 g2 (ae d (jR ms od++rs).length f),av #[J R 0,J R 0]])/\cf w w' t/\gM t d f (jR ms od++rs):=by
 have O:=hc.len;have F:=akW (od:=od) hc.rs y r;have M:aE (∀W,ar w W->aD aw 78 #[ae k old.length bZ,eB (old.length:Int) (n:Int) g1 g2 (ae A ms.length c)] W λe w'=>e=aB (av #[J R 0,J R 0])/\ar W w'):=hid (λW g=>awo old.length n bZ g1 g2 k A c old ms W aa y hc0 (hold.aG g) (G.aG g) (x.aG g) hv r hg1 hg2 H);have C:aE (∀W,ar w W->aD aw 45 #[ae k old.length bZ,ae A ms.length c] W λe w'=>∃d f t,e=aB (ae d (jR ms od++rs).length f)/\cf W w' t/\gM t d f (jR ms od++rs)):=hid (λW g=>akY k A bZ c old ms S o od rs W (hold.aG g) hc0 y (x.aG g) r hc);have D:aE (∀W aJ c2 t,gM t aJ c2 (jR ms od++rs)->t.p W->aD aw 56 #[eB (old.length:Int) (n:Int) g1 g2 (ae A ms.length c),ae aJ (jR ms od++rs).length c2] W λe w'=>∃d f t,e=aB (eB (old.length:Int) (n:Int) g1 g2 (ae d (jR ms od++rs).length f))/\cf W w' t/\gM t d f (jR ms od++rs)):=hid (λW aJ c2 t h P=>Jq (old.length:Int) (n:Int) g1 g2 (ae A ms.length c) aJ c2 (jR ms od++rs) W aa (h.vZ P) ad F);obtain⟨j,E⟩:=ex ((jR ms od++rs));rw[E]at C D⊢;clear O F E hold G x hv r hg1 hg2 H hc;go_enter func28,ntmps28;have a:=bc w;go_step;refine ah ?_;refine bG a (av (a7 (old.length:Int) (n:Int) g1 g2 (ae A ms.length c))) (λU w1 a=>?_);refine bA a (a7 0 0 dS.zero dS.zero (ae af 0 0)) (λK Z a=>?_);refine bA a #[J R 0,J R 0] (λL bI a=>?_);refine b' ?_;refine bh a 2 (a7 (old.length:Int) (n:Int) g1 g2 (ae A ms.length c)) ?_ (hv:=(eW _)) (hk:=by omega) (hz:=(by rw[bW];rfl));refine bH (M _ a.only) a (λcc a=>?_);refine bA a #[J R 0,J R 0] (λV cJ a=>?_);refine a' a 0 (av #[J R 0,J R 0]) (λc5 a=>?_);refine ah ?_;refine bh a 0 #[J R 0,J R 0] ?_;refine pk (av #[J R 0,J R 0]) ?_;refine pk (ai ao) ?_;refine cx ?_;refine bN a [4,5,7,8] (λi u=>match i with|4=>ae u.A j.length u.c|5=>av (a7 (old.length:Int) (n:Int) g1 g2 (ae u.A j.length u.c))|_=>a1) (λb=>λ|4=>nW (gM (b 4).t (b 4).A (b 4).c j) (b 4).t|5=>nW (gM (b 5).t (b 5).A (b 5).c j) (b 5).t|7=>aj K (a7 (old.length:Int) (n:Int) g1 g2 (ae (b 5).A j.length (b 5).c)) 26|8=>aj L #[J R 0,J R 0] 49|_=>emp) (λ|7=>[2]|8=>[1]|_=>[]) (λ|0=>[3]|3=>[3]|5=>[8]|_=>[]) (λ|4=>[4]|5=>[5]|7=>[5]|_=>[]) [0,3,8,9,11,12] (λb=>?_);refine eI 0 (a7 (old.length:Int) (n:Int) g1 g2 (ae A ms.length c)) ?_ (hv:=(eW _)) (hk:=by omega) (hz:=(by rw[bW];rfl));refine bF ?_;refine dl 0 66 ?_ (hv:=eH);refine du (λB Fr a=>(C B a.only).mono ?_) ?_;·rintro e Q ⟨d,f,t,rfl,s,q⟩;exact⟨{A:=d,c:=f,t:=t},aa,(a.new _ s).nW q⟩
 refine du (λB Fr a=>(D B (b 4).A (b 4).c (b 4).t (a.at (t:=nW (gM (b 4).t (b 4).A (b 4).c j) (b 4).t) 0).1 (a.at (t:=nW (gM (b 4).t (b 4).A (b 4).c j) (b 4).t) 0).2).mono ?_) ?_;·rintro e Q ⟨d,f,t,rfl,s,q⟩;exact⟨{A:=d,c:=f,t:=t},aa,(a.new _ s).nW q⟩
 refine gZ (av #[J R 0,J R 0]) ?_;refine gi (av _) ?_ (hk:=by show 0+ja (a7 _ _ _ _ _)<=_;simp only[bW];decide) (hz:=by show _=ab (ja (a7 _ _ _ _ _));rw[bW];rfl) (h1:=(w2 aa)) (hc:=xt);refine gi _ ?_;refine bU λdK a=>?_;generalize (b 4).A=T at a⊢;generalize (b 4).c=X at a⊢;generalize (b 4).t=Y at a⊢;generalize (b 5).A=I at a⊢;generalize (b 5).c=N at a⊢;generalize (b 5).t=z at a⊢;have q:=(a.at (t:=nW (gM z I N j) z) 3).1;go_wp2_with fail;refine dp (v:=_) (aua aa aa aa (a.aX 4) (a.aX 5) ay (by rw[bW];rfl) ay ay) aa ⟨_,_,z,aa,(a.fresh 3).Jn,q⟩
def aub {P w e u p f ty b} {t B t2 jA:Nat} {cs c tmps v} (h:e.results=#[.tmp u,x6 p ty,x6 f b]) (hv:tmps.getD u a1=v) (k:tmps.getD p a1=ax (ab ⟨B,0,af⟩)) (l:tmps.getD f a1=ax (ab ⟨jA,0,af⟩)) (hb:aU w B cs t) (hb2:aU w jA c t2)
 (hu:(P.underlying ty).map (λd=>d.isRow)=ab az) (hi:(P.info? ty).map (·.size)=ab cs.size) (S5:(P.underlying b).map (λd=>d.isRow)=ab az) (xg:(P.info? b).map (·.size)=ab c.size):(oe e tmps).run P w=a6 (bm #[v,av cs,av c]) w:=by
 cases hq:P.underlying ty with
 |none=>grind
 |some d=>
  cases oF:P.underlying b with
  |none=>grind
  |some g=>
   have r:d.isRow=true:=aF;have s:g.isRow=true:=aF;have j:=DS (P:=P) w B t ty cs (0,0) d hb hq aF hi;have hl2:=DS (P:=P) w jA t2 b c (0,0) g hb2 oF aF xg
   have hr:(oe e tmps).run P w=((u4 (tmps.getD p a1)).run P w).andThen λa m=>((wC ty a).run P m).andThen λx n=>((u4 (tmps.getD f a1)).run P n).andThen λi o=>((wC b i).run P o).andThen λbr q=>a6 (bm #[tmps.getD u a1,x,br]) q:=by simp only[oe,h];simp;try rfl
   rw[hr,k,l,hv];simp only[u4,jK,jc,j,hl2]
def Cells.aG{w w' sz n A xs}(h:Cells w sz A n xs)(g:ar w w'):Cells w' sz A n xs:=⟨h.1,λhn=>by obtain⟨a,rfl,hc⟩:=h.2 hn;exact⟨a,rfl,λj v hv=>g.cell (hc j v hv) (λh=>h)⟩⟩
def Cells.apart{w w' sz n N A xs F}(h:Cells w sz A n xs)(k:au F w w')(d:∀b,eb A b->b<N)(f:∀b,F b->N<=b):Cells w' sz A n xs:=⟨h.1,λhn=>by
 obtain⟨a,rfl,hc⟩:=h.2 hn;refine⟨a,rfl,λj v hv=>k.cell (hc j v hv) (λc=>?_)⟩;have e:(a.add j).block=a.block:=by grind[wb]
 rw[e]at c;have h1:=d _ ⟨_,_,aa⟩;have g:=f _ c;omega⟩
def amp C(B c cs)(A i)m d a W t N(h:oP C d)(w:d.down=ao)(E:d.cache=[])(D:gM t A c C.ms)(hsc:Cells W 2 i a.length (ma a))(s:∀b,eb i b->b<N)(v:∀b,(aL B m d).cR b->N<=b)(z:a.length<=cs/\a.length<=1048576)(x:∀k∈a,c4 k.1)(u:Has W (aL B m d))(q:Has W t)(hap:∀b,t.cR b->¬(aL B m d).cR b)(hdone:ug (gx C (a++[(-1,0)]) d).1=az):
 aD aw 19 #[c0 B,J R (C.bd:Int),eB (C.o:Int) (C.n:Int) C.g1 C.g2 (ae A C.ms.length c),ae i a.length cs] W λe w'=>∃pk f j l,pk<=(C.bd:Int)/\e=aB (av #[ae f (gx C (a++[(-1,0)]) d).1.length j,ai az,J R pk])/\Turned W w' (aL B m d) (both (bk f (gx C (a++[(-1,0)]) d).1.length j 158 5 (tW (gx C (a++[(-1,0)]) d).1)) (aL B l (gx C (a++[(-1,0)]) d).2)):=by
 refine(amo C B c cs A i m d a W W (aL B m d).cR emp h w aF (λp g=>D.vZ (t.nO W p (λb hb hlt=>g.block b hlt (hap b hb)) q.2 q.1)) (λp g=>hsc.apart g s v) z x ((ak.start u).dN.perm (yp _ _ _))).mono ?_;rintro e w' ⟨pk,y,f,j,rfl,l,r⟩;unfold aey;rw[hdone];exact⟨pk,f,j,l,y,aa,(r.star).fM 0⟩
def auc(s A X)(bZ c cs n size bd)(g1 g2)old ms S(o od)rs f w(iw:old.length<=1048576)(hc0:old.length<=bZ)(hold:bX w s old)(me:mW w s)(hl:cX w A ms)(hv:vp old.length n ms)(jl:∀m∈ms,m.data.length<=140737488355328)(hg1:g1.l=gz old)(hg2:g2.l=gz (vW old ms))(abI:(vW old ms).length<=1048576)(hc:Dz old ms S o od rs)(hsz:1<=size/\size<=1048576)(LQ:size*(ia size bd (max old.length n)+0)<=1048576)(G:oP ⟨bd,old.length,n,g1,g2,jR ms od++rs⟩ (hP size (ia size bd (max old.length n)+0) old))(L:dv (gx ⟨bd,old.length,n,g1,g2,jR ms od++rs⟩ (f++[(-1,0)]) (hP size (ia size bd (max old.length n)+0) old)).2)(hdone:ug (gx ⟨bd,old.length,n,g1,g2,jR ms od++rs⟩ (f++[(-1,0)]) (hP size (ia size bd (max old.length n)+0) old)).1=az)(K:n<=(gx ⟨bd,old.length,n,g1,g2,jR ms od++rs⟩ (f++[(-1,0)]) (hP size (ia size bd (max old.length n)+0) old)).2.bytes.length)(hsc:Cells w 2 X f.length (ma f))(LC:∀b,eb X b->b<w.heap.size)(gB:f.length<=cs/\f.length<=1048576)(r2:∀k∈f,c4 k.1):
 aD aw 43 #[ae s old.length bZ,eB (old.length:Int) (n:Int) g1 g2 (ae A ms.length c),J R (size:Int),J R (bd:Int),ae X f.length cs] w λe w'=>∃cb c1 aJ c2 pk,pk<=(bd:Int)/\e=aB (bm #[ae cb n c1,av #[ae aJ (gx ⟨bd,old.length,n,g1,g2,jR ms od++rs⟩ (f++[(-1,0)]) (hP size (ia size bd (max old.length n)+0) old)).1.length c2,ai az,J R pk],av #[J R 0,J R 0]])/\cf w w' (cg cb c1 (gx ⟨bd,old.length,n,g1,g2,jR ms od++rs⟩ (f++[(-1,0)]) (hP size (ia size bd (max old.length n)+0) old)).2.bytes):=by
 obtain⟨N,dU⟩:∃z,max old.length n=z:=⟨_,aa⟩;have aoR:old.length<=N:=ad;rw[dU]at G L hdone LQ K⊢;obtain⟨D,Y⟩:∃z,hP size (ia size bd N+0) old=z:=⟨_,aa⟩;rw[Y]at G L hdone K⊢;have cS:D.down=false:=by rw[<-Y];rfl
 have H3:D.cache=[]:=by rw[<-Y];rfl
 obtain⟨x,EL⟩:∃z,jR ms od++rs=z:=⟨_,aa⟩;have Kj:aE (∀W,ar w W->aD aw 28 #[ae s old.length bZ,eB (old.length:Int) (n:Int) g1 g2 (ae A ms.length c)] W λe w'=>∃H I t,e=aB (bm #[eB (old.length:Int) (n:Int) g1 g2 (ae H x.length I),av #[J R 0,J R 0]])/\cf W w' t/\gM t H I x):=hid (λW g=>by rw[<-EL];exact amh s A bZ c n g1 g2 old ms S o od rs W iw hc0 (hold.aG g) (me.aG g) (hl.aG g) hv jl hg1 hg2 abI hc)
 rw[EL]at G L hdone K⊢;have og:aE (∀W S,aD aw 39 #[J R (size:Int),J R (bd:Int),eB (old.length:Int) (n:Int) g1 g2 S] W λe w'=>e=aB (bm #[av (qg size bd N),J R 0])/\ar W w'):=hid (λW S=>by rw[<-dU];exact Ty size bd old.length n g1 g2 S hsz G.bd iw G.sz.2 W);have GY:aE (∀W p,W.cell? ⟨p,0,af⟩=ab (ae s old.length bZ)->bX W s old->aD aw 40 #[av (qg size bd N),J R ((0:Nat):Int),ae (ab ⟨p,0,af⟩) 1 1] W λe w'=>∃B m,e=aB (bm #[c0 B,J R 0])/\cf W w' (aL B m D)):=hid (λW p h1 h2=>by rw[<-Y];exact adb size bd N 0 p s bZ old W hsz.1 LQ aoR h1 h2);obtain⟨M,O,P,Q,T,U,V,hlc⟩:∃M O P Q T U V,qg size bd N=#[J R M,J R O,J R P,J R Q,J R T,J R U,J R V]:=⟨_,_,_,_,_,_,_,aa⟩;rw[hlc]at og GY;obtain⟨C,h9⟩:∃z,(⟨bd,old.length,n,g1,g2,x⟩:sq)=z:=⟨_,aa⟩;rw[h9]at G L hdone K⊢;have BI:aE (∀W B aJ c2 m t,gM t aJ c2 x->au (λ_=>False) w W->(∀b,(aL B m D).cR b->w.heap.size<=b)->Has W (aL B m D)->Has W t->(∀b,t.cR b->¬(aL B m D).cR b)->aD aw 19 #[c0 B,J R (bd:Int),eB (old.length:Int) (n:Int) g1 g2 (ae aJ x.length c2),ae X f.length cs] W λe w'=>∃pk H I aV,pk<=(bd:Int)/\e=aB (av #[ae H (gx C (f++[(-1,0)]) D).1.length I,ai az,J R pk])/\Turned W w' (aL B m D) (both (bk H (gx C (f++[(-1,0)]) D).1.length I 158 5 (tW (gx C (f++[(-1,0)]) D).1)) (aL B aV (gx C (f++[(-1,0)]) D).2))):=hid (λW B aJ c2 m t h1 h2 h3 h4 h5 h6=>by subst h9;exact amp _ B c2 cs aJ X m D f W t w.heap.size G cS H3 h1 (hsc.aG h2) LC h3 gB r2 h4 h5 h6 hdone);have LV:=L;obtain⟨r,F,hat⟩:∃a b,gx C (f++[(-1,0)]) D=(a,b):=⟨_,_,aa⟩;rw[hat]at BI K LV⊢;simp only at BI K LV⊢;have aiT:=hid LV;have BH:=hid hold;clear hat hdone hlc Y dU iw me hl hv jl hg1 hg2 abI hc EL hold G L LV hsc LC gB r2;go_enter func43,ntmps43;have d:=bc w;go_step;refine ah ?_;refine bG d (av (a7 (old.length:Int) (n:Int) g1 g2 (ae A ms.length c))) (λeR w1 d=>?_);refine ag ?_;refine bA d #[ae af 0 0,ai ao,J R 0] (λzr aW d=>?_);refine bA d #[J R 0,J R 0] (λrq bI d=>?_);refine an ?_;go_step;refine ah ?_;refine ag ?_;refine bh d 2 (a7 (old.length:Int) (n:Int) g1 g2 (ae A ms.length c)) ?_ (hv:=(eW _)) (hk:=by show 0+_<=ja _;rw[jt];exact b4 _) (hz:=(by rw[bW];rfl));refine aP (Kj _ d.only) ?_;rintro e cc ⟨aJ,c2,bz,rfl,Z,jY⟩;replace d:=d.new _ Z;refine aQ ?_;iterate 3 refine ag ?_
 refine bA d (a7 0 0 dS.zero dS.zero (ae af 0 0)) (λJH cJ d=>?_);refine bA d #[J R 0,J R 0] (λtu c5 d=>?_);refine a' d 1 (av (a7 (old.length:Int) (n:Int) g1 g2 (ae aJ x.length c2))) (λdK d=>?_) (hk:=by show 0+ja (a7 _ _ _ _ _)<=_;simp only[bW];decide) (hz:=by show _=ab (ja (a7 _ _ _ _ _));rw[bW];rfl) (h1:=(w2 aa)) (hc:=xt);refine a' d 0 (av #[J R 0,J R 0]) (λdz d=>?_);refine an ?_;go_step;refine ah ?_;refine bh d 0 #[J R 0,J R 0] ?_;refine aI (av #[J R 0,J R 0]) (by(show _=_;kernel_rfl)) ?_;refine aI (ai ao) (by(show _=_;kernel_rfl)) ?_;refine an ?_;go_step;refine ah ?_;iterate 2 refine ag ?_
 refine bh d 1 (a7 (old.length:Int) (n:Int) g1 g2 (ae aJ x.length c2)) ?_ (hv:=(eW _)) (hk:=by show 0+_<=ja _;rw[jt];exact b4 _) (hz:=(by rw[bW];rfl));refine aP (og _ (ae aJ x.length c2)) ?_;rintro e eY ⟨rfl,g⟩;replace d:=d.aG g;refine aQ ?_;iterate 3 refine ag ?_
 refine bA d #[J R 0,J R 0,J R 0,J R 0,J R 0,J R 0,J R 0] (λJI gQ d=>?_);refine a' d 0 (av #[J R M,J R O,J R P,J R Q,J R T,J R U,J R V]) (λib d=>?_);refine ag ?_;refine an ?_;go_step;refine ah ?_;refine ag ?_;refine aI (ai ao) (by(show _=_;kernel_rfl)) ?_;refine an ?_;go_step;refine ah ?_;refine bh d 0 #[J R M,J R O,J R P,J R Q,J R T,J R U,J R V] ?_;refine ag ?_;refine fC d #[ae s old.length bZ] 22 (λGm jS d=>?_);refine aP (GY _ Gm ((d.aX 0).cell 0 aa) (BH.out.aG d.only)) ?_;rintro e kh ⟨B,m,rfl,Z⟩;replace d:=d.new _ Z;refine aQ ?_;iterate 5 refine ag ?_
 refine an ?_;go_step;refine ah ?_;refine ag ?_;refine aI (ai ao) (by(show _=_;kernel_rfl)) ?_;refine an ?_;go_step;refine ah ?_;iterate 2 refine ag ?_
 refine bh d 4 (a7 (old.length:Int) (n:Int) g1 g2 (ae aJ x.length c2)) ?_ (hv:=(eW _)) (hk:=by show 0+_<=ja _;rw[jt];exact b4 _) (hz:=(by rw[bW];rfl));refine ag ?_;refine aP (BI _ B aJ c2 m bz jY d.only (λb hb=>((d.low _ (cY (show _[0]?=ab (aL B m D)from aa)) b hb).2).elim (λh=>h) (λh=>h.elim)) (d.has 0) (d.has 5) (d.ne (i:=5) (j:=0) aa aa bf)) ?_;rintro e lf ⟨pk,y,E,m5,pe,rfl,bL⟩;replace d:=d.ek 0 bL;refine aQ ?_;refine bA d #[ae af 0 0,ai ao,J R 0] (λOJ mr d=>?_);refine a' d 0 (av #[ae y r.length E,ai az,J R pk]) (λn1 d=>?_);refine an ?_;go_step;refine ah ?_;refine ag ?_;refine pl d 0 1 ?_;refine aI (ai ao) (by(show _=_;kernel_rfl)) ?_;refine an ?_;replace d:ak _ _ _ [bk y r.length E 158 5 (tW r),aL B m5 F,aj OJ #[ae y r.length E,ai az,J R pk] 63,aj Gm #[ae s old.length bZ] 22,aj JI #[J R M,J R O,J R P,J R Q,J R T,J R U,J R V] 93,aj tu #[J R 0,J R 0] 49,aj JH (a7 (old.length:Int) (n:Int) g1 g2 (ae aJ x.length c2)) 26,bz,aj rq #[J R 0,J R 0] 49,aj zr #[ae af 0 0,ai ao,J R 0] 63,aj eR (a7 (old.length:Int) (n:Int) g1 g2 (ae A ms.length c)) 26]:=(d.front 1).fi;go_step;refine cx ?_;refine bN d [1,8,9] (λi u=>match i with|1=>ae u.A F.bytes.length u.c|_=>a1) (λq=>λ|1=>cg (q 1).A (q 1).c F.bytes|8=>aj zr #[ae y r.length E,ai az,J R pk] 63|9=>aj rq #[J R 0,J R 0] 49|_=>emp) (λ|8=>[9]|9=>[8]|_=>[]) (λ|1=>[1]|3=>[6]|4=>[12]|5=>[2]|_=>[]) (λ|1=>[1]|_=>[]) [0,1,2,3,4,5,6,7,10,12,19,20] (λq=>?_);refine aK ?_;refine du (λwl Fr d=>(Zg B m5 F wl (d.has 0) aiT).mono ?_) ?_;·rintro e dA ⟨H,I,rfl,Z⟩;exact⟨{A:=H,c:=I},aa,d.new _ Z⟩
 refine aK ?_;refine dl 0 1 ?_ (hv:=hZ);refine aN (ae (q 1).A n (q 1).c) (λ_ _ d=>qt 22 5 1 (bj 73) (bj 75) aa dL ay (q 1).A F.bytes.length (q 1).c n aa aa (ea K (d.at (t:=cg (q 1).A (q 1).c F.bytes) 0).2.2)) ?_;refine eI 0 #[ae y r.length E,ai az,J R pk] ?_;refine aN (av #[J R 0,J R 0]) (λ_ _ _=>by(show _=_;kernel_rfl)) ?_;refine aK ?_;refine gi (av #[ae y r.length E,ai az,J R pk]) ?_;refine gi (av #[J R 0,J R 0]) ?_;refine pv (λre d=>?_);replace d:ak _ _ _ [bk y r.length E 158 5 (tW r),aL B m5 F,aj OJ #[ae y r.length E,ai az,J R pk] 63,aj Gm #[ae s old.length bZ] 22,aj JI #[J R M,J R O,J R P,J R Q,J R T,J R U,J R V] 93,aj tu #[J R 0,J R 0] 49,aj JH (a7 (old.length:Int) (n:Int) g1 g2 (ae aJ x.length c2)) 26,bz,aj eR (a7 (old.length:Int) (n:Int) g1 g2 (ae A ms.length c)) 26,cg (q 1).A (q 1).c F.bytes,aj zr #[ae y r.length E,ai az,J R pk] 63,aj rq #[J R 0,J R 0] 49]:=d;generalize (q 1).A=agb at d⊢;generalize (q 1).c=alC at d⊢;go_wp2_with fail;refine dp (v:=bm #[ae agb n alC,av #[ae y r.length E,ai az,J R pk],av #[J R 0,J R 0]]) (aub aa aa aa aa (d.aX 10) (d.aX 11) ay ay ay ay) aa ⟨_,_,_,_,pk,pe,aa,d.fresh 9⟩
section
attribute [local irreducible] wpList cM
end
section
attribute [local irreducible] wpList cM
end
def sM:Nat->List (Int×Int)
 |0=>[]
 |k+1=>((k:Int),(k:Int))::sM k
def oI(n:Nat):List Int:=(dG n).map (λi:Nat=>(i:Int))
theorem acG n:(oI n).length=n:=by simp[oI]
def acF{n j}(h:j<n):(oI n)[j]?=ab (j:Int):=by grind[oI]
def ala(n c)A(hn:n<=1048576)cT aq FX(y:∀W,au FX aq W->c8 W A (oI n)):
 wT aw 178 #[ax (ab ⟨cT,0,af⟩)] (λe:Int×Int=>#[J R e.1,J R e.2]) aq FX (aj cT #[ae A n c] 82) (λ_=>True) (sM n):=by
 intro l S D W F t o p a;have m:=hid y;obtain⟨xs,d⟩:=ex (sM n);rw[d]at o⊢;have I:=hn;go_enter func178,ntmps178;go_step;refine ah ?_;refine pl a 0 0 ?_;refine ag ?_;refine lH _ 1 ((n:Int) -1) ?_;refine bP ?_;go_wp2_with fail;go_loopw [3] (λg wr=>∃(j:Nat) (z:Int) (pre:List (Int×Int)) (t:bp),pre++sM j=xs/\j<=n/\z=(j:Int) -1/\g=J R z/\S pre t/\ak aq FX wr [aj cT #[ae A n c] 82,t,F]) (λg wr=>(cO g+1).toNat);case atStart=>exact⟨n,_,[],t,d,b4 _,aa,aa,p,a⟩
 case round=>
  clear a p d;obtain⟨j,z,pre,t,d,H,hz,rfl,r,a⟩:=hrel;cases j with
  |succ j=>
   obtain rfl:z=(j:Int):=ad;have G:(0:Int)<=(j:Int):=ad;have s:j<n:=ad;have hx2:(pre++[((j:Int),(j:Int))])++sM j=xs:=by grind[sM]
   have u:pre++[((j:Int),(j:Int))]<+:xs:=⟨_,hx2⟩;have v:=hid hx2;obtain⟨E,B,q,_⟩:=(m.out _ a.only) (by grind[acG]);have i:=hid q;have w:=hid (acF s);clear d hx2 q hz;go_step;refine ah ?_;refine ag ?_;refine bu (ai az) ?_;refine cx ?_;refine Jt 6 ?_;refine v2 ?_;refine pl a 0 0 ?_;refine ag ?_;refine aI _ (cq 82 3 1 _ _ aa hR ay _ _ _ _ _ ((B+j)) (by show ae A _ _=_;rw[i]) aa s ad) ?_;refine aI _ (po aa aa (c8.cell (m _ a.only) i w) ay) ?_;refine an ?_;have k:=(a.pick (l':=[t,aj cT _ 82,F]) [1,0,2]).Ep;refine Gf (o _ _ _ _ _ u r k) (λb w1 hb=>?_) (λ_ _ x=>x.elim (λh=>⟨_,h.1⟩) (λh=>⟨_,h.1⟩)) (EC aa aa (by simp only[List.map_toArray,List.map_cons,kp];rfl));clear k a;rcases F8 hb with⟨rfl,C,f,a⟩|⟨rfl,C,f,a⟩
   .clear hb;replace a:=a.uR;refine s8 ?_;refine cK ?_;refine lH (j:Int) 1 ((j:Int) -1) ?_;refine bP ?_;go_wp2_with fail;go_roundw;case rel=>exact⟨j,_,_,_,v,ad,aa,aa,f,a.pick [1,0,2]⟩
    case measure=>simp[cO]<;>omega
   .clear hb;replace a:=a.uR;refine s8 ?_;refine bP ?_;go_wp2_with fail;first|go_end0|refine bodyPost_ret (results_none rfl _ _ _) rfl ?_
    exact sI.cut u f (a.pick [0,1,2])
  |zero=>
   obtain rfl:z=-1:=ad;obtain rfl:pre=xs:=by grind[sM]
   clear hz d;go_step;refine ah ?_;refine ag ?_;refine pk (ai ao) ?_;refine an ?_;go_wp2_with fail;first|go_end0|refine bodyPost_ret (results_none rfl _ _ _) rfl ?_
   exact sI.all r trivial (a.pick [1,0,2])
def alb A(n c)w:
 aD aw 89 #[ae A n c] w λe w'=>∃cT,e=aB (dC (ed 178) #[] #[ax (ab ⟨cT,0,af⟩)])/\cf w w' (aj cT #[ae A n c] 82):=by
 go_enter func89,ntmps89;have a:=bc w;go_step;refine ah ?_;refine bG a (ae A n c) (λb w1 a=>?_);refine ag ?_;refine ah ?_;refine dZ ?_;go_wp2_with fail;go_ret;exact⟨_,aa,a.fresh 0⟩
end Go.Proofs.YtcmhplknoglbkaaGreat
