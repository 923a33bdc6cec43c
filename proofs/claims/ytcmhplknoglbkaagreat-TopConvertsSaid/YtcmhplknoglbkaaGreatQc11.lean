/- Part 11 of the proof of TopConvertsSaid. -/
import Derived.Test.YtcmhplknoglbkaaGreatQc0
import Derived.Test.YtcmhplknoglbkaaGreatQc1
import Derived.Test.YtcmhplknoglbkaaGreatQc3
import Derived.Test.YtcmhplknoglbkaaGreatQc5
import Derived.Test.YtcmhplknoglbkaaGreatQc6
import Derived.Test.YtcmhplknoglbkaaGreatQc8
import Derived.Test.YtcmhplknoglbkaaGreatQc10
set_option linter.all false
set_option maxRecDepth 100000
set_option maxHeartbeats 4000000
open Go.Proofs.Tryz
open Array renaming size->jD,size_modify->afX
open Bool renaming false->au,true->aB
open Go renaming Addr->bU,Calls->aD,Value->aO,asAddr->uS,bodyPost_ret->dn,callFunc->kj,cell_of_one->pw,heap_alloc_new->fe,loadVar->wE,results->n',run_loadVar_row->Dp,undef->aY,wpList_nil->an
open Go.Addr renaming add->we
open Go.Ending renaming returned->aA
open Go.Fn renaming func->ej
open Go.IntKind renaming i64->R
open Go.Lib renaming compareInt->zi
open Go.Obj renaming cells->bc
open Go.Operand renaming tmp->bb
open Go.Proofs.AnyF renaming slices_SortFunc_none->agw
open Go.Proofs.AnyQ renaming slices_SortFunc->agx
open Go.Proofs.Tryz renaming prog->ax,underlying22->dI,underlying24->eA,underlying73->fW,underlying82->ij
open Go.Proofs renaming intOf->cd,ltOf->F7
open Go.Result renaming andThen_ok->ji,ok->a7
open Go.ResultVar renaming cell->xU
open Go.RowKit renaming Hid->aE
open Go.Sem renaming run_pure->jR
open Go.Sort renaming HoldsK->Pb,alloc_eq_grow->Pc,get_flatK->Wv,grow->F8,putRowK->Ww,size_flatK->Wx
open Go.Value renaming agg->av,bool->ak,func->dJ,int->J,pointer->ay,slice->ad,tuple->bg
open Go.World renaming block_lt_of_cell?->uQ,cell?_of_block->Dm
open Go.World.ownsRow renaming lt->wC
open Int renaming toNat_natCast->DI
open List.Pairwise renaming imp_of_mem->ajR,nil->GI
open List.Perm renaming refl->Bp,swap->DJ
open List renaming append_assoc->j5,append_nil->j6,eq_nil_of_length_eq_zero->jH,ext_getElem?->wM,filter_append->pC,filter_eq_self->zE,getElem?_append_left->tD,getElem?_append_right->oe,getElem?_eq_getElem->cj,getElem?_eq_some_iff->eQ,length->vg,length_append->dv,length_drop->vh,length_filter_le->x9,length_map->gU,length_nil->l2,length_take->oT,map_append->gx,mem_append->jf,mem_cons->gy,mem_iff_getElem?->oU,mem_of_getElem?->cL,mem_of_mem_take->Br,mem_or_eq_of_mem_set->ajZ,not_mem_nil->ga,pairwise_iff_getElem->l3,range->dF,range_succ->pE,size_toArray->iQ,take_add_one->fu,take_append->XH,take_append_drop->oV,take_length->ik,take_of_length_le->tF,take_take->aj4
open Nat renaming le_refl->cm,le_trans->eC,lt_irrefl->XL,lt_of_lt_of_le->vl,min_eq_left->zJ,mul_le_mul->Ky,succ_mul->vm,zero_add->kV,zero_le->cQ
open Option renaming getD_some->pG,map_some->oW,none->af,some->ab,toList_some->yb
open Option.some renaming injEq->wQ
open Or renaming inl->bH,inr->b1
namespace Go.Proofs.YtcmhplknoglbkaaGreat
open Go.RowKit Go.MapKept Go.Shelf Go.Lib
def zM(l:List (Int×Int)):Prop:=(∀e∈l,eD e/\0<e.2)/\∀(i j:Nat) (x y:Int×Int),j<i->l[i]?=ab x->l[j]?=ab y->meets x y=au
theorem E7(a b):meets a b=meets b a:=by grind[meets]
def arV{a b}(h:a.1+a.2<=b.1):meets a b=false:=by grind[meets]
def arc{a b}(h:meets a b=au)(hab:a.1<=b.1)(hb:0<b.2):a.1+a.2<=b.1:=by grind[meets]
def zM.pairwise{l}(h:zM l):(iF l).Pairwise (λx y=>meets x.1 y.1=au):=by rw[l3];intro i j hi a b;have bB:=Ef l i;have b7:=Ef l j;rw[zZ]at hi a;rw[cj ae,cj hi]at bB;rw[cj ae,cj a]at b7;simp only[oW,wQ]at bB b7;rw[bB,b7,E7];exact h.2 j i _ _ b (cj a) (cj hi)
theorem ZH{l}(h:zM l):∃S,S.Perm (iF l)/\jS S:=by
 have d:=List.mergeSort_perm (iF l) (λx y=>decide (x.1.1<=y.1.1));have g:=List.pairwise_mergeSort (le:=λx y:jQ=>decide (x.1.1<=y.1.1)) (λa b c h1 k=>aF) (λa b=>aF) (iF l);refine⟨_,d,?_,λx hx=>?_⟩
 .have e:=d.symm.pairwise h.pairwise (λh=>by grind[E7])
  have f:∀x∈(iF l).mergeSort (λx y=>decide (x.1.1<=y.1.1)),0<x.1.2:=λx hx=>by obtain⟨i,hi,_⟩:=Ar.1 (d.mem_iff.1 hx);exact(h.1 _ (cL hi)).2
  refine ajR (λ{_ y} _ j h=>?_) (g.and e);exact arc h.2 (of_decide_eq_true h.1) (f y j)
 .obtain⟨i,hi,_⟩:=Ar.1 (d.mem_iff.1 hx);exact h.1 _ (cL hi)
def at4{l S}(c:S.Perm (iF l))(b:jS S):zM l:=by
 refine⟨λe f=>?_,λi j x y g hx d=>?_⟩;·obtain⟨i,hi⟩:=oU.1 f;exact b.2 (e,(i:Int)) (c.mem_iff.2 (Ar.2 ⟨i,hi,aa⟩))
 .have h1:(iF l).Pairwise (λx y=>meets x.1 y.1=au):=c.pairwise (b.1.imp (λh=>arV h)) (λh=>by grind[E7]);rw[l3]at h1;have hi:=(eQ.1 hx).1;have k:=(eQ.1 d).1;have a:=h1 j i (by grind[zZ]) (by grind[zZ]) g;have bB:=Ef l i;have b7:=Ef l j;rw[hx,cj aF]at bB;rw[d,cj aF]at b7;simp only[oW,wQ]at bB b7;rw[bB,b7,E7]at a;exact a
def an9{S}(a:jS S){x y}(hx:x∈S)(d:y∈S)(h1:x.1.1<=y.1.1)(e:y.1.1<=x.1.1):x=y:=by
 obtain⟨i,hi⟩:=oU.1 hx;obtain⟨j,b⟩:=oU.1 d;rcases Nat.lt_trichotomy i j with h|h|h;·have c:=a.lt hi b h;have:=(a.at hi).2;omega
 .grind
 .have c:=a.lt b hi h;have:=(a.at b).2;omega
def ZI{S}(a:jS S):S.Pairwise (λx y=>x.1.1<=y.1.1):=
 ajR (λhx _ h=>by have:=(a.2 _ hx).2;omega) a.1
def aoc{S T}(b:S.Perm T)(a:jS S)(d:jS T):S=T:=
 b.eq_of_pairwise (le:=λx y:jQ=>x.1.1<=y.1.1) (λ_ _ hx e h1 c=>an9 a hx (b.mem_iff.2 e) h1 c) (ZI a) (ZI d)
def Qk(base:Nat)(w:World)(p:Nat)(S:List jQ):Prop:=∃A c,w.heap[p]?=ab (bc #[ad A S.length c] 411 (0,0))/\nf w A S/\S.length<=1048576/\base<=p/\∀b off,A=ab ⟨b,off,af⟩->base<=b
set_option maxHeartbeats 4000000 in
theorem arP A c l w(hl:jy w A l)(ka:∀e∈l,qQ e)(gb:l.length<=1048576):
 aD ax 251 #[ad A l.length c] w λe w'=>aq w w'/\((∃p S,e=aA (ay (ab ⟨p,0,af⟩))/\S.Perm (iF l)/\jS S/\Qk w.heap.size w' p S)\/(e=aA (ay af)/\¬∃S,S.Perm (iF l)/\jS S)):=by
 have bI:=hid (And.intro hl ka);obtain⟨i0,gO,hz0,hz1,hz2⟩:=info_parts aqo;have Y:=hid (And.intro gO (And.intro hz0 (And.intro hz1 hz2)));have J8:=hid (ar.alloc (F:=λ_=>False) w (bc #[ad af 0 0] 411));have oP:=hid (And.intro (fe w (bc #[ad af 0 0] 411)) (show(w.alloc (bc #[ad af 0 0] 411)).heap.size=w.heap.size+1 by simp));clear hl ka gO hz0 hz1 hz2;go_enter func251,ntmps251;go_wp2_with fail;generalize w.alloc (bc #[ad af 0 0] 411)=hY at*;have hs1:=oP.out.2;generalize hp:w.heap.size=p at*;have Gx:=hid hp;clear hp;go_loopw [11] (λi wr=>∃k:Nat,k<=l.length/\i=J R k/\aE (∀e∈l.take k,eD e/\0<e.2)/\(∃la,wr.heap[p]?=ab (bc #[la] 411 (0,0))/\wr.ownsRow (p+1) 413 3 la k (qA (iF (l.take k))))/\ar (λi=>p<=i) hY wr) (λi _=>l.length -(cd i).toNat);case atStart=>exact⟨0,cQ _,aa,hid aT,⟨_,oP.out.1,⟨aS,bH ⟨aa,aa⟩⟩⟩,ar.refl _ _⟩
 case round=>
  obtain⟨k,hk,rfl,aaJ,⟨la,hx,hrow⟩,B⟩:=hrel;obtain⟨s,o,rfl⟩:=ads hrow;have Eo:=B.size;have X:aE (aq w wr):=hid ((((aq.to J8.out).trans B (λ_ _ h=>h)).mono (λi hi h=>by rw[Gx.out]at hi;omega)));have C:=hid (And.intro hx (And.intro hrow B));have kn:=pw hx;clear hx hrow B;by_cases hlt:k<l.length
  .have hb0:(k:Int)<(l.length:Int):=ae;obtain⟨fT,off,rfl,hcell⟩:=(bI.out.1.aH X.out) ae;obtain⟨c1,c2⟩:=hcell k hlt;obtain⟨e,he⟩:∃e,l[k]?=ab e:=⟨_,cj hlt⟩;simp only[he,pG]at c1 c2;have L:=hid (And.intro he (bI.out.2 e (cL he)));obtain⟨a,b⟩:=e;simp only at c1 c2;have PH:=hid (ar.alloc (F:=λ_=>False) wr (bc #[J R a,J R b] 35));have V:=hid (yj wr (J R a) (J R b) 35);obtain⟨v,hv⟩:∃v:Bool,nW (a,b)=v:=⟨_,aa⟩;have cA:=hid hv
   have Ox:aE (∀W,aD ax 115 #[av #[J R a,J R b]] W λe w'=>e=aA (ak v)/\aq W w'):=hid (λW=>by have h:=afx a b W L.out.2.1 L.out.2.2;rw[cA.out]at h;exact h);clear hcell he hv;cases v with
   |false=>
    go_wp2_with (go_at_call 115;refine(Ox.out _).mono ?_;rintro e g ⟨rfl,q⟩);go_ret;refine⟨aq.trans X.out (aq.trans PH.out q),b1 ⟨aa,ac1 L.out.1 (λh=>?_)⟩⟩;have:=FF.2 h.1;rw[cA.out]at this;cases this
   |true=>
    have sS:=FF.1 cA.out;by_cases hb:b=0;·have LD:(b==0)=true:=aF;have Pw:=hid hb;clear sS hb;go_wp2_with (go_at_call 115;refine(Ox.out _).mono ?_;rintro e g ⟨rfl,q⟩;have R5:=q.cell V.out.1 (λh=>h);have R6:=q.cell V.out.2 (λh=>h));go_ret;exact⟨aq.trans X.out (aq.trans PH.out q),b1 ⟨aa,ac1 L.out.1 (λh=>by have h1:0<b:=h.2;rw[Pw.out]at h1;omega)⟩⟩
    .have LD:(b==0)=false:=aF;have Pw:aE (eD (a,b)/\0<b):=hid ⟨sS,by have h1:0<=b:=sS.2.1;omega⟩;clear sS hb;go_wp2_with (go_at_call 115;refine(Ox.out _).mono ?_;rintro e g ⟨rfl,q⟩;have R5:=q.cell V.out.1 (λh=>h);have R6:=q.cell V.out.2 (λh=>h));have N:=hid (aq.trans PH.out q);have Dv:aE (∀i,(ad s k o).ownBlock=ab i->p+1<=i/\i<wr.heap.size):=hid (λi h=>wC C.out.2.1 i h)
     have n:aE (∀w',ar (λi=>p+1<=i/\i<wr.heap.size) g w'->w'.cell? ⟨p,0,af⟩=ab (ad s k o)/\w'.cell? ⟨wr.heap.size,0,af⟩=ab (J R a)/\w'.cell? ⟨wr.heap.size,1,af⟩=ab (J R b)):=
      hid (λw' h=>⟨h.cell (N.out.cell (pw C.out.1) (λh=>h)) (by show¬(p+1<=p/\_);omega),h.cell R5 (by show¬(_/\wr.heap.size<wr.heap.size);omega),h.cell R6 (by show¬(_/\wr.heap.size<wr.heap.size);omega)⟩);have abC:=N.out.size;clear q R5 R6;refine afN aw 12 (λw'=>w'.cell? ⟨p,0,af⟩=ab (ad s k o)/\w'.cell? ⟨wr.heap.size,0,af⟩=ab (J R a)/\w'.cell? ⟨wr.heap.size,1,af⟩=ab (J R b)) (n.out _ (ar.drew _)) (λhHeld=>?_);refine nu (i:=0) (v:=?_) aa aw aw aw aw (λ_ _ _ h=>h) (bH ⟨aS,?_⟩) hHeld ?_;rotate_left;focus (intro E hz;obtain⟨G,H,I⟩:=hz;go_simp;try with_reducible rfl)
     refine nu (i:=1) (v:=?_) aa aw aw aw aw (λ_ _ _ h=>h) (bH ⟨aS,?_⟩) hHeld ?_;rotate_left;focus (intro E hz;obtain⟨G,H,I⟩:=hz;go_simp;try with_reducible rfl)
     refine nu (i:=2) (v:=?_) aa aw aw aw aw (λ_ _ _ h=>h) (bH ⟨aS,?_⟩) hHeld ?_;rotate_left;focus (intro E hz;obtain⟨G,H,I⟩:=hz;go_simp;try with_reducible rfl)
     refine nu (i:=3) (v:=?_) aa aw aw aw aw (λ_ _ _ h=>h) (bH ⟨aS,?_⟩) hHeld ?_;rotate_left;focus (intro E hz;obtain⟨G,H,I⟩:=hz;go_simp;try with_reducible rfl)
     refine nu (i:=4) (v:=?_) aa aw aw aw aw (λ_ _ _ h=>h) (bH ⟨aS,?_⟩) hHeld ?_;rotate_left;focus (intro E hz;obtain⟨G,H,I⟩:=hz;go_simp;try with_reducible rfl)
     refine nu (i:=5) (v:=?_) aa aw aw aw aw (λ_ _ _ h=>h) (bH ⟨aS,?_⟩) hHeld ?_;rotate_left;focus (intro E hz;obtain⟨G,H,I⟩:=hz;go_simp;try with_reducible rfl)
     refine nu (i:=6) (v:=?_) aa aw aw aw aw (λ_ _ _ h=>h) (bH ⟨aS,?_⟩) hHeld ?_;rotate_left;focus (intro E hz;obtain⟨G,H,I⟩:=hz;go_simp;try with_reducible rfl)
     refine nu (i:=7) (v:=?_) aa aw aw aw aw (λ_ _ _ h=>h) (bH ⟨aS,?_⟩) hHeld ?_;rotate_left;focus (intro E hz;obtain⟨G,H,I⟩:=hz;go_simp;try with_reducible rfl)
     clear hHeld;refine xE (rs:=[8]) aw aT ?_;refine ky.cons aa aS (λK f=>?_) ?_;rotate_left;exact ky.nil;go_simp;have PG:aE (aq g (g.alloc (bc #[J R a,J R b,J R k] 413)).drew):=hid (aq.trans (ar.alloc _ _) (ar.drew _));have Ss:=fe g (bc #[J R a,J R b,J R k] 413);have Xb:aE ((g.alloc (bc #[J R a,J R b,J R k] 413)).drew.heap[g.heap.size]?=ab (bc #[J R a,J R b,J R k] 413 (0,0))/\(g.alloc (bc #[J R a,J R b,J R k] 413)).drew.heap.size=g.heap.size+1):=hid ⟨Ss,by show(g.alloc _).heap.size=_;simp⟩;clear Ss;refine f.out _ _ (λ_=>n.out _ (aq.to PG.out)) ?_;clear f K;generalize (g.alloc (bc #[J R a,J R b,J R k] 413)).drew=dG at*;refine xE (rs:=[9]) aw aT ?_;refine ky.cons aa aS (λK f=>?_) ?_;rotate_left;exact ky.nil;have vL:=Xb.out.2;refine wp_append_own _ (bb 28) (bb 32) 409 aS (p+1) 413 i0 _ 3 24 underlying409 Y.out.1 Y.out.2.1 Y.out.2.2.1 Y.out.2.2.2 aa ae _ k (qA (iF (l.take k))) aa (adt C.out.2.1 (aq.trans N.out PG.out) (λ_ _ h=>h)) ⟨g.heap.size,0,af⟩ 1 1 [J R a,J R b,J R k] aa aa (arS Xb.out.1) (by intro u hu;simp at hu;rcases hu with rfl|rfl|rfl<;>rfl) (by grind[maxLen]) ae ae ?_;intro v9 e8 SB aaL _;obtain⟨lF,oq,rfl⟩:=ads SB;have O:aE (ar (λi=>p+1<=i/\i<wr.heap.size) g e8):=hid ((aq.to PG.out).trans (ar.of_grownBy aaL (λi e=>bH (Dv.out i e))) (λ_ _ h=>h));have Xc:=hid SB;clear SB aaL;refine f.out _ _ (λ_=>n.out _ O.out) ?_;clear f K;refine xE (rs:=[10]) aw aT ?_;refine ky.cons aa aS (λK f=>?_) ?_;rotate_left;exact ky.nil;go_simp;refine f.out _ _ (λ_=>n.out _ O.out) ?_;clear f K;refine xE (rs:=[11]) aw aT ?_;refine ky.cons aa aS (λK f=>?_) ?_;rotate_left;exact ky.nil;go_simp;refine f.out _ _ (λ_=>n.out _ O.out) ?_;clear f K;have Qf:aE (e8.heap[p]?=ab (bc #[ad s k o] 411 (0,0))):=hid (O.out.heap (N.out.heap C.out.1 (λh=>h)) ae);have Au:=pw Qf.out;have n4:=free_of_one Qf.out;refine xE (rs:=[12]) aw aT ?_;refine ky.cons aa aS (λK f=>?_) ?_;rotate_left;exact ky.nil;go_simp;refine f.out _ _ (λh=>absurd aa h) ?_;clear f K;refine afG aw ?_ _;go_wp2;go_roundw
     case rel=>
      refine⟨_,ae,by go_num,hid (aob L.out.1 aaJ.out Pw.out),⟨_,one_setCell Qf.out,?_⟩,?_⟩
      .have bB:qA (iF (l.take (k+1)))=qA (iF (l.take k))++[J R a,J R b,J R k]:=by rw[fu,L.out.1];show qA (iF (l.take k++[(a,b)]))=_;rw[ano,alr,oT,zJ ae];rfl
       rw[bB];refine ownsRow_setCell_other Xc.out ?_ _;intro h;have:=(wC Xc.out p h).1;omega
      .exact((C.out.2.2.trans N.out (λ_ _ h=>h.elim)).trans O.out (λi _ h=>ae)).trans (ar.setCell (F:=λi=>p<=i) e8 (p:=_) (cm _) _) (λ_ _ h=>h)
     case measure=>grind[cd]
  .obtain rfl:k=l.length:=ae;have hrow:=C.out.2.1;have hgd:=aaJ.out;rw[ik]at hrow hgd;have bJ:=hid (And.intro hrow hgd)
   have Jw:aE (aD ax 307 #[ad s l.length o,dJ (ej 308) #[] #[]] wr λe w'=>e=aA (bg #[])/\∃d,d.Perm (iF l)/\d.Pairwise (λx y=>x.1.1<=y.1.1)/\nf w' s d/\ar (λi=>p+1<=i) wr w'):=hid (by
    by_cases h0:l.length=0;·obtain rfl:=jH h0;refine(avf s o _ wr).mono ?_;rintro e w' ⟨rfl,rfl⟩;exact⟨aa,[],Bp _,GI,λh=>ae,ar.refl _ _⟩
    .refine(au9 (p+1) l.length o s (iF l) wr bJ.out.1 (by grind[zZ]) (by grind[zZ])).mono ?_;rintro e w' ⟨rfl,d,h1,z,Q,h4⟩;exact⟨aa,d,h1,z,Q,h4.mono (λi hi h=>(wC bJ.out.1 i h).1)⟩);clear hrow hgd;go_wp2_with (go_at_call 307;have b0:=Jw.out;with_reducible refine b0.mono ?_;clear b0;rintro e aR ⟨rfl,d,pZ,hst,e5,kH⟩;have fm:=kH.cell kn (by show¬(p+1<=p);omega));have t:aE (d.length=l.length):=hid (by rw[pZ.length_eq,zZ]);have j:=hid (And.intro pZ (And.intro hst (And.intro e5 (And.intro (kH.heap C.out.1 ae) (show aq w aR from((aq.to X.out).trans kH (λ_ _ h=>h)).mono (λi hi h=>by rw[Gx.out]at hi;omega))))))
   have Xr:aE (∀x∈d,eD x.1/\0<x.1.2):=hid (λx hx=>by obtain⟨i,hi,_⟩:=Ar.1 (pZ.mem_iff.1 hx);exact bJ.out.2 _ (cL hi));clear pZ hst e5 kH Jw kn;obtain⟨kP,rfl⟩:∃kP:World,kP=wr:=⟨_,aa⟩;go_loopw [47] (λi wr=>∃k:Nat,k<=l.length/\i=J R k/\aE (∀i x y,i+1<k->d[i]?=ab x->d[i+1]?=ab y->x.1.1+x.1.2<=y.1.1)/\aq aR wr) (λi _=>l.length -(cd i).toNat);case atStart=>exact⟨0,cQ _,aa,hid (λi x y h=>ae),ar.refl _ _⟩
   case round=>
    obtain⟨k,hk,rfl,gd,B⟩:=hrel;have D:=hid B;have ly:=B.cell fm (λh=>h);clear B;by_cases hlt:k<l.length
    .have hb0:(k:Int)<(l.length:Int):=ae;by_cases B9:k=0
     .subst B9;go_wp2_with fail;go_quiet (fail);go_wp2;go_roundw;case rel=>exact⟨1,ae,by go_num,hid (λi x y h=>ae),aq.trans D.out (ar.drewN _ _)⟩
      case measure=>grind[cd]
     .obtain⟨m,hm⟩:∃m,k=m+1:=⟨k -1,ae⟩;have Z:=hid hm;have rS:(1:Int)<=(k:Int):=ae;have hk2:0<k:=ae;have yG:(k:Int)<=1048576:=ae;have hb2:(m:Int)<(l.length:Int):=ae;have hb3:m<l.length:=ae;have azo:R.wrap ((k:Int) -1)=(m:Int):=by grind[IntWalk.i64_in]
      obtain⟨x,hx⟩:∃x,d[m]?=ab x:=⟨_,cj (by have:=t.out;omega)⟩;obtain⟨y,hy⟩:∃y,d[k]?=ab y:=⟨_,cj (by have:=t.out;omega)⟩;obtain⟨fT,off,rfl,hcell⟩:=(j.out.2.2.1.aH D.out) aF;have gh:=(hcell k (by have:=t.out;omega)).1;have fP:=(hcell m (by have:=t.out;omega)).1;have iL:=(hcell m (by have:=t.out;omega)).2.1;simp only[hx,hy,pG]at gh fP iL;have P:=hid (And.intro hx hy);have Mc:=(Xr.out x (cL hx)).1;obtain⟨v1,v2,v3⟩:=Mc
      have n:aE (∀w',aq wr w'->w'.cell? ⟨p,0,af⟩=ab (ad (ab ⟨fT,off,af⟩) l.length o)/\w'.cell? ⟨fT,off+k*3,af⟩=ab (J R y.1.1)/\w'.cell? ⟨fT,off+m*3,af⟩=ab (J R x.1.1)/\w'.cell? ⟨fT,off+m*3+1,af⟩=ab (J R x.1.2)):=
       hid (λw' h=>⟨h.cell ly (λh=>h),h.cell gh (λh=>h),h.cell fP (λh=>h),h.cell iL (λh=>h)⟩);clear hcell hx hy gh fP iL hm B9;have fM:aE (∀r:Bool,decide (y.1.1<x.1.1+x.1.2)=r->True):=hid (λ_ _=>trivial);obtain⟨⟨dc,bm⟩,lg⟩:=x;obtain⟨⟨M,bp⟩,c7⟩:=y;simp only at v1 v2 v3 n P;by_cases U:M<dc+bm
      .have hd:decide (M<dc+bm)=true:=by simpa using U
       have m':=hid U;clear U fM;go_wp2_with fail
       go_region_held3 (λw'=>w'.cell? ⟨p,0,af⟩=ab (ad (ab ⟨fT,off,af⟩) l.length o)/\w'.cell? ⟨fT,off+k*3,af⟩=ab (J R M)/\w'.cell? ⟨fT,off+m*3,af⟩=ab (J R dc)/\w'.cell? ⟨fT,off+m*3+1,af⟩=ab (J R bm))
        (first
          |exact n.out _ (ar.drew _)
          |exact n.out _ T)
        (first
          |(go_at_call 117;refine(lN dc bm _ v1 v2 v3).mono ?_;rintro e i' ⟨rfl,ha0⟩;have T:aq wr i':=aq.trans (ar.drew _) ha0))
       all_goals
        go_wp2;go_ret;exact⟨aq.trans j.out.2.2.2.2 (aq.trans D.out T),b1 ⟨aa,arW j.out.1 j.out.2.1 P.out.1 (by rw[<-Z.out];exact P.out.2) m'.out⟩⟩
      .have hd:decide (M<dc+bm)=false:=by simpa using U
       have m':aE (dc+bm<=M):=hid ae;clear U fM;go_wp2_with fail
       go_region_held3 (λw'=>w'.cell? ⟨p,0,af⟩=ab (ad (ab ⟨fT,off,af⟩) l.length o)/\w'.cell? ⟨fT,off+k*3,af⟩=ab (J R M)/\w'.cell? ⟨fT,off+m*3,af⟩=ab (J R dc)/\w'.cell? ⟨fT,off+m*3+1,af⟩=ab (J R bm))
        (first
          |exact n.out _ (ar.drew _)
          |exact n.out _ T)
        (first
          |(go_at_call 117;refine(lN dc bm _ v1 v2 v3).mono ?_;rintro e i' ⟨rfl,ha0⟩;have T:aq wr i':=aq.trans (ar.drew _) ha0))
       all_goals
        go_wp2;go_roundw
        case rel=>
         refine⟨k+1,ae,by go_num,hid (λi x y h h1 z=>?_),aq.trans D.out T⟩;rcases Nat.lt_or_eq_of_le (show i<=m by have:=Z.out;omega)with Q|Q;·exact gd.out i x y (by have:=Z.out;omega) h1 z
         .subst Q;rw[P.out.1]at h1;rw[<-Z.out,P.out.2]at z;cases h1;cases z;exact m'.out
        case measure=>grind[cd]
    .obtain rfl:k=l.length:=ae;have eG:aE (jS d):=hid (aoa j.out.2.1 Xr.out (λi x y h1 z=>gd.out i x y (by have Q:=(eQ.1 z).1;have:=t.out;omega) h1 z));go_wp2;go_ret;have EB:Qk p wr p d:=⟨s,o,by rw[t.out];exact D.out.heap j.out.2.2.2.1 (λh=>h),j.out.2.2.1.aH D.out,by rw[t.out];exact gb,cm _,λb off e=>by subst e;have:=(wC bJ.out.1 b aa).1;omega⟩;refine⟨aq.trans j.out.2.2.2.2 D.out,bH ?_⟩
     first
      |exact⟨p,d,aa,j.out.1,eG.out,EB⟩
      |exact⟨p,d,aa,j.out.1,eG.out,by rw[Gx.out];exact EB⟩
      |exact⟨p,rfl,d,j.out.1,eG.out,EB⟩
def arQ A c l w(a:jy w A l)(d:∀e∈l,qQ e)(b:l.length<=1048576)(hr:zM l):
 aD ax 251 #[ad A l.length c] w λe w'=>∃p S,e=aA (ay (ab ⟨p,0,af⟩))/\S.Perm (iF l)/\jS S/\Qk w.heap.size w' p S/\aq w w':=
 by grind[arP,absurd,ZH]
open Go.RowKit Go.MapKept
def adv{w w':World}{base e sz:Nat}{v m xs}{c5:Nat->Prop}(h:w.ownsRow base e sz v m xs)(c:∀b,c5 b->b<w.heap.size->w'.heap[b]?=w.heap[b]?)(a:∀g,v.ownBlock=ab g->c5 g):w'.ownsRow base e sz v m xs:=by
 refine⟨h.1,?_⟩;rcases h.2 with h2|⟨g,cap,cur,rfl,hb,hh,r⟩;·grind
 .exact b1 ⟨g,_,_,aa,hb,CB c (a g aa) hh,r⟩
def dY.same{fc w w' b enc}{ok:fc->Prop}{a}{c5:Nat->Prop}(h:dY w b enc ok a)(d:∀b,c5 b->b<w.heap.size->w'.heap[b]?=w.heap[b]?)(c:c5 b):dY w' b enc ok a:=by obtain⟨es,e,hb,r⟩:=h;exact⟨es,_,CB d c hb,r⟩
def w2(F:Nat->Prop)(b:Nat)(n:Int)(E:List (Int×Int)):br:=⟨F,λw=>G.gT w F b n E,λw w' h _ c=>by obtain⟨⟨fI,cW,fz,eP,eN,g⟩,r⟩:=c;refine⟨⟨fI,cW,fz,eP,eN,{g with blk:=CB h g.xM g.blk,mB:=g.mB.same h g.Da,out:=g.out.same h g.Dc,mL:=g.mL.same h g.Db,p9:=λu=>⟨λv hv=>adv ((g.p9 u).1 v hv) h (λq a=>g.xO _ (rY hv) q a),(g.p9 u).2⟩,p7:=λu=>⟨λv hv=>adv ((g.p7 u).1 v hv) h (λq a=>g.xN _ (rY hv) q a),(g.p7 u).2⟩}⟩,r⟩⟩
def an8(n:Nat)w(h1:n<=1048576):
 aD ax 179 #[J R (n:Int)] w λe w'=>∃b F,e=aA (ay (ab ⟨b,0,af⟩))/\b3 w w' (w2 F b (n:Int) []):=
 (G.acX (n:Int) w ae ae).mono λe w' ⟨b,c,a,g⟩=>⟨b,_,c,g,a,λ_ h=>h⟩
def an7 b(n i j)E F B w(d:Has w (w2 F b n E))(hb:aW w B #[J R i,J R j] 192)(p:¬F B)(hi:db i)(l:db j)(o:E.length<=1048576):
 aD ax 182 #[ay (ab ⟨b,0,af⟩),ad (ab ⟨B,0,af⟩) 1 1] w λe w'=>∃v f,e=aA v/\Turned w w' (w2 F b n E) (w2 f b n (G.jj n E [(i,j)])):=by
 have m:jy w (ab ⟨B,0,af⟩) [(i,j)]:=λ_=>⟨B,0,rfl,λk hk=>by obtain rfl:k=0:=aF;exact⟨hb.cell 0 aa,hb.cell 1 aa⟩⟩;exact(G.X0 b n E F (ab ⟨B,0,af⟩) 1 [(i,j)] w d.1 m (λe a=>by obtain rfl:=List.mem_singleton.1 a;exact⟨hi,l⟩) aF (λblk off e=>aF)).mono λe w' ⟨a,g,c⟩=>⟨_,_,a,c,g,λb h=>⟨h.elim (λh=>vl (d.2 _ h) c.size) (λh=>h.2),h.elim bH (λh=>b1 h.1)⟩⟩
def Cr(p:Nat)(A:Option bU)(c:Nat)(S:List jQ):br:=⟨λb=>b=p\/(0<S.length/\dU A b),λw=>w.heap[p]?=ab (bc #[ad A S.length c] 411 (0,0))/\nf w A S/\S.length<=1048576,λw w' h g i=>by obtain⟨h1,d,f⟩:=i;refine⟨CB h (bH rfl) h1,λa=>?_,f⟩;obtain⟨b,off,e,hc⟩:=d a;have hb:w'.heap[b]?=w.heap[b]?:=h b (b1 ⟨a,off,af,e⟩) (g b (b1 ⟨a,off,af,e⟩));grind[Dm]⟩
def Cr.is{p A c S w}(h:(Cr p A c S).p w):oc w p S:=⟨A,c,h.1,h.2.1,h.2.2⟩
def aqn A c l w(q:jy w A l)(s:∀e∈l,qQ e)(r:l.length<=1048576)(hr:zM l):
 aD ax 251 #[ad A l.length c] w λe w'=>∃p S,S.Perm (iF l)/\jS S/\e=aA (ay (ab ⟨p,0,af⟩))/\∃d f,b3 w w' (Cr p d f S):=
 (arQ A c l w q s r hr).mono λe w' ⟨p,S,n,h1,i,⟨d,f,j,h,k,u,m⟩,g⟩=>⟨p,S,h1,i,n,d,f,g,⟨j,h,k⟩,λb hb=>by
  rcases hb with rfl|⟨hS,o,sp,e⟩;·grind
  .obtain⟨t,off,a,hc⟩:=h hS;rw[e]at a;injection a with a;injection a with bB b7 fG;subst bB b7 fG;exact⟨m _ _ e,uQ w' _ (hc 0 hS).1⟩⟩
def arE p S(c d)w(j:oc w p S)(k:jS S)(l:eD (c,d)):
 aD ax 181 #[ay (ab ⟨p,0,af⟩),av #[J R c,J R d]] w λe w'=>∃f h,e=aA (ad f ((parts (c,d) S).map (·.1)).length h)/\b3 w w' (bn f ((parts (c,d) S).map (·.1)).length h 3 1 (((parts (c,d) S).map (·.1)).map (J R))):=
 (arC p S c d w j k l).mono λe w' ⟨v,i,a,g⟩=>by
  have m:(parts (c,d) S).length=((parts (c,d) S).map (·.1)).length:=aT;have n:(parts (c,d) S).map (λx=>J R x.1)=((parts (c,d) S).map (·.1)).map (J R):=aT;rw[m,n]at a;rcases a.2 with⟨rfl,hz⟩|⟨q,cap,cur,rfl,hb,r⟩;·rw[hz]at a⊢;exact⟨af,0,i,g,CF a (cQ _),λ_ ⟨_,_,e⟩=>aF⟩
  .exact⟨ab ⟨q,0,af⟩,cap,i,g,CF a (cQ _),λb ⟨o,s,e⟩=>aF⟩
def ym(ms:List bG)(S:List jQ)(i:Nat):List (Int×Int):=match ms[i]? with
 |some m=>if m.k=1 then((parts (m.fr,m.n) S).map (·.1)).map (λj=>((i:Int),j))else[]
 |none=>[]
def l5(ms:List bG)(S:List jQ)(i:Nat):List (Int×Int):=(dF i).flatMap (ym ms S)
def sH(ms:List bG)(S:List jQ):List (Int×Int):=G.jj (ms.length:Int) [] (l5 ms S ms.length)
def Rb ms S i:l5 ms S (i+1)=l5 ms S i++ym ms S i:=by simp[l5,pE]
def XZ n(E a b):G.jj n E (a++b)=G.jj n (G.jj n E a) b:=by grind[G.jj]
def anm{l S}(h:S.Perm (iF l)){e j}(a:j∈(parts e S).map (·.1)):0<=j/\j<(l.length:Int):=by grind[parts,Ar]
def Ra{ms S}(a:S.length=ms.length):∀i,(l5 ms S i).length<=i*ms.length
 |0=>by simp[l5]
 |i+1=>by
  rw[Rb,dv,vm];have h1:=Ra a i
  have b:(ym ms S i).length<=ms.length:=by
   unfold ym;split
   .split;·rw[gU,gU,<-a];exact adC _ _
    .exact cQ _
   .exact cQ _
  omega
def asb{e}(h:eD e):qQ e:=by obtain⟨h1,a,b⟩:=h;exact⟨by grind[db],by grind[db]⟩
def avw A c ms w(N:cC w A ms)(hv:zM (ms.map b8))(Y:ms.length<=1048576):
 aD ax 180 #[ad A ms.length c] w λe w'=>∃p S,S.Perm (iF (ms.map b8))/\jS S/\e=aA (ay (ab ⟨p,0,af⟩))/\∃z I,b3 w w' (Cr p z I S):=by
 have E:=hid N;have q:=hid hv;go_enter func180,ntmps180;have a:=bf w;go_step;refine ag ?_;refine ah ?_;refine ag ?_;refine ah ?_;refine an ?_;replace a:=a.new (bn af 0 0 35 2 []) ⟨ar.refl _ _,Row.nil _ _ _ _,λb ⟨_,_,e⟩=>aF⟩;go_step;refine ag ?_;refine v3 ?_;refine an ?_;have o:=a.pk [0];go_wp2_with fail;go_loopw [3,8] (λy i wr=>∃(j:Nat) (aJ:Option bU) (c2:Nat),j<=ms.length/\y=ad aJ j c2/\i=J R (j:Int)/\aj w (λ_=>False) wr [bn aJ j c2 35 2 (il ((ms.take j).map b8))]) (λy i wr=>ms.length -(cd i).toNat);case atStart=>exact⟨0,_,0,cQ _,aa,aa,o⟩
 case round=>
  clear a o;obtain⟨j,aJ,c2,X,rfl,rfl,a⟩:=hrel;by_cases hlt:j<ms.length
  .have O:(j:Int)<(ms.length:Int):=ae;obtain⟨m,d⟩:∃m,ms[j]?=ab m:=⟨_,cj hlt⟩;obtain⟨g,l,f,h,r,s,t⟩:=cC.h9 E d;have C:=hid r;have V:=hid s;have D:=hid t;have G:=hid d;clear r s t d;have H:aE (il ((ms.take (j+1)).map b8)=il ((ms.take j).map b8)++[J R m.to,J R (cS m)]):=hid (by rw[fu,G,yb,gx,List.map_singleton,Q2];rfl);go_step;refine ag ?_;refine cb (ak aB) ?_;refine ag ?_;refine aI (ay (ab ⟨g,(l+j*5),af⟩)) (cH 24 73 5 (bb 6) (bb 8) aa eA aw g l (ms.length) c j ((l+j*5)) (by show ad A _ _=_;rw[C]) aa hlt aa) ?_;refine aI _ (by(refine e6 73 _ aa g _ aa _ (D _ a.only) fW aa aw)) ?_;refine bx a #[J R 0,J R 0,J R 0,J R 0,ad af 0 0] (λU w1 a=>?_);refine a' a 0 (av #[J R m.k,J R m.to,J R m.fr,J R m.n,ad f m.data.length h]) (λZ a=>?_);refine b4 ?_;refine bq a 0 #[J R m.k,J R m.to,J R m.fr,J R m.n,ad f m.data.length h] ?_;refine bA (uE m.k m.to m.fr m.n f m.data.length h _) a (λbL a=>?_);refine f' a #[J R m.to,J R (cS m)] 35 (λT ca a=>?_);refine nt (m:=1) a 2 16 (aW.cellsOf (m:=1) (a.aZ 0) aa) (by intro u x;simp only[gy,ga,or_false]at x;rcases x with rfl|rfl<;>rfl) (λQ W cF a=>?_) (hby:=by omega);refine dQ ?_;refine pad (j:Int) 1 ((j+1:Nat):Int) ?_;refine bP ?_;go_wp2_with fail;go_roundw;case rel=>exact⟨_,_,_,ae,aa,aa,by rw[H];exact a.pick [2]⟩
   case measure=>grind[cd]
  .have O:¬(j:Int)<(ms.length:Int):=ae;obtain rfl:j=ms.length:=ae;have v:ms.take ms.length=ms:=ik;rw[v]at a;have F:aE (ms.length=(ms.map b8).length):=hid aT;clear v;go_step;refine ag ?_;refine cb (ak au) ?_;refine b4 ?_;refine a6 ((show aD ax 251 #[ad aJ ms.length c2] _ λe w'=>_ from by rw[F.out];exact aqn aJ c2 (ms.map b8) _ (Row.Uc (a.atR 0)).2 (λe L=>by obtain⟨m,d,rfl⟩:=List.mem_map.1 L;exact asb (q.1 _ (List.mem_map_of_mem d)).1) aF q)) ?_;rintro e c6 ⟨p,S,P,M,rfl,B,fF,K⟩;replace a:=a.new _ K;refine FM ?_;go_wp2_with fail;go_ret;exact⟨p,S,P,M,aa,B,fF,a.fresh 0⟩
structure FT (ms:List bG):Prop where
 ek:ms.length<=1000
 right:zM (ms.map b8)
 src:∀m∈ms,m.k=1->eD (m.fr,m.n)
def Fl(i:Nat)(m:bG)(S:List jQ):List (Int×Int):=((parts (m.fr,m.n) S).map (·.1)).map (λj=>((i:Int),j))
def Q9{ms S i m}(h:ms[i]?=ab m)(hk:m.k=1):ym ms S i=Fl i m S:=by grind[ym,Fl]
theorem Q'{ms S i m}(h:ms[i]?=ab m)(hk:m.k≠1):ym ms S i=[]:=by grind[ym]
def KO n:∀(l E),(G.jj n E l).length<=E.length+l.length
 |[],E=>cm _
 |e::l,E=>by
  have h:=KO n l (G.pI n E e)
  have a:(G.pI n E e).length<=E.length+1:=by
   unfold G.pI;split;·simp
   .exact Nat.le_succ _
  have b7:G.jj n E (e::l)=G.jj n (G.pI n E e) l:=rfl;rw[b7,List.length_cons];omega
def alv A c ms w(hl:cC w A ms)(hv:FT ms):
 aD ax 91 #[ad A ms.length c] w λe w'=>∃b F S,S.Perm (iF (ms.map b8))/\jS S/\e=aA (ay (ab ⟨b,0,af⟩))/\b3 w w' (w2 F b ms.length (sH ms S)):=by
 have M:=hid hl;have cA:=hid hv.right;have qq:=hid hv.src;have ef:=hv.ek;go_enter func91,ntmps91;have a:=bf w;go_step;refine ag ?_;refine ah ?_;refine an ?_;go_step;refine ag ?_;refine v2 ?_;refine a6 (an8 ms.length _ ae) ?_;rintro e w1 ⟨b,F,rfl,s⟩;replace a:=a.new _ s;refine ba ?_;refine ah ?_;refine an ?_;go_step;refine ag ?_;refine ah ?_;refine a6 (avw A c ms _ (M.out.aH a.only) cA ae) ?_;rintro e aR ⟨p,S,v,Y,rfl,I,fF,s⟩;replace a:=a.new _ s;refine ba ?_;refine ah ?_;refine an ?_;have T:S.length=ms.length:=by rw[v.length_eq,zZ,gU]
 have V:=Ra (S:=S) T;have bI:=hid v;have L:=hid Y;have Z:∀e,∀j∈(parts e S).map (·.1),0<=j/\j<((ms.map b8).length:Int):=λe j hj=>anm v hj;have rr:=hid Z;have uV:aE (∀i,i<=ms.length->(G.jj ms.length [] (l5 ms S i)).length<=1000000):=hid (λi hi=>by have h1:=KO ms.length (l5 ms S i) [];have Q:=V i;have h3:i*ms.length<=1000*1000:=Ky ae ae;simp only[l2]at h1;omega);clear v Y V Z hv hl;go_step;refine ag ?_;refine v3 ?_;refine an ?_;have r:=a.pk [1,0];go_wp2_with fail;go_loopw [18] (λo wr=>∃(j:Nat) (F:Nat->Prop),j<=ms.length/\o=J R (j:Int)/\aj w (λ_=>False) wr [w2 F b ms.length (G.jj ms.length [] (l5 ms S j)),Cr p I fF S]) (λo wr=>ms.length -(cd o).toNat);case atStart=>exact⟨0,F,cQ _,aa,r⟩
 case round=>
  clear a r;obtain⟨j,F,hj,rfl,a⟩:=hrel;by_cases hlt:j<ms.length
  .have cI:(j:Int)<(ms.length:Int):=ae;obtain⟨m,D⟩:∃m,ms[j]?=ab m:=⟨_,cj hlt⟩;obtain⟨C,y,f,l,u,U,X⟩:=cC.h9 M D;have b5:=hid u;have gR:=hid U;have dj:=hid X;have B:=hid D;clear u U X D;go_step;refine ag ?_;refine cb (ak aB) ?_;refine an ?_;go_step;refine ag ?_;refine ah ?_;refine aI (ay (ab ⟨C,(y+j*5),af⟩)) (cH 24 73 5 (bb 16) (bb 18) aa eA aw C y (ms.length) c j ((y+j*5)) (by show ad A _ _=_;rw[b5]) aa hlt aa) ?_;refine aI (av #[J R m.k,J R m.to,J R m.fr,J R m.n,ad f m.data.length l]) (by(refine e6 73 (bb 21) aa C (y+j*5) aa ([J R m.k,J R m.to,J R m.fr,J R m.n,ad f m.data.length l]:List aO) (dj _ a.only) fW aa aw)) ?_;refine bx a #[J R 0,J R 0,J R 0,J R 0,ad af 0 0] (λeI bL a=>?_);refine ah ?_;refine a' a 0 (av #[J R m.k,J R m.to,J R m.fr,J R m.n,ad f m.data.length l]) (λca a=>?_);refine an ?_;by_cases hk:m.k=1
   .have aiD:aE (l5 ms S (j+1)=l5 ms S j++Fl j m S):=hid (by rw[Rb,Q9 B hk]);have Qd:=hid (qq m (cL B) hk);have gm:=hid hk;clear hk;go_step;refine ag ?_;refine bq a 0 #[J R m.k,J R m.to,J R m.fr,J R m.n,ad f m.data.length l] ?_;refine a6 ((show aD ax 79 #[av #[J R m.k,J R m.to,J R m.fr,J R m.n,ad f m.data.length l]] _ λe w'=>_ from by rw[gm.out];exact y4 m.to m.fr m.n f m.data.length l _)) ?_;rintro e cF ⟨rfl,g⟩;replace a:=a.aH g;refine ba ?_;refine v3 ?_;refine bx a #[J R 0,J R 0] (λfL c6 a=>?_);refine a' a 0 (av #[J R m.fr,J R m.n]) (λdW a=>?_);refine ah ?_;refine an ?_;go_step;refine ag ?_;refine ah ?_;refine an ?_;obtain⟨d,t⟩:=ex ((parts (m.fr,m.n) S).map (·.1));have PW:aE (∀W,oc W p S->aD ax 181 #[ay (ab ⟨p,0,af⟩),av #[J R m.fr,J R m.n]] W λe w'=>∃H N,e=aA (ad H d.length N)/\b3 W w' (bn H d.length N 3 1 (d.map (J R)))):=hid (λW h=>by rw[<-t];exact arE p S m.fr m.n W h L Qd);have aiV:=hid t;have kJ:d.length<=ms.length:=by rw[<-t,gU,<-T];exact adC _ _
    have aiU:aE (∀x∈d,0<=x/\x<(ms.length:Int)):=hid (λx hx=>by have h:=rr (m.fr,m.n) x (by rw[t];exact hx);rwa [gU]at h);clear t;go_step;refine ag ?_;refine ah ?_;refine bq a 0 #[J R m.fr,J R m.n] ?_;refine a6 (PW _ (Cr.is (a.at 3))) ?_;rintro e dG ⟨lh,O,rfl,s⟩;replace a:=a.new _ s;refine ba ?_;refine v2 ?_;refine an ?_;have r:=a.pk [3,4,0];go_wp2_with fail;go_loopw [33] (λo wr=>∃(q:Nat) (F:Nat->Prop),q<=d.length/\o=J R (q:Int)/\aj w (λ_=>False) wr [w2 F b ms.length (G.jj ms.length [] (l5 ms S j++(d.take q).map (λx=>((j:Int),x)))),Cr p I fF S,bn lh d.length O 3 1 (d.map (J R))]) (λo wr=>d.length -(cd o).toNat);case atStart=>exact⟨0,F,cQ _,aa,by rw[List.take_zero,List.map_nil,j6];exact r⟩
    case round=>
     clear a r;obtain⟨q,F,hq,rfl,a⟩:=hrel;by_cases HT:q<d.length
     .have aps:(q:Int)<(d.length:Int):=ae;obtain⟨x,hx⟩:∃x,d[q]?=ab x:=⟨_,cj HT⟩;have dO:=hid hx;have Cp:=aiU x (cL hx);have E:(d.map (J R))[q]?=ab (J R x):=by rw[List.getElem?_map,hx];rfl
      have ajG:=hid E;obtain⟨P,u,_⟩:=(a.atR 2).cell E;subst u;have jF:aE (l5 ms S j++(d.take (q+1)).map (λx=>((j:Int),x))=(l5 ms S j++(d.take q).map (λx=>((j:Int),x)))++[((j:Int),x)]):=hid (by rw[fu,hx,yb,gx,j5];rfl);have rq:aE ((G.jj ms.length [] (l5 ms S j++(d.take q).map (λx=>((j:Int),x)))).length<=1048576):=hid (by have h1:=uV j ae;have Q:=KO ms.length ((d.take q).map (λx=>((j:Int),x))) (G.jj ms.length [] (l5 ms S j));rw[<-XZ,gU,oT]at Q;omega);clear hx E;go_step;refine ag ?_;refine cb (ak aB) ?_;refine an ?_;go_step;refine ag ?_;refine aI (ay (ab ⟨P,q,af⟩)) (cH 82 3 1 (bb 31) (bb 33) aa ij aw P 0 (d.length) O q q aa aa HT ae) ?_;refine aI (J R x) (T5 (a.atR 2) ajG aa aa aw) ?_;refine ah ?_;refine an ?_;go_step;refine ag ?_;refine v4 ?_;refine f' a #[J R (j:Int),J R x] 192 (λK e8 a=>?_);refine a6 (an7 b ms.length (j:Int) x _ F K _ (a.has 1 aa) (a.aZ 0) (λh=>a.ne (i:=1) (j:=0) aa aa bh K h aa) (by unfold db;omega) (by unfold db;omega) rq) ?_;rintro e hR ⟨v5,U8,rfl,bF⟩;replace a:=a.eF 1 bF;refine ba ?_;refine an ?_;go_step;refine ag ?_;refine pad (q:Int) 1 ((q+1:Nat):Int) ?_;refine ah ?_;refine an ?_;go_wp2_with fail;go_roundw;case rel=>exact⟨q+1,_,ae,aa,by rw[jF.out,XZ];exact a.pick [1,2,3]⟩
      case measure=>simp[cd]<;>omega
     .have aps:¬(q:Int)<(d.length:Int):=ae;obtain rfl:q=d.length:=ae;have z:aE (l5 ms S (j+1)=l5 ms S j++(d.take d.length).map (λx=>((j:Int),x))):=hid (by rw[aiD,Fl,aiV,ik]);go_step;refine ag ?_;refine cb (ak au) ?_;refine an ?_;go_step;refine ag ?_;refine pad (j:Int) 1 ((j+1:Nat):Int) ?_;refine ah ?_;refine an ?_;go_wp2_with fail;go_roundw;case rel=>exact⟨j+1,_,ae,aa,by rw[z.out];exact a.pick [0,1]⟩
      case measure=>simp[cd]<;>omega
   .have z:aE (l5 ms S (j+1)=l5 ms S j):=hid (by rw[Rb,Q' B hk,j6]);go_step;refine ag ?_;refine bq a 0 #[J R m.k,J R m.to,J R m.fr,J R m.n,ad f m.data.length l] ?_;refine a6 (y5 m.k m.to m.fr m.n f m.data.length l _ hk) ?_;rintro e iZ ⟨rfl,g⟩;replace a:=a.aH g;refine ba ?_;refine v3 ?_;refine bx a #[J R 0,J R 0] (λfL ks a=>?_);refine a' a 0 (av #[J R 0,J R 0]) (λlf a=>?_);refine ah ?_;refine an ?_;go_step;refine ag ?_;refine ah ?_;refine an ?_;go_step;refine ag ?_;refine pad (j:Int) 1 ((j+1:Nat):Int) ?_;refine ah ?_;refine an ?_;go_wp2_with fail;go_roundw;case rel=>exact⟨j+1,_,ae,aa,by rw[z.out];exact a.pick [2,3]⟩
    case measure=>grind[cd]
  .have cI:¬(j:Int)<(ms.length:Int):=ae;obtain rfl:j=ms.length:=ae;go_step;refine ag ?_;refine cb (ak au) ?_;refine an ?_;go_step;refine ag ?_;refine v2 ?_;refine an ?_;go_wp2_with fail;go_ret;exact⟨b,F,S,bI,L,aa,a.fresh 0⟩
def k9(A:Option bU)(xs:List Int):br:=⟨λb=>0<xs.length/\dU A b,λw=>cX w A xs,λw w' h c d a=>by obtain⟨b,off,rfl,hc⟩:=d a;have hb:=h b ⟨a,_,_,aa⟩ (c b ⟨a,_,_,aa⟩);grind[Dm]⟩
def aeg{w w' A xs}(g:aq w w')(h:cX w' A xs)(c:∀k off,A=ab ⟨k,off,af⟩->w.heap.size<=k):b3 w w' (k9 A xs):=⟨g,h,λb hb=>by obtain⟨a,o,d,e⟩:=hb;obtain⟨k,off,b7,hc⟩:=h a;rw[e]at b7;cases b7;exact⟨c _ _ e,uQ w' _ (hc 0 a)⟩⟩
def isLit(ms:List bG)(i:Nat):Bool:=match ms[i]? with|some m=>decide (m.k=2)|none=>au
def jX(ms:List bG)(j:Nat):List Int:=((dF j).filter (isLit ms)).map (λi:Nat=>(i:Int))
def arh{ms j m}(h:ms[j]?=ab m)(hk:m.k=2):jX ms (j+1)=jX ms j++[(j:Int)]:=by grind[isLit,jX,pE]
def arf{ms j m}(h:ms[j]?=ab m)(hk:m.k≠2):jX ms (j+1)=jX ms j:=by grind[isLit,jX,pE]
theorem Mr ms j:(jX ms j).length<=j:=by grind[jX]
def acG A(c b)ms w(E:cC w A ms)(Q:ms.length<=1000):
 aD ax 177 #[av #[ad A ms.length c,ay (ab ⟨b,0,af⟩)]] w λe w'=>∃l q,e=aA (ad l (jX ms ms.length).length q)/\b3 w w' (bn l (jX ms ms.length).length q 3 1 ((jX ms ms.length).map (J R))):=by
 have B:=hid E;go_enter func177,ntmps177;have a:=bf w;go_step;refine ag ?_;refine bM a (av _) (λI w1 a=>?_);refine ah ?_;refine an ?_;go_step;refine ag ?_;refine ah ?_;refine an ?_;replace a:=a.new (bn _ 0 0 3 1 []) ⟨ar.refl _ _,Row.nil _ _ _ _,λb ⟨_,_,e⟩=>aF⟩;go_step;refine ag ?_;refine ah ?_;refine pl a 1 0 ?_;refine v2 ?_;refine an ?_;have p:=a.pk [0];go_wp2_with fail;go_loopw [3,9] (λx i wr=>∃(j n:Nat) (aJ:Option bU) (c2:Nat),j<=ms.length/\aE ((jX ms j).length=n)/\n<=j/\x=ad aJ n c2/\i=J R (j:Int)/\aj w (λ_=>False) wr [bn aJ n c2 3 1 ((jX ms j).map (J R))]) (λx i wr=>ms.length -(cd i).toNat);case atStart=>exact⟨0,0,_,0,cQ _,aa,cm _,aa,aa,p⟩
 case round=>
  clear a p;obtain⟨j,n,aJ,c2,P,f,S,rfl,rfl,a⟩:=hrel;by_cases hlt:j<ms.length
  .have F:(j:Int)<(ms.length:Int):=ae;obtain⟨m,h⟩:∃m,ms[j]?=ab m:=⟨_,cj hlt⟩;obtain⟨D,T,H,O,r,s,t⟩:=cC.h9 B h;have y:=hid r;have M:=hid s;have z:=hid t;have o:=hid h;clear r s t h;go_step;refine ag ?_;refine cb (ak aB) ?_;refine an ?_;go_step;refine ag ?_;refine ah ?_;refine aI _ (cH 24 73 5 _ _ aa eA aw _ _ _ _ _ _ (by show ad A _ _=_;rw[y]) aa hlt aa) ?_;refine aI _ (by(refine e6 73 _ aa D _ aa _ (z _ a.only) fW aa aw)) ?_;refine bx a #[J _ 0,J _ 0,J _ 0,J _ 0,ad _ 0 0] (λL U a=>?_);refine ah ?_;refine a' a 0 (av _) (λV a=>?_);refine an ?_;by_cases hk:m.k=2
   .have d:=hid (arh o hk);have C:aE ((jX ms _).length=n+1):=hid (by rw[d,dv,f];rfl);have g:=hid hk;clear hk;go_step;refine ag ?_;refine ah ?_;refine pl a 0 0 ?_;refine dr g (ak aB) ?_;refine an ?_;go_step;refine ag ?_;refine v2 ?_;refine f' a #[J R (j:Int)] 3 (λK W a=>?_);refine nt (m:=1) a 2 8 (aW.cellsOf (m:=1) (a.aZ 0) aa) (by intro u v;simp only[gy,ga,or_false]at v;subst v;rfl) (λG N X a=>?_) (hby:=by omega);refine ah ?_;refine an ?_;go_step;refine ag ?_;refine pad _ 1 ((j+1:Nat):Int) ?_;refine ah ?_;refine an ?_;go_wp2_with fail;go_roundw;case rel=>exact⟨_,_,_,_,ae,C,ae,aa,aa,by rw[d,gx];exact a.pick [2]⟩
    case measure=>grind[cd]
   .have d:=hid (arf o hk);have g:=hid hk;clear hk;go_step;refine ag ?_;refine ah ?_;refine pl a 0 0 ?_;refine dr g (ak au) ?_;refine an ?_;go_step;refine ag ?_;refine pad _ 1 ((j+1:Nat):Int) ?_;refine ah ?_;refine an ?_;go_wp2_with fail;go_roundw;case rel=>exact⟨j+1,n,_,_,ae,hid (by rw[d];exact f),ae,aa,aa,by rw[d];exact a.pick [1]⟩
    case measure=>grind[cd]
  .have F:¬(j:Int)<(ms.length:Int):=ae;obtain rfl:j=ms.length:=ae;go_step;refine ag ?_;refine cb (ak au) ?_;refine an ?_;go_step;refine ag ?_;refine v2 ?_;refine an ?_;go_wp2_with fail;go_ret;exact⟨aJ,c2,by rw[f];rfl,by rw[f];exact a.fresh 0⟩
def alC A(c b)ms E F o w(l:cC w A ms)(ef:ms.length<=1000)(Z:E.length<=1048576)(hx:G.wL E (ms.map (·.n)) (jX ms ms.length) o [])(H:G.gT w F b ms.length E):
 aD ax 175 #[av #[ad A ms.length c,ay (ab ⟨b,0,af⟩)]] w λe w'=>∃d f,e=aA (ad d o.length f)/\b3 w w' (k9 d o):=by
 have P:=hid l;have v:aE (∀W,ar (λ_=>False) w W->aD _ _ _ W λe w'=>∃d f,e=aA _/\b3 W w' _):=hid (λW g=>acG A c b ms W (l.aH g) ef)
 have t:aE (∀W gL ia fQ gA,ar (λ_=>False) w W->cX W gL (ms.map (·.n))->cX W fQ _->aD ax 249 _ W λe w'=>∃d f,e=aA (bg #[ad d o.length f,ak aB])/\b3 W w' (k9 d o)):=hid (λW gL ia fQ gA g z T=>by have RC:=z;have q:=G.alz b _ E F gL ia _ fQ gA _ W (G.gT.aH H g) z T aF (by grind[Mr]) Z o [] hx aB aa;rw[gU]at q;refine q.mono λe w' hq=>?_;obtain⟨d,f,U,V,_,X,Y⟩:=hq;exact⟨d,f,U,aeg Y V X⟩);have gb:=Mr ms ms.length;obtain⟨lt,I⟩:=ex (jX ms ms.length);rw[I]at v t gb;clear l hx I H;go_enter func175,ntmps175;have a:=bf w;go_step;refine ag ?_;refine bM a (av _) (λM w1 a=>?_);refine ah ?_;refine an ?_;go_step;refine ag ?_;refine ah ?_;refine an ?_;replace a:=a.new (bn _ 0 0 3 1 []) ⟨ar.refl _ _,Row.nil _ _ _ _,λb ⟨_,_,e⟩=>aF⟩;go_step;refine ag ?_;refine ah ?_;refine pl a 1 0 ?_;refine v2 ?_;refine an ?_;have x:=a.pk [0,1];go_wp2_with fail;go_loopw [3,11] (λL r wr=>∃(j:Nat) (aJ:Option bU) (c2:Nat),j<=ms.length/\L=ad aJ j c2/\r=J R (j:Int)/\aj w (λ_=>False) wr [bn aJ j c2 3 1 (((ms.take j).map (·.n)).map (J R)),ai M #[ad A ms.length c,ay (ab ⟨b,0,af⟩)] 181]) (λL r wr=>ms.length -(cd r).toNat);case atStart=>exact⟨0,_,0,cQ _,aa,aa,x⟩
 case round=>
  clear a x;obtain⟨j,aJ,c2,hj,rfl,rfl,a⟩:=hrel;by_cases hlt:j<ms.length
  .have cI:(j:Int)<(ms.length:Int):=ae;obtain⟨m,p⟩:∃m,ms[j]?=ab m:=⟨_,cj hlt⟩;obtain⟨y,bK,aP,aQ,B,C,D⟩:=cC.h9 P p;have N:=hid B;have gR:=hid C;have O:=hid D;have Q:=hid p;clear B C D p;have S:aE ((ms.take _).map (·.n)=(ms.take j).map _++[m.n]):=hid (by rw[fu,Q,yb,gx];rfl);go_step;refine ag ?_;refine cb (ak aB) ?_;refine an ?_;go_step;refine ag ?_;refine aI _ (cH 24 73 5 _ _ aa eA aw y bK _ c j _ (by show ad A _ _=_;rw[N]) aa hlt aa) ?_;refine aI _ (by(refine e6 73 _ aa y _ aa _ (O _ a.only) fW aa aw)) ?_;refine bx a #[J _ 0,J _ 0,J _ 0,J _ 0,ad _ 0 0] (λeK aR a=>?_);refine a' a 0 (av _) (λbL a=>?_);refine an ?_;go_step;refine ag ?_;refine v2 ?_;refine pl a 0 3 ?_;refine f' a #[J R m.n] 3 (λOt ca a=>?_);refine nt (m:=1) a 2 8 (aW.cellsOf (m:=1) (a.aZ 0) aa) (by intro u K;simp only[gy,ga,or_false]at K;subst K;rfl) (λJk KV cF a=>?_) (hby:=by omega);refine ah ?_;refine an ?_;go_step;refine ag ?_;refine pad _ 1 ((j+1:Nat):Int) ?_;refine ah ?_;refine an ?_;go_wp2_with fail;go_roundw;case rel=>exact⟨_,_,_,ae,aa,aa,by rw[S,gx];exact a.pick [2,3]⟩
   case measure=>grind[cd]
  .have cI:¬(j:Int)<(ms.length:Int):=ae;obtain rfl:j=ms.length:=ae;rw[ik]at a;go_step;refine ag ?_;refine cb (ak au) ?_;refine an ?_;go_step;refine ct ?_;refine bN a [4,5] (λi u=>match i with|4=>ad u.A lt.length u.c|5=>bg #[ad u.A o.length u.c,ak aB]|_=>aY) (λh=>λ|4=>bn ((h 4).A) lt.length ((h 4).c) 3 1 (lt.map (J R))|5=>k9 (h 5).A o|_=>emp) (λ_=>[]) (λ|1=>[1]|3=>[1]|5=>[0,6]|_=>[]) (λ|4=>[4]|5=>[5]|_=>[]) [0,1,6,7] (λh=>?_);refine aK ?_;refine dl 0 1 ?_;refine aK ?_;refine ea 0 #[ad A ms.length c,ay (ab ⟨b,0,af⟩)] ?_;refine df (λs Fr a=>(v s a.only).mono ?_) ?_;·rintro e dm ⟨d,f,rfl,k⟩;exact⟨{A:=d,c:=f},aa,a.new _ k⟩
   refine df (λs Fr a=>(t s aJ c2 _ _ a.only (Row.Ng (a.atR 0)) (Row.Ng (a.atR 1))).mono ?_) ?_;·rintro e dm ⟨d,f,rfl,k⟩;exact⟨{A:=d,c:=f},aa,a.new _ k⟩
   refine oL ?_;refine bQ λc6 a=>?_;generalize (h 4).A=aw1 at a⊢;generalize (h 4).c=ayh at a⊢;generalize (h 5).A=Jm at a⊢;generalize (h 5).c=KX at a⊢;go_step;refine ag ?_;refine v2 ?_;refine an ?_;go_wp2_with fail;go_ret;exact⟨_,⟨_,aa⟩,a.fresh 3⟩
def alO{ms S}(hv:FT ms)(a:S.Perm (iF (ms.map b8))):(sH ms S).length<=1000000:=by have h1:=KO ms.length (l5 ms S ms.length) [];have b:=Ra (ms:=ms) (S:=S) (by rw[a.length_eq,zZ,gU]) ms.length;have c:=Ky hv.ek hv.ek;simp only[l2]at h1;unfold sH;omega
structure Conv (ms:List bG) (S:List jQ) (o od:List Int):Prop where
 ok:FT ms
 perm:S.Perm (iF (ms.map b8))
 oA:jS S
 ch:G.wL (sH ms S) (ms.map (·.n)) (jX ms ms.length) o []
 ord:G.mx (sH ms S) ms.length (jX ms ms.length++o) od
 all:G.kp ms.length (jX ms ms.length++o) od=[]
 Eg:o.length<=1048576
def Q8 A c ms S(o od)w(r:cC w A ms)(hc:Conv ms S o od):
 aD ax 88 #[ad A ms.length c] w λe w'=>∃b k n C U,e=aA (av #[ad A ms.length c,ay (ab ⟨b,0,af⟩),ad k o.length n,ad C od.length U])/\b3 w w' (bO [k9 k o,k9 C od]):=by
 have N:=hc.ok.ek;have cv:=hid r;have c0:=hid hc;have I:aE (∀b W,ar (λ_=>False) w W->aD _ _ _ W λe w'=>∃f j,e=aA _/\b3 W w' _):=hid (λb W g=>acG A c b ms W (r.aH g) N);have D:aE (∀W,ar (λ_=>False) w W->aD _ 91 _ W λe w'=>∃b F,e=aA _/\b3 W w' (w2 F b _ (sH ms S))):=hid (λW g=>(alv A c ms W (r.aH g) hc.ok).mono λe w' ⟨b,F,QE,h1,x,V,y⟩=>⟨b,F,V,by rw[aoc (hc.perm.trans h1.symm) hc.oA x];exact y⟩);have eU:=alO hc.ok hc.perm;have H:aE (∀W b F,ar (λ_=>False) w W->(w2 F b _ _).p W->aD _ _ _ W λe w'=>∃f j,e=aA _/\b3 W w' _):=hid (λW b F g hg=>alC A c b ms _ F o W (r.aH g) N ae hc.ch hg)
 have t:aE (∀W b F s cs,(w2 F b ms.length (sH ms S)).p W->cX W s _->aD ax 176 _ W λe w'=>∃f j,e=aA (bg #[ad f od.length j,ak aB])/\b3 W w' (k9 f od)):=hid (λW b F s cs h1 x=>by have z:=Mr ms ms.length;have L:=hc.Eg;have q:=G.asx b _ _ F s cs _ W h1 x aF ae od hc.ord aB (by rw[hc.all];rfl);rw[dv]at q;refine q.mono λe w' hq=>?_;obtain⟨f,j,y,X,Y,Z⟩:=hq;exact⟨f,j,y,aeg Z X Y⟩);have z:=Mr ms ms.length;have L:=hc.Eg;obtain⟨lt,M⟩:=ex (jX ms ms.length);rw[M]at I t z;have Q:aE ((lt.length+o.length)*8<=140737488355328):=hid ae;obtain⟨E,K⟩:=ex (sH ms S);rw[K]at D H t;clear r M K eU z L hc;go_enter func88,ntmps88;have a:=bf w;go_step;refine ag ?_;refine bx a #[ad _ 0 0,ay _,ad _ 0 0,ad _ 0 0] (λcy w1 a=>?_);refine ja ?_;refine a6 (D.out _ a.only) ?_;rintro e aR ⟨b,F,rfl,l⟩;replace a:=a.new _ l;refine ba ?_;refine v2 ?_;refine bx a #[ad _ 0 0,ay _,ad _ 0 0,ad _ 0 0] (λP bL a=>?_);refine a' a 0 (av _) (λca a=>?_);refine b4 ?_;refine bq a 0 #[ad A ms.length c,ay (ab ⟨b,0,af⟩)] ?_;refine a6 (H _ b F a.only (a.at 1)) ?_;rintro e cF ⟨k,n,rfl,l⟩;replace a:=a.new _ l;refine ba ?_;refine ah ?_;refine a' a 1 (ad k _ n) (λc6 a=>?_);refine ct ?_;refine bN a [5,8,9,14] (λi u=>match i with|5=>ad u.A lt.length u.c|8=>ad u.A (lt.length+o.length) u.c|9=>bg #[ad u.A od.length u.c,ak aB]|_=>aY) (λd=>λ|5=>bn ((d 5).A) lt.length ((d 5).c) 3 1 (lt.map (J R))|8=>bn ((d 8).A) (lt.length+o.length) ((d 8).c) 3 1 ((lt.map (J R))++(o.map (J R)))|9=>k9 (d 9).A od|14=>ai P #[ad A ms.length c,ay (ab ⟨b,0,af⟩),ad k o.length n,ad (d 9).A od.length (d 9).c] 183|_=>emp) (λ|8=>[9]|14=>[1]|_=>[]) (λ|2=>[1]|4=>[1]|7=>[1]|8=>[0]|9=>[2,12]|_=>[]) (λ|5=>[5]|8=>[8]|9=>[9]|14=>[9]|_=>[]) [0,2,3,12,13,18] (λd=>?_);refine bp ?_;refine dl 0 1 ?_;refine aK ?_;refine ea 0 #[ad A ms.length c,ay (ab ⟨b,0,af⟩)] ?_;refine df (λB Fr a=>(I b B a.only).mono ?_) ?_;·rintro e dm ⟨f,j,rfl,l⟩;exact⟨{A:=f,c:=j},aa,a.new _ l⟩
 refine aK ?_;refine dl 0 2 ?_;refine tQ (m:=_) 8 (λ_ _ a=>cX.cells (a.at 1)) (Ty o) ?_ (hby:=Q);refine df (λB Fr a=>(t B b F _ _ (a.at 0) (by have h:=a.atR 1;rw[<-gx]at h;exact Row.Ng h)).mono ?_) ?_;·rintro e dm ⟨f,j,rfl,l⟩;exact⟨{A:=f,c:=j},aa,a.new _ l⟩
 refine iw ?_;refine fY _ ?_;refine bQ λdW a=>?_;generalize (d 5).A=Jk at a⊢;generalize (d 5).c=KV at a⊢;generalize (d 8).A=UN at a⊢;generalize (d 8).c=Yq at a⊢;generalize (d 9).A=O at a⊢;generalize (d 9).c=T at a⊢;refine ag ?_;refine bq a 5 #[ad A ms.length c,ay (ab ⟨b,0,af⟩),ad k o.length n,ad O od.length T] ?_;refine a' a 2 (av _) (λdG a=>?_);refine an ?_;go_wp2_with fail;refine dn (v:=_) (results_cell_row aa _ _ _ _ _ _ _ aa (a.aZ 2) underlying183 aa aw) aa (⟨b,k,n,_,_,aa,((a.pick (l':=[k9 k o,k9 _ od]) [0,4]).fB 2).fresh 0⟩)
abbrev jP:=bG×Option bU×Nat
theorem G5(L:List jP):(cz L).length=L.length*5:=by
 induction L with
 |nil=>rfl
 |cons x L a=>show((([J R x.1.k,J R x.1.to,J R x.1.fr,J R x.1.n,ad x.2.1 x.1.data.length x.2.2]:List aO):List aO)++cz L).length=_;rw[dv,a];simp;omega
def D4(L a:List jP):cz (L++a)=cz L++cz a:=List.flatMap_append
def Q6(x:jP):cz [x]=([J R x.1.k,J R x.1.to,J R x.1.fr,J R x.1.n,ad x.2.1 x.1.data.length x.2.2]:List aO):=rfl
def alK(L:List jP)j x(hx:L[j]?=ab x):cz L=cz (L.take j)++(([J R x.1.k,J R x.1.to,J R x.1.fr,J R x.1.n,ad x.2.1 x.1.data.length x.2.2]:List aO)++cz (L.drop (j+1))):=by obtain⟨a,hx⟩:=eQ.1 hx;rw[<-Q6,<-D4,<-D4];congr 1;subst hx;simp
def alH(L:List jP)j x(hx:L[j]?=ab x):∀(i) v,(([J R x.1.k,J R x.1.to,J R x.1.fr,J R x.1.n,ad x.2.1 x.1.data.length x.2.2]:List aO):List aO)[i]?=ab v->(cz L)[j*5+i]?=ab v:=λi v hv=>by
 have b:=(eQ.1 hx).1;have hi:i<5:=(eQ.1 hv).1;have a:(cz (L.take j)).length=j*5:=by grind[G5]
 rw[alK L j x hx,oe ae,a,show j*5+i -j*5=i by omega,tD ae];exact hv
def yl(L:List jP)(p:jP->Bool):Int:=match L.findIdx? p with|some k=>(k:Int)|none=>-1
def alJ A (c g:Nat) lb (L:List jP) p w (I:L.length<=1073741824) (hr:Row 0 w A L.length c 73 5 (cz L)) (s:∀args w,(kj g args).run ax w=a7 (.enter g args) w)
 (hp:∀x W,x∈L->aq w W->aD ax g (#[av #[J R x.1.k,J R x.1.to,J R x.1.fr,J R x.1.n,ad x.2.1 x.1.data.length x.2.2]]++lb) W λe w'=>e=aA (ak (p x))/\aq W w'):
 aD ax 191 #[ad A L.length c,dJ (ej g) #[] lb] w λe w'=>e=aA (J R (yl L p))/\aq w w':=by
 have G:=hr;obtain⟨hlen,_⟩:=G;have B:=hid s;have C:=hid hp;have r:aE (∀W,aq w W->Row 0 W A L.length c 73 5 (cz L)):=hid (λW g=>IF hr g);clear hr s hp hlen;go_enter func191,ntmps191;have a:=bf w;go_step;refine ag ?_;refine ah ?_;refine ag ?_;refine v3 ?_;refine an ?_;go_wp2_with fail;go_loopw [8] (λl wr=>∃j:Nat,j<=L.length/\l=J R (j:Int)/\(∀(i:Nat) (x:jP),i<j->L[i]?=ab x->p x=au)/\aj w (λ_=>False) wr []) (λl wr=>L.length -(cd l).toNat);case atStart=>grind
 case round=>
  clear a;obtain⟨j,K,rfl,u,a⟩:=hrel;by_cases hlt:j<L.length
  .have F:(j:Int)<(L.length:Int):=ae;obtain⟨x,hx⟩:∃x,L[j]?=ab x:=⟨_,cj hlt⟩;obtain⟨d,cur,t,E,_,_,_,_⟩:=(r.out _ a.only).blk ae;obtain⟨iK,z⟩:=ex (p x);have H:=cL hx;have D:=hid (alH L j x hx);have q:=hid hx;have b:=hid z;have o:=hid u;have m:=hid t;clear hx z u E t;go_step;refine ag ?_;refine ah ?_;refine ag ?_;refine v2 ?_;refine jt ?_;refine aI (ay (ab ⟨d,(j*5),af⟩)) (cH 24 73 5 (bb 12) (bb 13) aa eA aw d 0 (L.length) c j ((j*5)) (by show ad A _ _=_;rw[m]) aa hlt ae) ?_;refine aI _ (by(refine e6 73 _ aa d _ aa _ (Row.range (r _ a.only) m (λi v hi=>D i v hi)) fW aa aw)) ?_;refine bA ((by have h:=C.out x _ H a.only;rw[b.out]at h;exact h)) a (λw1 a=>?_) (hr:=by(go_simp;exact B _ _));refine an ?_;cases iK with
   |true=>
    refine ag ?_;refine dP ?_;go_wp2_with fail;go_ret;exact⟨by rw[show yl L p=(j:Int)from by unfold yl;rw[show L.findIdx? p=ab j from Lj q b o]];rfl,a.only⟩
   |false=>
    refine ag ?_;refine pad (j:Int) 1 ((j+1:Nat):Int) ?_;refine bP ?_;go_wp2_with fail;go_roundw;case rel=>exact⟨j+1,ae,rfl,λi y hi f=>by rcases Nat.lt_succ_iff_lt_or_eq.1 hi with h|rfl;exact o i y h f;rw[q]at f;cases f;exact b,a⟩
    case measure=>simp[cd]<;>omega
  .have F:¬(j:Int)<(L.length:Int):=ae;obtain rfl:j=L.length:=ae;go_step;refine ag ?_;refine ah ?_;refine ag ?_;refine ah ?_;refine an ?_;go_wp2_with fail;go_ret;exact⟨by rw[show yl L p=-1 from by grind[yl,Li]];rfl,a.only⟩
def alI A (c g:Nat) lb (L:List jP) (p:jP->Bool) w (cf:L.length<=1073741824) (hr:Row 0 w A L.length c 73 5 (cz L)) (B:∀args w,(kj g args).run ax w=a7 (.enter g args) w)
 (hp:∀x W,x∈L->ar (dU A) w W->aD ax g (#[av #[J R x.1.k,J R x.1.to,J R x.1.fr,J R x.1.n,ad x.2.1 x.1.data.length x.2.2]]++lb) W λe w'=>e=aA (ak (p x))/\aq W w'):
 aD ax 104 #[ad A L.length c,dJ (ej g) #[] lb] w λe w'=>∃P,e=aA (ad P (L.filter (λx=>!p x)).length c)/\Turned w w' (bn A L.length c 73 5 (cz L)) (bn P (L.filter (λx=>!p x)).length c 73 5 (cz (L.filter (λx=>!p x)))):=by
 have U:=hid B;have D:0<L.length->_:=λh=>hr.blk h;obtain⟨N,K⟩:=ex (yl L p);have X:aE (∀W,ar (dU A) w W->Row 0 W A L.length c 73 5 (cz L)->aD ax 191 #[ad A L.length c,dJ (ej g) #[] lb] W λe w'=>e=aA (J R N)/\aq W w'):=hid (λW o h=>by have q:=alJ A c g lb L p W cf h B (λx fv hx g2=>hp x fv hx (o.trans g2.to (λ_ _ h=>h)));rw[K]at q;exact q);have Y:=hid hp;have hr1:=hid hr;have Ib:=hid (λb (hb:dU A b)=>(Row.lt hr hb).2);by_cases Ci:N=-1;clear B hp
 .subst Ci;have hno:L.filter (λx=>!p x)=L:=by grind[zE,yl]
  rw[hno];clear hno K D hr;go_enter Tryz.func104,Tryz.ntmps104;have a:=aj.start (t:=bn A L.length c 73 5 (cz L)) ⟨hr1,Ib⟩;go_step;refine ag ?_;refine ku ?_;refine bA (X.out _ a.only (a.at 0)) a (λw1 a=>?_);refine cJ ?_;refine pk (ak aB) ?_;refine ag ?_;refine dP ?_;go_wp2_with fail;go_ret;exact⟨A,aa,a.gi 0⟩
 .obtain⟨d,pU⟩:∃d,L.findIdx? p=ab d:=by grind[yl]
  have Sc:N=(d:Int):=by grind[yl]
  subst Sc;obtain⟨jm,ug,hb1⟩:=List.findIdx?_eq_some_iff_getElem.1 pU;obtain⟨G,cur,rfl,kI,iH,hcm,hcs,E⟩:=D ae;have apC:¬(d:Int)=-1:=ae;have R':(L.take d).filter (λx=>!p x)=L.take d:=by grind[zE,oU]
  have hx1:L[d]?=ab L[d]:=cj jm
  have hst:∃f fb,cur=(cz ((L.take (d+1)).filter (λx=>!p x))++(f++(cz (L.drop (d+1))++fb))).toArray/\f.length=5/\((L.take (d+1)).filter (λx=>!p x)).length=d:=by
   have bB:(L.take (d+1)).filter (λx=>!p x)=L.take d:=by grind[fu]
   refine⟨cz [L[d]],cur.toList.drop (L.length*5),?_,aS,aF⟩;rw[bB,<-j5,<-j5,<-D4,<-D4,show L.take d++[L[d]]++L.drop _=L by simp,<-E,oV]
  obtain⟨f,fb,HD,fl,l⟩:=hst;have aoz:∀b,dU (ab (⟨G,0,af⟩:bU)) b->b=G:=λb ⟨off,sp,e⟩=>by grind
  have hsz:cur.size=c*5:=hcs;have jK:fb.length+L.length*5=c*5:=by grind[G5]
  have P':=hid jK;have r:=hid iH;have Q:=hid hcm;have qs:=hid hsz;have mv:=hid HD;have PC:=hid E;have ln:=hid kI;clear jK K pU hb1 R' ug hx1 iH hcm hcs E D hr kI hsz HD;go_enter Tryz.func104,Tryz.ntmps104;have a:aj w (dU (ab (⟨G,0,af⟩:bU))) w [ai G cur 73]:=(aj.start (t:=bn (ab (⟨G,0,af⟩:bU)) L.length c 73 5 (cz L)) ⟨hr1,Ib⟩).as 0 aa _ (λ_=>ln) (λb hb=>⟨0,af,by rw[show b=G from hb]⟩);go_step;refine ag ?_;refine ku ?_;refine bA (X.out _ a.only (by have h:=IS (n:=L.length) (a.aZ 0) r Q qs;rw[show cur.toList.take (L.length*5)=cz L from PC]at h;exact h)) a (λaR a=>?_);refine cJ ?_;refine cb (ak au) ?_;refine b4 ?_;refine pad (d:Int) 1 ((d+1:Nat):Int) ?_;refine bP ?_;have b9:=a;rw[mv]at a;go_wp2_with fail;go_loopw [5,6] (λaV O wr=>∃(i j:Nat) (f:List aO),i<j/\j<=L.length/\aV=J R (i:Int)/\O=J R (j:Int)/\((L.take j).filter (λx=>!p x)).length=i/\f.length+i*5=j*5/\aj w (dU (ab (⟨G,0,af⟩:bU))) wr [ai G (cz ((L.take j).filter (λx=>!p x))++(f++(cz (L.drop j)++fb))).toArray 73]) (λaV O wr=>L.length -(cd O).toNat);case atStart=>exact⟨d,d+1,_,ae,ae,aa,aa,l,ae,a⟩
  case round=>
   clear a b9 l fl;obtain⟨i,j,f,hJ,hj,rfl,rfl,l,fl,a⟩:=hrel;by_cases hlt:j<L.length
   .have cI:(j:Int)<(L.length:Int):=ae;obtain⟨x,hx⟩:∃x,L[j]?=ab x:=⟨_,cj hlt⟩;have kK:=cL hx;obtain⟨iK,oD⟩:=ex (p x);have hdr:cz (L.drop j)=([J R x.1.k,J R x.1.to,J R x.1.fr,J R x.1.n,ad x.2.1 x.1.data.length x.2.2]:List aO)++cz (L.drop (j+1)):=by rw[<-Q6,<-D4];congr 1;obtain⟨h1,rfl⟩:=eQ.1 hx;simp
    obtain⟨pre,M⟩:=ex (cz ((L.take j).filter (λx=>!p x)));have SF:pre.length=i*5:=by grind[G5]
    obtain⟨ea,I⟩:=ex (cz (L.drop (j+1)));rw[hdr,M,I]at a
    have xf:∀(k:Nat) (v:aO),(([J R x.1.k,J R x.1.to,J R x.1.fr,J R x.1.n,ad x.2.1 x.1.data.length x.2.2]:List aO):List aO)[k]?=ab v->(pre++(f++(([J R x.1.k,J R x.1.to,J R x.1.fr,J R x.1.n,ad x.2.1 x.1.data.length x.2.2]:List aO)++ea++fb)))[j*5+k]?=ab v:=λk v hk=>by have apd:k<5:=(eQ.1 hk).1;rw[oe ae,oe ae,j5,tD (by show _<5;omega),show j*5+k -pre.length -f.length=k by omega];exact hk
    have Z:=hid SF;have tA:=hid xf;have u:=hid hx;have s:=hid oD;have wJ:=hid M;have T:=hid I;have m:=hid l;have aiH:=hid hdr;clear hx oD M I hdr xf l;go_step;refine ag ?_;refine v4 ?_;refine ja ?_;refine aI (ay (ab ⟨G,(j*5),af⟩)) (cH 24 73 5 (bb 22) (bb 23) aa eA aw G 0 (L.length) c j ((j*5)) aa aa hlt ae) ?_;refine aI _ (by(refine e6 73 _ aa G (j*5) aa _ ((a.aZ 0).rangeAt (j*5) _ (λk v hk=>by rw[List.getElem?_toArray];exact tA k v hk)) fW aa aw)) ?_;refine bx a #[J R 0,J R 0,J R 0,J R 0,ad af 0 0] (λfL bL a=>?_);refine a' a 0 (av #[J R x.1.k,J R x.1.to,J R x.1.fr,J R x.1.n,ad x.2.1 x.1.data.length x.2.2]) (λca a=>?_);refine an ?_;cases iK with
    |true=>
     refine b4 ?_;refine bq a 0 #[J R x.1.k,J R x.1.to,J R x.1.fr,J R x.1.n,ad x.2.1 x.1.data.length x.2.2] ?_;refine bA ((by have h:=Y.out x _ kK a.only;rw[s.out]at h;exact h)) a (λcF a=>?_) (hr:=by(first|(go_simp;done)|(go_simp;exact U.out _ _)));refine cJ ?_;refine pad (j:Int) 1 ((j+1:Nat):Int) ?_;refine bP ?_;go_wp2_with fail;go_roundw;case rel=>exact⟨i,j+1,f++([J R _,J R _,J R _,J R x.1.n,ad _ _ x.2.2]:List _),ae,ae,aa,aa,by rw[show(L.take _).filter (λx=>!p x)=(L.take j).filter (λx=>!p x)from by rw[fu,u,pC];simp[s.out]];exact m,by rw[dv];show f.length+5+_=_;omega,by rw[show(L.take _).filter (λx=>!p x)=(L.take j).filter (λx=>!p x)from by rw[fu,u,pC];simp[s.out],wJ.out,T.out];have h:aj _ _ _ [ai G (pre++(f++(([J R x.1.k,J R x.1.to,J R x.1.fr,J R x.1.n,ad x.2.1 x.1.data.length x.2.2]:List aO)++ea++fb))).toArray 73]:=a.pick [1];simpa using h⟩
     case measure=>simp[cd]<;>omega
    |false=>
     refine b4 ?_;refine bq a 0 #[J R x.1.k,J R x.1.to,J R x.1.fr,J R x.1.n,ad x.2.1 x.1.data.length x.2.2] ?_;refine bA ((by have h:=Y.out x _ kK a.only;rw[s.out]at h;exact h)) a (λc6 a=>?_) (hr:=by(first|(go_simp;done)|(go_simp;exact U.out _ _)));refine ku ?_;refine bq a 0 #[J R x.1.k,J R x.1.to,J R x.1.fr,J R x.1.n,ad x.2.1 x.1.data.length x.2.2] ?_;refine aI _ (cH 24 73 5 _ _ aa eA aw G 0 _ c i ((i*5)) aa aa ae ae) ?_;refine MV a 1 (FC (cs':=(pre++(([J R x.1.k,J R x.1.to,J R x.1.fr,J R x.1.n,ad x.2.1 x.1.data.length x.2.2]:List aO)++(f++(([J R x.1.k,J R x.1.to,J R x.1.fr,J R x.1.n,ad x.2.1 x.1.data.length x.2.2]:List aO)++ea++fb)).drop 5)).toArray) (av #[J R x.1.k,J R x.1.to,J R x.1.fr,J R x.1.n,ad x.2.1 x.1.data.length x.2.2]) aa aa aa (a.aZ 1) (by show i*5+5<=_;rw[iQ,dv,dv,dv,dv,Z];show _<=_+(_+(5+_+_));omega) aw aw (by have e:=Ct ([J R x.1.k,J R x.1.to,J R x.1.fr,J R x.1.n,ad x.2.1 x.1.data.length x.2.2]:List aO) pre (f++(([J R x.1.k,J R x.1.to,J R x.1.fr,J R x.1.n,ad x.2.1 x.1.data.length x.2.2]:List aO)++ea++fb)) (by rw[dv,dv,dv];show 5<=_+(5+_+_);omega);rw[Z]at e;exact e)) (λdW a=>?_);refine b4 ?_;refine pad (i:Int) 1 ((i+1:Nat):Int) ?_;refine cJ ?_;refine pad (j:Int) 1 ((j+1:Nat):Int) ?_;refine bP ?_;go_wp2_with fail;go_roundw;case rel=>exact⟨i+1,j+1,(f++([J R x.1.k,J R x.1.to,J R x.1.fr,J R x.1.n,ad x.2.1 x.1.data.length x.2.2]:List aO)).drop 5,ae,ae,aa,aa,by rw[(show(L.take _).filter (λx=>!p x)=(L.take j).filter (λx=>!p x)++[x]from by rw[fu,u,pC];simp[s.out]),dv,m];rfl,by rw[vh,dv];show f.length+5 -5+_=_;omega,by rw[(show(L.take _).filter (λx=>!p x)=(L.take j).filter (λx=>!p x)++[x]from by rw[fu,u,pC];simp[s.out]),D4,wJ,Q6,T];have h:aj _ _ _ [ai G (pre++(([J R x.1.k,J R x.1.to,J R x.1.fr,J R x.1.n,ad x.2.1 x.1.data.length x.2.2]:List aO)++(f++(([J R x.1.k,J R x.1.to,J R x.1.fr,J R x.1.n,ad x.2.1 x.1.data.length x.2.2]:List aO)++ea++fb)).drop 5)).toArray 73]:=a.pick [1];rw[show pre++(([J R x.1.k,J R x.1.to,J R x.1.fr,J R x.1.n,ad x.2.1 x.1.data.length x.2.2]:List aO)++(f++(([J R x.1.k,J R x.1.to,J R x.1.fr,J R x.1.n,ad x.2.1 x.1.data.length x.2.2]:List aO)++ea++fb)).drop 5)=pre++([J R x.1.k,J R x.1.to,J R x.1.fr,J R x.1.n,ad x.2.1 x.1.data.length x.2.2]:List aO)++((f++([J R x.1.k,J R x.1.to,J R x.1.fr,J R x.1.n,ad x.2.1 x.1.data.length x.2.2]:List aO)).drop 5++(ea++fb))from by rw[j5,j5,<-j5 f,List.drop_append_of_le_length (by rw[dv];show 5<=_+5;omega)]]at h;exact h⟩
     case measure=>simp[cd]<;>omega
   .have cI:¬(j:Int)<(L.length:Int):=ae;obtain rfl:j=L.length:=ae;rw[ik]at a l;rw[List.drop_length]at a;have m:=hid l;clear l;go_step;refine ag ?_;refine v4 ?_;refine an ?_;obtain⟨cu,z⟩:=ex ((cz (L.filter (λx=>!p x))++(f++(cz []++fb))).toArray);have HE:cu.size=c*5:=by rw[<-z,iQ,dv,dv,dv,G5,m];have:=P'.out;show _+(_+(0+_))=_;omega
    have hcut:cu.toList.take (i*5)=cz (L.filter (λx=>!p x)):=by rw[<-z,<-m,<-G5];simp
    rw[z]at a;have S:=hid HE;have Dt:=hid hcut;clear z HE hcut;refine ja ?_;refine aI (ad (ab ⟨G,i*5,af⟩) (L.length -i) (c -i)) (aeT 24 73 5 (bb 36) (bb 37) aa eA aw G L.length c i (L.length -i) aa aa ae r.out (by have:=r.out;omega)) ?_;refine adx (C:=λy=>y.size=cu.size/\y.toList.take (i*5)=cu.toList.take (i*5)) a 0 (aer (sz:=5) aa aS eA aS aS aw ae (a.aZ 0) (by rw[S];have:=r.out;omega)) (λiZ y R0 a=>?_);refine an ?_;obtain⟨F,H⟩:=R0;rw[Dt]at H;rw[S]at F;replace a:aj _ _ _ [ai G y 73]:=a;have Qi:=hid F;have vc:=hid H;clear F H;refine ja ?_;refine aI (ad (ab (⟨G,0,af⟩:bU)) i c) (qY 24 73 5 (bb 39) (bb 40) aa eA aw (ab (⟨G,0,af⟩:bU)) L.length c i aa aa (by have:=r.out;omega)) ?_;refine bP ?_;have V:=a.AQ 0 i c 5 (cz (L.filter (λx=>!p x))) vc (by have:=r.out;omega) Q Qi;rw[<-m]at V;go_wp2_with fail;go_ret;exact⟨_,by rw[m.out];rfl,V.gi 0⟩
def jJ(old:List Int)(ev:List Int)(i:Nat)(m:bG):bG:=if m.k=1/\(i:Int)∈ev then⟨2,m.to,0,0,(old.drop m.fr.toNat).take m.n.toNat⟩else m
def uF(old ev:List Int)(ms:List bG)(j:Nat):List bG:=ms.mapIdx (λi m=>if i<j then jJ old ev i m else m)
def kd(old ev:List Int)(ms:List bG):List bG:=ms.mapIdx (jJ old ev)
theorem avA(old ev)ms:uF old ev ms 0=ms:=by unfold uF;refine wM λi=>?_;rw[List.getElem?_mapIdx];cases ms[i]?<;>simp
def avz(old ev)ms:uF old ev ms ms.length=kd old ev ms:=by unfold uF kd;refine wM λi=>?_;grind
def afh(old ev)ms j:(uF old ev ms j).length=ms.length:=by simp[uF]
def afg{old ev ms j m}(h:ms[j]?=ab m):(uF old ev ms j)[j]?=ab m:=by grind[uF]
def Uj{old ev ms j m}(h:ms[j]?=ab m):uF old ev ms (j+1)=(uF old ev ms j).set j (jJ old ev j m):=by have a:=(eQ.1 h).1;refine wM λi=>?_;grind[uF]
def aeH{a:Type}{l:List a}{j x}(h:l[j]?=ab x):l.set j x=l:=by grind[List.set_getElem_self]
def ame{ao w FX A n c}{l:List jP}{L}(h:aj ao FX w (BM A n c l::L)):aj ao FX w (bn A n c 73 5 (cz l)::gC l::L):=by
 refine(h.as 0 aa (both (bn A n c 73 5 (cz l)) (gC l)) (λa=>⟨a.1,a.2,λb hb d=>?_⟩) (λb hb=>hb)).fh;obtain⟨x,hx,o,f,d⟩:=d;obtain⟨k,m,hb⟩:=hb;obtain⟨_,cs,i⟩:=(a.2 x hx).2.1 b o f d;rcases a.1.2 with⟨e,_⟩|⟨g,cap,cur,e,_,j,_⟩;·grind
 .grind
def aj.amS{ao w FX L}{l:List jP}{m A c}j(h:aj ao FX w (gC l::cc A c m.data::L)):aj ao FX w (gC (l.set j (m,A,c))::L):=by
 refine h.star.as 0 aa _ (λa x hx=>?_) (λb hb=>?_)
 .rcases ajZ hx with hx|rfl;·exact a.1 x hx
  .exact a.2.1
 .obtain⟨x,hx,hb⟩:=hb;rcases ajZ hx with hx|rfl;·exact bH ⟨x,hx,hb⟩
  .exact b1 hb
def YS:∀{l:List jP} {j x},j<l.length->cz (l.set j x)=(cz l).take (j*5)++(jk x.1 x.2.1 x.2.2++(cz l).drop (j*5+5))
 |[],_,_,h=>absurd h (Nat.not_lt_zero _)
 |y::l,0,x,_=>aa
 |y::l,j+1,x,h=>by have b:=YS (l:=l) (j:=j) (x:=x) aF;have bB:∀(a:jP) (k:List jP),cz (a::k)=jk a.1 a.2.1 a.2.2++cz k:=λ_ _=>aa;have b7:(jk y.1 y.2.1 y.2.2).length=5:=rfl;have t1:(jk y.1 y.2.1 y.2.2).take (j*5+5)=jk y.1 y.2.1 y.2.2:=tF ae;have t2:(jk y.1 y.2.1 y.2.2).drop (j*5+5+5)=[]:=List.drop_eq_nil_of_le ae;rw[List.set_cons_succ,bB,bB,b,vm,XH,List.drop_append,b7,t1,t2,show j*5+5 -5=j*5 by omega,show j*5+5+5 -5=j*5+5 by omega,List.nil_append,j5]
def aub{P o}{a:Act}{w g n c j}{l:List jP}{x p q}(h:Row 0 w (ab ⟨g,0,af⟩) n c 73 5 (cz l))(D:j<n)(F:l.length=n)(z:o.op=.store 73 p q)(hx:a.eval p=ay (ab ⟨g,j*5,af⟩))(A:a.eval q=av (jk x.1 x.2.1 x.2.2).toArray)(hi:(P.info? 73).map (·.size)=ab 5):
 ∃w',(execOp a.eval o).run P w=a7 .skip w'/\Turned w w' (bn (ab ⟨g,0,af⟩) n c 73 5 (cz l)) (bn (ab ⟨g,0,af⟩) n c 73 5 (cz (l.set j x))):=by
 obtain⟨G,cur,t,y,m,hcm,hcs,u⟩:=h.blk ae;cases t;have E:j*5+5<=n*5:=ae;have H:n*5<=c*5:=Nat.mul_le_mul_right _ m;obtain⟨w',h1,f,s,B⟩:=Nc (P:=P) (k:=j*5) (v:=av (jk x.1 x.2.1 x.2.2).toArray) z hx A y (by show j*5+5<=_;omega) (by rw[hi];rfl) aw;refine⟨w',h1,s.mono (G:=dU (ab ⟨g,0,af⟩)) (λi _ e=>⟨0,af,aT⟩),?_,λb hb=>?_⟩
 .have C:cur.toList.length=c*5:=ae;have d:(jk x.1 x.2.1 x.2.2).length=5:=rfl
  have e:lay cur (j*5) (jk x.1 x.2.1 x.2.2)=(cur.toList.take (j*5)++(jk x.1 x.2.1 x.2.2++(cur.toList.drop (j*5)).drop 5)).toArray:=by have q:=Ct (jk x.1 x.2.1 x.2.2) (cur.toList.take (j*5)) (cur.toList.drop (j*5)) aF;rw[oV,oT,zJ ae,d]at q;exact q
  have r:aW w' g (cur.toList.take (j*5)++(jk x.1 x.2.1 x.2.2++(cur.toList.drop (j*5)).drop 5)).toArray 73:=by rw[<-e];exact f
  have hr:=IS (n:=n) (c:=c) (sz:=5) r m hcm aF
  have hx2:(cur.toList.take (j*5)++(jk x.1 x.2.1 x.2.2++(cur.toList.drop (j*5)).drop 5)).take (n*5)=cz (l.set j x):=by rw[YS ae,<-u,XH,oT,zJ ae,aj4,XH,d,List.drop_drop,aj4,List.drop_take,Nat.min_eq_right ae,zJ ae,tF (l:=jk x.1 x.2.1 x.2.2) ae];congr 2
  show Row 0 w' _ _ _ _ _ _;rw[<-hx2];exact hr
 .obtain⟨I,J,e⟩:=hb;cases e;exact⟨aW.lt f,bH ⟨_,_,aa⟩⟩
def avB(s A E)(bZ c O)(old ev)n(g1 g2)ms w(hold:bR w s old)(hc0:old.length<=bZ)(hM:old.length<=1048576)(hl:cC w A ms)(ef:ms.length<=1000)(pT:∀m∈ms,m.data.length<=140737488355328)(jl:cX w E ev)(azd:ev.length<=1048576)(k1:∀m∈ms,m.k=1->∃f q:Nat,m.fr=(f:Int)/\m.n=(q:Int)/\f+q<=old.length):
 aD ax 103 #[ad s old.length bZ,dC (old.length:Int) n g1 g2 (ad A ms.length c),ad E ev.length O] w λe w'=>∃D F l,l.map (·.1)=kd old ev ms/\e=aA (bg #[dC (old.length:Int) n g1 g2 (ad D ms.length F),ak aB])/\b3 w w' (bO [bn D ms.length F 73 5 (cz l),gC l]):=by
 have cv:=hid hl;have Bj:=hid hold;have qq:=hid k1;have sq:=hid pT;have wG:aE (∀(j:Nat) W,aq w W->aD ax 190 #[ad E ev.length O,J R (j:Int)] W λe w'=>e=aA (ak (decide ((j:Int)∈ev)))/\aq W w'):=hid (λj W g=>(G.G7 E O ev (j:Int) W (jl.only g (λ_ _ _ h=>h)) ae).mono λ_ _ ⟨h1,h2⟩=>⟨h1,h2▸ar.refl _ _⟩);clear hl hold k1 jl pT;go_enter func103,ntmps103;have a:=bf w;go_step;refine ag ?_;refine bM a (av (a1 (old.length:Int) n g1 g2 (ad A ms.length c))) (λY w1 a=>?_);refine bx a (a1 0 0 dX.zero dX.zero (ad af 0 0)) (λZ aR a=>?_);refine cJ ?_;refine pl a 1 0 ?_ (hv:=mA);refine v2 ?_;refine aI (ak au) (by(go_simp;try simp)) ?_;refine ag ?_;refine bq a 1 (a1 (old.length:Int) n g1 g2 (ad A ms.length c)) ?_ (hv:=(ee _)) (hk:=by omega) (hz:=(by rw[cN];rfl));refine ah ?_;refine pl a 1 66 ?_ (hv:=eS);refine a6 (Ja _ n g1 g2 _ A c ms _ aa (cv.out.aH a.only) (eC ef bh) sq) ?_;rintro e bL ⟨aJ,c2,bE,rfl,hF,j4⟩;replace a:=a.new _ hF;refine ba ?_;refine bx a (a1 0 0 dX.zero dX.zero (ad af 0 0)) (λeW ca a=>?_);refine a' a 0 (av (a1 (old.length:Int) n g1 g2 (ad aJ ms.length c2))) (λcF a=>?_) (hk:=by show 0+jD (a1 _ _ _ _ _)<=_;simp only[cN];decide) (hz:=by show _=ab (jD (a1 _ _ _ _ _));rw[cN];rfl) (h1:=(vt aa)) (hc:=vQ);refine an ?_;obtain⟨l,w9,rfl⟩:=j4;replace a:=ame (a.front 1);refine b4 ?_;refine pl a 4 66 ?_ (hv:=eS);refine dP ?_;have b9:=a.pk [0,1,2,3,4];go_wp2_with fail;go_loopw [26] (λU wr=>∃(j:Nat) (l:List jP),j<=ms.length/\U=J R (j:Int)/\aE (l.map (·.1)=uF old ev ms j)/\aj w (λ_=>False) wr [bn aJ ms.length c2 73 5 (cz l),gC l,ai eW (a1 (old.length:Int) n g1 g2 (ad aJ ms.length c2)) 26,ai Z (a1 0 0 dX.zero dX.zero (ad af 0 0)) 26,ai Y (a1 (old.length:Int) n g1 g2 (ad A ms.length c)) 26]) (λU wr=>ms.length -(cd U).toNat);case atStart=>exact⟨0,l,cQ _,aa,hid (by grind[avA]),b9⟩
 case round=>
  clear a b9 w9;obtain⟨j,l,hj,rfl,p,a⟩:=hrel;by_cases hlt:j<ms.length
  .have cI:(j:Int)<(ms.length:Int):=ae;obtain⟨m,S⟩:∃m,ms[j]?=ab m:=⟨_,cj hlt⟩;obtain⟨y,B,o,r,bu,dM,cU⟩:=cC.h9 cv S;have b5:=hid bu;have gR:=hid dM;have K:=hid cU;have t:=hid S;clear bu dM cU S;go_step;refine ag ?_;refine cb (ak aB) ?_;refine an ?_;by_cases hk:m.k=1
   .obtain⟨f,q,Q,T,B5⟩:=qq m (cL t) hk;obtain⟨bs,P⟩:=ex ((old.drop f).take q);have hbl:q=bs.length:=by rw[<-P,oT,vh];omega
    subst hbl;rw[hk,Q,T]at K;have rk:=hid P;have M:=hid (And.intro hk (And.intro Q T));clear hk Q T P;refine b4 ?_;refine aI (ay (ab ⟨y,(B+j*5),af⟩)) (cH 24 73 5 (bb 24) (bb 26) aa eA aw y B (ms.length) c j ((B+j*5)) (by show ad A _ _=_;rw[b5]) aa hlt aa) ?_;refine aI _ (by(refine e6 73 _ aa y _ aa _ (K _ a.only) fW aa aw)) ?_;refine bx a #[J R 0,J R 0,J R 0,J R 0,ad af 0 0] (λV c6 a=>?_);refine ah ?_;refine a' a 0 (av #[J R 1,J R m.to,J R (f:Int),J R (bs.length:Int),ad o m.data.length r]) (λdW a=>?_);refine ag ?_;refine bq a 0 #[J R 1,J R m.to,J R (f:Int),J R (bs.length:Int),ad o m.data.length r] ?_;refine bA (y4 m.to (f:Int) (bs.length:Int) o m.data.length r _) a (λdG a=>?_);refine v3 ?_;refine bx a #[J R 0,J R 0] (λX e8 a=>?_);refine a' a 0 (av #[J R (f:Int),J R (bs.length:Int)]) (λhR a=>?_);refine bP ?_;by_cases z:(j:Int)∈ev
    .have L:aE (decide ((j:Int)∈ev)=aB):=hid (by simpa using z);have C:aE (jJ old ev j m=⟨2,m.to,0,0,bs⟩):=hid (by rw[jJ,if_pos ⟨M.1,z⟩,M.2.1,M.2.2];show(⟨2,m.to,0,0,(old.drop f).take bs.length⟩:bG)=_;rw[rk]);obtain⟨x,hx⟩:∃x,l[j]?=ab x:=⟨l[j]'(by have h:=congrArg vg p;rw[gU,afh]at h;omega),cj _⟩;obtain⟨H,sM,_⟩:=(a.atR 2).cell (D8 hx 0 _ aa);subst sM;have gw:aE (l.length=ms.length):=hid (by have h:=congrArg vg p;rwa [gU,afh]at h);clear z hx;refine oM ?_;refine bA ((by have h:=wG.out j _ a.only;rw[L.out]at h;exact h)) a (λiZ a=>?_);refine ig ?_;refine bN a [14,15,17] (λi u=>match i with|14=>ad (ab ⟨u.b,0,af⟩) 1 1|15=>av #[J R 2,J R m.to,J R 0,J R 0,ad u.A bs.length u.c]|_=>aY) (λd=>λ|14=>ai ((d 14).b) #[ad (fE s bZ f 1) bs.length (bZ -f)] 22|15=>cc (d 15).A (d 15).c bs|17=>bn (ab ⟨H,0,af⟩) ms.length c2 73 5 (cz (l.set j (⟨2,m.to,0,0,bs⟩,(d 15).A,(d 15).c)))|_=>emp) (λ|17=>[2]|_=>[]) (λ|1=>[4]|4=>[1]|7=>[0]|9=>[0]|11=>[0]|15=>[21]|_=>[]) (λ|14=>[14]|15=>[15]|17=>[15]|_=>[]) [0,1,3,4,5,6,21,22,24] (λd=>?_);refine aK ?_;refine dl 0 66 ?_ (hv:=eS);refine bp ?_;refine dl 0 1 ?_;refine bp ?_;refine dl 0 0 ?_;refine aK ?_;refine dl 0 0 ?_;refine aK ?_;refine dl 0 1 ?_;refine aL _ (λ_ _ _=>lK 3 _ _ 3 aa _ _ ((f+bs.length:Nat):Int) aa aa ae ae ae) ?_;refine aL _ (λ_ _ _=>IW 22 5 1 _ _ _ aa dI aw s _ bZ f _ bs.length aa aa aa ae ae) ?_;refine lM _ 22 ?_;refine df (λwl Fr a=>((Tg m.to (d 14).b (fE s bZ f 1) (bZ -f) bs wl ((a.aZ 0).cell 0 aa) (by have h:=(Bj.out.aH a.only).win (i:=f) (q:=f+bs.length) (eC (cm _) hc0) B5;rw[show f+bs.length -f=bs.length by omega,rk]at h;exact h) ae)).mono ?_) ?_;·rintro e dm ⟨D,F,rfl,ic,g⟩;exact⟨{A:=D,c:=F},aa,a.js g ic⟩
     refine aL _ (λ_ _ _=>cH 24 73 5 _ _ aa eA aw H 0 _ c2 j ((j*5)) aa aa hlt ae) ?_;refine K' (λ_ _ a=>aub (x:=(⟨2,_,0,0,bs⟩,(d 15).A,(d 15).c)) (a.atR 0) hlt gw aa aa aa aw) ?_;refine bQ λks a=>?_;generalize (d 14).b=agb at a⊢;generalize (d 15).A=I at a⊢;generalize (d 15).c=N at a⊢;replace a:=aj.amS j (m:=⟨2,m.to,0,0,bs⟩) (a.pick (l':=[gC l,cc I N bs,ai X #[J R (f:Int),J R (bs.length:Int)] 35,ai V #[J R 1,J R m.to,J R (f:Int),J R (bs.length:Int),ad o m.data.length r] 73,ai eW (a1 (old.length:Int) n g1 g2 (ad (ab ⟨H,0,af⟩) ms.length c2)) 26,ai Z (a1 0 0 dX.zero dX.zero (ad af 0 0)) 26,ai Y (a1 (old.length:Int) n g1 g2 (ad A ms.length c)) 26,ai agb #[ad (fE s bZ f 1) bs.length (bZ -f)] 22,bn (ab ⟨H,0,af⟩) ms.length c2 73 5 (cz (l.set j (⟨2,m.to,0,0,bs⟩,I,N)))]) [2,7,0,1,3,4,5,6,8]);refine ag ?_;refine pad (j:Int) 1 ((j+1:Nat):Int) ?_;refine bP ?_;go_wp2_with fail;go_roundw;case rel=>exact⟨j+1,(l.set j (⟨2,_,0,0,bs⟩,I,N)),ae,aa,hid (by rw[List.map_set,p,Uj t,C]),a.pick [7,0,3,4,5]⟩
     case measure=>simp[cd]<;>omega
    .have L:aE (decide ((j:Int)∈ev)=au):=hid (by simpa using z);have C:aE (jJ old ev j m=m):=hid (by rw[jJ,if_neg (λh=>z h.2)]);clear z;refine oM ?_;refine bA ((by have h:=wG.out j _ a.only;rw[L.out]at h;exact h)) a (λlf a=>?_);refine dQ ?_;refine pad (j:Int) 1 ((j+1:Nat):Int) ?_;refine bP ?_;go_wp2_with fail;go_roundw;case rel=>exact⟨j+1,l,ae,aa,hid (by rw[Uj t,show jJ _ ev j m=m from C,aeH (afg t)];exact p),a.pick [2,3,4,5,6]⟩
     case measure=>simp[cd]<;>omega
   .have C:aE (jJ old ev j m=m):=hid (by rw[jJ,if_neg (λh=>hk h.1)]);refine b4 ?_;refine aI (ay (ab ⟨y,(B+j*5),af⟩)) (cH 24 73 5 (bb 24) (bb 26) aa eA aw y B (ms.length) c j ((B+j*5)) (by show ad A _ _=_;rw[b5]) aa hlt aa) ?_;refine aI _ (by(refine e6 73 _ aa y _ aa _ (K _ a.only) fW aa aw)) ?_;refine bx a #[J R 0,J R 0,J R 0,J R 0,ad af 0 0] (λV mm a=>?_);refine ah ?_;refine a' a 0 (av #[J R m.k,J R m.to,J R m.fr,J R m.n,ad o m.data.length r]) (λnX a=>?_);refine ag ?_;refine bq a 0 #[J R m.k,J R m.to,J R m.fr,J R m.n,ad o m.data.length r] ?_;refine bA (y5 m.k m.to m.fr m.n o m.data.length r _ hk) a (λpd a=>?_);refine v3 ?_;refine bx a #[J R 0,J R 0] (λX tc a=>?_);refine a' a 0 (av #[J R 0,J R 0]) (λtd a=>?_);refine ku ?_;iterate 3 refine ps ?_
    refine dQ ?_;refine pad (j:Int) 1 ((j+1:Nat):Int) ?_;refine bP ?_;go_wp2_with fail;go_roundw;case rel=>exact⟨j+1,l,ae,aa,hid (by rw[Uj t,show jJ _ ev j m=m from C,aeH (afg t)];exact p),a.pick [2,3,4,5,6]⟩
    case measure=>simp[cd]<;>omega
  .have cI:¬(j:Int)<(ms.length:Int):=ae;obtain rfl:j=ms.length:=ae;rw[avz]at p;go_step;refine ag ?_;refine cb (ak au) ?_;refine ag ?_;refine bq a 2 (a1 (old.length:Int) n g1 g2 (ad aJ ms.length c2)) ?_ (hv:=(ee _)) (hk:=by omega) (hz:=(by rw[cN];rfl));refine a' a 3 (av (a1 (old.length:Int) n g1 g2 (ad aJ ms.length c2))) (λxD a=>?_) (hk:=by show 0+jD (a1 _ _ _ _ _)<=_;simp only[cN];decide) (hz:=by show _=ab (jD (a1 _ _ _ _ _));rw[cN];rfl) (h1:=(vt aa)) (hc:=vQ);refine bP ?_;go_wp2_with fail;refine dn (v:=_) (mP aa aa aa (a.aZ 3) aw (by rw[cN];rfl)) aa (⟨aJ,c2,l,p,aa,((a.pick (l':=[bn aJ ms.length c2 73 5 (cz l),gC l]) [0,1]).fB 2).fresh 0⟩)
instance azX:Inhabited bG:=⟨⟨0,0,0,0,[]⟩⟩
def rc(A:Option bU)(n sz:Nat)(xs:List aO):br:=⟨λb=>0<n/\dU A b,λw=>Cells w sz A n xs,λw w' h e c=>⟨c.1,λa=>by obtain⟨⟨eR,fa,d⟩,rfl,hc⟩:=c.2 a;have hb:w'.heap[eR]?=w.heap[eR]?:=h eR ⟨a,fa,d,aa⟩ (e eR ⟨a,fa,d,aa⟩);grind[we,Dm]⟩⟩
def ov(x:jP):List Value:=jk x.1 x.2.1 x.2.2
def K3(x y:jP):Int:=zi x.1.to y.1.to
theorem Mx(x y):F7 K3 x y=decide (x.1.to<y.1.to):=by grind[F7,K3,zi]
def avr:Sort.SWO (F7 K3) where
 irrefl x:=by grind[Mx]
 trans x y z h1 h2:=by grind[Mx]
 ntrans x y z h1 h2:=by grind[Mx]
def avd(x y)W:aD ax 107 #[av (ov x).toArray,av (ov y).toArray] W λe w'=>e=aA (J R (zi x.1.to y.1.to))/\∃q b,w'=F8 (W.drewN q) b:=by have hcon:=λa=>YG x.1.to y.1.to a;generalize zi x.1.to y.1.to=r at hcon⊢;unfold ov jk;go_enter func107,ntmps107;go_wp2_with (go_at_call 108;refine(hcon _).mono ?_;rintro e w' ⟨rfl,rfl⟩);go_ret;exact⟨aa,0,_,by rw[Pc,Pc,Sort.grow_grow];rfl⟩
def ane args w:(kj 107 args).run ax w=a7 (.enter 107 args) w:=aS
def ar.atp F w(blk off)d(hb:F blk):ar F w (Ww ov 5 w blk off d):=
 ⟨aa,aa,aa,by show w.heap.size<=(w.heap.modify blk _).size;rw[afX];exact cm _,λk _ a=>by show(w.heap.modify blk _)[k]?=_;rw[Array.getElem?_modify,if_neg (λe:blk=k=>a (e▸hb))]⟩
def Za{l:List jP}{j c x}(hx:l[j]?=ab x){v}(hv:(ov x)[c]?=ab v):(cz l)[j*5+c]?=ab v:=D8 hx c v hv
def Row.apI{w g n c}{l:List jP}(h:Row 0 w (ab ⟨g,0,af⟩) n c 73 5 (cz l))(j:l.length=n)(f:0<n):Pb ov 5 w g 0 l.toArray:=λt b=>by
 obtain⟨G,cur,d,i,_⟩:=h.blk f;cases d;rw[Wx]at b;have k:t<l.length*5:=ae;have e:t/5<l.length:=ae;rw[Wv ov 5 l.toArray t b,getElem!_pos l.toArray _ ae];refine⟨?_,by grind[World.frozen?]⟩;have hx:l[t/5]?=ab l[t/5]:=cj e;have a:t%5<(ov l[t/5]).length:=by show _<5;omega
 have hv:=Za hx (cj a);rw[show t/5*5+t%5=t by omega]at hv;have:=h.cellAt hv;rw[kV,this];simp only[List.getElem_toArray];rw[getElem!_pos (ov _) (t%5) a];rfl
def atw{w g n d}(h:Pb ov 5 w g 0 d)(e:d.size=n):Cells w 5 (ab ⟨g,0,af⟩) n (cz d.toList):=by
 refine⟨by grind[YR],λ_=>⟨_,rfl,λj v hv=>?_⟩⟩;have b:=(eQ.1 hv).1;rw[YR,Array.length_toList]at b;have c:j/5<d.size:=ae;have hx:d.toList[j/5]?=ab d[j/5]:=aT;have a:j%5<(ov d[j/5]).length:=by show _<5;omega
 have hv2:=Za hx (cj a);rw[show j/5*5+j%5=j by omega,hv]at hv2;have hc:=(h j (by grind[Wx])).1;rw[Wv ov 5 d j b,getElem!_pos d _ c,getElem!_pos (ov d[j/5]) (j%5) a]at hc;rw[hv2,nG];exact hc
def au4(n c)A(l:List jP)w(hr:Row 0 w A n c 73 5 (cz l))(a:l.length=n)(hlen:n<=1048576):
 aD ax 106 #[ad A n c,dJ (ej 107) #[] #[]] w λe w'=>e=aA (bg #[])/\∃l',l'.Perm l/\l'.Pairwise (λx y=>x.1.to<=y.1.to)/\Turned w w' (bn A n c 73 5 (cz l)) (rc A n 5 (cz l')):=by
 rcases Nat.eq_zero_or_pos n with q|k;·subst q;obtain rfl:l=[]:=jH a;refine(agw Tryz.acw A c _ w).mono ?_;rintro e w' ⟨rfl,rfl⟩;exact⟨aa,[],Bp _,GI,ar.refl _ _,⟨rfl,λh=>absurd h (XL _)⟩,λb hb=>absurd hb.1 (XL _)⟩
 .obtain⟨g,cur,rfl,r,_⟩:=hr.blk k;have hlt:=aW.lt r;have d:=hr.apI a k;subst a
  have h:=agx Tryz.acw 5 isAgg73 sizeOf73 ov (λ_=>aa) (λx v hv=>D2 x.1 x.2.1 x.2.2 v hv) K3 avr 107 #[] g 0 c l.toArray w ane
   (λm os gB _ x y=>avd x y _) d hlt aF;simp only[iQ]at h;change aD ax 106 _ _ _ at h;refine h.mono ?_;clear h;rintro e w' ⟨rfl,cD,m,os,p,t,rfl⟩;have hsz:cD.size=l.length:=by have:=p.1;simpa using this
  have f:ar (λi=>i=g) w (F8 (Ww ov 5 (Sort.ahead w m) g 0 cD) os):=((ar.X2 (λi=>i=g) w m).trans (ar.atp (λi=>i=g) _ g 0 cD aa) (λ_ _ h=>h)).trans (ar.ZL _ _ os) (λ_ _ h=>h);refine⟨aa,cD.toList,?_,?_,f.mono (G:=dU (ab ⟨g,0,af⟩)) (λi _ e=>⟨0,af,aT⟩),atw ?_ hsz,λb hb=>?_⟩
  .have:=p.2.2;have bB:(cD.extract 0 l.length).toList=cD.toList:=by rw[<-hsz];simp
   grind
  .rw[l3];intro i j hi u s;have:=t i j (cQ _) s aF;grind[Mx]
  .refine Sort.holdsK_grow ov 5 _ os g 0 cD ?_ (Sort.holdsK_putRowK ov 5 _ g 0 l.toArray cD (Sort.holdsK_ahead ov 5 w m g 0 l.toArray d) ae);show g<(w.heap.modify g _).size;rw[afX];exact hlt
  .obtain⟨_,o,z,e⟩:=hb;cases e;exact⟨vl hlt f.size,bH ⟨_,_,aa⟩⟩
def akG m A c w:
 aD ax 105 #[mz m A c] w λe w'=>e=aA (ak (!decide (m.k=2)))/\aq w w':=by
 obtain⟨r,hr⟩:=ex (decide (m.k=2));have b:aE ((m.k !=2)=!r):=hid aF;rw[hr];clear hr;go_enter Tryz.func105,ntmps105;have a:=bf w;go_step;refine ag ?_;refine bM a (av #[J R m.k,J R m.to,J R m.fr,J R m.n,ad A m.data.length c]) (λd w1 a=>?_);refine cJ ?_;refine pl a 0 0 ?_;refine dr b (ak !r) ?_;refine bP ?_;go_wp2_with fail;go_ret;exact⟨aa,a.only⟩
def aus o A(n c)w:(Instr.build 26 #[(0,J R o),(4,ad A n c)]).run ax w=a7 (dC o 0 dX.zero dX.zero (ad A n c)) w:=aw
def ak6{d}{a:Act}{w b dc o A n c}(f:d.op=.build 26 #[(0,b),(4,dc)])(g:a.eval b=J R o)(h1:a.eval dc=ad A n c):
 (execOp a.eval d).run ax w=a7 (.value (dC o 0 dX.zero dX.zero (ad A n c))) w:=by
 have hr:=aus o A n c w;unfold execOp;simp only[f,Sem.run_bind];have e:(#[(0,b),(4,dc)].map λ(i,x)=>(i,a.eval x))=(#[(0,J R o),(4,ad A n c)]:Array (Nat×aO)):=aF;rw[e,hr];rfl
theorem cX.cell{w A xs b off j x}(h:cX w A xs)(a:A=ab ⟨b,off,af⟩)(hx:xs[j]?=ab x):w.cell? ⟨b,off+j,af⟩=ab (J R x):=by have c:=(eQ.1 hx).1;obtain⟨eY,d,e,hc⟩:=h ae;grind
def aj.amT{ao w FX L}{l:List jP}(l':List jP)(a:∀x∈l',x∈l)(h:aj ao FX w (gC l::L)):aj ao FX w (gC l'::L):=
 h.as 0 aa _ (λc x hx=>c x (a x hx)) (λb ⟨x,hx,hb⟩=>⟨x,a x hx,hb⟩)
def aj.amQ{ao w FX L}{l l':List jP}(h:aj ao FX w (gC l::gC l'::L)):aj ao FX w (gC (l++l')::L):=
 h.star.as 0 aa _ (λa x hx=>(jf.1 hx).elim (a.1 x) (a.2.1 x)) (λb ⟨x,hx,hb⟩=>(jf.1 hx).elim (λh=>bH ⟨x,h,hb⟩) (λh=>b1 ⟨x,h,hb⟩))
def amd(l:List jP):∀u∈cz l,u.oneCell'=true:=by intro u a;obtain⟨x,_,a⟩:=List.mem_flatMap.1 a;exact D2 _ _ _ u a
def fD(ms:List bG)(od:List Int):List bG:=od.filterMap (λx=>ms[x.toNat]?)
def ast{ms}{od:List Int}{j i:Nat}{m}(hx:od[j]?=ab (i:Int))(a:ms[i]?=ab m):fD ms (od.take (j+1))=fD ms (od.take j)++[m]:=by grind[fu,fD]
def lits(ms:List bG):List bG:=ms.filter (λm=>decide (m.k=2))
theorem ark(l:List jP):(l.filter (λx=>!!decide (x.1.k=2))).map (·.1)=lits (l.map (·.1)):=by
 induction l with
 |nil=>rfl
 |cons x l a=>grind[lits]
def ajP(old:List Int)(ms:List bG)(o od:List Int)(out:List bG):Prop:=∃rs,rs.Perm (lits (kd old o ms))/\rs.Pairwise (λx y=>x.to<=y.to)/\out=fD ms od++rs
def akH(C A)(bZ c)old ms S(o od)w(hold:bR w C old)(hc0:old.length<=bZ)(hM:old.length<=1048576)(K:cC w A ms)(pT:∀m∈ms,m.data.length<=140737488355328)(hc:Conv ms S o od)(vI:∀x∈od,∃i:Nat,x=(i:Int)/\i<ms.length)(abn:od.length<=1048576)(k1:∀m∈ms,m.k=1->∃f q:Nat,m.fr=(f:Int)/\m.n=(q:Int)/\f+q<=old.length):
 aD ax 45 #[ad C old.length bZ,ad A ms.length c] w λe w'=>∃y aC l,ajP old ms o od (l.map (·.1))/\e=aA (ad y l.length aC)/\b3 w w' (bO [bn y l.length aC 73 5 (cz l),gC l]):=by
 have ef:=hc.ok.ek;have V:=hid K;have Bj:=hid hold;have U:=hid pT;have qq:=hid k1;have aja:=hid vI;have W0:=hid hc.Eg;have zA:aE (∀W,ar (λ_=>False) w W->aD ax 88 #[ad A ms.length c] W λe w'=>∃b h r d s,e=aA (av #[ad A ms.length c,ay (ab ⟨b,0,af⟩),ad h o.length r,ad d od.length s])/\b3 W w' (bO [k9 h o,k9 d od])):=hid (λW g=>Q8 A c ms S o od W (K.aH g) hc);have abn:od.length<=1048576:=abn;clear K hold pT k1 vI hc;go_enter func45,ntmps45;have a:=bf w;go_step;refine ag ?_;refine ah ?_;refine an ?_;go_step;refine ag ?_;refine ah ?_;refine a6 (zA _ a.only) ?_;rintro e w1 ⟨b,h,r,d,s,rfl,H⟩;replace a:=a.new _ H;refine ba ?_;refine bx a #[ad af 0 0,ay af,ad af 0 0,ad af 0 0] (λB aR a=>?_);refine a' a 0 (av #[ad A ms.length c,ay (ab ⟨b,0,af⟩),ad h o.length r,ad d od.length s]) (λbL a=>?_);refine an ?_;replace a:aj _ _ _ [k9 h o,k9 d od,ai B #[ad A ms.length c,ay (ab ⟨b,0,af⟩),ad h o.length r,ad d od.length s] 183]:=(a.front 1).kq;go_step;refine ag ?_;refine ah ?_;refine an ?_;replace a:=(a.new (bn af 0 0 73 5 []) ⟨ar.refl _ _,Row.nil _ _ _ _,λb ⟨_,_,e⟩=>aF⟩).Le;go_step;refine ag ?_;refine ah ?_;refine pl a 4 3 ?_;iterate 2 refine ah ?_
 refine an ?_;have Z:=a.pick (l':=[bn af 0 0 73 5 (cz []),gC [],k9 h o,k9 d od,ai B #[ad A ms.length c,ay (ab ⟨b,0,af⟩),ad h o.length r,ad d od.length s] 183]) [1,0,2,3,4];go_wp2_with fail;go_loopw [6,17] (λgD N wr=>∃(j:Nat) (aJ:Option bU) (c2:Nat) (l:List jP),j<=od.length/\aE (l.map (·.1)=fD ms (od.take j))/\aE (l.length=j)/\gD=ad aJ j c2/\N=J R (j:Int)/\aj w (λ_=>False) wr [bn aJ j c2 73 5 (cz l),gC l,k9 h o,k9 d od,ai B #[ad A ms.length c,ay (ab ⟨b,0,af⟩),ad h o.length r,ad d od.length s] 183]) (λgD N wr=>od.length -(cd N).toNat);case atStart=>exact⟨0,_,0,[],cQ _,hid aa,hid aa,aa,aa,Z⟩
 case round=>
  clear a Z;obtain⟨j,aJ,c2,l,hj,E,X,rfl,rfl,a⟩:=hrel;by_cases hlt:j<od.length
  .have cI:(j:Int)<(od.length:Int):=ae;obtain⟨x,hx⟩:∃x,od[j]?=ab x:=⟨_,cj hlt⟩;obtain⟨i,ER,cT⟩:=aja x (cL hx);subst ER;obtain⟨GZ,P,Hm,_⟩:=(a.at 3:cX _ d od) ae;have T:=hid Hm;have tB:=hid hx;clear hx Hm;obtain⟨m,L⟩:∃m,ms[i]?=ab m:=⟨_,cj cT⟩;obtain⟨F,O,D,G,bu,dM,cU⟩:=cC.h9 V L;have b5:=hid bu;have gR:=hid dM;have dj:=hid cU;have Y:=hid L;clear bu dM cU L;have jF:=hid (ast tB Y);go_step;refine ag ?_;refine aI (ak aB) (by(go_simp;try omega)) ?_;refine an ?_;go_step;refine ag ?_;refine aI (ay (ab ⟨GZ,(P+j),af⟩)) (cH 82 3 1 (bb 15) (bb 17) aa ij aS GZ P _ s j ((P+j)) (by show ad d _ _=_;rw[T]) aa hlt ae) ?_;refine aI (J R (i:Int)) (nr aa aa (cX.cell (a.at 3) T tB) aS) ?_;refine ah ?_;refine an ?_;go_step;refine ag ?_;iterate 3 refine ah ?_
   refine aI (ay (ab ⟨F,(O+i*5),af⟩)) (cH 24 73 5 (bb 22) (bb 23) aa eA aS F O _ c i _ (by show ad A _ _=_;rw[b5]) aa cT aa) ?_;refine aI (av #[J R m.k,J R m.to,J R m.fr,J R m.n,ad D m.data.length G]) (by(refine e6 73 (bb 24) aa F (O+i*5) aa ([J R m.k,J R m.to,J R m.fr,J R m.n,ad D m.data.length G]:List aO) (dj _ a.only) fW aa aS)) ?_;refine a6 (Q5 m.k m.to _ m.n D G _ _ (gR _ a.only).1 (U m (cL Y))) ?_;rintro e ca ⟨fQ,gA,rfl,ic,g⟩;replace a:=a.js g ic;refine ba ?_;refine f' a #[J R m.k,J R m.to,J R m.fr,J R m.n,ad fQ m.data.length gA] 73 (λaf9 cF a=>?_);refine nt (m:=1) a 2 56 (aW.cellsOf (m:=1) (a.aZ 0) aa) (D2 m fQ gA) (λUO Yr c6 a=>?_) (hby:=by omega);refine ah ?_;refine an ?_;replace a:=aj.Ld (a.pick (l':=[gC l,cc fQ gA m.data,ai af9 #[J R m.k,J R m.to,J R m.fr,J R m.n,ad fQ m.data.length gA] 73,bn UO (j+1) Yr 73 5 ((cz l)++(jk m fQ gA)),k9 h o,k9 d od,ai B #[ad A ms.length c,ay (ab ⟨b,0,af⟩),ad h o.length r,ad d od.length s] 183]) [3,1,0,2,4,5,6]);go_step;refine ag ?_;refine aI _ (lK 3 _ _ 3 aa _ 1 ((j+1:Nat):Int) aa aa ae ae ae) ?_;refine ah ?_;refine an ?_;go_wp2_with fail;go_roundw;case rel=>exact⟨_,_,_,l++[(m,fQ,gA)],ae,hid (by rw[gx,E,jF];rfl),hid (by rw[dv,X];rfl),aa,aa,by rw[BL,D9];exact a.pick [2,0,3,4,5]⟩
   case measure=>grind[cd]
  .have cI:¬(j:Int)<(od.length:Int):=ae;obtain rfl:j=od.length:=ae;rw[ik]at E;go_step;refine ag ?_;refine aI (ak au) (by(go_simp;try omega)) ?_;refine an ?_;go_step;refine ag ?_;iterate 4 refine ah ?_
   refine aI (av _) (ak6 aa aa aa) ?_;refine ah ?_;refine pl a 4 2 ?_;refine a6 (avB C A h bZ c r old o 0 _ _ ms _ (Bj.out.aH a.only) hc0 hM (V.out.aH a.only) ef U (a.at 2) W0 qq) ?_;rintro e dW ⟨u,fF,t,w9,rfl,H⟩;replace a:=a.new _ H;refine ba ?_;iterate 3 refine ah ?_
   refine bx a (a1 0 0 dX.zero dX.zero (ad af 0 0)) (λjO dG a=>?_);refine a' a 0 (av (a1 (old.length:Int) 0 dX.zero dX.zero (ad u ms.length fF))) (λe8 a=>?_) (hk:=by show 0+jD (a1 _ _ _ _ _)<=_;simp only[cN];decide) (hz:=by rfl) (h1:=(vt aa)) (hc:=vQ);refine ah ?_;refine an ?_;replace a:aj _ _ _ [bn u ms.length fF 73 5 (cz t),gC t,ai jO (a1 (old.length:Int) 0 dX.zero dX.zero (ad u ms.length fF)) 26,bn aJ od.length c2 73 5 (cz l),gC l,k9 h o,k9 d od,ai B #[ad A ms.length c,ay (ab ⟨b,0,af⟩),ad h o.length r,ad d od.length s] 183]:=(a.front 1).kq;have aa4:t.length=ms.length:=by grind[kd,List.length_mapIdx]
   obtain⟨p,aa3⟩:∃z,t.filter (λx=>!!decide (x.1.k=2))=z:=⟨_,aa⟩
   have Gh:aE (∀W,Row 0 W u ms.length fF 73 5 (cz t)->aD ax 104 #[ad u ms.length fF,dJ (ej 105) #[] #[]] W λe w'=>∃y,e=aA (ad y p.length fF)/\Turned W w' (bn u ms.length fF 73 5 (cz t)) (bn y p.length fF 73 5 (cz p))):=hid (λW hr=>by rw[<-aa4]at hr⊢;rw[<-aa3];exact alI u fF 105 #[] t (λx=>!decide (x.1.k=2)) W ae hr (λargs w=>enters_of Tryz.func105 aS aa _ w) (λx fv _ _=>akG _ _ _ fv));have aiY:aE (p.map (·.1)=lits (kd old o ms)):=hid (by grind[ark]);have ajt:aE (∀x∈p,x∈t):=hid (λx hx=>aF);have azs:p.length<=ms.length:=by grind[x9]
   clear w9 aa3 aa4;go_step;refine ag ?_;refine ah ?_;refine pl a 2 66 ?_ (hv:=eS);refine a6 (Gh _ (a.atR 0)) ?_;rintro e hR ⟨lh,rfl,I⟩;replace a:=a.eF 0 I;refine ba ?_;refine ah ?_;refine an ?_;go_step;refine ag ?_;refine ah ?_;refine a6 (au4 p.length fF lh p _ (a.atR 0) aa ae) ?_;rintro e iZ ⟨rfl,v,M,uk,I⟩;replace a:=a.eF 0 I;refine ba ?_;refine an ?_;go_step;refine ag ?_;iterate 2 refine ah ?_
   refine nt (m:=p.length) a 3 56 (a.at 0) (amd v) (λQ Yt ks a=>?_) (hby:=by omega);refine ah ?_;refine an ?_;replace a:=(a.pick (l':=[gC t,gC l,bn Q (od.length+p.length) Yt 73 5 ((cz l)++(cz v))]) [1,4,3]).amT v (λx hx=>ajt x (M.mem_iff.1 hx));replace a:=aj.amQ (a.pick (l':=[gC l,gC v,bn Q (od.length+p.length) Yt 73 5 ((cz l)++(cz v))]) [1,0,2]);have gb:(l++v).length=od.length+p.length:=by rw[dv,X,M.length_eq]
   rw[<-BL]at a;go_wp2_with fail;go_ret;exact⟨_,_,l++v,⟨_,by rw[<-aiY];exact M.map _,List.pairwise_map.2 uk,by rw[gx,E]⟩,by rw[gb];rfl,by rw[gb];exact((a.pick (l':=[_,_]) [1,0]).fB 2).fresh 0⟩
structure Bs (old:List Int) (ms:List bG) (o:List Int) (rs:List bG):Prop where
 perm:rs.Perm (lits (kd old o ms))
 lt:rs.Pairwise (λx y=>x.to<y.to)
def arq{rs:List bG}(h:rs.Pairwise (λx y=>x.to<y.to)){x y}(hx:x∈rs)(b:y∈rs)(h1:x.to<=y.to)(a:y.to<=x.to):x=y:=by grind[List.mem_iff_getElem,l3]
def Bs.unique{old ms o rs a}(h:Bs old ms o rs)(b:a.Perm (lits (kd old o ms)))(d:a.Pairwise (λx y=>x.to<=y.to)):a=rs:=
 (b.trans h.perm.symm).eq_of_pairwise (le:=λx y:bG=>x.to<=y.to) (λ_ _ hx e h1 c=>arq h.lt ((b.trans h.perm.symm).mem_iff.1 hx) e h1 c) d (h.lt.imp (λh=>Int.le_of_lt h))
theorem I3{old ev ms m}(h:m∈kd old ev ms):∃i x,ms[i]?=ab x/\m=jJ old ev i x:=by grind[kd]
def Ya{old ms o od rs}(hr:Bs old ms o rs)(d:old.length<=1048576)(b:∀m∈ms,m.data.length<=140737488355328):∀m∈fD ms od++rs,m.data.length<=140737488355328:=by
 intro m a;rcases jf.1 a with a|a;·obtain⟨x,_,hx⟩:=List.mem_filterMap.1 a;exact b m (cL hx)
 .have c:=(List.mem_filter.1 (hr.perm.mem_iff.1 a)).1;grind[I3,jJ]
def asr ms od:(fD ms od).length<=od.length:=List.length_filterMap_le _ _
def arj(old o)ms:(lits (kd old o ms)).length<=ms.length:=eC (x9 _ _) (by simp[kd])
structure AY (old:List Int) (ms:List bG) (S:List jQ) (o od:List Int) (rs:List bG):Prop where
 iE:Conv ms S o od
 idx:∀x∈od,∃i:Nat,x=(i:Int)/\i<ms.length
 ek:od.length<=1000
 src:∀m∈ms,m.k=1->∃f q:Nat,m.fr=(f:Int)/\m.n=(q:Int)/\f+q<=old.length
 rs:Bs old ms o rs
def AY.len{old ms S o od rs}(h:AY old ms S o od rs):(fD ms od++rs).length<=2000:=by have h1:=asr ms od;have a:=h.rs.perm.length_eq;have b:=arj old o ms;have c:=h.iE.ok.ek;have d:=h.ek;rw[dv];omega
def akI(g A)(bZ c)old ms S(o od)rs w(hold:bR w g old)(hc0:old.length<=bZ)(r:old.length<=1048576)(p:cC w A ms)(n:∀m∈ms,m.data.length<=140737488355328)(hc:AY old ms S o od rs):
 aD ax 45 #[ad g old.length bZ,ad A ms.length c] w λe w'=>∃a d t,e=aA (ad a (fD ms od++rs).length d)/\b3 w w' t/\hD t a d (fD ms od++rs):=
 (akH g A bZ c old ms S o od w hold hc0 r p n hc.iE hc.idx (eC hc.ek bh) hc.src).mono λe w' ⟨a,d,l,⟨i,h1,j,k⟩,s,f⟩=>by
  obtain rfl:=hc.rs.unique h1 j;have q:l.length=(fD ms od++i).length:=aF;refine⟨a,d,BM a (fD ms od++i).length d l,aF,⟨f.1,?_,?_⟩,l,k,aa⟩;·rw[<-q];exact⟨f.2.1.1,f.2.1.2.1.1⟩
  .intro b hb;exact f.2.2 b (hb.elim bH (λh=>b1 (bH h)))
def atS {P w e p f ty b} {t B t2 jN:Nat} {cs c tmps} (h:e.results=#[xU p ty,xU f b]) (k:tmps.getD p aY=ay (ab ⟨B,0,af⟩)) (l:tmps.getD f aY=ay (ab ⟨jN,0,af⟩)) (hb:aW w B cs t) (hb2:aW w jN c t2)
 (hu:(P.underlying ty).map (λd=>d.isRow)=ab aB) (hi:(P.info? ty).map (·.size)=ab cs.size) (SQ:(P.underlying b).map (λd=>d.isRow)=ab aB) (ue:(P.info? b).map (·.size)=ab c.size):(n' e tmps).run P w=a7 (bg #[av cs,av c]) w:=by
 cases hq:P.underlying ty with
 |none=>grind
 |some d=>
  cases mI:P.underlying b with
  |none=>grind
  |some g=>
   have r:d.isRow=true:=aF;have s:g.isRow=true:=aF;have j:=Dp (P:=P) w B t ty cs (0,0) d hb hq aF hi;have hl2:=Dp (P:=P) w jN t2 b c (0,0) g hb2 mI aF ue
   have hr:(n' e tmps).run P w=((uS (tmps.getD p aY)).run P w).andThen λa m=>((wE ty a).run P m).andThen λx n=>((uS (tmps.getD f aY)).run P n).andThen λi o=>((wE b i).run P o).andThen λbm q=>a7 (bg #[x,bm]) q:=by simp only[n',h];simp;try rfl
   rw[hr,k,l];simp only[uS,jR,ji,j,hl2]
def b3.I7{w w' q t}(h:b3 w w' (kN q t)):b3 w w' t:=⟨h.1,h.2.1.2,h.2.2⟩
def YH(k A)(bZ c n)(g1 g2)old ms S(o od)rs w(y:old.length<=1048576)(hc0:old.length<=bZ)(hold:bR w k old)(G:nE w k)(x:cC w A ms)(hv:nF old.length n ms)(r:∀m∈ms,m.data.length<=140737488355328)(hg1:g1.l=ib old)(hg2:g2.l=ib (vV old ms))(H:(vV old ms).length<=1048576)(hc:AY old ms S o od rs):
 aD ax 28 #[ad k old.length bZ,dC (old.length:Int) (n:Int) g1 g2 (ad A ms.length c)] w λe w'=>∃d f t,e=aA (bg #[dC (old.length:Int) (n:Int) g1 g2 (ad d (fD ms od++rs).length f),av #[J R 0,J R 0]])/\b3 w w' t/\hD t d f (fD ms od++rs):=by
 have O:=hc.len;have F:=Ya (od:=od) hc.rs y r;have M:aE (∀W,aq w W->aD ax 78 #[ad k old.length bZ,dC (old.length:Int) (n:Int) g1 g2 (ad A ms.length c)] W λe w'=>e=aA (av #[J R 0,J R 0])/\aq W w'):=hid (λW g=>avY old.length n bZ g1 g2 k A c old ms W aa y hc0 (hold.aH g) (G.aH g) (x.aH g) hv r hg1 hg2 H);have C:aE (∀W,aq w W->aD ax 45 #[ad k old.length bZ,ad A ms.length c] W λe w'=>∃d f t,e=aA (ad d (fD ms od++rs).length f)/\b3 W w' t/\hD t d f (fD ms od++rs)):=hid (λW g=>akI k A bZ c old ms S o od rs W (hold.aH g) hc0 y (x.aH g) r hc);have D:aE (∀W aJ c2 t,hD t aJ c2 (fD ms od++rs)->t.p W->aD ax 56 #[dC (old.length:Int) (n:Int) g1 g2 (ad A ms.length c),ad aJ (fD ms od++rs).length c2] W λe w'=>∃d f t,e=aA (dC (old.length:Int) (n:Int) g1 g2 (ad d (fD ms od++rs).length f))/\b3 W w' t/\hD t d f (fD ms od++rs)):=hid (λW aJ c2 t h P=>Ja (old.length:Int) (n:Int) g1 g2 (ad A ms.length c) aJ c2 (fD ms od++rs) W aa (h.s8 P) ae F);obtain⟨j,E⟩:=ex ((fD ms od++rs));rw[E]at C D⊢;clear O F E hold G x hv r hg1 hg2 H hc;go_enter func28,ntmps28;have a:=bf w;go_step;refine ag ?_;refine bM a (av (a1 (old.length:Int) (n:Int) g1 g2 (ad A ms.length c))) (λU w1 a=>?_);refine bx a (a1 0 0 dX.zero dX.zero (ad af 0 0)) (λK Z a=>?_);refine bx a #[J R 0,J R 0] (λL bL a=>?_);refine b4 ?_;refine bq a 2 (a1 (old.length:Int) (n:Int) g1 g2 (ad A ms.length c)) ?_ (hv:=(ee _)) (hk:=by omega) (hz:=(by rw[cN];rfl));refine bA (M _ a.only) a (λca a=>?_);refine bx a #[J R 0,J R 0] (λV cF a=>?_);refine a' a 0 (av #[J R 0,J R 0]) (λc6 a=>?_);refine ag ?_;refine bq a 0 #[J R 0,J R 0] ?_;refine pk (av #[J R 0,J R 0]) ?_;refine pk (ak au) ?_;refine ct ?_;refine bN a [4,5,7,8] (λi u=>match i with|4=>ad u.A j.length u.c|5=>av (a1 (old.length:Int) (n:Int) g1 g2 (ad u.A j.length u.c))|_=>aY) (λb=>λ|4=>kN (hD (b 4).t (b 4).A (b 4).c j) (b 4).t|5=>kN (hD (b 5).t (b 5).A (b 5).c j) (b 5).t|7=>ai K (a1 (old.length:Int) (n:Int) g1 g2 (ad (b 5).A j.length (b 5).c)) 26|8=>ai L #[J R 0,J R 0] 49|_=>emp) (λ|7=>[2]|8=>[1]|_=>[]) (λ|0=>[3]|3=>[3]|5=>[8]|_=>[]) (λ|4=>[4]|5=>[5]|7=>[5]|_=>[]) [0,3,8,9,11,12] (λb=>?_);refine ea 0 (a1 (old.length:Int) (n:Int) g1 g2 (ad A ms.length c)) ?_ (hv:=(ee _)) (hk:=by omega) (hz:=(by rw[cN];rfl));refine bp ?_;refine dl 0 66 ?_ (hv:=eS);refine df (λB Fr a=>(C B a.only).mono ?_) ?_;·rintro e Q ⟨d,f,t,rfl,s,q⟩;exact⟨{A:=d,c:=f,t:=t},aa,(a.new _ s).kN q⟩
 refine df (λB Fr a=>(D B (b 4).A (b 4).c (b 4).t (a.at (t:=kN (hD (b 4).t (b 4).A (b 4).c j) (b 4).t) 0).1 (a.at (t:=kN (hD (b 4).t (b 4).A (b 4).c j) (b 4).t) 0).2).mono ?_) ?_;·rintro e Q ⟨d,f,t,rfl,s,q⟩;exact⟨{A:=d,c:=f,t:=t},aa,(a.new _ s).kN q⟩
 refine gB (av #[J R 0,J R 0]) ?_;refine fY (av _) ?_ (hk:=by show 0+jD (a1 _ _ _ _ _)<=_;simp only[cN];decide) (hz:=by show _=ab (jD (a1 _ _ _ _ _));rw[cN];rfl) (h1:=(vt aa)) (hc:=vQ);refine fY _ ?_;refine bQ λdW a=>?_;generalize (b 4).A=T at a⊢;generalize (b 4).c=X at a⊢;generalize (b 4).t=Y at a⊢;generalize (b 5).A=I at a⊢;generalize (b 5).c=N at a⊢;generalize (b 5).t=z at a⊢;have q:=(a.at (t:=kN (hD z I N j) z) 3).1;go_wp2_with fail;refine dn (v:=_) (atS aa aa aa (a.aZ 4) (a.aZ 5) aw (by rw[cN];rfl) aw aw) aa ⟨_,_,z,aa,(a.fresh 3).I7,q⟩
def atT {P w e u p f ty b} {t B t2 jN:Nat} {cs c tmps v} (h:e.results=#[.tmp u,xU p ty,xU f b]) (hv:tmps.getD u aY=v) (k:tmps.getD p aY=ay (ab ⟨B,0,af⟩)) (l:tmps.getD f aY=ay (ab ⟨jN,0,af⟩)) (hb:aW w B cs t) (hb2:aW w jN c t2)
 (hu:(P.underlying ty).map (λd=>d.isRow)=ab aB) (hi:(P.info? ty).map (·.size)=ab cs.size) (SQ:(P.underlying b).map (λd=>d.isRow)=ab aB) (ue:(P.info? b).map (·.size)=ab c.size):(n' e tmps).run P w=a7 (bg #[v,av cs,av c]) w:=by
 cases hq:P.underlying ty with
 |none=>grind
 |some d=>
  cases mI:P.underlying b with
  |none=>grind
  |some g=>
   have r:d.isRow=true:=aF;have s:g.isRow=true:=aF;have j:=Dp (P:=P) w B t ty cs (0,0) d hb hq aF hi;have hl2:=Dp (P:=P) w jN t2 b c (0,0) g hb2 mI aF ue
   have hr:(n' e tmps).run P w=((uS (tmps.getD p aY)).run P w).andThen λa m=>((wE ty a).run P m).andThen λx n=>((uS (tmps.getD f aY)).run P n).andThen λi o=>((wE b i).run P o).andThen λbm q=>a7 (bg #[tmps.getD u aY,x,bm]) q:=by simp only[n',h];simp;try rfl
   rw[hr,k,l,hv];simp only[uS,jR,ji,j,hl2]
def Cells.aH{w w' sz n A xs}(h:Cells w sz A n xs)(g:aq w w'):Cells w' sz A n xs:=⟨h.1,λb=>by obtain⟨a,rfl,hc⟩:=h.2 b;exact⟨a,rfl,λj v hv=>g.cell (hc j v hv) (λh=>h)⟩⟩
def Cells.apart{w w' sz n N A xs F}(h:Cells w sz A n xs)(k:ar F w w')(d:∀b,dU A b->b<N)(f:∀b,F b->N<=b):Cells w' sz A n xs:=⟨h.1,λg=>by
 obtain⟨a,rfl,hc⟩:=h.2 g;refine⟨a,rfl,λj v hv=>k.cell (hc j v hv) (λc=>?_)⟩;have e:(a.add j).block=a.block:=by grind[we]
 rw[e]at c;have h1:=d _ ⟨_,_,aa⟩;have i:=f _ c;omega⟩
def amc C(B c cs)(A i)m d a W t N(h:sh C d)(w:d.down=au)(E:d.cache=[])(D:hD t A c C.ms)(hsc:Cells W 2 i a.length (l6 a))(s:∀b,dU i b->b<N)(v:∀b,(aN B m d).c5 b->N<=b)(z:a.length<=cs/\a.length<=1048576)(x:∀k∈a,db k.1)(u:Has W (aN B m d))(q:Has W t)(hap:∀b,t.c5 b->¬(aN B m d).c5 b)(hdone:tW (gz C (a++[(-1,0)]) d).1=aB):
 aD ax 19 #[dh B,J R (C.bd:Int),dC (C.o:Int) (C.n:Int) C.g1 C.g2 (ad A C.ms.length c),ad i a.length cs] W λe w'=>∃pk f j l,pk<=(C.bd:Int)/\e=aA (av #[ad f (gz C (a++[(-1,0)]) d).1.length j,ak aB,J R pk])/\Turned W w' (aN B m d) (both (bn f (gz C (a++[(-1,0)]) d).1.length j 158 5 (tK (gz C (a++[(-1,0)]) d).1)) (aN B l (gz C (a++[(-1,0)]) d).2)):=by
 refine(amb C B c cs A i m d a W W (aN B m d).c5 emp h w aF (λp g=>D.s8 (t.oA W p (λb hb hlt=>g.block b hlt (hap b hb)) q.2 q.1)) (λp g=>hsc.apart g s v) z x ((aj.start u).dS.perm (DJ _ _ _))).mono ?_;rintro e w' ⟨pk,y,f,j,rfl,l,r⟩;unfold ad7;rw[hdone];exact⟨pk,f,j,l,y,aa,(r.star).gi 0⟩
def atU(s A X)(bZ c cs n size bd)(g1 g2)old ms S(o od)rs f w(hM:old.length<=1048576)(hc0:old.length<=bZ)(hold:bR w s old)(k0:nE w s)(hl:cC w A ms)(hv:nF old.length n ms)(iG:∀m∈ms,m.data.length<=140737488355328)(hg1:g1.l=ib old)(hg2:g2.l=ib (vV old ms))(abj:(vV old ms).length<=1048576)(hc:AY old ms S o od rs)(hsz:1<=size/\size<=1048576)(HC:size*(k6 size bd (max old.length n)+0)<=1048576)(G:sh ⟨bd,old.length,n,g1,g2,fD ms od++rs⟩ (qP size (k6 size bd (max old.length n)+0) old))(L:dR (gz ⟨bd,old.length,n,g1,g2,fD ms od++rs⟩ (f++[(-1,0)]) (qP size (k6 size bd (max old.length n)+0) old)).2)(hdone:tW (gz ⟨bd,old.length,n,g1,g2,fD ms od++rs⟩ (f++[(-1,0)]) (qP size (k6 size bd (max old.length n)+0) old)).1=aB)(K:n<=(gz ⟨bd,old.length,n,g1,g2,fD ms od++rs⟩ (f++[(-1,0)]) (qP size (k6 size bd (max old.length n)+0) old)).2.bytes.length)(hsc:Cells w 2 X f.length (l6 f))(Lo:∀b,dU X b->b<w.heap.size)(e5:f.length<=cs/\f.length<=1048576)(rU:∀k∈f,db k.1):
 aD ax 43 #[ad s old.length bZ,dC (old.length:Int) (n:Int) g1 g2 (ad A ms.length c),J R (size:Int),J R (bd:Int),ad X f.length cs] w λe w'=>∃cg c1 aJ c2 pk,pk<=(bd:Int)/\e=aA (bg #[ad cg n c1,av #[ad aJ (gz ⟨bd,old.length,n,g1,g2,fD ms od++rs⟩ (f++[(-1,0)]) (qP size (k6 size bd (max old.length n)+0) old)).1.length c2,ak aB,J R pk],av #[J R 0,J R 0]])/\b3 w w' (cc cg c1 (gz ⟨bd,old.length,n,g1,g2,fD ms od++rs⟩ (f++[(-1,0)]) (qP size (k6 size bd (max old.length n)+0) old)).2.bytes):=by
 obtain⟨N,fk⟩:∃z,max old.length n=z:=⟨_,aa⟩;have aoJ:old.length<=N:=ae;rw[fk]at G L hdone HC K⊢;obtain⟨D,Y⟩:∃z,qP size (k6 size bd N+0) old=z:=⟨_,aa⟩;rw[Y]at G L hdone K⊢;have cZ:D.down=false:=by rw[<-Y];rfl
 have HF:D.cache=[]:=by rw[<-Y];rfl
 obtain⟨x,Er⟩:∃z,fD ms od++rs=z:=⟨_,aa⟩;have zw:aE (∀W,aq w W->aD ax 28 #[ad s old.length bZ,dC (old.length:Int) (n:Int) g1 g2 (ad A ms.length c)] W λe w'=>∃H I t,e=aA (bg #[dC (old.length:Int) (n:Int) g1 g2 (ad H x.length I),av #[J R 0,J R 0]])/\b3 W w' t/\hD t H I x):=hid (λW g=>by rw[<-Er];exact YH s A bZ c n g1 g2 old ms S o od rs W hM hc0 (hold.aH g) (k0.aH g) (hl.aH g) hv iG hg1 hg2 abj hc)
 rw[Er]at G L hdone K⊢;have ry:aE (∀W S,aD ax 39 #[J R (size:Int),J R (bd:Int),dC (old.length:Int) (n:Int) g1 g2 S] W λe w'=>e=aA (bg #[av (rX size bd N),J R 0])/\aq W w'):=hid (λW S=>by rw[<-fk];exact acI size bd old.length n g1 g2 S hsz G.bd hM G.sz.2 W);have W8:aE (∀W p,W.cell? ⟨p,0,af⟩=ab (ad s old.length bZ)->bR W s old->aD ax 40 #[av (rX size bd N),J R ((0:Nat):Int),ad (ab ⟨p,0,af⟩) 1 1] W λe w'=>∃B m,e=aA (bg #[dh B,J R 0])/\b3 W w' (aN B m D)):=hid (λW p h1 h2=>by rw[<-Y];exact arp size bd N 0 p s bZ old W hsz.1 HC aoJ h1 h2);obtain⟨M,O,P,Q,T,U,V,hlc⟩:∃M O P Q T U V,rX size bd N=#[J R M,J R O,J R P,J R Q,J R T,J R U,J R V]:=⟨_,_,_,_,_,_,_,aa⟩;rw[hlc]at ry W8;obtain⟨C,j'⟩:∃z,(⟨bd,old.length,n,g1,g2,x⟩:wb)=z:=⟨_,aa⟩;rw[j']at G L hdone K⊢;have zB:aE (∀W B aJ c2 m t,hD t aJ c2 x->ar (λ_=>False) w W->(∀b,(aN B m D).c5 b->w.heap.size<=b)->Has W (aN B m D)->Has W t->(∀b,t.c5 b->¬(aN B m D).c5 b)->aD ax 19 #[dh B,J R (bd:Int),dC (old.length:Int) (n:Int) g1 g2 (ad aJ x.length c2),ad X f.length cs] W λe w'=>∃pk H I aU,pk<=(bd:Int)/\e=aA (av #[ad H (gz C (f++[(-1,0)]) D).1.length I,ak aB,J R pk])/\Turned W w' (aN B m D) (both (bn H (gz C (f++[(-1,0)]) D).1.length I 158 5 (tK (gz C (f++[(-1,0)]) D).1)) (aN B aU (gz C (f++[(-1,0)]) D).2))):=hid (λW B aJ c2 m t h1 h2 h3 h4 h5 h6=>by subst j';exact amc _ B c2 cs aJ X m D f W t w.heap.size G cZ HF h1 (hsc.aH h2) Lo h3 e5 rU h4 h5 h6 hdone);have LI:=L;obtain⟨r,F,hat⟩:∃a b,gz C (f++[(-1,0)]) D=(a,b):=⟨_,_,aa⟩;rw[hat]at zB K LI⊢;simp only at zB K LI⊢;have aiG:=hid LI;have Bj:=hid hold;clear hat hdone hlc Y fk hM k0 hl hv iG hg1 hg2 abj hc Er hold G L LI hsc Lo e5 rU;go_enter func43,ntmps43;have d:=bf w;go_step;refine ag ?_;refine bM d (av (a1 (old.length:Int) (n:Int) g1 g2 (ad A ms.length c))) (λeI w1 d=>?_);refine ah ?_;refine bx d #[ad af 0 0,ak au,J R 0] (λzg aR d=>?_);refine bx d #[J R 0,J R 0] (λq9 bL d=>?_);refine an ?_;go_step;refine ag ?_;refine ah ?_;refine bq d 2 (a1 (old.length:Int) (n:Int) g1 g2 (ad A ms.length c)) ?_ (hv:=(ee _)) (hk:=by show 0+_<=jD _;rw[kV];exact cm _) (hz:=(by rw[cN];rfl));refine a6 (zw _ d.only) ?_;rintro e ca ⟨aJ,c2,bE,rfl,Z,j4⟩;replace d:=d.new _ Z;refine ba ?_;iterate 3 refine ah ?_
 refine bx d (a1 0 0 dX.zero dX.zero (ad af 0 0)) (λUY cF d=>?_);refine bx d #[J R 0,J R 0] (λOq c6 d=>?_);refine a' d 1 (av (a1 (old.length:Int) (n:Int) g1 g2 (ad aJ x.length c2))) (λdW d=>?_) (hk:=by show 0+jD (a1 _ _ _ _ _)<=_;simp only[cN];decide) (hz:=by show _=ab (jD (a1 _ _ _ _ _));rw[cN];rfl) (h1:=(vt aa)) (hc:=vQ);refine a' d 0 (av #[J R 0,J R 0]) (λdG d=>?_);refine an ?_;go_step;refine ag ?_;refine bq d 0 #[J R 0,J R 0] ?_;refine aI (av #[J R 0,J R 0]) (by(show _=_;kernel_rfl)) ?_;refine aI (ak au) (by(show _=_;kernel_rfl)) ?_;refine an ?_;go_step;refine ag ?_;iterate 2 refine ah ?_
 refine bq d 1 (a1 (old.length:Int) (n:Int) g1 g2 (ad aJ x.length c2)) ?_ (hv:=(ee _)) (hk:=by show 0+_<=jD _;rw[kV];exact cm _) (hz:=(by rw[cN];rfl));refine a6 (ry _ (ad aJ x.length c2)) ?_;rintro e e8 ⟨rfl,g⟩;replace d:=d.aH g;refine ba ?_;iterate 3 refine ah ?_
 refine bx d #[J R 0,J R 0,J R 0,J R 0,J R 0,J R 0,J R 0] (λJv hR d=>?_);refine a' d 0 (av #[J R M,J R O,J R P,J R Q,J R T,J R U,J R V]) (λiZ d=>?_);refine ah ?_;refine an ?_;go_step;refine ag ?_;refine ah ?_;refine aI (ak au) (by(show _=_;kernel_rfl)) ?_;refine an ?_;go_step;refine ag ?_;refine bq d 0 #[J R M,J R O,J R P,J R Q,J R T,J R U,J R V] ?_;refine ah ?_;refine f' d #[ad s old.length bZ] 22 (λFQ ks d=>?_);refine a6 (W8 _ FQ ((d.aZ 0).cell 0 aa) (Bj.out.aH d.only)) ?_;rintro e lf ⟨B,m,rfl,Z⟩;replace d:=d.new _ Z;refine ba ?_;iterate 5 refine ah ?_
 refine an ?_;go_step;refine ag ?_;refine ah ?_;refine aI (ak au) (by(show _=_;kernel_rfl)) ?_;refine an ?_;go_step;refine ag ?_;iterate 2 refine ah ?_
 refine bq d 4 (a1 (old.length:Int) (n:Int) g1 g2 (ad aJ x.length c2)) ?_ (hv:=(ee _)) (hk:=by show 0+_<=jD _;rw[kV];exact cm _) (hz:=(by rw[cN];rfl));refine ah ?_;refine a6 (zB _ B aJ c2 m bE j4 d.only (λb hb=>((d.low _ (cL (show _[0]?=ab (aN B m D)from aa)) b hb).2).elim (λh=>h) (λh=>h.elim)) (d.has 0) (d.has 5) (d.ne (i:=5) (j:=0) aa aa bh)) ?_;rintro e mm ⟨pk,y,E,m5,o5,rfl,bF⟩;replace d:=d.eF 0 bF;refine ba ?_;refine bx d #[ad af 0 0,ak au,J R 0] (λOt nX d=>?_);refine a' d 0 (av #[ad y r.length E,ak aB,J R pk]) (λpd d=>?_);refine an ?_;go_step;refine ag ?_;refine ah ?_;refine pl d 0 1 ?_;refine aI (ak au) (by(show _=_;kernel_rfl)) ?_;refine an ?_;replace d:aj _ _ _ [bn y r.length E 158 5 (tK r),aN B m5 F,ai Ot #[ad y r.length E,ak aB,J R pk] 63,ai FQ #[ad s old.length bZ] 22,ai Jv #[J R M,J R O,J R P,J R Q,J R T,J R U,J R V] 93,ai Oq #[J R 0,J R 0] 49,ai UY (a1 (old.length:Int) (n:Int) g1 g2 (ad aJ x.length c2)) 26,bE,ai q9 #[J R 0,J R 0] 49,ai zg #[ad af 0 0,ak au,J R 0] 63,ai eI (a1 (old.length:Int) (n:Int) g1 g2 (ad A ms.length c)) 26]:=(d.front 1).fh;go_step;refine ct ?_;refine bN d [1,8,9] (λi u=>match i with|1=>ad u.A F.bytes.length u.c|_=>aY) (λq=>λ|1=>cc (q 1).A (q 1).c F.bytes|8=>ai zg #[ad y r.length E,ak aB,J R pk] 63|9=>ai q9 #[J R 0,J R 0] 49|_=>emp) (λ|8=>[9]|9=>[8]|_=>[]) (λ|1=>[1]|3=>[6]|4=>[12]|5=>[2]|_=>[]) (λ|1=>[1]|_=>[]) [0,1,2,3,4,5,6,7,10,12,19,20] (λq=>?_);refine aK ?_;refine df (λwl Fr d=>(amB B m5 F wl (d.has 0) aiG).mono ?_) ?_;·rintro e dm ⟨H,I,rfl,Z⟩;exact⟨{A:=H,c:=I},aa,d.new _ Z⟩
 refine aK ?_;refine dl 0 1 ?_ (hv:=jh);refine aL (ad (q 1).A n (q 1).c) (λ_ _ d=>qY 22 5 1 (bb 73) (bb 75) aa dI aw (q 1).A F.bytes.length (q 1).c n aa aa (eC K (d.at (t:=cc (q 1).A (q 1).c F.bytes) 0).2.2)) ?_;refine ea 0 #[ad y r.length E,ak aB,J R pk] ?_;refine aL (av #[J R 0,J R 0]) (λ_ _ _=>by(show _=_;kernel_rfl)) ?_;refine aK ?_;refine fY (av #[ad y r.length E,ak aB,J R pk]) ?_;refine fY (av #[J R 0,J R 0]) ?_;refine pc (λtc d=>?_);replace d:aj _ _ _ [bn y r.length E 158 5 (tK r),aN B m5 F,ai Ot #[ad y r.length E,ak aB,J R pk] 63,ai FQ #[ad s old.length bZ] 22,ai Jv #[J R M,J R O,J R P,J R Q,J R T,J R U,J R V] 93,ai Oq #[J R 0,J R 0] 49,ai UY (a1 (old.length:Int) (n:Int) g1 g2 (ad aJ x.length c2)) 26,bE,ai eI (a1 (old.length:Int) (n:Int) g1 g2 (ad A ms.length c)) 26,cc (q 1).A (q 1).c F.bytes,ai zg #[ad y r.length E,ak aB,J R pk] 63,ai q9 #[J R 0,J R 0] 49]:=d;generalize (q 1).A=afU at d⊢;generalize (q 1).c=alg at d⊢;go_wp2_with fail;refine dn (v:=bg #[ad afU n alg,av #[ad y r.length E,ak aB,J R pk],av #[J R 0,J R 0]]) (atT aa aa aa aa (d.aZ 10) (d.aZ 11) aw aw aw aw) aa ⟨_,_,_,_,pk,o5,aa,d.fresh 9⟩
section
attribute [local irreducible] wpList c9
def nJ(m:bG):Int:=if m.k=1 then m.n else 0
def lv(ms:List bG):Int:=(ms.map nJ).sum
def Re{ms:List bG}{j m}(h:ms[j]?=ab m):lv (ms.take (j+1))=lv (ms.take j)+nJ m:=by grind[lv,fu]
def al4{ms}(h:∀m∈ms,0<=nJ m/\nJ m<=1048576):0<=lv ms/\lv ms<=(ms.length:Int)*1048576:=by
 induction ms with
 |nil=>simp[lv]
 |cons m r a=>
  have h1:=h m aT;have b:=a (λx hx=>h x aF);grind[lv]
def YO{ms:List bG}(h:∀m∈ms,0<=nJ m/\nJ m<=1048576)(b:ms.length<=1048576)j:0<=lv (ms.take j)/\lv (ms.take j)<=1048576*1048576:=by have q:=al4 (ms:=ms.take j) (λm a=>h m (Br a));grind
def afl(o n)(g1 g2)A c ms w(D:cC w A ms)(S:ms.length<=1048576)(r:0<=n/\n<=1048576)(hv:∀m∈ms,0<=nJ m/\nJ m<=1048576):
 aD ax 29 #[dC o n g1 g2 (ad A ms.length c)] w λe w'=>e=aA (bg #[J R (lv ms),J R (n -lv ms)])/\aq w w':=by
 have M:=hid D;have P:=hid hv;have N:=hid r;have O:=hid (YO hv S);clear D hv r;go_enter func29,ntmps29;have a:=bf w;go_step;refine ag ?_;refine bM a (av (a1 o n g1 g2 (ad A ms.length c))) (λG w1 a=>?_);refine v2 ?_;refine UI ?_;refine pl a 0 66 ?_ (hv:=eS);refine dP ?_;have y:=a.pk [0];go_wp2_with fail;go_loopw [4,12] (λF u wr=>∃(s:Int) (j:Nat),j<=ms.length/\aE (lv (ms.take j)=s)/\F=J R s/\u=J R (j:Int)/\aj w (λ_=>False) wr [ai G (a1 o n g1 g2 (ad A ms.length c)) 26]) (λF u wr=>ms.length -(cd u).toNat);case atStart=>exact⟨0,0,cQ _,hid aa,aa,aa,y⟩
 case round=>
  clear a y;obtain⟨s,j,V,h,rfl,rfl,a⟩:=hrel;have E:=O j;rw[h]at E;obtain⟨hs0,hs1⟩:=E;by_cases hlt:j<ms.length
  .have Q:(j:Int)<(ms.length:Int):=ae;obtain⟨m,q⟩:∃m,ms[j]?=ab m:=⟨_,cj hlt⟩;obtain⟨l,g,b,d,z,B,C⟩:=cC.h9 M q;have I:=hid z;have U:=hid B;have K:=hid C;have x:=hid q;clear z B C q;have p:=Re x;have t:=P m (cL x);rw[h]at p;have v:=hid p;clear p;go_step;refine ag ?_;refine dQ ?_;refine aI (ay (ab ⟨l,(g+j*5),af⟩)) (cH 24 73 5 (bb 10) (bb 12) aa eA aw l g (ms.length) c j ((g+j*5)) (by show ad A _ _=_;rw[I]) aa hlt aa) ?_;refine aI (av #[J R m.k,J R m.to,J R m.fr,J R m.n,ad b m.data.length d]) (by(refine e6 73 (bb 14) aa l (g+j*5) aa ([J R m.k,J R m.to,J R m.fr,J R m.n,ad b m.data.length d]:List aO) (K _ a.only) fW aa aw)) ?_;refine bx a #[J R 0,J R 0,J R 0,J R 0,ad af 0 0] (λT aR a=>?_);refine a' a 0 (av #[J R m.k,J R m.to,J R m.fr,J R m.n,ad b m.data.length d]) (λbL a=>?_);refine an ?_;by_cases hk:m.k=1
   .have f:aE (nJ m=m.n):=hid (if_pos hk);rw[f]at t;obtain⟨hv0,X⟩:=t;have i:aE (∀W,aD ax 79 #[av #[J R m.k,J R m.to,J R m.fr,J R m.n,ad b m.data.length d]] W λe w'=>e=aA (bg #[av #[J R m.fr,J R m.n],ak aB])/\aq W w'):=hid (λW=>by rw[hk];exact y4 m.to m.fr m.n b m.data.length d W);clear hk;refine ag ?_;refine bq a 0 #[J R m.k,J R m.to,J R m.fr,J R m.n,ad b m.data.length d] ?_;refine bA (i _) a (λca a=>?_);refine v3 ?_;refine bx a #[J R 0,J R 0] (λH cF a=>?_);refine a' a 0 (av #[J R m.fr,J R m.n]) (λc6 a=>?_);refine ah ?_;refine ag ?_;refine ku ?_;refine pl a 0 1 ?_;refine pad s (m.n) (s+m.n) ?_;refine dQ ?_;refine pad (j:Int) 1 ((j+1:Nat):Int) ?_;refine bP ?_;go_wp2_with fail;go_roundw;case rel=>exact⟨s+m.n,j+1,ae,hid (v.out.trans (by rw[f];try rw[Int.add_zero])),aa,aa,a.pick [2]⟩
    case measure=>simp[cd]<;>omega
   .have f:aE (nJ m=0):=hid (if_neg hk);have i:aE (∀W,aD ax 79 #[av #[J R m.k,J R m.to,J R m.fr,J R m.n,ad b m.data.length d]] W λe w'=>e=aA (bg #[av #[J R 0,J R 0],ak au])/\aq W w'):=hid (λW=>y5 m.k m.to m.fr m.n b m.data.length d W hk);clear hk t;refine ag ?_;refine bq a 0 #[J R m.k,J R m.to,J R m.fr,J R m.n,ad b m.data.length d] ?_;refine bA (i _) a (λdW a=>?_);refine v3 ?_;refine bx a #[J R 0,J R 0] (λH dG a=>?_);refine a' a 0 (av #[J R 0,J R 0]) (λe8 a=>?_);refine ah ?_;refine afR ?_;refine pad (j:Int) 1 ((j+1:Nat):Int) ?_;refine bP ?_;go_wp2_with fail;go_roundw;case rel=>exact⟨s,j+1,ae,hid (v.out.trans (by rw[f];try omega)),aa,aa,a.pick [2]⟩
    case measure=>simp[cd]<;>omega
  .have Q:¬(j:Int)<(ms.length:Int):=ae;obtain rfl:j=ms.length:=ae;have r:=N.out;have L:aE (lv ms=s):=hid (by rw[<-h,ik]);go_step;refine ag ?_;refine ig ?_;refine bN a [] (λ_ _=>aY) (λ_ _=>emp) (λ_=>[]) (λ|2=>[0]|_=>[]) (λ_=>[]) [0] (λY=>?_);refine bp ?_;refine dl 0 1 ?_ (hv:=jh);refine aK ?_;refine aL (J R (n -s)) (λ_ _ _=>pK 3 (bb 29) (bb 30) 3 aa n s (n -s) aa aa ae ae ae) ?_;refine bp ?_;refine bQ λZ a=>?_;go_wp2_with fail;go_ret2;exact⟨by rw[L];rfl,a.only⟩
def anw(fa n)(g1 g2)A c ms S(o od)w(i:cC w A ms)(hc:Conv ms S o od):
 aD ax 37 #[dC fa n g1 g2 (ad A ms.length c)] w λe w'=>∃k l,e=aA (ad k o.length l)/\aq w w':=by
 have f:=hid (λW g=>Q8 A c ms S o od W (i.aH g) hc);obtain⟨u,b⟩:=ex ms.length;obtain⟨p,hno⟩:=ex o.length;obtain⟨Av,j⟩:=ex od.length;rw[b,hno,j]at f;rw[b,hno];clear i hc b hno j;go_enter func37,ntmps37;have a:=bf w;go_step;refine ag ?_;refine bM a (av _) (λs w1 a=>?_);refine cJ ?_;refine pl a 0 66 ?_ (hv:=eS);refine a6 (f _ a.only) ?_;rintro e v ⟨r,d,h,q,t,rfl,m⟩;replace a:=a.new _ m;refine ba ?_;refine pk (ad d p h) ?_;refine bP ?_;go_wp2_with fail;go_ret;exact⟨d,h,aa,a.only⟩
def Cx(ms:List bG)(x:Int):Int:=(ms[x.toNat]?.map (·.n)).getD 0
def ni(ms:List bG)(l:List Int):Int:=(l.map (Cx ms)).sum
def aoh{ms}{l:List Int}{j i:Nat}{m}(h:l[j]?=ab (i:Int))(a:ms[i]?=ab m):ni ms (l.take (j+1))=ni ms (l.take j)+m.n:=by simp[ni,fu,h,Cx,a]
def aof{ms l}(h:∀x∈l,0<=Cx ms x/\Cx ms x<=1048576):0<=ni ms l/\ni ms l<=(l.length:Int)*1048576:=by
 induction l with
 |nil=>simp[ni]
 |cons m r a=>
  have h1:=h m aT;have b:=a (λx hx=>h x aF);grind[ni]
def ZK{ms}{l:List Int}(h:∀x∈l,∃i:Nat,x=(i:Int)/\i<ms.length)(b:∀m∈ms,0<=m.n/\m.n<=1048576)(a:l.length<=1048576)j:0<=ni ms (l.take j)/\ni ms (l.take j)<=1048576*1048576:=by have q:=aof (ms:=ms) (l:=l.take j) (λx hx=>by grind[Cx]);grind
def aok(fa n)(g1 g2)A c ms S(o od)w(k:cC w A ms)(hc:Conv ms S o od)(p:∀x∈o,∃i:Nat,x=(i:Int)/\i<ms.length)(hv:∀m∈ms,0<=m.n/\m.n<=1048576):
 aD ax 36 #[dC fa n g1 g2 (ad A ms.length c)] w λe w'=>e=aA (J R (ni ms o))/\aq w w':=by
 have Q:=hid k;have u:=hid (ZK p hv hc.Eg);have U:=hid p;have W0:=hc.Eg;have ef:=hc.ok.ek;have M:=hid (λW g=>Q8 A c ms S o od W (k.aH g) hc);clear k hc p hv;go_enter func36,ntmps36;have a:=bf w;go_step;refine ag ?_;refine bM a (av _) (λK w1 a=>?_);refine ah ?_;refine UI ?_;refine pl a 0 66 ?_ (hv:=eS);refine a6 (M _ a.only) ?_;rintro e aR ⟨j1,b,B,I,co,rfl,X⟩;replace a:=a.new _ X;refine ba ?_;refine pk (ad b o.length B) ?_;refine dP ?_;replace a:aj _ _ _ [k9 b o,k9 I od,ai _ (a1 fa n g1 g2 _) 26]:=(a.front 0).kq;have v:=a.pk [0,2];go_wp2_with fail;go_loopw [3,11] (λH q wr=>∃(s:Int) (j:Nat),j<=o.length/\aE (ni ms (o.take j)=s)/\H=J R s/\q=J R (j:Int)/\aj w (λ_=>False) wr [k9 b o,ai K (a1 fa n g1 g2 (ad A ms.length c)) 26]) (λH q wr=>o.length -(cd q).toNat);case atStart=>exact⟨0,0,cQ _,hid aa,aa,aa,v⟩
 case round=>
  clear a v;obtain⟨s,j,hj,f,rfl,rfl,a⟩:=hrel;have d:=u j;rw[f]at d;obtain⟨hs0,hs1⟩:=d;by_cases hlt:j<o.length
  .have Y:(j:Int)<(o.length:Int):=ae;obtain⟨x,hx⟩:∃x,o[j]?=ab x:=⟨_,cj hlt⟩;obtain⟨i,Z,G⟩:=U x (cL hx);subst Z;obtain⟨z,r,D,_⟩:=(a.at 0:cX _ b o) ae;have t:=hid D;have y:=hid hx;clear hx D;obtain⟨m,l⟩:∃m,ms[i]?=ab m:=⟨_,cj G⟩;obtain⟨V,bK,aP,aQ,C,E,F⟩:=cC.h9 Q l;have L:=hid C;have gR:=hid E;have N:=hid F;have T:=hid l;clear C E F l;have h:=aoh y T;have d:=u (j+1);rw[h,f]at d;rw[f]at h;obtain⟨hs2,hs3⟩:=d;have P:=hid h;clear h;go_step;refine ag ?_;refine dQ ?_;refine aI (ay (ab ⟨z,(r+j),af⟩)) (cH 82 3 1 (bb 9) (bb 11) aa ij aw z r (o.length) B j ((r+j)) (by show ad b _ _=_;rw[t]) aa hlt ae) ?_;refine aI _ (nr aa aa (cX.cell (a.at 0) t y) aw) ?_;refine ku ?_;refine pl a 1 66 ?_ (hv:=eS);refine ah ?_;refine aI _ (cH 24 73 5 (bb 17) _ aa eA aw V bK _ c i _ (by show ad A _ _=_;rw[L]) aa G aa) ?_;refine ah ?_;refine aI _ (nr aa aa (N _ a.only 3 _ aa) aw) ?_;refine pad s _ (s+m.n) ?_;refine dQ ?_;refine pad (j:Int) 1 ((j+1:Nat):Int) ?_;refine bP ?_;go_wp2_with fail;go_roundw;case rel=>exact⟨_,_,ae,P,aa,aa,a.pick [0,1]⟩
   case measure=>simp[cd]<;>omega
  .have Y:¬(j:Int)<(o.length:Int):=ae;obtain rfl:j=o.length:=ae;have O:aE (ni ms o=s):=hid (by rw[<-f,ik]);go_step;refine ag ?_;refine ah ?_;refine ag ?_;refine dP ?_;go_wp2_with fail;go_ret;exact⟨by rw[O];rfl,a.only⟩
end
section
attribute [local irreducible] wpList c9
def s3(old:List Int)(n:Nat)(l:List bG):List Int:=l.foldl (λa m=>ie a m.to.toNat (fN old m)) (List.replicate n 0)
theorem asT old n l m:s3 old n (l++[m])=ie (s3 old n l) m.to.toNat (fN old m):=by simp[s3]
def asU{old n}{l:List bG}{j m}(h:l[j]?=ab m):s3 old n (l.take (j+1))=ie (s3 old n (l.take j)) m.to.toNat (fN old m):=by grind[fu,asT]
def jb.at{o n m}(h:jb o n m){old}(b:old.length=o):∃q:Nat,m.to=(q:Int)/\q+(fN old m).length<=n/\0<(fN old m).length:=by have e:=G1 h b;obtain⟨a,f,_⟩:=h.1.b8;obtain⟨q,c⟩:=Int.eq_ofNat_of_zero_le (show 0<=m.to from a);have d:=h.2.2;exact⟨q,c,ae,ae⟩
def asS{old n o}(c:old.length=o):∀{l},(∀m∈l,jb o n m)->(s3 old n l).length=n:=by
 have key:∀(l:List _) a,a.length=n->(∀m∈l,jb o n m)->(l.foldl (λa m=>ie a m.to.toNat (fN old m)) a).length=n:=by
  intro l;induction l with
  |nil=>simp
  |cons m r e=>
   intro a b h;refine e _ ?_ (λx hx=>h x aF);simp only;obtain⟨q,d,h1,_⟩:=(h m aT).at c;rw[d,DI,Az ae];exact b
 exact λ{l} h=>key l _ aT h
def an0(o n bZ)(g1 g2)(d A)c ms w(b:cC w A ms)(hv:nF o n ms):
 aD ax 86 #[ad d o bZ,dC (o:Int) (n:Int) g1 g2 (ad A ms.length c)] w λe w'=>e=aA (ak aB)/\aq w w':=by
 have f:=hid (λW g=>afw o n g1 g2 A c ms W (b.aH g) hv);clear b hv;go_enter func86,ntmps86;have a:=bf w;go_step;refine ag ?_;refine bM a (av _) (λh w1 a=>?_);refine dQ ?_;refine bq a 0 (a1 (o:Int) (n:Int) g1 g2 (ad A ms.length c)) ?_ (hv:=(ee _)) (hk:=by omega) (hz:=(by rw[cN];rfl));refine bA (f _ a.only) a (λi a=>?_);refine v2 ?_;refine pl a 0 0 ?_ (hv:=mA);refine v2 ?_;refine cb (ak aB) ?_;refine pk (ak aB) ?_;refine bP ?_;go_wp2_with fail;go_ret;exact⟨aa,a.only⟩
def asW(o n bZ)(g1 g2)(f A)c old ms w(G:old.length=o)(hc0:o<=bZ)(hn:n<=1048576)(hold:bR w f old)(F:cC w A ms)(hv:nF o n ms):
 aD ax 35 #[ad f o bZ,dC (o:Int) (n:Int) g1 g2 (ad A ms.length c)] w λe w'=>∃B,e=aA (ad (ab ⟨B,0,af⟩) n n)/\b3 w w' (ai B (aX a8 (s3 old n ms) []) 5):=by
 have cv:=hid F;have cA:=hid hv;have du:=hid hold;have z:=hid G;have ef:=hv.ek;have c0:=hid (λW g=>an0 o n bZ g1 g2 f A c ms W (F.aH g) hv);have iB:=hid (λj=>asS (l:=ms.take j) G (λm r=>hv.fits m (Br r)));clear F hv hold G;go_enter func35,ntmps35;have d:=bf w;go_step;refine ag ?_;refine bM d (av _) (λY w1 d=>?_);refine cJ ?_;refine bq d 0 (a1 (o:Int) (n:Int) g1 g2 (ad A ms.length c)) ?_ (hv:=(ee _)) (hk:=by omega) (hz:=(by rw[cN];rfl));refine bA (c0 _ d.only) d (λaR d=>?_);refine pk (ak au) ?_;refine b4 ?_;refine pl d 0 1 ?_ (hv:=jh);refine IH d (Tz n aa aa aa dI aw ae) (λy bL d=>?_);refine cJ ?_;refine pl d 1 66 ?_ (hv:=eS);refine dP ?_;have P:=d.pk [0,1];go_wp2_with fail;go_loopw [18] (λH wr=>∃(j:Nat),j<=ms.length/\H=J R (j:Int)/\aj w (λ_=>False) wr [ai y (aX a8 (s3 old n (ms.take j)) []) 5,ai Y (a1 (o:Int) (n:Int) g1 g2 (ad A ms.length c)) 26]) (λH wr=>ms.length -(cd H).toNat);case atStart=>exact⟨0,cQ _,aa,P⟩
 case round=>
  clear d P;obtain⟨j,hj,rfl,d⟩:=hrel;by_cases hlt:j<ms.length
  .have cI:(j:Int)<(ms.length:Int):=ae;obtain⟨m,r⟩:∃m,ms[j]?=ab m:=⟨_,cj hlt⟩;obtain⟨C,I,p,D,Q,U,V⟩:=cC.h9 cv r;have Z:=hid Q;have M:=hid U;have N:=hid V;have O:=hid r;clear Q U V r;have E:=cA.out.fits m (cL O);have s:=asU (old:=old) (n:=n) O;have hpl:=iB j;obtain⟨q,x,nP,mI⟩:=E.at z;rw[x,DI]at s;obtain⟨a,S⟩:=ex (s3 old n (ms.take j));rw[S]at s hpl d;have L:aE (∀W,aD _ 87 #[ad f o bZ,av #[J _ _,J _ (q:Int),J _ _,J _ _,ad p _ D]] W λe w'=>∃K aC,e=aA _/\(∀W,bR W f _->bR W p _->bR W K _)/\(fN _ m).length<=aC/\(∀b,dU K b->dU f b\/dU p b)/\aq W w'):=hid (λW=>by have h:=Yo o n bZ f p D _ m W E z hc0 (M _ d.only).2;rw[z]at h;rw[<-x];exact h);obtain⟨bs,T⟩:=ex (fN old m);rw[T]at L s nP mI;have rA:=hid s;have ajf:=hid hpl;have uV:aE (∀W,aq w W->bR W p _):=hid (λW g=>(M _ g).1);have gS:=hid x;clear s hpl E S T x;rw[gS]at N;go_step;refine ag ?_;refine cb (ak aB) ?_;refine ag ?_;refine aI (ay (ab ⟨C,(I+j*5),af⟩)) (cH 24 73 5 (bb 16) (bb 18) aa eA aw C I (ms.length) c j ((I+j*5)) (by show ad A _ _=_;rw[Z]) aa hlt aa) ?_;refine aI _ (by(refine e6 73 _ aa C _ aa _ (N _ d.only) fW aa aw)) ?_;refine bx d #[J _ 0,J _ 0,J _ 0,J _ 0,ad _ 0 0] (λfL ca d=>?_);refine a' d 0 (av _) (λcF d=>?_);refine ct ?_;refine bN d [6,7] (λi u=>match i with|6=>ad u.A bs.length u.c|7=>J R (bs.length:Int)|_=>aY) (λv=>λ|6=>kN (∀W,bR W f old->bR W p m.data->bR W (v 6).A bs) emp|7=>ai y (aX a8 (ie a q bs) []) 5|_=>emp) (λ|7=>[1]|_=>[]) (λ|2=>[0]|5=>[0]|7=>[9]|_=>[]) (λ|6=>[6]|_=>[]) [0,2,9,10] (λv=>?_);refine bp ?_;refine dl 0 1 ?_;refine aL _ (λ_ _ _=>aeS 22 5 _ _ aa dI aw y n n q (n -q) aa aa ae (cm _) ae) ?_;refine aK ?_;refine ea 0 #[J R m.k,J R (q:Int),J R m.fr,J R m.n,ad p m.data.length D] ?_;refine df (λwl Fr d=>(L wl).mono ?_) ?_;·rintro e dm ⟨X,fF,rfl,oF,_,_,g⟩;exact⟨{A:=X,c:=fF},aa,((d.aH g).dS).kN oF⟩
   refine D' _ (λ_ _ d=>aes aa aa aa (d.aZ 0) (((d.at (t:=kN (∀W,bR W f old->bR W p m.data->bR W (v 6).A bs) emp) 1).1 _ (du.out.aH d.only) (uV _ d.only)).cells) ae (by rw[j7,ajf];simp only[l2];omega) (vT _) (show _=aX a8 (ie a q bs) []from XW) dI aw) ?_;refine bQ λc6 d=>?_;generalize (v 6).A=UO at d⊢;generalize (v 6).c=Yr at d⊢;refine ag ?_;refine pad (j:Int) 1 ((j+1:Nat):Int) ?_;refine bP ?_;go_wp2_with fail;go_roundw;case rel=>exact⟨j+1,ae,aa,by rw[rA];exact d.pick [3,1]⟩
   case measure=>simp[cd]<;>omega
  .have cI:¬(j:Int)<(ms.length:Int):=ae;have qJ:j=ms.length:=ae;rw[qJ,ik]at d;go_step;refine ag ?_;refine cb (ak au) ?_;refine ag ?_;refine dP ?_;go_wp2_with fail;go_ret;exact⟨_,aa,d.fresh 0⟩
end
end Go.Proofs.YtcmhplknoglbkaaGreat
