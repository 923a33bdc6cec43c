/- Part 19 of the proof of TopConvertsSaid. -/
import Derived.Test.YtcmhplknoglbkaaGreat0
import Derived.Test.YtcmhplknoglbkaaGreat1
import Derived.Test.YtcmhplknoglbkaaGreat6
import Derived.Test.YtcmhplknoglbkaaGreat14
set_option linter.all false
set_option maxRecDepth 100000
set_option maxHeartbeats 4000000
open Go.Proofs.Tryz
open Bool renaming false->au
open Go renaming Calls->aD,World->aN,cell_of_one->pr,cell_of_row->eC,free_of_one->V',heap_alloc_new->ff,one_setCell->Wb,ownsRow_setCell_other->Wc,undef->aZ
open Go.Ending renaming returned->aA
open Go.Fence renaming wide->mr
open Go.IntKind renaming i64->R
open Go.KeepsOthers renaming alloc->awS,of_grownBy->awT,setCell->awU
open Go.Obj renaming cells->bf
open Go.Proofs.Tryz renaming prog->ax
open Go.Proofs renaming intOf->cg
open Go.RowKit renaming Hid->aE
open Go.Value renaming agg->av,int->J,pointer->ay,slice->ad
open Go.World.ownsRow renaming lt->wi
open List.Pairwise renaming imp_of_mem->ajb
open List renaming getElem?_eq_getElem->cm,getElem?_eq_some_iff->eR,mem_iff_getElem?->oQ,mem_of_getElem?->cM,pairwise_iff_getElem->l3
open Nat renaming le_refl->cp,zero_le->cQ
open Option renaming getD_some->pD,map_some->oT,none->af,some->ab
open Option.some renaming injEq->wC
open Or renaming inl->bJ,inr->b3
namespace Go.Proofs.YtcmhplknoglbkaaGreat
section
open Go.RowKit Go.MapKept Go.Shelf Go.Maps
attribute [local go_sem] Oper.semAt_some
def SC:(ax.info? 3).map (λi=>(i.zero,i.size,i.bytes))=ab (ab (J R 0),1,8):=aw
def N8(w an:aN)(v:Value)(t:TypeId)(q:Option Addr)(c d:Int):Prop:=
 ao w an/\an.heap.size=w.heap.size+4/\an.heap[w.heap.size+1]?=ab (bf #[v] t (0,0))/\an.cell? ⟨w.heap.size+2,0,af⟩=ab (ay q)/\an.cell? ⟨w.heap.size+3,0,af⟩=ab (J R c)/\an.cell? ⟨w.heap.size+3,1,af⟩=ab (J R d)
def anh w v t q(c d)an(e:an=(((w.alloc (bf #[J R c,J R d] 35)).alloc (bf #[v] t)).alloc (bf #[ay q] 295)).alloc (bf #[J R c,J R d] 35)):
 N8 w an v t q c d:=by
 subst e;have g2:=ff (w.alloc (bf #[J R c,J R d] 35)) (bf #[v] t);have b:=ff ((w.alloc (bf #[J R c,J R d] 35)).alloc (bf #[v] t)) (bf #[ay q] 295);have a:=ff (((w.alloc (bf #[J R c,J R d] 35)).alloc (bf #[v] t)).alloc (bf #[ay q] 295)) (bf #[J R c,J R d] 35);simp only[World.size_alloc]at g2 b a;refine⟨ao.trans (ao.trans (ao.trans (aq.alloc _ _) (aq.alloc _ _)) (aq.alloc _ _)) (aq.alloc _ _),aU,(ao.trans (aq.alloc _ _) (aq.alloc _ _)).heap g2 (λh=>h),(aq.alloc (F:=λ_=>False) _ _).cell (pr b) (λh=>h),?_,?_⟩;·exact eC _ _ 0 _ _ _ a
 .exact eC _ _ 1 _ _ _ a
theorem acV{w:aN}{base e size:Nat}{v m xs}(h:w.ownsRow base e size v m xs){j o}(b:v.ownBlock=ab j)(a:w.heap[j]?=ab o):o.isCells=true:=by
 rcases h.2 with⟨rfl,_⟩|⟨g,cap,cur,rfl,_,hh,_⟩;·cases b
 .have hj':g=j:=by grind[Value.ownBlock]
  subst hj';rw[hh]at a;cases a;rfl
def ar0{w w':aN}{base e size:Nat}{v m xs row}(h:w.ownsRow base e size v m xs)(g:w.grownBy w' row)(hr:∀r,row=ab r->∃o,w.heap[r]?=ab o/\o.isCells=au):w'.ownsRow base e size v m xs:=by refine acX h (aq.of_grownBy (F:=λi=>row=ab i) g (λk hk=>bJ hk)) (λi hi a=>?_);grind[acV]
def Co{w:aN}{base a e size:Nat}{v m xs}(h:w.ownsRow base e size v m xs)(hb:a<=base):w.ownsRow a e size v m xs:=by
 refine⟨h.1,?_⟩;rcases h.2 with h2|⟨g,cap,cur,h3,h4,h5⟩;·grind
 .exact b3 ⟨g,_,_,h3,Nat.le_trans hb h4,h5⟩
def jd(s:Nat)(i:Nat):Prop:=i=s+1\/s+4<=i
def ac6 e S:(parts e S).length<=S.length:=by grind[parts]
def ank{w an p S c d v t}(m:n' w p S)(b:N8 w an v t (ab ⟨p,0,af⟩) c d):
 ∀a,aq (jd w.heap.size) an a->n' a p S/\a.cell? ⟨w.heap.size+1+1,0,af⟩=ab (ay (ab ⟨p,0,af⟩))/\a.cell? ⟨w.heap.size+1+1+1,0,af⟩=ab (J R c)/\a.cell? ⟨w.heap.size+1+1+1,1,af⟩=ab (J R d):=λa h=>by
 obtain⟨e,j,k,f,g,i⟩:=b;refine⟨?_,h.cell f (by grind[jd]),h.cell g (by grind[jd]),h.cell i (by grind[jd])⟩;have l:aq (jd w.heap.size) w a:=(e.mono (λ_ _ h=>h.elim)).trans h (λ_ _ h=>h);grind[ap6,jd]
def Y8{w an:aN}(a:an.heap.size=w.heap.size+4):∀(W) l (o o'),an.heap.size<=l->W.heap[l]?=ab o->o.isCells=au->o.isWalk=au->aq (jd w.heap.size) W (W.putObj l o'):=
 ars (λi hi=>b3 ae)
def anj{w an W}(g:ao w an)(h:aq (jd w.heap.size) an W):ao w W:=
 ((g.mono (G:=jd w.heap.size) (λ_ _ h=>h.elim)).trans h (λ_ _ h=>h)).mono (λi hi h=>by grind[jd])
set_option maxHeartbeats 2000000 in
def aqP n (S:3<=n) q ps N (C:N<=1048576) (c d) w
 (gU:aE (∀an:aN,N8 w an (ad af 0 0) 82 q c d->SeqStopsK mr (n -1) ax 309 #[ay (ab ⟨w.heap.size+1+1,0,af⟩),ay (ab ⟨w.heap.size+1+1+1,0,af⟩)] (λx:Part=>#[J R x.1,av #[J R x.2.1,J R x.2.2]]) (aq (jd w.heap.size)) (λcq=>cq=ps) (λpre=>pre<+:ps) N an)):
 CallsIn mr n ax 181 #[ay q,av #[J R c,J R d]] w λe s=>∃v,e=aA v/\s.ownsRow w.heap.size 3 1 v ps.length (ps.map (λx=>J R x.1))/\ao w s:=by
 have h1:1<=n:=ae;have P:1<=n -1:=ae;obtain⟨L,hi,hz0,hz1,hz2⟩:=info_parts SC;have g:=hid (And.intro hi (And.intro hz0 (And.intro hz1 hz2)));clear hi hz0 hz1 hz2;refine callsIn_of_wp_marks func181 aa trivial ?_ aa;simp only[ntmps181,List.size_toArray,List.length_cons,List.length_nil,Array.replicate_succ,Array.replicate_zero,List.push_toArray,List.append_toArray,List.nil_append,List.cons_append];gi_wp2_with (refine⟨trivial,?_⟩;gi_at_call 252;refine(arP _ _ _ _ _).mono ?_;rintro e w' ⟨rfl,rfl⟩);obtain⟨an,y⟩:∃an,an=(((w.alloc (bf #[J R c,J R d] 35)).alloc (bf #[ad af 0 0] 82)).alloc (bf #[ay q] 295)).alloc (bf #[J R c,J R d] 35):=⟨_,aa⟩;have m:=hid (anh w _ _ _ c d an y);rw[<-y];clear y;have hsz:=m.out.2.1;have H:aE (N<=1048576):=hid C;clear C;have G:aE ((an.heap[w.heap.size+1]?=ab (bf #[ad af 0 0] 82 (0,0)))):=hid m.out.2.2.1
 refine wpIn_rangeFunc_ownG aa h1 (gf:=309) (lb:=_) aa trivial (enters_of func309 aw aa)
  (gU.out an m.out) art (Y8 hsz) (Below.refl _ _) (λ_=>aa)
  (λpre W=>(∃v,W.heap[w.heap.size+1]?=ab (bf #[v] 82 (0,0))/\W.ownsRow (w.heap.size+4) 3 1 v pre.length (pre.map (λx=>J R x.1)))/\aq (jd w.heap.size) an W)
  (λ_ _ _=>False)
  (λpre W s row A E hr=>by obtain⟨⟨v,hh,hrow⟩,a⟩:=A;have t:aq (λi=>an.heap.size<=i) W s:=aq.of_grownBy E (λk hk=>bJ (hr k hk).1);exact⟨⟨v,t.heap hh ae,ar0 hrow E (λr e=>(hr r e).2)⟩,a.trans t (λi _ h=>b3 ae)⟩)
  (λ_ _ _ _ _ A _ _=>A)
  ⟨⟨_,G.out,World.ownsRow_nil _ _ _ _⟩,aq.refl _ _⟩
  (λx=>{tmps:=#[ay q,av #[J R c,J R d],aZ,ay (ab ⟨w.heap.size,0,af⟩),ad af 0 0,ay (ab ⟨w.heap.size+1,0,af⟩),J R x.1,ay q,av #[J R c,J R d],.func (.func 309) #[] #[ay (ab ⟨w.heap.size+1+1,0,af⟩),ay (ab ⟨w.heap.size+1+1+1,0,af⟩)],J R x.1,av #[J R x.2.1,J R x.2.2],aZ,aZ,aZ,aZ,aZ],defers:=[]}) ?assign ?body ?done ?stop
 case assign=>
  intro l x W K f;gi_wp2;exact f
 case body=>
  rintro l pre x W ⟨⟨v,hh,hrow⟩,a⟩ hlt;have hc:=pr hh;have b:=hid (And.intro hh (And.intro hrow a));have T:w.heap.size+4<=W.heap.size:=by have:=a.size;omega
  have B:=hid (And.intro hlt H.out);clear hh hrow a;gi_wp2_with (gi_at_builtin;refine wpListIn_append_own _ aa _ _ 82 aa (w.heap.size+4) 3 L (J R 0) 1 8 Tryz.underlying82 g.out.1 g.out.2.1 g.out.2.2.1 g.out.2.2.2 aa bj _ _ _ aa (b.out.2.1.alloc _) ⟨W.heap.size,0,af⟩ 1 1 [J R x.1] aa aa (cell_one_new _ _ _) (by simp[Value.oneCell']) (by have:=B.out;unfold maxLen;omega) (by have:=B.out;omega) (by simp;omega) ?_;intro v' w1 hown' hgrow _;obtain⟨O,M,rfl⟩:=ownsRow_succ hown';(have u:aE (aq (λi=>w.heap.size+4<=i) W w1):=hid ((aq.alloc W _).trans (aq.of_grownBy (F:=λi=>w.heap.size+4<=i) hgrow (λk hk=>bJ (wi b.out.2.1 k hk).1)) (λ_ _ h=>h)));(have z:=u.out.heap b.out.1 ae);have hc1:=pr z;have Q:=V' z);refine⟨(((awS W _).trans (awT hgrow (λj o e t=>acV (b.out.2.1.alloc _) e t))).trans (awU _ _ _)).from _,?_,?_⟩;·exact(u.out.mono (λi _ h=>b3 h)).trans (aq.setCell _ (p:=_) (bJ aa) _) (λ_ _ h=>h)
  .refine⟨⟨_,Wb z,?_⟩,(b.out.2.2.trans (u.out.mono (λi _ h=>b3 h)) (λ_ _ h=>h)).trans (aq.setCell _ (p:=_) (bJ aa) _) (λ_ _ h=>h)⟩;grind[Wc,wi]
 case done=>
  rintro D cq W I rfl ⟨⟨v,hh,hrow⟩,a⟩ f;have hc:=pr hh;gi_wp2;refine⟨aU,bJ ⟨_,_,aa,run_takeDeferred f,?_⟩⟩;exact⟨_,results_tmp aa _ _ _,v,aa,Co (ownsRow_putObj hrow _ f aa) ae,anj m.out.1 (a.trans (Y8 hsz W D _ _ I f aa aa) (λ_ _ h=>h))⟩
 case stop=>simp
def aqO p S(c d)w(b:n' w p S)(g:jS S)(i:eE (c,d)):
 aD ax 181 #[ay (ab ⟨p,0,af⟩),av #[J R c,J R d]] w λe a=>∃v,e=aA v/\a.ownsRow w.heap.size 3 1 v (parts (c,d) S).length ((parts (c,d) S).map (λx=>J R x.1))/\ao w a:=
 (callsIn_wide (n:=3)).1 (aqP 3 (cp _) _ _ S.length (by obtain⟨_,_,_,_,h⟩:=b;exact h) c d w (hid (λan f=>arS 2 ae (jd w.heap.size) _ _ p S c d i g an (hid (ank b f)))))
def ib(l:List Part):Int:=l.foldl (λn x=>RowKit.wrap64 (n+x.2.2)) 0
end
open Go.RowKit Go.MapKept Go.Shelf Go.Lib
def zw(l:List (Int×Int)):Prop:=(∀e∈l,eE e/\0<e.2)/\∀(i j:Nat) (x y:Int×Int),j<i->l[i]?=ab x->l[j]?=ab y->meets x y=au
theorem EO(a b):meets a b=meets b a:=by grind[meets]
def aq7{a b}(h:a.1+a.2<=b.1):meets a b=false:=by grind[meets]
def aqr{a b}(h:meets a b=au)(hab:a.1<=b.1)(hb:0<b.2):a.1+a.2<=b.1:=by grind[meets]
def zw.pairwise{l}(h:zw l):(iG l).Pairwise (λx y=>meets x.1 y.1=au):=by rw[l3];intro i j hi a b;have bD:=DY l i;have b9:=DY l j;rw[zJ]at hi a;rw[cm ae,cm hi]at bD;rw[cm ae,cm a]at b9;simp only[oT,wC]at bD b9;rw[bD,b9,EO];exact h.2 j i _ _ b (cm a) (cm hi)
theorem Zd{l}(h:zw l):∃S,S.Perm (iG l)/\jS S:=by
 have d:=List.mergeSort_perm (iG l) (λx y=>decide (x.1.1<=y.1.1));have g:=List.pairwise_mergeSort (le:=λx y:jQ=>decide (x.1.1<=y.1.1)) (λa b c h1 k=>aG) (λa b=>aG) (iG l);refine⟨_,d,?_,λx hx=>?_⟩
 .have e:=d.symm.pairwise h.pairwise (λh=>by grind[EO])
  have f:∀x∈(iG l).mergeSort (λx y=>decide (x.1.1<=y.1.1)),0<x.1.2:=λx hx=>by obtain⟨i,hi,_⟩:=Ab.1 (d.mem_iff.1 hx);exact(h.1 _ (cM hi)).2
  refine ajb (λ{_ y} _ j h=>?_) (g.and e);exact aqr h.2 (of_decide_eq_true h.1) (f y j)
 .obtain⟨i,hi,_⟩:=Ab.1 (d.mem_iff.1 hx);exact h.1 _ (cM hi)
def ati{l S}(c:S.Perm (iG l))(b:jS S):zw l:=by
 refine⟨λe f=>?_,λi j x y g hx d=>?_⟩;·obtain⟨i,hi⟩:=oQ.1 f;exact b.2 (e,(i:Int)) (c.mem_iff.2 (Ab.2 ⟨i,hi,aa⟩))
 .have h1:(iG l).Pairwise (λx y=>meets x.1 y.1=au):=c.pairwise (b.1.imp (λh=>aq7 h)) (λh=>by grind[EO]);rw[l3]at h1;have hi:=(eR.1 hx).1;have k:=(eR.1 d).1;have a:=h1 j i (by grind[zJ]) (by grind[zJ]) g;have bD:=DY l i;have b9:=DY l j;rw[hx,cm aG]at bD;rw[d,cm aG]at b9;simp only[oT,wC]at bD b9;rw[bD,b9,EO]at a;exact a
def ann{S}(a:jS S){x y}(hx:x∈S)(d:y∈S)(h1:x.1.1<=y.1.1)(e:y.1.1<=x.1.1):x=y:=by
 obtain⟨i,hi⟩:=oQ.1 hx;obtain⟨j,b⟩:=oQ.1 d;rcases Nat.lt_trichotomy i j with h|h|h;·have c:=a.lt hi b h;have:=(a.at hi).2;omega
 .grind
 .have c:=a.lt b hi h;have:=(a.at b).2;omega
def Ze{S}(a:jS S):S.Pairwise (λx y=>x.1.1<=y.1.1):=
 ajb (λhx _ h=>by have:=(a.2 _ hx).2;omega) a.1
def anq{S T}(b:S.Perm T)(a:jS S)(d:jS T):S=T:=
 b.eq_of_pairwise (le:=λx y:jQ=>x.1.1<=y.1.1) (λ_ _ hx e h1 c=>ann a hx (b.mem_iff.2 e) h1 c) (Ze a) (Ze d)
def PV(base:Nat)(w:aN)(p:Nat)(S:List jQ):Prop:=∃A c,w.heap[p]?=ab (bf #[ad A S.length c] 411 (0,0))/\nb w A S/\S.length<=1048576/\base<=p/\∀b off,A=ab ⟨b,off,af⟩->base<=b
set_option maxHeartbeats 4000000 in
theorem aq1 A c l w(hl:jy w A l)(ka:∀e∈l,qN e)(gd:l.length<=1048576):
 aD ax 251 #[ad A l.length c] w λe w'=>ao w w'/\((∃p S,e=aA (ay (ab ⟨p,0,af⟩))/\S.Perm (iG l)/\jS S/\PV w.heap.size w' p S)\/(e=aA (ay af)/\¬∃S,S.Perm (iG l)/\jS S)):=by
 have bK:=hid (And.intro hl ka);obtain⟨i0,gQ,hz0,hz1,hz2⟩:=info_parts apD;have Y:=hid (And.intro gQ (And.intro hz0 (And.intro hz1 hz2)));have JN:=hid (aq.alloc (F:=λ_=>False) w (bf #[ad af 0 0] 411));have oM:=hid (And.intro (ff w (bf #[ad af 0 0] 411)) (show(w.alloc (bf #[ad af 0 0] 411)).heap.size=w.heap.size+1 by simp));clear hl ka gQ hz0 hz1 hz2;go_enter func251,ntmps251;go_wp2_with fail;generalize w.alloc (bf #[ad af 0 0] 411)=hZ at*;have hs1:=oM.out.2;generalize hp:w.heap.size=p at*;have Gd:=hid hp;clear hp;go_loopw [11] (λi wr=>∃k:Nat,k<=l.length/\i=J R k/\aE (∀e∈l.take k,eE e/\0<e.2)/\(∃la,wr.heap[p]?=ab (bf #[la] 411 (0,0))/\wr.ownsRow (p+1) 413 3 la k (qx (iG (l.take k))))/\aq (λi=>p<=i) hZ wr) (λi _=>l.length -(cg i).toNat);case atStart=>exact⟨0,cQ _,aa,hid aU,⟨_,oM.out.1,⟨aT,bJ ⟨aa,aa⟩⟩⟩,aq.refl _ _⟩
 case round=>
  obtain⟨k,hk,rfl,aaf,⟨la,hx,hrow⟩,B⟩:=hrel;obtain⟨s,o,rfl⟩:=acW hrow;have D7:=B.size;have X:aE (ao w wr):=hid ((((ao.to JN.out).trans B (λ_ _ h=>h)).mono (λi hi h=>by rw[Gd.out]at hi;omega)));have C:=hid (And.intro hx (And.intro hrow B));have kn:=pr hx;clear hx hrow B;by_cases hlt:k<l.length
  .have hb0:(k:Int)<(l.length:Int):=ae;obtain⟨fU,off,rfl,hcell⟩:=(bK.out.1.aI X.out) ae;obtain⟨c1,c2⟩:=hcell k hlt;obtain⟨e,he⟩:∃e,l[k]?=ab e:=⟨_,cm hlt⟩;simp only[he,pD]at c1 c2;have L:=hid (And.intro he (bK.out.2 e (cM he)));obtain⟨a,b⟩:=e;simp only at c1 c2;have Ph:=hid (aq.alloc (F:=λ_=>False) wr (bf #[J R a,J R b] 35));have V:=hid (x5 wr (J R a) (J R b) 35);obtain⟨v,hv⟩:∃v:Bool,nT (a,b)=v:=⟨_,aa⟩;have cB:=hid hv
   have N6:aE (∀W,aD ax 115 #[av #[J R a,J R b]] W λe w'=>e=aA (.bool v)/\ao W w'):=hid (λW=>by have h:=ae3 a b W L.out.2.1 L.out.2.2;rw[cB.out]at h;exact h);clear hcell he hv;cases v with
   |false=>
    go_wp2_with (go_at_call 115;refine(N6.out _).mono ?_;rintro e g ⟨rfl,q⟩);go_ret;refine⟨ao.trans X.out (ao.trans Ph.out q),b3 ⟨aa,acx L.out.1 (λh=>?_)⟩⟩;have:=Fl.2 h.1;rw[cB.out]at this;cases this
   |true=>
    have sQ:=Fl.1 cB.out;by_cases hb:b=0;·have Lf:(b==0)=true:=aG;have O6:=hid hb;clear sQ hb;go_wp2_with (go_at_call 115;refine(N6.out _).mono ?_;rintro e g ⟨rfl,q⟩;have RF:=q.cell V.out.1 (λh=>h);have RG:=q.cell V.out.2 (λh=>h));go_ret;exact⟨ao.trans X.out (ao.trans Ph.out q),b3 ⟨aa,acx L.out.1 (λh=>by have h1:0<b:=h.2;rw[O6.out]at h1;omega)⟩⟩
    .have Lf:(b==0)=false:=aG;have O6:aE (eE (a,b)/\0<b):=hid ⟨sQ,by have h1:0<=b:=sQ.2.1;omega⟩;clear sQ hb;go_wp2_with (go_at_call 115;refine(N6.out _).mono ?_;rintro e g ⟨rfl,q⟩;have RF:=q.cell V.out.1 (λh=>h);have RG:=q.cell V.out.2 (λh=>h));have N:=hid (ao.trans Ph.out q);have Dc:aE (∀i,(ad s k o).ownBlock=ab i->p+1<=i/\i<wr.heap.size):=hid (λi h=>wi C.out.2.1 i h)
     have n:aE (∀w',aq (λi=>p+1<=i/\i<wr.heap.size) g w'->w'.cell? ⟨p,0,af⟩=ab (ad s k o)/\w'.cell? ⟨wr.heap.size,0,af⟩=ab (J R a)/\w'.cell? ⟨wr.heap.size,1,af⟩=ab (J R b)):=
      hid (λw' h=>⟨h.cell (N.out.cell (pr C.out.1) (λh=>h)) (by show¬(p+1<=p/\_);omega),h.cell RF (by show¬(_/\wr.heap.size<wr.heap.size);omega),h.cell RG (by show¬(_/\wr.heap.size<wr.heap.size);omega)⟩);have aa7:=N.out.size;clear q RF RG;refine afj aw 12 (λw'=>w'.cell? ⟨p,0,af⟩=ab (ad s k o)/\w'.cell? ⟨wr.heap.size,0,af⟩=ab (J R a)/\w'.cell? ⟨wr.heap.size,1,af⟩=ab (J R b)) (n.out _ (aq.drew _)) (λhHeld=>?_);refine nr (i:=0) (v:=?_) aa aw aw aw aw (λ_ _ _ h=>h) (bJ ⟨aT,?_⟩) hHeld ?_;rotate_left;focus (intro E hz;obtain⟨G,H,I⟩:=hz;go_simp;try with_reducible rfl)
     refine nr (i:=1) (v:=?_) aa aw aw aw aw (λ_ _ _ h=>h) (bJ ⟨aT,?_⟩) hHeld ?_;rotate_left;focus (intro E hz;obtain⟨G,H,I⟩:=hz;go_simp;try with_reducible rfl)
     refine nr (i:=2) (v:=?_) aa aw aw aw aw (λ_ _ _ h=>h) (bJ ⟨aT,?_⟩) hHeld ?_;rotate_left;focus (intro E hz;obtain⟨G,H,I⟩:=hz;go_simp;try with_reducible rfl)
     refine nr (i:=3) (v:=?_) aa aw aw aw aw (λ_ _ _ h=>h) (bJ ⟨aT,?_⟩) hHeld ?_;rotate_left;focus (intro E hz;obtain⟨G,H,I⟩:=hz;go_simp;try with_reducible rfl)
     refine nr (i:=4) (v:=?_) aa aw aw aw aw (λ_ _ _ h=>h) (bJ ⟨aT,?_⟩) hHeld ?_;rotate_left;focus (intro E hz;obtain⟨G,H,I⟩:=hz;go_simp;try with_reducible rfl)
     refine nr (i:=5) (v:=?_) aa aw aw aw aw (λ_ _ _ h=>h) (bJ ⟨aT,?_⟩) hHeld ?_;rotate_left;focus (intro E hz;obtain⟨G,H,I⟩:=hz;go_simp;try with_reducible rfl)
     refine nr (i:=6) (v:=?_) aa aw aw aw aw (λ_ _ _ h=>h) (bJ ⟨aT,?_⟩) hHeld ?_;rotate_left;focus (intro E hz;obtain⟨G,H,I⟩:=hz;go_simp;try with_reducible rfl)
     refine nr (i:=7) (v:=?_) aa aw aw aw aw (λ_ _ _ h=>h) (bJ ⟨aT,?_⟩) hHeld ?_;rotate_left;focus (intro E hz;obtain⟨G,H,I⟩:=hz;go_simp;try with_reducible rfl)
     clear hHeld;refine xp (rs:=[8]) aw aU ?_;refine ky.cons aa aT (λK f=>?_) ?_;rotate_left;exact ky.nil;go_simp;have Pg:aE (ao g (g.alloc (bf #[J R a,J R b,J R k] 413)).drew):=hid (ao.trans (aq.alloc _ _) (aq.drew _));have R3:=ff g (bf #[J R a,J R b,J R k] 413);have WJ:aE ((g.alloc (bf #[J R a,J R b,J R k] 413)).drew.heap[g.heap.size]?=ab (bf #[J R a,J R b,J R k] 413 (0,0))/\(g.alloc (bf #[J R a,J R b,J R k] 413)).drew.heap.size=g.heap.size+1):=hid ⟨R3,by show(g.alloc _).heap.size=_;simp⟩;clear R3;refine f.out _ _ (λ_=>n.out _ (ao.to Pg.out)) ?_;clear f K;generalize (g.alloc (bf #[J R a,J R b,J R k] 413)).drew=dH at*;refine xp (rs:=[9]) aw aU ?_;refine ky.cons aa aT (λK f=>?_) ?_;rotate_left;exact ky.nil;have vy:=WJ.out.2;refine wp_append_own _ (.tmp 28) (.tmp 32) 409 aT (p+1) 413 i0 _ 3 24 underlying409 Y.out.1 Y.out.2.1 Y.out.2.2.1 Y.out.2.2.2 aa ae _ k (qx (iG (l.take k))) aa (acX C.out.2.1 (ao.trans N.out Pg.out) (λ_ _ h=>h)) ⟨g.heap.size,0,af⟩ 1 1 [J R a,J R b,J R k] aa aa (aq4 WJ.out.1) (by intro u hu;simp at hu;rcases hu with rfl|rfl|rfl<;>rfl) (by grind[maxLen]) ae ae ?_;intro v9 e9 Sb aah _;obtain⟨lF,oj,rfl⟩:=acW Sb;have O:aE (aq (λi=>p+1<=i/\i<wr.heap.size) g e9):=hid ((ao.to Pg.out).trans (aq.of_grownBy aah (λi e=>bJ (Dc.out i e))) (λ_ _ h=>h));have WK:=hid Sb;clear Sb aah;refine f.out _ _ (λ_=>n.out _ O.out) ?_;clear f K;refine xp (rs:=[10]) aw aU ?_;refine ky.cons aa aT (λK f=>?_) ?_;rotate_left;exact ky.nil;go_simp;refine f.out _ _ (λ_=>n.out _ O.out) ?_;clear f K;refine xp (rs:=[11]) aw aU ?_;refine ky.cons aa aT (λK f=>?_) ?_;rotate_left;exact ky.nil;go_simp;refine f.out _ _ (λ_=>n.out _ O.out) ?_;clear f K;have PQ:aE (e9.heap[p]?=ab (bf #[ad s k o] 411 (0,0))):=hid (O.out.heap (N.out.heap C.out.1 (λh=>h)) ae);have Ad:=pr PQ.out;have n4:=V' PQ.out;refine xp (rs:=[12]) aw aU ?_;refine ky.cons aa aT (λK f=>?_) ?_;rotate_left;exact ky.nil;go_simp;refine f.out _ _ (λh=>absurd aa h) ?_;clear f K;refine afc aw ?_ _;go_wp2;go_roundw
     case rel=>
      refine⟨_,ae,by go_num,hid (anp L.out.1 aaf.out O6.out),⟨_,Wb PQ.out,?_⟩,?_⟩
      .have bD:qx (iG (l.take (k+1)))=qx (iG (l.take k))++[J R a,J R b,J R k]:=by rw[List.take_add_one,L.out.1];show qx (iG (l.take k++[(a,b)]))=_;rw[amC,akF,List.length_take,Nat.min_eq_left ae];rfl
       rw[bD];refine Wc WK.out ?_ _;intro h;have:=(wi WK.out p h).1;omega
      .exact((C.out.2.2.trans N.out (λ_ _ h=>h.elim)).trans O.out (λi _ h=>ae)).trans (aq.setCell (F:=λi=>p<=i) e9 (p:=_) (cp _) _) (λ_ _ h=>h)
     case measure=>grind[cg]
  .obtain rfl:k=l.length:=ae;have hrow:=C.out.2.1;have hgd:=aaf.out;rw[List.take_length]at hrow hgd;have bL:=hid (And.intro hrow hgd)
   have Jc:aE (aD ax 307 #[ad s l.length o,.func (.func 308) #[] #[]] wr λe w'=>e=aA (.tuple #[])/\∃d,d.Perm (iG l)/\d.Pairwise (λx y=>x.1.1<=y.1.1)/\nb w' s d/\aq (λi=>p+1<=i) wr w'):=hid (by
    by_cases h0:l.length=0;·obtain rfl:=List.eq_nil_of_length_eq_zero h0;refine(aut s o _ wr).mono ?_;rintro e w' ⟨rfl,rfl⟩;exact⟨aa,[],.refl _,.nil,λh=>ae,aq.refl _ _⟩
    .refine(aun (p+1) l.length o s (iG l) wr bL.out.1 (by grind[zJ]) (by grind[zJ])).mono ?_;rintro e w' ⟨rfl,d,h1,z,Q,h4⟩;exact⟨aa,d,h1,z,Q,h4.mono (λi hi h=>(wi bL.out.1 i h).1)⟩);clear hrow hgd;go_wp2_with (go_at_call 307;have b2:=Jc.out;with_reducible refine b2.mono ?_;clear b2;rintro e aS ⟨rfl,d,pW,hst,e6,kH⟩;have fo:=kH.cell kn (by show¬(p+1<=p);omega));have t:aE (d.length=l.length):=hid (by rw[pW.length_eq,zJ]);have j:=hid (And.intro pW (And.intro hst (And.intro e6 (And.intro (kH.heap C.out.1 ae) (show ao w aS from((ao.to X.out).trans kH (λ_ _ h=>h)).mono (λi hi h=>by rw[Gd.out]at hi;omega))))))
   have W0:aE (∀x∈d,eE x.1/\0<x.1.2):=hid (λx hx=>by obtain⟨i,hi,_⟩:=Ab.1 (pW.mem_iff.1 hx);exact bL.out.2 _ (cM hi));clear pW hst e6 kH Jc kn;obtain⟨kP,rfl⟩:∃kP:aN,kP=wr:=⟨_,aa⟩;go_loopw [47] (λi wr=>∃k:Nat,k<=l.length/\i=J R k/\aE (∀i x y,i+1<k->d[i]?=ab x->d[i+1]?=ab y->x.1.1+x.1.2<=y.1.1)/\ao aS wr) (λi _=>l.length -(cg i).toNat);case atStart=>exact⟨0,cQ _,aa,hid (λi x y h=>ae),aq.refl _ _⟩
   case round=>
    obtain⟨k,hk,rfl,gg,B⟩:=hrel;have D:=hid B;have ly:=B.cell fo (λh=>h);clear B;by_cases hlt:k<l.length
    .have hb0:(k:Int)<(l.length:Int):=ae;by_cases BS:k=0
     .subst BS;go_wp2_with fail;go_quiet (fail);go_wp2;go_roundw;case rel=>exact⟨1,ae,by go_num,hid (λi x y h=>ae),ao.trans D.out (aq.drewN _ _)⟩
      case measure=>grind[cg]
     .obtain⟨m,hm⟩:∃m,k=m+1:=⟨k -1,ae⟩;have Z:=hid hm;have rP:(1:Int)<=(k:Int):=ae;have hk2:0<k:=ae;have yr:(k:Int)<=1048576:=ae;have hb2:(m:Int)<(l.length:Int):=ae;have hb3:m<l.length:=ae;have ayD:R.wrap ((k:Int) -1)=(m:Int):=by grind[IntWalk.i64_in]
      obtain⟨x,hx⟩:∃x,d[m]?=ab x:=⟨_,cm (by have:=t.out;omega)⟩;obtain⟨y,hy⟩:∃y,d[k]?=ab y:=⟨_,cm (by have:=t.out;omega)⟩;obtain⟨fU,off,rfl,hcell⟩:=(j.out.2.2.1.aI D.out) aG;have gi:=(hcell k (by have:=t.out;omega)).1;have fQ:=(hcell m (by have:=t.out;omega)).1;have iM:=(hcell m (by have:=t.out;omega)).2.1;simp only[hx,hy,pD]at gi fQ iM;have P:=hid (And.intro hx hy);have LP:=(W0.out x (cM hx)).1;obtain⟨v1,v2,v3⟩:=LP
      have n:aE (∀w',ao wr w'->w'.cell? ⟨p,0,af⟩=ab (ad (ab ⟨fU,off,af⟩) l.length o)/\w'.cell? ⟨fU,off+k*3,af⟩=ab (J R y.1.1)/\w'.cell? ⟨fU,off+m*3,af⟩=ab (J R x.1.1)/\w'.cell? ⟨fU,off+m*3+1,af⟩=ab (J R x.1.2)):=
       hid (λw' h=>⟨h.cell ly (λh=>h),h.cell gi (λh=>h),h.cell fQ (λh=>h),h.cell iM (λh=>h)⟩);clear hcell hx hy gi fQ iM hm BS;have fN:aE (∀r:Bool,decide (y.1.1<x.1.1+x.1.2)=r->True):=hid (λ_ _=>trivial);obtain⟨⟨dc,bo⟩,lg⟩:=x;obtain⟨⟨M,br⟩,c7⟩:=y;simp only at v1 v2 v3 n P;by_cases U:M<dc+bo
      .have hd:decide (M<dc+bo)=true:=by simpa using U
       have mX:=hid U;clear U fN;go_wp2_with fail
       go_region_held3 (λw'=>w'.cell? ⟨p,0,af⟩=ab (ad (ab ⟨fU,off,af⟩) l.length o)/\w'.cell? ⟨fU,off+k*3,af⟩=ab (J R M)/\w'.cell? ⟨fU,off+m*3,af⟩=ab (J R dc)/\w'.cell? ⟨fU,off+m*3+1,af⟩=ab (J R bo))
        (first
          |exact n.out _ (aq.drew _)
          |exact n.out _ T)
        (first
          |(go_at_call 117;refine(lN dc bo _ v1 v2 v3).mono ?_;rintro e ja ⟨rfl,ha0⟩;have T:ao wr ja:=ao.trans (aq.drew _) ha0))
       all_goals
        go_wp2;go_ret;exact⟨ao.trans j.out.2.2.2.2 (ao.trans D.out T),b3 ⟨aa,aq8 j.out.1 j.out.2.1 P.out.1 (by rw[<-Z.out];exact P.out.2) mX.out⟩⟩
      .have hd:decide (M<dc+bo)=false:=by simpa using U
       have mX:aE (dc+bo<=M):=hid ae;clear U fN;go_wp2_with fail
       go_region_held3 (λw'=>w'.cell? ⟨p,0,af⟩=ab (ad (ab ⟨fU,off,af⟩) l.length o)/\w'.cell? ⟨fU,off+k*3,af⟩=ab (J R M)/\w'.cell? ⟨fU,off+m*3,af⟩=ab (J R dc)/\w'.cell? ⟨fU,off+m*3+1,af⟩=ab (J R bo))
        (first
          |exact n.out _ (aq.drew _)
          |exact n.out _ T)
        (first
          |(go_at_call 117;refine(lN dc bo _ v1 v2 v3).mono ?_;rintro e ja ⟨rfl,ha0⟩;have T:ao wr ja:=ao.trans (aq.drew _) ha0))
       all_goals
        go_wp2;go_roundw
        case rel=>
         refine⟨k+1,ae,by go_num,hid (λi x y h h1 z=>?_),ao.trans D.out T⟩;rcases Nat.lt_or_eq_of_le (show i<=m by have:=Z.out;omega)with Q|Q;·exact gg.out i x y (by have:=Z.out;omega) h1 z
         .subst Q;rw[P.out.1]at h1;rw[<-Z.out,P.out.2]at z;cases h1;cases z;exact mX.out
        case measure=>grind[cg]
    .obtain rfl:k=l.length:=ae;have eH:aE (jS d):=hid (ano j.out.2.1 W0.out (λi x y h1 z=>gg.out i x y (by have Q:=(eR.1 z).1;have:=t.out;omega) h1 z));go_wp2;go_ret;have Ei:PV p wr p d:=⟨s,o,by rw[t.out];exact D.out.heap j.out.2.2.2.1 (λh=>h),j.out.2.2.1.aI D.out,by rw[t.out];exact gd,cp _,λb off e=>by subst e;have:=(wi bL.out.1 b aa).1;omega⟩;refine⟨ao.trans j.out.2.2.2.2 D.out,bJ ?_⟩
     first
      |exact⟨p,d,aa,j.out.1,eH.out,Ei⟩
      |exact⟨p,d,aa,j.out.1,eH.out,by rw[Gd.out];exact Ei⟩
      |exact⟨p,rfl,d,j.out.1,eH.out,Ei⟩
def aq2 A c l w(a:jy w A l)(d:∀e∈l,qN e)(b:l.length<=1048576)(hr:zw l):
 aD ax 251 #[ad A l.length c] w λe w'=>∃p S,e=aA (ay (ab ⟨p,0,af⟩))/\S.Perm (iG l)/\jS S/\PV w.heap.size w' p S/\ao w w':=
 by grind[aq1,absurd,Zd]
end Go.Proofs.YtcmhplknoglbkaaGreat
