/- The statement TopConvertsSaid holds for all inputs, with no condition. -/
import Derived.Test.YtcmhplknoglbkaaGreatRows
import Derived.ProofKit
import Derived.SizedLaws
import Derived.Deep.Slices
import Derived.Deep.Fields
import Derived.ChangeSame
import Derived.ChangeSlices
import Derived.OpenShut
import Derived.HandedShaped
import Derived.Test.YtcmhplknoglbkaaGreat0
import Derived.Test.YtcmhplknoglbkaaGreat6
import Derived.Test.YtcmhplknoglbkaaGreat45
import Derived.Test.YtcmhplknoglbkaaGreat50
set_option linter.all false
set_option maxRecDepth 100000
set_option maxHeartbeats 4000000
open Go.Proofs.Tryz
open Bool renaming and_eq_true->vO,eq_false_iff->afA,false->au,true->aB
open Classical renaming byContradiction->UE
open Go.Addr renaming add->vR
open Go.ChangeSpec renaming witness6->awQ
open Go.DataW renaming Trod->afN,trod->Ob,trod_int->C0,trod_struct->afO
open Go.IntKind renaming i64->R,u8->ea
open Go.Lit renaming int->FD
open Go.Proofs.Tryz renaming f6->Jo,func6->FH,prog->ax,underlying22->dJ,underlying26->FL,underlying3->j2,underlying5->lj
open Go.Proofs.YtcmhplknoglbkaaGreat.Rows renaming topConvertsRow->V2,topConvertsSpec->V3
open Go.RowKit.Below renaming trod->ahG
open Go.Value renaming cells->OO,int->J,okWide->OP,slice->ad
open Go.World renaming cell?_spot->ahL
open HAppend renaming hAppend->Wi
open Int renaming le_of_lt->Dp,lt_or_eq_of_le->ai7
open List.Pairwise renaming filter->W6
open List.Perm renaming of_eq->ajc
open List.cons renaming inj->J7
open List renaming eq_nil_iff_forall_not_mem->Du,ext_getElem?->wy,filter_append->pz,getElem?_append_left->tB,getElem?_append_right->oa,getElem?_cons_succ->xT,getElem?_drop->Dx,getElem?_eq_getElem->cm,getElem?_eq_none->Gr,getElem?_eq_some_iff->eR,getElem?_inj->Xb,getElem?_map->kB,getElem?_range->J9,getElem?_take->su,getElem_mem->Dy,length_eq_zero_iff->P6,length_take->oP,map_append->gy,map_map->Gs,mem_cons->gz,mem_filter->mZ,mem_flatMap->Ka,mem_iff_getElem->Kb,mem_iff_getElem?->oQ,mem_map->gN,mem_of_find?_eq_some->ajg,mem_of_getElem?->cM,mem_range->m',pairwise_iff_getElem->l3,pairwise_map->xW,range->dG,range_succ->pB,take_add_one->fv,take_append_drop->oR,take_length->il
open Nat renaming le_refl->cp,min_eq_left->zt,zero_le->cQ
open Option renaming map_some->oT,some->ab,toList_some->xX
open Or renaming inl->bJ,inr->b3
namespace Go.Proofs.YtcmhplknoglbkaaGreat
structure Lays (n:Nat) (T:List (Int×Int)):Prop where
 pos:∀x∈T,0<=x.1/\0<x.2/\x.1+x.2<=(n:Int)
 apart:T.Pairwise (λx y=>x.1+x.2<=y.1\/y.1+y.2<=x.1)
 zero:0<n->∃z∈T,z.1<=0/\0<z.1+z.2
 next:∀x∈T,x.1+x.2<(n:Int)->∃z∈T,z.1<=x.1+x.2/\x.1+x.2<z.1+z.2
def Lays.perm{n T a}(h:Lays n T)(p:T.Perm a):Lays n a:=
 ⟨λx hx=>h.pos x (p.mem_iff.2 hx),(p.pairwise_iff (λh=>h.symm)).1 h.apart,λc=>by
   obtain⟨z,hz,h1⟩:=h.zero c;exact⟨z,p.mem_iff.1 hz,h1⟩,λx hx b=>by
   obtain⟨z,hz,h1⟩:=h.next x (p.mem_iff.2 hx) b;exact⟨z,p.mem_iff.1 hz,h1⟩⟩
def Bz{L:List (Nat×Int×Int)}{k x}(h:L[k]?=ab x):iq (L.take (k+1))=iq (L.take k)+x.2.2:=by grind[fv,YE]
def Fh ms:((hR ms).map (λx=>(x.2.1,x.2.2))).Perm (ms.map b'):=by unfold hR;rw[Gs];refine((acR ms).map _).trans (ajc ?_);refine wy λi=>?_;grind[mR,L9,b']
def Cz ms:(hR ms).Pairwise (λx y=>x.2.1<=y.2.1):=by grind[hR,acS]
def EH{n}{L:List (Nat×Int×Int)}(h:Lays n (L.map (λx=>(x.2.1,x.2.2))))(o:L.Pairwise (λx y=>x.2.1<=y.2.1)):∀k,k<=L.length->
 (∀j x,j<k->L[j]?=ab x->x.2.1=iq (L.take j)/\x.2.1+x.2.2<=iq (L.take k))/\0<=iq (L.take k)/\iq (L.take k)<=(n:Int)
 |0,_=>⟨λj x b=>ae,by simp[iq],by simp[iq]⟩
 |k+1,hk=>by
  obtain⟨h1,v,w⟩:=EH h o k ae;obtain⟨x,hx⟩:∃x,L[k]?=ab x:=⟨_,cm ae⟩;have l:∀(j:Nat) y,L[j]?=ab y->(y.2.1,y.2.2)∈L.map (λx=>(x.2.1,x.2.2)):=λj y c=>gN.2 ⟨y,cM c,aa⟩
  have u:∀(i j:Nat) (y z),i<j->L[i]?=ab y->L[j]?=ab z->y.2.1<=z.2.1/\(y.2.1+y.2.2<=z.2.1\/z.2.1+z.2.2<=y.2.1):=λi j y z m c hz=>by obtain⟨hi,rfl⟩:=eR.1 c;obtain⟨b,rfl⟩:=eR.1 hz;exact⟨l3.1 o i j hi b m,l3.1 (xW.1 h.apart) i j hi b m⟩
  have t:=h.pos _ (l k x hx);simp only at t
  have r:iq (L.take k)<(n:Int)->∃z∈L,z.2.1<=iq (L.take k)/\iq (L.take k)<z.2.1+z.2.2:=λhlt=>by
   cases k with
   |zero=>
    have q:iq (L.take 0)=0:=aT;rw[q]at hlt⊢;obtain⟨z,hz,d⟩:=h.zero ae;grind
   |succ k=>
    obtain⟨p,a⟩:∃p,L[k]?=ab p:=⟨_,cm ae⟩;have d:=(h1 k p ae a).1;have e:=Bz a;have f:=h.next _ (l k p a);simp only at f;rw[e,<-d]at hlt⊢;obtain⟨z,hz,g⟩:=f hlt;obtain⟨y,c,rfl⟩:=gN.1 hz;exact⟨y,c,g⟩
  have s:iq (L.take k)<=x.2.1:=by
   cases k with
   |zero=>grind[iq]
   |succ k=>
    obtain⟨p,a⟩:∃p,L[k]?=ab p:=⟨_,cm ae⟩;have d:=(h1 k p ae a).1;have e:=Bz a;have f:=u k _ p x ae a hx;have g:=h.pos _ (l k p a);simp only at g;omega
  have B:x.2.1=iq (L.take k):=by
   rcases ai7 s with hlt|A;·exfalso;obtain⟨z,hz,d,e⟩:=r ae;obtain⟨j,b⟩:=oQ.1 hz;grind
   .omega
  have hes:=Bz hx;refine⟨λj y b c=>?_,ae,ae⟩;rcases Nat.lt_succ_iff_lt_or_eq.1 b with hlt|rfl;·grind
  .grind
def SO{n L}(h:Lays n (L.map (λx=>(x.2.1,x.2.2))))(g:L.Pairwise (λx y=>x.2.1<=y.2.1)):iq L=(n:Int):=by
 obtain⟨h1,d,b⟩:=EH h g L.length (cp _);rw[il]at h1 d b;rcases ai7 b with hlt|k
 .exfalso;have hend:∀z∈L,z.2.1+z.2.2<=iq L:=λz hz=>by grind[oQ]
  by_cases c:L.length=0;·obtain rfl:=P6.1 c;obtain⟨z,hz,_⟩:=h.zero ae;simp at hz
  .obtain⟨p,a⟩:∃p,L[L.length -1]?=ab p:=⟨_,cm ae⟩;have j:=(h1 _ p ae a).1;have e:=Bz a;rw[show L.length -1+1=L.length by omega,il]at e;obtain⟨z,hz,f⟩:=h.next (p.2.1,p.2.2) (gN.2 ⟨p,cM a,aa⟩) ae;obtain⟨y,i,rfl⟩:=gN.1 hz;have:=hend y i;simp only at f;omega
 .omega
def aeP{n ms}(h:Lays n (ms.map b'))(l:(n:Int)<=4611686018427387903):Kj n ms:=by have a:=h.perm (Fh ms).symm;refine⟨λpre x i=>?_,SO a (Cz ms)⟩;obtain⟨h1,d⟩:=aes i;have hk:=(eR.1 h1).1;obtain⟨e,j,k⟩:=EH a (Cz ms) (pre.length+1) hk;obtain⟨_,c,_⟩:=EH a (Cz ms) pre.length ae;have b:=(e _ x ae h1).1;have f:=Bz h1;have g:=a.pos _ (gN.2 ⟨x,cM h1,aa⟩);simp only at g;rw[d]at b c f;exact⟨b,c,ae,ae⟩
def am6{ms off}(h:¬tW ms off<0):∃m∈ms,hasB m off=true:=by grind[tW]
theorem yj{m off}:hasB m off=aB↔m.to<=off/\off<m.to+cS m:=by grind[hasB]
def og.fits{o n:Nat}{ms}(h:og (o:Int) (n:Int) ms):∀m∈ms,jc o n m:=λm a=>aer (h.bE m a)
def og.lays{o n:Nat}{ms}(h:og (o:Int) (n:Int) ms):Lays n (ms.map b'):=by
 have c:∀m∈ms,0<=m.to/\0<cS m/\m.to+cS m<=(n:Int):=λm a=>by obtain⟨h1,_,d⟩:=h.fits m a;exact⟨h1.b'.1,h1.b'.2.1,d⟩
 have f:=λt b hlt=>by have h1:=h.Zf t b;unfold ow at h1;rw[decide_eq_true hlt,Bool.true_and]at h1;exact am6 (of_decide_eq_false h1)
 refine⟨λx hx=>?_,?_,λr=>?_,λx hx hlt=>?_⟩;·obtain⟨m,a,rfl⟩:=gN.1 hx;exact c m a
 .rw[xW,l3];intro i j hi g l;have h1:=h.ap j i _ _ l (cm g) (cm hi);have q:=c _ (Dy hi);have d:=c _ (Dy g);unfold meets at h1;have k:=of_decide_eq_false h1;simp only[b']at k⊢;omega
 .obtain⟨m,a,h1⟩:=f 0 (cQ _) (by show(0:Int)<n;omega);exact⟨_,gN.2 ⟨m,a,aa⟩,yj.1 h1⟩
 .obtain⟨m,a,rfl⟩:=gN.1 hx;obtain⟨t,b⟩:=oQ.1 a;have e:EW ms (t+1)=m.to+cS m:=by simp only[EW,b]
  obtain⟨y,p,h1⟩:=f (t+1) (eR.1 b).1 (by rw[e];exact hlt);rw[e]at h1;exact⟨_,gN.2 ⟨y,p,aa⟩,yj.1 h1⟩
def og.p8{o n:Nat}{ms}(h:og (o:Int) (n:Int) ms)(a:ms.length<=20):nC o n ms:=
 ⟨h.bd.2.1,h.bd.2.2,h.fits,aeP h.lays h.bd.2.2,a⟩
def aeB{n ms}(h:Lays n (ms.map b'))i(a:0<=i):∀k,k<=(hR ms).length->i<iq ((hR ms).take k)->∃m∈ms,hasB m i=aB
 |0,_,hi=>by grind[iq]
 |k+1,hk,hi=>by
  obtain⟨x,hx⟩:∃x,(hR ms)[k]?=ab x:=⟨_,cm ae⟩;have h1:=((EH (h.perm (Fh ms).symm) (Cz ms) _ hk).1 k x ae hx).1;have b:=Bz hx;by_cases hlt:i<iq ((hR ms).take k);·exact aeB h i a k ae hlt
  .have c:=(Fh ms).mem_iff.1 (gN.2 ⟨x,cM hx,aa⟩);grind[b',yj]
def Lays.KH{n}{ms:List bI}(h:Lays n (ms.map b'))i(hi:i<n):∃m∈ms,hasB m (i:Int)=true:=by have h1:=SO (h.perm (Fh ms).symm) (Cz ms);exact aeB h (i:Int) ae (hR ms).length (cp _) aG
theorem Lays.js{n ms}(h:Lays n (ms.map b')){m}(c:m∈ms){x}(hx:hasB m x=aB)old:js old ms x=wH old x m:=by
 unfold Go.Proofs.YtcmhplknoglbkaaGreat.js;have f:(ms.find? (λm=>hasB m x)).isSome=true:=List.find?_isSome.2 ⟨m,c,hx⟩;obtain⟨y,a⟩:=Option.isSome_iff_exists.1 f;rw[a];have d:=List.find?_some a;have g:=ajg a;simp only at d⊢;suffices e:y=m by rw[e]
 obtain⟨i,hi,rfl⟩:=Kb.1 c;obtain⟨j,o,rfl⟩:=Kb.1 g;have l:=l3.1 (xW.1 h.apart);have h1:=yj.1 hx;have k:=yj.1 d;rcases Nat.lt_trichotomy i j with b|b|b;·grind[b']
 .grind
 .grind[b']
def adg{o n old ms}(d:old.length=o)(h:Lays n (ms.map b')){m}(c:m∈ms)(b:jc o n m)(q:Nat)(f:m.to=(q:Int)):fO old m=(dG (fO old m).length).map (λj:Nat=>js old ms ((q+j:Nat):Int)):=by
 refine wy λj=>?_;by_cases a:j<(fO old m).length
 .have e:=GH b d;rw[kB,J9 a];simp only[oT];rw[h.js c (yj.2 ⟨ae,ae⟩) _];unfold wH;unfold fO at a⊢;by_cases hk:m.k=1;·rw[if_pos hk]at a⊢;rw[if_pos hk,show(m.fr+((q+j:Nat):Int) -m.to).toNat=m.fr.toNat+j by have:=(b.1.copy hk).1;omega];grind
  .grind
 grind
def adk{o n old ms}(d:old.length=o)(h:Lays n (ms.map b'))(b:∀m∈ms,jc o n m):∀k,k<=(hR ms).length->∃e:Nat,iq ((hR ms).take k)=(e:Int)/\(r3 ms ((hR ms).take k)).flatMap (fO old)=nQ old ms e
 |0,_=>⟨0,aT,aT⟩
 |k+1,hk=>by
  obtain⟨e,p,g⟩:=adk d h b k ae;obtain⟨x,hx⟩:∃x,(hR ms)[k]?=ab x:=⟨_,cm ae⟩;have h1:=((EH (h.perm (Fh ms).symm) (Cz ms) _ hk).1 k x ae hx).1;have l:=Bz hx;have j:=aeA (cM hx);obtain⟨m,a⟩:∃m,ms[x.1]?=ab m:=⟨_,cm j⟩;have c:=cM a
  have q:x.2.1=m.to/\x.2.2=cS m:=by obtain⟨i,_,rfl⟩:=gN.1 (cM hx);simp only at a;simp[mR,L9,a]
  have hbl:=GH (b m c) d;have f:=adg d h c (b m c) e ae;refine⟨e+(fO old m).length,ae,?_⟩;rw[fv,hx,xX,aeb a,List.flatMap_append,g];simp;rw[f];unfold nQ;rw[List.range_add,gy,Gs,List.length_map,List.length_range];rfl
def ass{o n old ms}(c:old.length=o)(h:Lays n (ms.map b'))(b:∀m∈ms,jc o n m):vI old ms=nQ old ms n:=by obtain⟨e,h1,a⟩:=adk c h b (hR ms).length (cp _);rw[il]at h1 a;rw[SO (h.perm (Fh ms).symm) (Cz ms)]at h1;obtain rfl:n=e:=ae;rw[aea]at a;exact a
def arQ{a b q i}(h:q+b.length<=a.length)(h1:q<=i)(c:i<q+b.length):(ig a q b)[i]?=b[i -q]?:=by grind[ig]
def arR{a b q i}(h:q+b.length<=a.length)(h1:i<q\/q+b.length<=i):(ig a q b)[i]?=a[i]?:=by
 unfold ig;rcases h1 with h1|h1;·grind
 .rw[oa aG,List.length_append,oP,zt ae,Dx];congr 1;omega
def zA(old:List Int)(n:Nat)(f:Nat->Int)(y:bI)(q:Nat):Prop:=y.to=(q:Int)/\q+(fO old y).length<=n/\fO old y=(dG (fO old y).length).map (λj=>f (q+j))
def zA.get{old n f y q}(h:zA old n f y q){i}(h1:q<=i)(a:i<q+(fO old y).length):(fO old y)[i -q]?=ab (f i):=by rw[h.2.2,kB,J9 ae];simp only[oT];congr 2;omega
def ac3{old n f i}(hi:i<n):∀(l:List bI) a,a.length=n->(∀y∈l,∃q,zA old n f y q)->(a[i]?=ab (f i)\/∃y∈l,∃q,zA old n f y q/\q<=i/\i<q+(fO old y).length)->(l.foldl (λa m=>ig a m.to.toNat (fO old m)) a)[i]?=ab (f i)
 |[],a,_,_,h=>h.elim id (λ⟨y,b,_⟩=>aG)
 |m::r,a,j,d,h=>by
  obtain⟨q,c⟩:=d m aU;have k:=c.2.1;have e:m.to.toNat=q:=by have:=c.1;omega
  refine ac3 hi r _ (by grind[Ai]) (λy b=>d y aG) ?_;simp only;rw[e];by_cases hc:q<=i/\i<q+(fO old m).length;·exact bJ (by rw[arQ ae hc.1 hc.2];exact c.get hc.1 hc.2)
  .rw[arR ae ae];rcases h with h|⟨y,b,MF,hq',h1,h2⟩;·grind
   .rcases gz.1 b with rfl|b;·exfalso;have g:=hq'.1;omega
    .grind
def ar8{old n f l}(c:∀y∈l,∃q,zA old n f y q)(hc:∀i,i<n->∃y∈l,∃q,zA old n f y q/\q<=i/\i<q+(fO old y).length):sZ old n l=(dG n).map f:=by
 have hlen:(sZ old n l).length=n:=by
  have key:∀(l:List _) a,a.length=n->(∀y∈l,∃q,zA old n f y q)->(l.foldl (λa m=>ig a m.to.toNat (fO old m)) a).length=n:=by
   intro l;induction l with
   |nil=>simp
   |cons m r g=>
    intro a d h;refine g _ ?_ (λx hx=>h x aG);obtain⟨q,b⟩:=h m aU;have e:m.to.toNat=q:=by have:=b.1;omega
    have:=b.2.1;simp only;rw[e,Ai ae];exact d
  exact key l _ aU c
 refine wy λi=>?_;by_cases hi:i<n;·rw[kB,J9 hi];exact ac3 hi l _ aU c (b3 (hc i hi))
 grind
def P'(n:Int)(e:Int×Int):Prop:=(0<=e.1/\e.1<n)/\(0<=e.2/\e.2<n)/\e.1≠e.2
def aqR{n E e x}:x∈G.pF n E e↔x∈E\/(x=e/\P' n e):=by grind[G.pF,P',G.canAdd,G.pZ]
def ach{n x}:∀{l E},x∈G.jj n E l↔x∈E\/(x∈l/\P' n x)
 |[],E=>by simp[G.jj]
 |e::r,E=>by
  have h:G.jj n E (e::r)=G.jj n (G.pF n E e) r:=rfl;rw[h,ach,aqR];constructor
  .rintro((h|⟨rfl,h⟩)|⟨h1,h2⟩);·exact bJ h
   .exact b3 ⟨aU,h⟩
   .exact b3 ⟨by simp[h1],h2⟩
  .rintro(h|⟨h1,h2⟩);·exact bJ (bJ h)
   .rcases gz.1 h1 with rfl|h1;·exact bJ (b3 ⟨aa,h2⟩)
    .exact b3 ⟨h1,h2⟩
theorem GV{ms i j}:sI ms i j=aB↔∃m y,ms[i]?=ab m/\ms[j]?=ab y/\i≠j/\m.k=1/\meets (src m) (b' y)=true:=by grind[sI]
def Je(ms:List bI)(e:Int×Int):Prop:=∃i j:Nat,e=((i:Int),(j:Int))/\sI ms i j=aB
theorem Q3{ms i j}(h:sI ms i j=aB):i<ms.length/\j<ms.length/\i≠j:=by grind[GV]
def Mf{ms e}:e∈mi ms ms.length↔Je ms e:=by unfold mi qR Je;grind[Q3]
def aci{ms S}(p:S.Perm (iG (ms.map b'))){e}:e∈sF ms S↔Je ms e:=by
 unfold sF;rw[ach]
 have o:∀i j:Nat,i<ms.length->(((i:Int),(j:Int))∈x8 ms S i↔∃m y,ms[i]?=ab m/\ms[j]?=ab y/\m.k=1/\meets (src m) (b' y)=aB):=λi j hi=>by
  obtain⟨m,c⟩:∃m,ms[i]?=ab m:=⟨_,cm hi⟩;by_cases hk:m.k=1
  .rw[QJ c hk];unfold E2 parts;simp only[gN,mZ];constructor
   .rintro⟨_,⟨_,⟨x,⟨hx,mG⟩,rfl⟩,rfl⟩,e⟩;injection e with bD b9;obtain⟨k,h1,d⟩:=Ab.1 (p.mem_iff.1 hx);have:k=j:=ae;subst this;rw[kB]at h1;cases hy:ms[k]? with
    |none=>grind
    |some y=>
     rw[hy]at h1;injection h1 with h1;exact⟨m,y,c,aa,hk,by rw[h1,EO];exact mG⟩
   .rintro⟨aV,y,ys,hy,_,mG⟩;rw[c]at ys;injection ys with ys;subst ys;exact⟨(j:Int),⟨((j:Int),kM (b' y) (m.fr,m.n)),⟨(b' y,(j:Int)),⟨p.mem_iff.2 (Ab.2 ⟨j,aG,aa⟩),by rw[EO];exact mG⟩,aa⟩,aa⟩,aa⟩
  grind[QK]
 constructor
 .rintro(h|⟨h,h1,d,l⟩);·grind
  .unfold l5 at h;obtain⟨i,hi,c⟩:=Ka.1 h;have hi':=m'.1 hi;obtain⟨a,b⟩:=e;simp only at h1 d l;obtain⟨j,rfl⟩:=Int.eq_ofNat_of_zero_le d.1
   have r:a=(i:Int):=by
    obtain⟨m,s⟩:∃m,ms[i]?=ab m:=⟨_,cm hi'⟩;by_cases hk:m.k=1;·rw[QJ s hk]at c;unfold E2 at c;grind
    .grind[QK]
   subst r;obtain⟨m,y,g1,g2,g,f⟩:=(o i j hi').1 c;exact⟨i,j,aa,GV.2 ⟨m,y,g1,g2,ae,g,f⟩⟩
 .rintro⟨i,j,rfl,he⟩;obtain⟨h1,d,l⟩:=Q3 he;obtain⟨m,y,g1,g2,g,f,q⟩:=GV.1 he;refine b3 ⟨Ka.2 ⟨i,m'.2 h1,(o i j h1).2 ⟨m,y,g1,g2,f,q⟩⟩,⟨?_,?_,?_⟩⟩<;>simp only<;>omega
def Q4{ms E}(h:∀e,e∈E↔Je ms e):G.Valid ms.length E:=λe a=>by obtain⟨i,j,rfl,hb⟩:=(h e).1 a;obtain⟨h1,b,c⟩:=Q3 hb;refine⟨?_,?_,?_⟩<;>simp only<;>omega
def og.ak2{o n:Nat}{ms}(h:og (o:Int) (n:Int) ms)(p:ms.length<=20):FA ms:=
 ⟨ae,⟨λe k=>by
   obtain⟨m,f,rfl⟩:=gN.1 k;have h1:=(h.fits m f).1.b';exact⟨⟨h1.1,Dp h1.2.1,h1.2.2⟩,h1.2.1⟩,λi j x y l hx c=>by
   rw[kB]at hx c;cases h1:ms[i]? with
   |none=>grind
   |some a=>
    cases d:ms[j]? with
    |none=>grind
    |some b=>
     rw[h1]at hx;rw[d]at c;injection hx with hx;injection c with c;rw[<-hx,<-c];exact h.ap i j a b l h1 d⟩,λm f hk=>by
   obtain⟨h1,d,g,_⟩:=(h.fits m f).1.copy hk;exact⟨h1,Dp d,g⟩⟩
def ade{E v x}(h:G.Path E v x):∃y,(v,y)∈E:=Tl h
structure Choice (ms:List bI) (S:List jQ) (o od ou:List Int):Prop where
 iF:Conv ms S o od
 Ae:o.Nodup
 DO:∀x∈o,∃(i:Nat) (m:bI),x=(i:Int)/\ms[i]?=ab m/\m.k=1
 ord:G.mx (mi ms ms.length) ms.length [] ou
 free:decide (G.kp ms.length [] ou=[])=decide (o.length=0)
theorem ab8{ms x}:x∈jX ms ms.length↔∃(i:Nat) (m:bI),x=(i:Int)/\ms[i]?=ab m/\m.k=2:=by unfold jX;grind[isLit]
def akL{o n:Nat}{ms}(h:og (o:Int) (n:Int) ms)(F:ms.length<=20):∃S ev od ou,Choice ms S ev od ou:=by
 have hc:=h.ak2 F;obtain⟨S,w,C⟩:=Zd hc.right;have g:=λe=>aci w (e:=e);have d:=Q4 g
 have s:∀x y,(x,y)∈sF ms S->∃(i:Nat) (m:bI),x=(i:Int)/\ms[i]?=ab m/\m.k=1:=λx y c=>by obtain⟨i,j,e,hb⟩:=(g _).1 c;injection e with bD b9;obtain⟨m,y,g1,_,_,A,_⟩:=GV.1 hb;exact⟨i,m,bD,g1,A⟩
 obtain⟨ev,xs,hch⟩:=G.akN d (ms.map (·.n)) (jX ms ms.length)
 have M:xs=[]:=by
  refine Du.2 λx hx=>?_;have h1:=hch.2.2;rw[G.Qq]at h1;have f:x∉G.kept xs (jX ms ms.length):=by rw[h1];simp
  rw[G.SV]at f;have B:=UE λI=>f ⟨hx,I⟩;obtain⟨y,r⟩:=ade ((hch.2.1.2 x).1 hx);obtain⟨i,m,rfl,H,hk⟩:=s x y (G.sV.1 r).1;obtain⟨N,P,e,l,hk2⟩:=ab8.1 B;obtain rfl:i=N:=ae;rw[H]at l;injection l with l;subst l;omega
 subst M;obtain⟨od,v⟩:=G.acU (sF ms S) ms.length (jX ms ms.length++ev);obtain⟨bo,hx2⟩:=G.GS d (jX ms ms.length++ev)
 have L:=Du.2 λx hx=>by
  have h1:=(hx2.2 x).1 hx
  have f:G.Path (G.cut _ ev) x x:=h1.mono λe c=>by obtain⟨a,b⟩:=e;obtain⟨g1,g2,z⟩:=G.sV.1 c;exact G.sV.2 ⟨g1,λh=>g2 (by simp[h]),λh=>z (by simp[h])⟩
  exact absurd ((hch.2.1.2 x).2 f) aU
 have J:=hch.1.nodup d;obtain⟨O,hx0⟩:=G.GS d [];have t:=hch.1.alB hx0;obtain⟨ou,u⟩:=G.acU (mi ms ms.length) ms.length [];have D:=Q4 (λe=>Mf (ms:=ms) (e:=e))
 have K:G.kA (mi ms _) [] O:=⟨hx0.1,λx=>by rw[hx0.2 x,G.GR,G.GR];exact⟨λp=>p.mono λe c=>Mf.2 ((g e).1 c),λp=>p.mono λe c=>(g e).2 (Mf.1 c)⟩⟩;have E:=u.adG D K;refine⟨S,ev,od,ou,⟨hc,w,C,hch,v,(v.adG d hx2).2 L,?_⟩,J.1,λx hx=>?_,u,?_⟩;·have:=hch.1.length d;omega
 .have h1:=(hx0.2 x).1 (t x hx);rw[G.GR]at h1;obtain⟨y,r⟩:=ade h1;exact s x y r
 .have:(G.kp ms.length [] ou=[])↔ev.length=0:=by
   rw[E,P6];constructor;·rintro rfl;exact Du.2 λx hx=>absurd (t x hx) aU
   .rintro rfl;exact hx0.unique hch.2.1
  by_cases q:ev.length=0;·rw[decide_eq_true q,decide_eq_true (this.2 q)]
  .rw[decide_eq_false q,decide_eq_false (λh=>q (this.1 h))]
def YT{o n old ev m i}(h:jc o n m)(c:old.length=o):b' (jJ old ev i m)=b' m:=by
 unfold jJ;by_cases hc:m.k=1/\(i:Int)∈ev;·rw[if_pos hc];obtain⟨h1,a,_⟩:=h.1.copy hc.1;have b:=h.2.1 hc.1;grind[b',cS]
 .grind
theorem Q8{o n old ev m i}(h:jc o n m)(c:old.length=o):jc o n (jJ old ev i m):=by
 have a:=YT (ev:=ev) (i:=i) h c;unfold jJ at a⊢;by_cases hc:m.k=1/\(i:Int)∈ev;·rw[if_pos hc]at a⊢;obtain⟨h1,d,_⟩:=h.1.copy hc.1;have e:=h.2.1 hc.1;have b:=h.1.b';have f:=h.2.2;unfold b' at a;injection a with _ a;have hlen:cS (⟨2,m.to,0,0,(old.drop m.fr.toNat).take m.n.toNat⟩:bI)=(((old.drop m.fr.toNat).take m.n.toNat).length:Int):=aT;rw[hlen]at a;refine⟨b3 ⟨aa,⟨b.1,ae,aG⟩,rfl,rfl,aG⟩,λhk=>absurd hk (show¬(2:Int)=1 by decide),ae⟩
 .grind
def Q7{old ev m i}:fO old (jJ old ev i m)=fO old m:=by grind[jJ,fO]
def amJ{old ev m i}:(jJ old ev i m).to=m.to:=by grind[jJ]
theorem M0{old ev ms}i:(kd old ev ms)[i]?=(ms[i]?).map (jJ old ev i):=by grind[kd]
def IG{old ev ms}:(kd old ev ms).length=ms.length:=by grind[kd]
def aeL{o n old ev ms}(a:∀m∈ms,jc o n m)(b:old.length=o):(kd old ev ms).map b'=ms.map b':=by
 refine wy λi=>?_;rw[kB,kB,M0];cases hm:ms[i]? with
 |none=>rfl
 |some m=>
  simp only[oT];rw[YT (a m (cM hm)) b]
def Ez(m:bI):Bool:=decide (m.k=1)
def auv{l}(h:∀m∈l,m.k=1\/m.k=2):(l.filter Ez++lits l).Perm l:=by
 have e:lits l=l.filter (λm=>!Ez m):=List.filter_congr λm a=>by grind[Ez]
 rw[e];exact List.filter_append_perm _ _
def YZ{o n m}(h:jc o n m):m.k=1\/m.k=2:=by
 rcases h.1 with h|h;·omega
 .omega
def ab3(ms:List bI)(ev:List Int)(v:Int):Bool:=!decide (v∈jX ms ms.length++ev)
def ark{N E s od}(h:G.mx E N s od)(b:G.kp N s od=[]):od.Perm ((G.du N).filter (λv=>!decide (v∈s))):=by
 refine(List.perm_ext_iff_of_nodup h.1.nodup.1 ((G.z' (G.CG N)).filter _)).2 λv=>?_;rw[mZ,G.qK];constructor;·intro hv;obtain⟨h1,a⟩:=h.1.nodup.2 v hv;exact⟨h1,by simp[a]⟩
 .rintro⟨h1,a⟩;refine UE λc=>?_;have:=G.Cf.2 ⟨h1,by simpa using a,c⟩;rw[b]at this;cases this
def ae5 j:G.du (j+1)=G.du j++[(j:Int)]:=by grind[G.du,pB]
def acT{o n old ev ms}(a:∀m∈ms,jc o n m):∀j,j<=ms.length->((G.du j).filter (ab3 ms ev)).filterMap (λx=>ms[x.toNat]?)=((kd old ev ms).take j).filter Ez
 |0,_=>by rfl
 |j+1,e=>by
  obtain⟨m,b⟩:∃m,ms[j]?=ab m:=⟨_,cm ae⟩;have c:(kd old ev ms)[j]?=ab (jJ old ev j m):=by grind[M0]
  rw[ae5,pz,List.filterMap_append,acT a j ae,fv,c,pz];congr 1;have f:(j:Int)∈jX ms ms.length↔m.k=2:=by grind[ab8]
  have hk:=YZ (a m (cM b));unfold ab3 jJ Ez;simp only[List.mem_append,xX];by_cases d:m.k=1;·grind
  .grind
def arF{o n old ev od ms S}(a:∀m∈ms,jc o n m)(hc:Conv ms S ev od):(fE ms od).Perm ((kd old ev ms).filter Ez):=by have h1:=acT (old:=old) (ev:=ev) a _ (cp _);rw[<-IG (old:=old) (ev:=ev),il,IG]at h1;rw[<-h1];exact(ark hc.ord hc.all).filterMap _
def aqw{o n old ev ms}(e:∀m∈ms,jc o n m)(k:old.length=o)(p:Lays n (ms.map b')):∃rs,Bb old ms ev rs:=by
 obtain⟨L,c⟩:=ex (lits (kd old ev ms))
 have hap:L.Pairwise (λx y=>x.to+cS x<=y.to\/y.to+cS y<=x.to):=by rw[<-c];have h1:=p.apart;rw[<-aeL (ev:=ev) e k,xW]at h1;exact W6 _ h1
 have l:∀m∈L,0<cS m:=λm g=>by rw[<-c]at g;obtain⟨i,x,hx,rfl⟩:=IH (mZ.1 g).1;exact(Q8 (e x (cM hx)) k).1.b'.2.1
 have b:(oG L).Perm L:=by
  unfold oG;refine((acR L).filterMap _).trans (ajc ?_)
  have key:∀j,j<=L.length->(dG j).filterMap (λi=>L[i]?)=L.take j:=by
   intro j;induction j with
   |zero=>simp
   |succ j t=>grind[pB,fv]
  rw[key _ (cp _),il]
 refine⟨oG L,aG,?_⟩;have d:=(b.symm.pairwise_iff (λh=>h.symm)).1 hap;have hle:(oG L).Pairwise (λx y=>x.to<=y.to):=by grind[oG,acS,mR]
 rw[l3]at d hle⊢;intro i j hi a f;have h1:=d i j hi a f;have q:=hle i j hi a f;have r:=l _ (b.mem_iff.1 (Dy hi));have s:=l _ (b.mem_iff.1 (Dy a));omega
def alb{o n old ev od ms rs S}(a:∀m∈ms,jc o n m)(c:old.length=o)(hc:Conv ms S ev od)(hr:Bb old ms ev rs):(fE ms od++rs).Perm (kd old ev ms):=
 ((arF a hc).append hr.perm).trans (auv λm b=>by obtain⟨i,x,hx,rfl⟩:=IH b;exact YZ (Q8 (a x (cM hx)) c))
def ak9{o n old ev}{ms l:List bI}(a:∀m∈ms,jc o n m)(b:old.length=o)(c:l.Perm (kd old ev ms)):∀m∈l,jc o n m:=by grind[IH,Q8,cM]
def ale{o n old ev ms l}(c:∀m∈ms,jc o n m)(d:old.length=o)(f:Lays n (ms.map b'))(a:l.Perm (kd old ev ms))(e:ms.length<=20)(h1:(o:Int)<=4611686018427387903)(b:(n:Int)<=4611686018427387903):nC o n l:=
 ⟨h1,b,ak9 c d a,aeP (f.perm (by rw[<-aeL (ev:=ev) c d];exact(a.map _).symm)) b,by rw[a.length_eq,IG];exact e⟩
def ala{o n old ev ms l}(c:∀m∈ms,jc o n m)(g:old.length=o)(k:Lays n (ms.map b'))(r:l.Perm (kd old ev ms)):sZ old n l=nQ old ms n:=by
 have s:∀(i) m,ms[i]?=ab m->∃q,zA _ n (λi:Nat=>js _ ms _) (jJ _ ev i m) q/\m.to=(q:Int):=λi m b=>by have d:=cM b;obtain⟨q,a,h1,_⟩:=(c m d).at g;have h:=adg g k d (c m d) q a;exact⟨q,⟨by rw[amJ];exact a,by rw[Q7];exact h1,by rw[Q7];exact h⟩,a⟩
 refine ar8 (f:=λi:Nat=>js _ ms _) (λy t=>?_) (λi hi=>?_);·obtain⟨j,m,b,rfl⟩:=IH (r.mem_iff.1 t);obtain⟨q,a,_⟩:=s j m b;exact⟨q,a⟩
 .obtain⟨m,b,hb⟩:=k.KH i hi;obtain⟨j,p⟩:=oQ.1 b;obtain⟨q,a,e⟩:=s j m p;have h1:=yj.1 hb;have h:=GH (c m b) g;refine⟨_,r.mem_iff.2 (cM (by rw[M0,p];rfl)),q,a,ae,?_⟩;rw[Q7];omega
def ali{a b}(h:a.Perm b):lv a=lv b:=by
 unfold lv;induction h with
 |nil=>rfl
 |cons x _ d=>grind
 |swap x y l=>grind
 |trans _ _ h1 c=>omega
def anu{ms a b}(h:a.Perm b):nf ms a=nf ms b:=by
 unfold nf;induction h with
 |nil=>rfl
 |cons x _ d=>grind
 |swap x y l=>grind
 |trans _ _ h1 c=>omega
def aeO{old ev ms}(c:∀x∈ev,∃(i:Nat) (m:bI),x=(i:Int)/\ms[i]?=ab m/\m.k=1):∀j,j<=ms.length->lv ((kd old ev ms).take j)+nf ms ((G.du j).filter (λv=>decide (v∈ev)))=lv (ms.take j)
 |0,_=>by rfl
 |j+1,o=>by
  have l:=aeO (old:=old) c j ae;obtain⟨m,d⟩:∃m,ms[j]?=ab m:=⟨_,cm ae⟩;have h:(kd old ev ms)[j]?=ab (jJ old ev j m):=by grind[M0]
  rw[QO h,QO d,<-l,ae5,pz];by_cases b:(j:Int)∈ev
  .obtain⟨i,p,e,a,hk⟩:=c _ b;obtain rfl:i=j:=ae;rw[d]at a;injection a with a;subst a
   have h1:nG (jJ old ev i m)=0:=by rw[show jJ _ ev i m=⟨2,_,0,0,_⟩from if_pos ⟨hk,b⟩];exact if_neg (show¬(2:Int)=1 by decide)
   have f:nG m=m.n:=if_pos hk;have g:Cg ms (i:Int)=m.n:=by grind[Cg]
   rw[h1,f];simp only[nf,gy,List.sum_append,List.filter_cons,b,decide_true,if_true,List.filter_nil,List.map_cons,List.map_nil,List.sum_cons,List.sum_nil,g];omega
  .have h1:jJ old ev j m=m:=by grind[jJ]
   grind
def ald{old ev ms l}(b:∀x∈ev,∃(i:Nat) (m:bI),x=(i:Int)/\ms[i]?=ab m/\m.k=1)(d:ev.Nodup)(c:l.Perm (kd old ev ms)):lv l=lv ms -nf ms ev:=by
 have h1:=aeO (old:=old) b _ (cp _);rw[il,<-IG (old:=old) (ev:=ev),il,IG]at h1;have a:ev.Perm ((G.du ms.length).filter (λv=>decide (v∈ev))):=by grind[G.z',G.CG,G.qK]
 rw[ali c,anu a];omega
def Te{ms}:∀{od},(∀x∈od,∃i:Nat,x=(i:Int)/\i<ms.length)->∀(j:Nat) m,(fE ms od)[j]?=ab m->∃a:Nat,od[j]?=ab (a:Int)/\ms[a]?=ab m
 |[],_,j,m,h=>by grind[fE]
 |x::r,hx,j,m,h=>by
  obtain⟨i,rfl,hi⟩:=hx x aU
  have e:fE ms ((i:Int)::r)=ms[i]::fE ms r:=by unfold fE;rw[List.filterMap_cons,Int.toNat_natCast,cm hi]
  rw[e]at h;cases j with
  |zero=>
   refine⟨i,aa,?_⟩;rw[cm hi];exact h
  |succ j=>exact Te (λy b=>hx y (by simp[b])) j m h
def aqz{l m}(h:m∈lits l):m.k=2:=of_decide_eq_true (mZ.1 h).2
def arI{E N s od}(h:G.kl E N s od){i j:Nat}{a b}(c:od[i]?=ab a)(hb:od[j]?=ab b)(d:(a,b)∈E):i<j:=by obtain⟨f,e⟩:=eR.1 hb;obtain⟨hi,hai⟩:=eR.1 c;have h1:=(h.at (od.take j) b (od.drop (j+1)) (by grind[List.getElem_cons_drop,oR])).1.2.2.2 a d;have g:=h.nodup;grind[oQ,Xb]
def alc{o n old ev od ms rs S}(s:∀m∈ms,jc o n m)(hc:Conv ms S ev od)(hr:Bb old ms ev rs)(f:∀x∈od,∃i:Nat,x=(i:Int)/\i<ms.length):
 ∀(i j:Nat) (m y),j<i->(fE ms od++rs)[i]?=ab m->(fE ms od++rs)[j]?=ab y->m.k=1->∀off,m.fr<=off->off<m.fr+m.n->hasB y off=false:=λi j m y t c g hk off h1 q=>by
 have hi:i<(fE ms od).length:=by refine UE λu=>?_;rw[oa ae]at c;have:=aqz (hr.perm.mem_iff.1 (cM c));omega
 rw[tB hi]at c;rw[tB ae]at g;obtain⟨a,d,l⟩:=Te f i m c;obtain⟨b,hb,p⟩:=Te f j y g;refine afA.2 λhh=>?_;have r:=yj.1 hh
 have hab:a≠b:=λe=>by subst e;have:=(Xb (eR.1 d).1 hc.ord.1.nodup.1).1 (d.trans hb.symm);omega
 have h:=(aci hc.perm).2 ⟨a,b,aa,GV.2 ⟨m,y,l,p,hab,hk,by grind[meets,src,b']⟩⟩;have:=arI hc.ord.1 d hb h;omega
def atV{l}(g:∀(i j:Nat) (m y),j<i->l[i]?=ab m->l[j]?=ab y->m.k=1->∀off,m.fr<=off->off<m.fr+m.n->hasB y off=au):Ap l=(0,0):=by
 have h:qQ l=l.length:=adn λi hi=>by
  unfold xg;rw[cm hi];simp only;unfold Cu;refine afA.2 λhr=>?_;simp only[vO,decide_eq_true_eq,List.any_eq_true]at hr;obtain⟨hk,e,b,d⟩:=hr;obtain⟨y,o,rfl⟩:=gN.1 b;obtain⟨j,a⟩:=oQ.1 o;rw[su]at a;split at a;·rename_i c;have f:=of_decide_eq_true d;simp only[b']at f;have:=g i j _ y c (cm hi) a hk (max (l[i]).fr y.to) ae ae;rw[yj.2 ⟨ae,ae⟩]at this;cases this
  .cases a
 unfold Ap;rw[h,if_neg (Nat.lt_irrefl _)]
def akq{old ms}(h1:jG old)(a:∀m∈ms,jG m.data)n:jG (nQ old ms n):=by grind[nQ,jG,cM,js,hasB,wH,ajg]
def auM{o}{n:Nat}{old ms}(hb1:jG old)(hb2:∀m∈ms,jG m.data)(q:old.length<=300)(d:ms.length<=20)(h:og o (n:Int) ms)(k:o=(old.length:Int)):∃S ev od rs ou,Xp old ms n S ev od rs ou:=by
 subst k;have a:=h.fits;have b:=h.lays;obtain⟨S,ev,od,ou,hc⟩:=akL h d;obtain⟨rs,hr⟩:=aqw (ev:=ev) a aa b
 have g:∀x∈od,∃i:Nat,x=(i:Int)/\i<ms.length:=λx hx=>by obtain⟨h1,_⟩:=hc.iF.ord.1.nodup.2 x hx;exact⟨x.toNat,ae,ae⟩
 have f:=alb a aa hc.iF hr
 have j:=alc a hc.iF hr g
 refine⟨S,ev,od,rs,ou,h.p8 d,b.KH,ass aa b a,⟨hc.iF,g,?_,λm c hk=>?_,hr⟩,ale a aa b f d h.bd.2.1 h.bd.2.2,atV j,j,ala a aa b f,ald hc.DO hc.Ae f,λx hx=>?_,Q4 (λe=>Mf),hc.ord,hc.free,akq hb1 hb2 n⟩
 .have:=hc.iF.ord.1.length;omega
 .obtain⟨h1,l,_⟩:=(a m c).1.copy hk;have p:=(a m c).2.1 hk;exact⟨m.fr.toNat,m.n.toNat,ae,ae,ae⟩
 .obtain⟨i,m,rfl,c,_⟩:=hc.DO x hx;exact⟨i,aa,(eR.1 c).1⟩
section
open Go.ChangeShapes Go.WideShapes Go.ChangeAt Go.RowKit Go.Deep
def Tryz.own:ownKnob ax.godebug=none:=aw
def Tryz.laidOut:laidOutB ax=true:=aw
def X8:ax.cellsOf 5=1:=aw
def akH:ax.cellsOf 23=32:=aw
def X7:ax.cellsOf 73=5:=aw
def akG:ax.cellsOf 26=67:=aw
def Mr{n}(h:(FD R n).wf=aB):db n:=by have h1:R.min=-9223372036854775808:=rfl;have a:R.max=9223372036854775807:=rfl;simp only[Lit.wf,vO,decide_eq_true_eq]at h;exact⟨ae,ae⟩
def au0{n}(h:(FD ea n).wf=aB):0<=n/\n<256:=by have h1:ea.min=0:=rfl;have a:ea.max=255:=rfl;grind[Lit.wf]
section
variable {H:Type} {enc:TypeId×Value->H}
def shut_bool{W base a held}b:afN enc ax W base a held 4 (.bool b) (.lit (.bool b)) []:=⟨1,aT⟩
def acO{W n held e cs x}(h:Ob enc ax W 0 n held e 22 cs=ab x):
 ∃A c l,cs=[ad A l.length c]/\bT W A l/\jG l/\l.length<=c/\c<=maxLen:=by
 rcases open_ints dJ lj X8 h with⟨rfl,_⟩|⟨a,len,cap,d,rfl,_,o,i,hz,_,hc,m⟩;·exact⟨none,0,[],aa,bT.nil,λx hx=>aG,cp _,cQ _⟩
 .have g:len<=d.length:=aG;refine⟨ab a,cap,d.take len,aG,λk=>?_,λx hx=>au0 (m x (List.mem_of_mem_take hx)),aG,i⟩;rw[oP,zt g]at k⊢;obtain⟨b,off,p⟩:=a;have hspot:=by simpa [vR]using ahL (hc 0 ae)
  subst hspot;refine⟨b,_,rfl,λj f=>?_⟩;have h1:=hc j ae;rw[add_plain]at h1;rw[h1,su,if_pos f,List.getD_eq_getElem?_getD]
def aqB{W a A n c}(hv:OP ax W .any a 22 (ad A n c)):nB W A:=λb hb=>by obtain⟨o,d,rfl⟩:=hb;simp only[OP,dJ,Cell.okWide,Cell.ok]at hv;obtain⟨_,_,_,_,row,cells,h,_⟩:=hv;grind[World.shape?]
def arB{W v held p cs x}(h:Ob enc ax W 0 v held p 73 cs=ab x):
 ∃ m A c,cs=[J R m.k,J R m.to,J R m.fr,J R m.n,ad A m.data.length c]/\qf W m A c/\rY m/\jG m.data:=by
 obtain⟨xs,n,_,_,b,hx,a⟩:=afO Tryz.underlying73 h;rw[X7]at b;match xs,hx with
 |[C,D,br,c7,ix],_=>
 match cs,b with
 |[z,B,v2,v3,v4],_=>
 have d:=a 0 _ aa;have e:=a 1 _ aa;have f:=a 2 _ aa;have g:=a 3 _ aa;have i:=a 4 _ aa;simp only[xT]at d e f g i;obtain⟨r,dT,_,CH⟩:=C0 j2 d;obtain⟨s,bD,_,w1⟩:=C0 j2 e;obtain⟨t,b9,_,w⟩:=C0 j2 f;obtain⟨u,j,_,y⟩:=C0 j2 g;obtain⟨A,c,l,o,q,hb,hlc,hc⟩:=acO i;obtain rfl:=(J7 dT).1;obtain rfl:=(J7 bD).1;obtain rfl:=(J7 b9).1;obtain rfl:=(J7 j).1;obtain rfl:=(J7 o).1;exact⟨⟨r,s,t,u,l⟩,A,c,aa,⟨q,hlc⟩,⟨Mr CH,Mr w1,Mr w,Mr y,by grind[maxLen]⟩,hb⟩
def arC{W u held o cs x}(h:Ob enc ax W 0 u held o 24 cs=ab x):
 ∃A c ms,cs=[ad A ms.length c]/\cD W A ms/\(∀m∈ms,rY m/\jG m.data):=by
 rcases open_slice Tryz.underlying24 h with⟨rfl,_⟩|⟨a,len,cap,m,n,D,w,rfl,_,z,t,C,_,hi⟩;·exact⟨_,0,[],rfl,λf=>absurd f aU,aU⟩
 .have B:len<=m:=aG
  have l:∀i,i<m->∃q:bI×Option Addr×Nat,(∀j v,[J R q.1.k,J R q.1.to,J R q.1.fr,J R q.1.n,ad q.2.1 q.1.data.length q.2.2][j]?=ab v->W.cell? ((a.add (i*5)).add j)=ab v)/\qf W q.1 q.2.1 q.2.2/\rY q.1/\jG q.1.data:=by intro i hi';obtain⟨cs',h1,e⟩:=hi i hi';rw[X7]at h1;obtain⟨_,hlen,hcell⟩:=World.cells?_some h1;obtain⟨q,A,c,rfl,p,r,s⟩:=arB e;refine⟨(q,A,c),λj v d=>?_,p,r,s⟩;have y:=(eR.1 d).1;have:=hcell j ae;rw[this];simpa using d
  obtain⟨q,g⟩:=choose_lt l;refine⟨ab a,cap,(dG len).map (λi=>(q i).1),aU,λf=>?_,λm t=>?_⟩
  .have E:0<len:=aG;obtain⟨b,off,F⟩:=a
   have hspot:=by have h1:=(g 0 ae).1 0 _ aa;simpa [vR]using ahL h1
   subst hspot;refine⟨b,_,rfl,λj m d=>?_⟩;have hj':j<len:=aG;rw[kB,J9 hj']at d;injection d with d;subst d;obtain⟨h1,e,_⟩:=g j ae;simp only[add_plain]at h1;exact⟨_,_,⟨h1 0 _ aa,h1 1 _ aa,h1 2 _ aa,h1 3 _ aa,h1 4 _ aa⟩,e⟩
  .grind
def acP{W j held d cs x}(h:Ob enc ax W 0 j held d 23 cs=ab x):∃g:dY,cs=g.l.map a':=by
 obtain⟨xs,m,_,_,f,hx,b⟩:=DataW.trod_array Tryz.underlying23 h;rw[akH]at f;rw[X8]at b
 have c:∀i,i<32->∃z,cs[i]?=ab _:=λi hi=>by
  have h1:=b i hi;rw[cm ae,Nat.mul_one]at h1;obtain⟨z,e,_⟩:=C0 lj h1;have a:((cs.drop i).take 1)[0]?=ab (a' z):=by rw[e];rfl
  rw[su,if_pos ae,Dx]at a;exact⟨z,a⟩
 obtain⟨z,hz⟩:=choose_lt c;refine⟨⟨(dG 32).map z,aU⟩,wy λi=>?_⟩;by_cases hi:i<32;·rw[hz i hi];simp[hi]
 .rw[Gr ae,Gr (by simp;omega)]
def arD{W z held r k v d p}(hv:OP ax W r k 26 v)(h:afN enc ax W 0 z held 26 v d p):
 ∃ o n g1 g2 A c ms,v=dD o n g1 g2 (ad A ms.length c)/\cD W A ms/\(∀m∈ms,rY m/\jG m.data):=by
 obtain⟨cs,rfl,_⟩:=okWide_struct FL hv;obtain⟨B,a⟩:=h;obtain⟨l⟩:=cs;simp only[OO]at a;obtain⟨xs,n,_,_,t,hx,a⟩:=afO FL a;rw[akG]at t;match xs,hx with
 |[C,D,br,c7,ix],_=>
 have b:=a 0 _ aa;have f:=a 1 _ aa;have g:=a 2 _ aa;have i:=a 3 _ aa;have j:=a 4 _ aa;simp only[xT]at b f g i j;obtain⟨x,dT,_,_⟩:=C0 j2 b;obtain⟨y,bD,_,_⟩:=C0 j2 f;obtain⟨g1,b9⟩:=acP g;obtain⟨g2,q⟩:=acP i;obtain⟨A,c,ms,s,w,u⟩:=arC j;refine⟨x,y,g1,g2,A,c,ms,?_,w,u⟩;have e:l=(l.drop 0).take 1++((l.drop 1).take 1++((l.drop 2).take 32++((l.drop 34).take 32++(l.drop 66).take 1))):=by grind[List.take_of_length_le,List.drop_drop,oR]
 unfold dD a6;congr 1;congr 1;rw[e];exact congr (congrArg Wi dT) (congr (congrArg Wi bD) (congr (congrArg Wi b9) (congr (congrArg _ q) s)))
end
end
def aqY:(((begin ax (λ_ _=>0) default).world.heap[0]?).bind Obj.row?)=ab (#[J R 0],3):=aw
def aqX{W:World}(h:W.ShapedOpen ax):∃m,W.cell? ⟨0,0,none⟩=ab (J R m):=by
 obtain⟨cs,h1,c,d⟩:=h.1 0 #[J R 0] 3 (Nat.le_of_ble_eq_true aw) aqY;obtain⟨k,a,hz,e⟩:=d aw;rw[show ax.cellTypes ax.depth 3=ab [3] by rfl]at a;injection a with a;subst a;obtain⟨l⟩:=cs;match l,c with
 |[v],_=>
  obtain⟨u,j,b⟩:=e 0 v aa;have g:3=u:=aG;subst g;clear hz;unfold Cell.ok at b;rw[j2]at b;cases v<;>simp at b;rename_i i hk;obtain⟨rfl,_⟩:=b;have f:W.cell? ⟨0,0,none⟩=ab (J R i):=by grind[World.cell?]
  exact⟨_,f⟩
abbrev MZ:=V2
def apW:laidOutB ax=true:=aw
def apX:mapsRowed ax=true:=aw
def apV:(MZ.inPlace==ax.inPlace 6)=true:=aw
def ap0:(MZ.unfollowed==ax.unfollowed 6)=true:=aw
def apZ:(MZ.recurses==ax.recurses 6)=true:=aw
def apY:(MZ.named==ax.varsNamed 6)=true:=aw
def apU:joinedFacts ax 6 Jo V3 V2=true:=by unfold joinedFacts;rw[apW,apX,apV,ap0,apZ,apY];kernel_rfl
open Go.ChangeShapes Go.WideShapes Go.ChangeAt Go.RowKit Go.Deep
def auN os(R:os.Started)z(enc:TypeId×Value->z):
 ReturnsInHanded {} Tryz.checked os 6 .any (V3.pre6 enc ax Jo V2.domain au) (V3.post enc ax Jo au aB au au):=by
 refine returnsInHanded_of_change_shaped (C:=_) Tryz.own R aw FH
  (awQ (enc:=_) (C:=_) _ ⟨#[],#[ad none 0 0,dD 0 0 dY.zero dY.zero (ad none 0 0)],[]⟩ 8 aw aw aw aw) ?_;intro W base args ds Z before y s _ _ O _;have hval:∀(j) t v,Jo.params[j]?=ab t->args[j]?=ab v->OP ax W _ _ t v:=y;have b:=s;obtain⟨p,q,r,H,rfl,_,_⟩:=s;have l:DataW.TrodAll _ ax W 0 (λ_=>aB) _ _ _ ds p:=r;rw[Tryz.params6]at l hval;obtain⟨S,T,V,X,f,g,rfl,rfl,rfl,k,h1⟩:=trodAll_two l;obtain⟨rfl,rfl⟩:=trodVars_none H;have hv0:=hval 0 22 S aa aa;have P:=hval 1 26 T aa aa;obtain⟨a0,n0,c1,rfl⟩:=okWide_slice dJ hv0;have D:=k;obtain⟨Y,u⟩:=k;obtain⟨i,b1,old,dT,hold,hby,hc0,_⟩:=acO u;have B:(ad a0 n0 c1)=ad i old.length b1:=by grind[OO]
 obtain⟨rfl,rfl,rfl⟩:a0=i/\n0=old.length/\c1=b1:=aG;have L:=aqB hv0;obtain⟨o,n,g1,g2,A,c,ms,rfl,K,w⟩:=arD P h1;clear r y dT B u;simp only[List.append_nil]at b;have M:∀x∈f,x.block<W.heap.size:=λx hx=>by simpa using b.lt x aG
 have N:∀x∈g,x.block<W.heap.size:=λx hx=>by simpa using b.lt x aG
 obtain⟨Q,a⟩:=aqX O
 have I:=
  auV Q a0 A c1 c o n g1 g2 _ ms W a hold L hc0 K (λm a=>(w m a).1) hby (λuq h1 E _ _ F G=>auM hby (λm a=>(w m a).2) h1 E F G);refine I.mono λe U ⟨y0,d⟩=>?_;subst y0;refine⟨_,aa,_,_,_,[],f++g,[],b,trodAll_mk1 (shut_bool aB),?_,aa,d.below.frame _,λh=>aG⟩;exact trodAll_mk2 (p:=f) (p':=g) (ahG Tryz.laidOut aw (of_decide_eq_true aw) D d.below M) (ahG Tryz.laidOut aw (of_decide_eq_true aw) h1 d.below N)
def tconverts_holds:Rows.TopConvertsSaid:=
 OpenClaim.holds_of_wide 6 Jo aa aa aa aa aa aa aa ⟨aa,aa,aa,aa,aa⟩ aa aa aa aa aa (by as_aux_lemma=>kernel_rfl) FH apU
  (of_decide_eq_true aw) (by unfold Func.isWrapper;first|(rw[if_pos (by decide+kernel)];kernel_rfl)|(rw[if_neg (by decide+kernel)];exact⟨aa,aa⟩))
  (λos b a enc _=>auN os b a enc)
#print axioms tconverts_holds
end Go.Proofs.YtcmhplknoglbkaaGreat
