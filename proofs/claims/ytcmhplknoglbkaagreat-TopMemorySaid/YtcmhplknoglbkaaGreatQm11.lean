/- Part 11 of the proof of TopMemorySaid. -/
import Derived.Test.YtcmhplknoglbkaaGreatQm0
import Derived.Test.YtcmhplknoglbkaaGreatQm3
import Derived.Test.YtcmhplknoglbkaaGreatQm8
import Derived.Test.YtcmhplknoglbkaaGreatQm10
set_option linter.all false
set_option maxRecDepth 100000
set_option maxHeartbeats 4000000
open Go.Proofs.Tryz
open Array renaming size->gw
open Bool renaming false->ao,true->az
open Go renaming Calls->aD,bodyPost_ret->c',results_cell_row->gG,undef->a7,wpList_nil->an
open Go.Ending renaming returned->aB
open Go.IntKind renaming i64->R,u8->dO
open Go.Lib renaming add_plain'->ah4,bytesOf->Gx,index->Vy
open Go.Operand renaming tmp->bj
open Go.Proofs.Tryz renaming func161->Kz,func186->wE,func238->GB,func25->O8,ntmps161->KD,ntmps186->wG,ntmps238->GD,ntmps25->Pe,prog->ax,underlying22->dW,underlying24->ee,underlying35->x4,underlying5->mm,underlying73->fO
open Go.Proofs renaming intOf->c5
open Go.RowKit renaming Hid->aE,intOf->bQ
open Go.Value renaming agg->ar,bool->ai,int->J,pointer->ay,slice->ae,tuple->bn
open Int renaming lt_or_eq_of_le->alF,toNat_natCast->p6
open List.Pairwise renaming nil->Ha
open List.Perm renaming refl->Ca
open List renaming all_eq_true->z7,drop_of_length_le->QI,eq_nil_of_length_eq_zero->j3,getElem?_eq_getElem->cE,getElem?_eq_some_iff->eJ,getElem?_set_ne->Lj,getElem?_set_self->alQ,length_append->c7,map_append->fP,mem_cons->gy,mem_iff_getElem?->p9,mem_map->gP,mem_of_getElem?->cX,not_mem_nil->fQ,pairwise_iff_getElem->mr,range->dQ,take_length->lp
open Nat renaming le_refl->b9,lt_succ_iff_lt_or_eq->vv,not_lt_zero->Ad,zero_le->cC
open Option renaming none->af,some->ab
namespace Go.Proofs.YtcmhplknoglbkaaGreat
open Go.RowKit Go.MapKept
def n'(l:List Int):Prop:=∀x∈l,0<=x/\x<256
def n'.drop{l}(h:n' l)n:n' (l.drop n):=λx hx=>h x (List.mem_of_mem_drop hx)
def n'.take{l}(h:n' l)n:n' (l.take n):=λx hx=>h x (List.mem_of_mem_take hx)
def xq(xs bY:List Int):Int:=Vy (Gx xs) (Gx bY)
def asn(a aK)(c1 c2)(xs bY)w m(h1:b2 w a xs)(b:b2 w aK bY)(f:0<xs.length)(g:0<bY.length)(eF:n' xs)(eK:n' bY)(hc:xs.length<=c1)(j:xs.length<=1048576)(hs2:bY.length<=1048576)(c:w.cell? ⟨0,0,af⟩=ab (J R m)):
 aD ax 189 #[ae a xs.length c1,ae aK bY.length c2] w λe w'=>e=aB (J R (xq xs bY))/\au w w':=by
 obtain⟨g1,gC,rfl,k⟩:=h1 f;obtain⟨g2,d,rfl,l⟩:=b g;exact(Any.bytes_Index_at Tryz.as3 ⟨g1,gC,af⟩ ⟨g2,d,af⟩ xs.length c1 bY.length c2 xs bY m w aa aa eF eK (λi hi=>by grind[ah4]) (λi hi=>by grind[ah4]) hc ad ad c).mono λe w' ⟨h,q,cr⟩=>⟨h,cr▸av.drewN _ _⟩
def asg(xs bY):-1<=xq xs bY/\xq xs bY<=xs.length:=by
 refine⟨Lib.index_ge _ _,?_⟩;unfold xq;rw[<-Lib.bytesOf_length xs];generalize Gx xs=l;generalize Gx bY=s;induction l with
 |nil=>grind[Vy]
 |cons b l a=>grind[Vy]
def px:List Int->List Int->Nat
 |x::xs,y::bY=>if x=y then px xs bY+1 else 0
 |_,_=>0
def apK{b o:List Int}{n k}(h:n<b.length)(a:k<o.length):px (b.drop n) (o.drop k)=if b[n]?.getD 0=o[k]?.getD 0 then px (b.drop (n+1)) (o.drop (k+1))+1 else 0:=by grind[List.drop_eq_getElem_cons,px]
def apI{b o:List Int}{n k}(h:b.length<=n):px (b.drop n) (o.drop k)=0:=by grind[QI,px]
def apJ{b o:List Int}{n k}(h:o.length<=k):px (b.drop n) (o.drop k)=0:=by grind[QI,px]
def oo(old b:List Int)(blk:Nat):Int×Int:=
 if b.length<blk then(-1,0)else if xq old (b.take blk)<0 then(-1,0)else(xq old (b.take blk),((blk+px (b.drop blk) (old.drop ((xq old (b.take blk)).toNat+blk)):Nat):Int))
def atv(cM eQ blk:Nat)(d aK)(c1 c2)(old b)Z w(hblk:1<=blk/\blk<=1048576)(hop:0<old.length)(gU:old.length<=1048576)(aba:b.length<=1048576)(hc2:old.length<=c2)(hc1:b.length<=c1)(Q:b2 w d b)(hold:b2 w aK old)(N:n' b)(O:n' old)(hb1:aX w cM #[J R (blk:Int)] 3)(hb2:aX w eQ #[ae aK old.length c2] 22)(P:w.cell? ⟨0,0,af⟩=ab (J R Z)):
 aD ax 188 #[ae d b.length c1,ay (ab ⟨cM,0,af⟩),ay (ab ⟨eQ,0,af⟩)] w λe w'=>e=aB (bn #[J R (oo old b blk).1,J R (oo old b blk).2])/\au w w':=by
 have F:=hid Q;have G:=hid hold;have f:=hid hb1;have j:=hid hb2;have cg:=hid P;obtain⟨hb0,AI⟩:=hblk;have PQ:=hid N;have PR:=hid O;clear Q hold hb1 hb2 P N O;go_enter Tryz.func188,ntmps188;have a:=a8 w;go_step;refine ah ?_;refine dU ?_;by_cases hbl:b.length<blk;·have Sg:(blk:Int)>(b.length:Int):=ad;have c:=hid (show oo old b _=(-1,0)from if_pos hbl);refine ah ?_;refine jf f.out a.only ?_;refine a1 (ai ao) ?_;refine ag ?_;refine jf f a.only ?_;refine v2 ?_;refine a1 (ai az) ?_;refine pk (ai az) ?_;refine ah ?_;refine dU ?_;go_wp2_with fail;go_ret2;exact⟨by rw[c];rfl,a.only⟩
 .have Sg:¬(blk:Int)>(b.length:Int):=ad;refine ah ?_;refine jf f.out a.only ?_;refine a1 (ai ao) ?_;refine ag ?_;refine jf f a.only ?_;refine v2 ?_;refine a1 (ai ao) ?_;refine pk (ai ao) ?_;refine an ?_;have X:(b.take blk).length=blk:=aH
  have z:=hid (λW g=>by have h:=asn aK d c2 c1 _ (b.take blk) W Z (G.out.aI g) ((F.out.aI g).Ge ad) hop ad PR (PQ.out.take _) hc2 ad ad (Hs g cg);rw[X]at h;exact h);clear X;have V:=asg old (b.take blk);have l:oo _ b _=if xq _ _<0 then(-1,0)else(xq old _,((blk+px _ _:Nat):Int)):=if_neg hbl;obtain⟨q,T⟩:=ex (xq old (b.take blk));rw[T]at V z l;obtain⟨o0,nI⟩:=V;clear T;by_cases U:q<0;·rw[if_pos U]at l;have c:=hid l;clear l;refine cy ?_;refine bR a [4] (λi _=>match i with|4=>J R q|_=>a7) (λ_ _=>emp) (λ_=>[]) (λ_=>[]) (λ_=>[]) [4] (λm=>?_);refine aL (ae aK _ c2) (λ_ _ a=>fH aa aa (aX.aI j a.only) aa aw) ?_;refine aJ ?_;refine aL (J _ _) (λ_ _ a=>fH aa aa (aX.aI f a.only) aa aw) ?_;refine aL _ (λ_ _ _=>rF 22 5 1 _ _ aa dW aw d _ c1 blk aa aa ad) ?_;refine dK (λ_ _ a=>z _ a.only) ?_;refine aJ ?_;refine bW λw1 a=>?_;replace a:=a.drop 0;refine b5 ?_;refine a1 (ai az) ?_;refine ah ?_;refine dU ?_;go_wp2_with fail;go_ret2;exact⟨by rw[c];rfl,a.only⟩
  .rw[if_neg U]at l;have c:=hid l;clear l;refine cy ?_;refine bR a [4] (λi _=>match i with|4=>J R q|_=>a7) (λ_ _=>emp) (λ_=>[]) (λ_=>[]) (λ_=>[]) [4] (λm=>?_);refine aL (ae aK _ c2) (λ_ _ a=>fH aa aa (aX.aI j a.only) aa aw) ?_;refine aJ ?_;refine aL (J _ _) (λ_ _ a=>fH aa aa (aX.aI f a.only) aa aw) ?_;refine aL _ (λ_ _ _=>rF 22 5 1 _ _ aa dW aw d _ c1 blk aa aa ad) ?_;refine dK (λ_ _ a=>z _ a.only) ?_;refine aJ ?_;refine bW λaT a=>?_;replace a:=a.drop 0;obtain⟨q,rfl⟩:=Int.eq_ofNat_of_zero_le (show 0<=q by omega);refine b5 ?_;refine a1 (ai ao) ?_;refine ah ?_;refine jf f.out a.only ?_;refine bX ?_;rw[show((q:Int)).toNat+blk=q+blk from bg]at c;obtain⟨p,v,K,M⟩:=F (show 0<b.length by omega);obtain⟨r,uP,L,S⟩:=G hop;have D:=hid K;have E:=hid L;have akm:=hid M;have akX:=hid S;clear K L M S;have H:=a;go_wp2_with fail;go_loopw [7] (λC wr=>∃n:Nat,blk<=n/\n<=b.length/\C=J R (n:Int)/\aE (blk+px (b.drop blk) (old.drop (q+blk))=n+px (b.drop n) (old.drop (q+n)))/\ak w (λ_=>False) wr []) (λC wr=>b.length -(bQ C).toNat);case atStart=>exact⟨_,b9 _,ad,aa,hid aa,H⟩
   case round=>
    clear a H;obtain⟨n,om,vU,rfl,o,a⟩:=hrel;by_cases s:n<b.length
    .have hnz:(n:Int)<(b.length:Int):=ad;by_cases t:q+n<old.length
     .have uB:((q+n:Nat):Int)<(old.length:Int):=ad;have A:aE (∀W,au w W->W.cell? _=ab _):=hid (λW g=>Hs g (akm n s));have B:aE (∀W,au w W->W.cell? _=ab _):=hid (λW g=>Hs g (akX _ t));have hst:=apK (k:=_) s t;obtain⟨x,hx⟩:=ex (b[n]?.getD 0);obtain⟨y,Y⟩:=ex (old[q+n]?.getD 0);rw[hx]at hst A;rw[Y]at hst B;have I:=hid hst;clear hst hx Y;by_cases u:x=y
      .
       go_step;refine cy ?_;refine bR a [] (λ_ _=>a7) (λ_ _=>emp) (λ_=>[]) (λ_=>[]) (λ_=>[]) [] (λm=>?_);refine da ?_;refine aL (ai az) (λ_ _ _=>by(go_simp;try omega)) ?_;refine da ?_;refine aL _ (λ_ _ _=>mu 3 _ _ 3 aa _ _ ((q+n:Nat):Int) aa aa ad ad ad) ?_;refine aL (ae aK _ c2) (λ_ _ a=>fH aa aa (aX.aI j a.only) aa aw) ?_;refine aJ ?_;refine aL (ai az) (λ_ _ _=>by(go_simp;try omega)) ?_;refine fT (ai az) ?_;refine da ?_;refine aL _ (λ_ _ _=>b4 22 5 1 _ _ aa dW aw p v _ c1 n ((v+n)) (by show ae d _ _=_;rw[D]) aa s ad) ?_;refine aL _ (λ_ _ a=>FC 5 _ aa p _ aa (A _ a.only) aw) ?_;refine aL (ae aK _ c2) (λ_ _ a=>fH aa aa (aX.aI j a.only) aa aw) ?_;refine bG ?_;refine aL _ (λ_ _ _=>mu 3 _ _ 3 aa _ _ ((q+n:Nat):Int) aa aa ad ad ad) ?_;refine aL _ (λ_ _ _=>b4 22 5 1 _ (bj 44) aa dW aw r uP _ c2 ((q+n)) ((uP+(q+n))) (by show ae aK _ _=_;rw[E]) aa t ad) ?_;refine aL _ (λ_ _ a=>FC 5 _ aa r _ aa (B _ a.only) aw) ?_;refine aL (ai az) (λ_ _ _=>by(go_simp;try exact u)) ?_;refine fT (ai az) ?_;refine bW λbF a=>?_;refine b5 ?_;refine pad (n:Int) 1 ((n+1:Nat):Int) ?_;refine bX ?_;go_wp2_with fail;go_roundw;case rel=>exact⟨n+1,ad,ad,aa,hid (by rw[o,I,if_pos u];show _=n+1+px _ (old.drop (q+n+1));omega),a⟩
       case measure=>simp[bQ]<;>omega
      .
       go_step;refine cy ?_;refine bR a [] (λ_ _=>a7) (λ_ _=>emp) (λ_=>[]) (λ_=>[]) (λ_=>[]) [] (λm=>?_);refine da ?_;refine aL (ai az) (λ_ _ _=>by(go_simp;try omega)) ?_;refine da ?_;refine aL _ (λ_ _ _=>mu 3 _ _ 3 aa _ _ ((q+n:Nat):Int) aa aa ad ad ad) ?_;refine aL (ae aK _ c2) (λ_ _ a=>fH aa aa (aX.aI j a.only) aa aw) ?_;refine aJ ?_;refine aL (ai az) (λ_ _ _=>by(go_simp;try omega)) ?_;refine fT (ai az) ?_;refine da ?_;refine aL _ (λ_ _ _=>b4 22 5 1 _ _ aa dW aw p v _ c1 n ((v+n)) (by show ae d _ _=_;rw[D]) aa s ad) ?_;refine aL _ (λ_ _ a=>FC 5 _ aa p _ aa (A _ a.only) aw) ?_;refine aL (ae aK _ c2) (λ_ _ a=>fH aa aa (aX.aI j a.only) aa aw) ?_;refine bG ?_;refine aL _ (λ_ _ _=>mu 3 _ _ 3 aa _ _ ((q+n:Nat):Int) aa aa ad ad ad) ?_;refine aL _ (λ_ _ _=>b4 22 5 1 _ (bj 44) aa dW aw r uP _ c2 ((q+n)) ((uP+(q+n))) (by show ae aK _ _=_;rw[E]) aa t ad) ?_;refine aL _ (λ_ _ a=>FC 5 _ aa r _ aa (B _ a.only) aw) ?_;refine aL (ai ao) (λ_ _ _=>by(go_simp;try exact u)) ?_;refine fT (ai ao) ?_;refine bW λb8 a=>?_;refine ah ?_;refine v4 ?_;refine an ?_;go_wp2_with fail;go_ret2;exact⟨by rw[c,o,I,if_neg u];rfl,a.only⟩
     .have uB:¬((q+n:Nat):Int)<(old.length:Int):=ad;go_step;refine cy ?_;refine bR a [] (λ_ _=>a7) (λ_ _=>emp) (λ_=>[]) (λ_=>[]) (λ_=>[]) [] (λm=>?_);refine da ?_;refine aL (ai az) (λ_ _ _=>by(go_simp;try omega)) ?_;refine da ?_;refine aL _ (λ_ _ _=>mu 3 _ _ 3 aa _ _ ((q+n:Nat):Int) aa aa ad ad ad) ?_;refine aL (ae aK _ c2) (λ_ _ a=>fH aa aa (aX.aI j a.only) aa aw) ?_;refine aJ ?_;refine aL (ai ao) (λ_ _ _=>by(go_simp;try omega)) ?_;refine fT (ai ao) ?_;refine aJ ?_;iterate 11 refine ds ?_
      refine fT (ai ao) ?_;refine bW λcA a=>?_;refine ah ?_;refine v4 ?_;refine an ?_;go_wp2_with fail;go_ret2;exact⟨by rw[c,o,apJ (n:=n) (k:=_) ad];rfl,a.only⟩
    .have hnz:¬(n:Int)<(b.length:Int):=ad;go_step;refine cy ?_;refine bR a [] (λ_ _=>a7) (λ_ _=>emp) (λ_=>[]) (λ_=>[]) (λ_=>[]) [] (λm=>?_);refine da ?_;refine aL (ai ao) (λ_ _ _=>by(go_simp;try omega)) ?_;refine aJ ?_;iterate 6 refine ds ?_
     refine fT (ai ao) ?_;refine aJ ?_;iterate 11 refine ds ?_
     refine fT (ai ao) ?_;refine bW λcR a=>?_;refine ah ?_;refine v4 ?_;refine an ?_;go_wp2_with fail;go_ret2;exact⟨by rw[c,o,apI (n:=n) (k:=_) ad];rfl,a.only⟩
def oc(new:List Int)(ms:List bO)(fr p:Nat):List bO:=if fr<p then ms++[⟨2,(fr:Int),0,0,(new.drop fr).take (p -fr)⟩]else ms
def Z9 new ms(fr p):(oc new ms fr p).length<=ms.length+1:=by grind[oc]
def Z8{new ms fr p}(h:∀m∈ms,m.data.length<=new.length):∀m∈oc new ms fr p,m.data.length<=new.length:=by grind[oc,List.mem_singleton]
def xy(old new:List Int)(blk:Nat):Nat->Nat->Nat->List bO->List bO
 |0,p,fr,ms=>oc new ms fr p
 |k+1,p,fr,ms=>if p<new.length then(if(oo old (new.drop p) blk).1<0 then xy old new blk k (p+1) fr ms
  else xy old new blk k (p+(oo old (new.drop p) blk).2.toNat) (p+(oo old (new.drop p) blk).2.toNat) (oc new ms fr p++[⟨1,(p:Int),(oo old (new.drop p) blk).1,(oo old (new.drop p) blk).2,[]⟩]))else oc new ms fr p
theorem Z1:∀(xs bY),px xs bY<=xs.length
 |[],_=>by simp[px]
 |x::xs,[]=>by simp[px]
 |x::xs,y::bY=>by rw[px];have:=Z1 xs bY;split<;>simp<;>omega
def atu{old b blk}(hb:1<=blk)(h:¬(oo old b blk).1<0):∃n:Nat,(oo old b blk).2=(n:Int)/\1<=n/\n<=b.length:=by
 unfold oo at h⊢;split at h;·omega
 .split at h;·omega
  .rename_i h1 a;rw[if_neg h1,if_neg a];refine⟨_,aa,ad,?_⟩;grind[Z1]
def aab(v r t fr p n c c1:Nat)(A k)new l(aq w)FX F(S:fr<=p)(hpl:p<=new.length)(hc1:new.length<=c1)(U:new.length<=1048576)(T:n<=1048576)(B:(l.map (·.1)).length=n)(hn:∀W,av FX aq W->b2 W k new)(f:ak aq FX w [aj v #[J R (fr:Int)] 3,aj r #[ae A n c] 24,ba A n c 73 5 (cD l),gJ l,aj t #[ae k new.length c1] 22,F]):
 aD ax 99 #[J R (p:Int),ay (ab ⟨v,0,af⟩),ay (ab ⟨r,0,af⟩),ay (ab ⟨t,0,af⟩)] w λe w'=>e=aB (bn #[])/\∃o s l',l'.map (·.1)=oc new (l.map (·.1)) fr p/\(l'.map (·.1)).length=(oc new (l.map (·.1)) fr p).length/\ak aq FX w' [aj v #[J R (fr:Int)] 3,aj r #[ae o (oc new (l.map (·.1)) fr p).length s] 24,ba o ((oc new (l.map (·.1)) fr p).length) s 73 5 (cD l'),gJ l',aj t #[ae k new.length c1] 22,F]:=by
 have E:=hid hn;have y:=hid B;clear hn B;by_cases Q:fr<p
 .have K:(p:Int)>(fr:Int):=ad;obtain⟨d,z⟩:=ex ((new.drop fr).take (p -fr));have P:d.length=p -fr:=aH;have G:=hid (λW g=>by have h:=(E W g).win (i:=fr) (q:=p) hc1 hpl;rwa [z]at h);have j:aE (oc new (l.map (·.1)) fr p=l.map (·.1)++[⟨2,(fr:Int),0,0,d⟩]):=hid (by grind[oc]);clear z;go_enter Tryz.func99,Tryz.ntmps99;go_step;refine ah ?_;refine ag ?_;refine pl f 0 0 ?_;refine a1 (ai az) ?_;refine cy ?_;refine bR f [6,7,8,9,10] (λi u=>match i with|6=>ae (ab ⟨u.b,0,af⟩) 1 1|7=>ar #[J R 2,J R (fr:Int),J R 0,J R 0,ae u.A d.length u.c]|8=>ae (ab ⟨u.b,0,af⟩) 1 1|9=>ae u.A (n+1) u.c|_=>a7) (λa=>λ|6=>aj ((a 6).b) #[ae (fK k c1 fr 1) d.length (c1 -fr)] 22|7=>cx ((a 7).A) ((a 7).c) d|8=>aj ((a 8).b) #[J R 2,J R (fr:Int),J R 0,J R 0,ae (a 7).A d.length (a 7).c] 73|9=>ba ((a 9).A) (n+1) ((a 9).c) 73 5 ((cD l)++(jt ⟨2,(fr:Int),0,0,d⟩ (a 7).A (a 7).c))|10=>aj r #[ae (a 9).A (n+1) (a 9).c] 24|_=>emp) (λ|9=>[2]|10=>[1]|_=>[]) (λ|0=>[1]|1=>[0]|2=>[4]|3=>[0]|7=>[12]|9=>[14]|_=>[]) (λ|6=>[6]|7=>[7]|8=>[7,8]|9=>[7,9]|10=>[9]|_=>[]) [0,3,4,5,12,13,14,15,16] (λa=>?_);refine dl 0 0 ?_;refine dl 0 0 ?_;refine dl 0 0 ?_;refine dl 0 0 ?_;refine aJ ?_;refine aL _ (λ_ _ _=>F7 22 5 1 _ _ _ aa dW aw k _ c1 fr p d.length aa aa aa ad ad) ?_;refine kH _ 22 ?_;refine di (λM Fr f=>(Tt _ _ _ _ d M ((f.aW 0).cell 0 aa) (G _ f.only) ad).mono ?_) ?_;·rintro e V ⟨o,s,rfl,L,g⟩;exact⟨{A:=o,c:=s},aa,f.lR g L⟩
  refine kH #[J _ 2,J R _,J R 0,J _ 0,ae (a 7).A _ (a 7).c] 73 ?_;refine ri (m:=1) 56 (λ_ _ f=>aX.cellsOf (m:=1) (f.aW 1) aa) (EA ⟨2,_,0,0,d⟩ _ _) ?_ (hby:=by omega);refine fS _ ?_;refine bW λw1 f=>?_;generalize (a 6).b=N at f⊢;generalize (a 7).A=C at f⊢;generalize (a 7).c=H at f⊢;generalize (a 8).b=O at f⊢;generalize (a 9).A=D at f⊢;generalize (a 9).c=I at f⊢;have x:=f.pk [1,5,0,8,7,2,3];replace x:=ak.L6 (m:=⟨2,(fr:Int),0,0,d⟩) x;go_wp2_with fail;first|go_end0|refine bodyPost_ret (results_none rfl _ _ _) rfl ?_
  refine⟨aa,D,I,l++[(⟨2,_,0,0,d⟩,C,H)],by rw[j,fP];rfl,by rw[j];simp,?_⟩;rw[j,c7,y,As,CA];exact x.pick [1,2,3,0,4,5]
 .have K:¬(p:Int)>(fr:Int):=ad;have j:aE (oc new (l.map (·.1)) fr p=l.map (·.1)):=hid (by grind[oc]);go_enter Tryz.func99,Tryz.ntmps99;go_step;refine ah ?_;refine ag ?_;refine pl f 0 0 ?_;refine a1 (ai ao) ?_;refine an ?_;go_wp2_with fail;first|go_end0|refine bodyPost_ret (results_none rfl _ _ _) rfl ?_
  refine⟨aa,A,c,l,j.out.symm,by rw[j];simp,?_⟩;rw[j,y];exact f
def atw A(c n blk:Nat)w:
 aD ax 98 #[ae A c n,J R (blk:Int)] w λe w'=>∃cM eQ,e=aB (.func (.func 188) #[] #[ay (ab ⟨cM,0,af⟩),ay (ab ⟨eQ,0,af⟩)])/\ak w (λ_=>False) w' [aj cM #[J R (blk:Int)] 3,aj eQ #[ae A c n] 22]:=by
 go_enter func98,ntmps98;have a:=a8 w;go_step;refine ah ?_;refine bL a (ae A c n) (λb w1 a=>?_);refine bL a (J _ _) (λd f a=>?_);refine ag ?_;refine ah ?_;refine dU ?_;go_wp2_with fail;go_ret;exact⟨_,_,aa,(a.pick (l':=_) [0,1])⟩
def aoG{N ms}{m:bO}(h:∀x∈ms,x.data.length<=N)(a:m.data.length<=N):∀x∈ms++[m],x.data.length<=N:=aH
def atF{old new blk k p fr ms}(h:p<new.length)(hk:new.length -p<=k+1):xy old new blk (k+1) p fr ms=if(oo old (new.drop p) blk).1<0 then xy old new blk k (p+1) fr ms
 else xy old new blk k (p+(oo old (new.drop p) blk).2.toNat) (p+(oo old (new.drop p) blk).2.toNat) (oc new ms fr p++[⟨1,(p:Int),(oo old (new.drop p) blk).1,(oo old (new.drop p) blk).2,[]⟩]):=by grind[xy]
def atE{old new blk k p fr ms}(h:¬p<new.length):xy old new blk k p fr ms=oc new ms fr p:=by
 cases k with
 |zero=>rfl
 |succ k=>grind[xy]
def FH(old new:List Int)(blk:Nat):List bO:=xy old new blk new.length 0 0 []
def atq(d aK)(c1 c2 blk:Nat)(old new)qz w(hblk:1<=blk/\blk<=1048576)(hop:0<old.length)(gU:old.length<=1048576)(iC:new.length<=9)(hc2:old.length<=c2)(hc1:new.length<=c1)(k3:b2 w d new)(hold:b2 w aK old)(Ie:qb w d)(qt:qb w aK)(HX:n' new)(HY:n' old)(X:w.cell? ⟨0,0,af⟩=ab (J R qz)):
 aD ax 44 #[ae aK old.length c2,ae d new.length c1,J R (blk:Int)] w λe w'=>∃aA aC t,e=aB (eL (old.length:Int) (new.length:Int) (oV old) (oV new) (ae aA (FH old new blk).length aC))/\cf w w' t/\ia t aA aC (FH old new blk):=by
 have V:=hid k3;have fc:=hid hold;have gp:=hid Ie;have r1:=hid qt;have cg:=hid X;have PQ:=hid HX;have PR:=hid HY;have akv:aE (∀args w,(callFunc 188 _).run _ w=.ok (.enter 188 args) w):=hid (λargs w=>enters_of Tryz.func188 aw aa _ w);have Xo:aE (∀args w,(callFunc 99 _).run _ w=.ok (.enter 99 _) w):=hid (λargs w=>enters_of Tryz.func99 aw aa args w);clear k3 hold Ie qt X HX HY;go_enter func44,ntmps44;have a:=a8 w;go_step;refine ah ?_;refine bL a (ae d _ c1) (λo w1 a=>?_);refine bl a (bb 0 0 dq.zero dq.zero _) (λM aT a=>?_);refine an ?_;go_step;refine ah ?_;refine v2 ?_;refine aR (atw aK _ c2 blk _) ?_;rintro e bF ⟨OF,OG,rfl,Qd⟩;replace a:=a.new _ (((Qd.fh 2)).fresh 0);refine aU ?_;refine ag ?_;refine an ?_;go_step;refine ah ?_;refine bl a #[ae _ 0 0] (λf b8 a=>?_);refine an ?_;go_step;refine ah ?_;refine bl a #[J _ 0] (λr cA a=>?_);refine a' a 0 (J _ 0) (λcR a=>?_);refine an ?_;go_step;refine ah ?_;refine v2 ?_;refine an ?_;go_step;refine ah ?_;refine ag ?_;refine an ?_;replace a:=a.new (ba af 0 0 73 5 []) ⟨av.refl _ _,Row.nil _ _ _ _,λb ⟨_,_,e⟩=>aH⟩;replace a:=a.L7;have bJ:ak w (λ_=>False) _ [aj r #[J R (((0:Nat):Int):Int)] 3,aj f #[ae af (([]:List (bO×Option Addr×Nat)).map (·.1)).length 0] 24,ba af ((([]:List (bO×Option Addr×Nat)).map (·.1)).length) 0 73 5 (cD ([]:List _)),gJ _,aj o #[ae d new.length c1] 22,bP [aj OF _ 3,aj OG _ 22],aj M _ 26]:=a.pick [2,3,1,0,6,4,5];go_wp2_with fail;go_loopw [11] (λaO wr=>∃(p fr Q:Nat) (A:Option Addr) (c:Nat) (l:List (bO×Option Addr×Nat)),fr<=p/\p<=new.length/\new.length -p<=Q/\(l.map (·.1)).length<=2*p/\aO=J R (p:Int)/\aE (xy old new blk Q p fr (l.map (·.1))=FH old new blk)/\aE (∀m∈l.map (·.1),m.data.length<=new.length)/\ak w (λ_=>False) wr [aj r #[J R (fr:Int)] 3,aj f #[ae A (l.map (·.1)).length c] 24,ba A ((l.map (·.1)).length) c 73 5 (cD l),gJ l,aj o #[ae d new.length c1] 22,bP [aj OF #[J R (blk:Int)] 3,aj OG #[ae aK old.length c2] 22],aj M (bb 0 0 dq.zero dq.zero (ae af 0 0)) 26]) (λaO wr=>new.length -(bQ aO).toNat);case atStart=>exact⟨0,0,_,_,0,[],b9 _,cC _,ad,bg,aa,hid aa,hid (λ_ h=>(fQ h).elim),bJ⟩
 case round=>
  clear a bJ;obtain⟨p,fr,Q,A,c,l,My,Fi,AO,df,rfl,ca,U,a⟩:=hrel;obtain⟨ms,eR⟩:=ex (l.map (·.1));rw[eR]at df ca U a;obtain⟨n,hn⟩:=ex ms.length;rw[hn]at df a;have D:=hid eR;have O:=hid hn;clear eR hn;by_cases hlt:p<new.length
  .have cb:(p:Int)<(new.length:Int):=ad;obtain⟨Z,rfl⟩:∃Z,Q=Z+1:=⟨Q -1,ad⟩;have hstep:=atF (old:=old) (blk:=blk) (fr:=fr) (ms:=ms) hlt AO;rw[ca]at hstep;obtain⟨uj,im⟩:=ex ((new.drop p).length);have aBx:p+uj=new.length:=aH;have P':=hid (λW g eF eK=>atv OF OG blk (fK d c1 p 1) aK (c1 -p) c2 old (new.drop p) qz W hblk hop gU ad hc2 ad ((V.out.aI g).Gf hc1) (fc.out.aI g) (PQ.out.drop p) PR eF eK (Hs g cg));have Y:=λh=>atu (old:=old) (b:=new.drop p) (blk:=_) hblk.1 h;obtain⟨q,hq⟩:=ex ((oo old (new.drop p) blk).1);obtain⟨z,hz⟩:=ex ((oo old (new.drop p) blk).2);rw[hq,hz]at hstep P';rw[hq,hz]at Y;rw[im]at P' Y;clear hq hz im;go_step;refine ah ?_;refine ag ?_;refine pl a 4 0 ?_;refine v2 ?_;refine an ?_;go_step;refine ah ?_;refine ag ?_;refine pl a 4 0 ?_;refine ag ?_;refine aG _ (Bi 22 5 1 _ _ aa dW aw d _ c1 p uj aa aa ad ad) ?_;have aca:=a.at 5;refine aR (P'.out _ a.only aca.1 aca.2.1.1) ?_ (hr:=by(first|(go_simp;done)|(go_simp;exact akv.out _ _)));rintro e dz ⟨rfl,g⟩;replace a:=a.aI g;refine aU ?_;refine v5 ?_;refine an ?_;by_cases T:q<0
   .rw[if_pos T]at hstep;have eg:=hid hstep;clear hstep;go_step;refine ah ?_;refine ag ?_;refine aG (ai az) (by(go_simp;try exact T)) ?_;refine an ?_;go_step;refine ah ?_;refine ag ?_;refine pad _ 1 ((p+1:Nat):Int) ?_;refine ag ?_;refine an ?_;go_wp2_with fail;go_roundw;case rel=>exact⟨p+1,fr,Z,A,c,l,ad,ad,ad,by rw[D,O];omega,aa,hid (by rw[D,<-eg]),hid (by rw[D];exact U),by rw[D,O];exact a.pick [0,1,2,3,4,5,6]⟩
    case measure=>simp[bQ]<;>omega
   .rw[if_neg T]at hstep;obtain⟨s,rfl,hz1,hz2⟩:=Y T;rw[show((s:Int)).toNat=s from aa]at hstep;have eg:=hid hstep;clear hstep Y;go_step;refine ah ?_;refine ag ?_;refine aG (ai ao) (by(go_simp;try exact T)) ?_;refine an ?_;go_step;refine ah ?_;refine v2 ?_;have S:=ak.tail [aj r _ 3,aj f _ 24,ba A n c 73 5 (cD l),gJ l,aj o _ 22] [bP _,aj M _ 26] (a.pick [0,1,2,3,4,5,6]);refine aR (aab r f o fr p n c c1 A d new l w _ (λ_=>False) _ ad ad hc1 ad ad (by rw[D,O]) (λW g=>V.out.aI g) S) ?_ (hr:=by(first|(go_simp;done)|(go_simp;exact Xo.out _ _)));rintro e dv ⟨rfl,L,P,j,y,B,a⟩;clear S;rw[D]at y B a;obtain⟨m4,I⟩:=ex (oc new ms fr p);have H:=Z9 new ms fr p;have G:=Z8 (fr:=fr) (p:=p) U;have P9:=hid I;rw[I]at y B a H G;rw[O]at H;obtain⟨E,K⟩:=ex m4.length;rw[K]at B a H;have F:=hid K;have N:=hid y;have PU:=hid G;clear I K y B G;replace a:ak _ _ _ [aj r _ 3,aj f _ 24,ba L E P 73 5 (cD j),gJ j,aj o _ 22,bP _,aj M _ 26]:=ak.iF [aj r _ 3,aj f _ 24,ba L E P 73 5 (cD j),gJ j,aj o _ 22] _ a;refine aU ?_;refine an ?_;go_step;refine cy ?_;refine bR a [4,5,6,7] (λi u=>match i with|4=>ar #[J R 1,J R (p:Int),J R q,J R (s:Int),ae af 0 0]|5=>ae (ab ⟨u.b,0,af⟩) 1 1|6=>ae u.A (E+1) u.c|_=>a7) (λC=>λ|5=>aj ((C 5).b) #[J R 1,J R (p:Int),J R q,J R (s:Int),ae af 0 0] 73|6=>ba ((C 6).A) (E+1) ((C 6).c) 73 5 ((cD j)++(jt ⟨1,(p:Int),q,(s:Int),[]⟩ af 0))|7=>aj f #[ae (C 6).A (E+1) (C 6).c] 24|_=>emp) (λ|6=>[2]|7=>[1]|_=>[]) (λ|0=>[1]|6=>[12]|_=>[]) (λ|5=>[5]|6=>[6]|7=>[6]|_=>[]) [0,3,4,5,6,11,12,13,14] (λC=>?_);refine dl 0 0 ?_;refine da ?_;refine di (λwl Fr a=>(Ze (p:Int) q _ _).mono ?_) ?_;·rintro e dr ⟨rfl,g⟩;exact⟨{},aa,(a.aI g).dE⟩
    refine kH _ 73 ?_;refine ri (m:=1) 56 (λ_ _ a=>aX.cellsOf (m:=1) (a.aW 1) aa) (EA ⟨1,_,q,_,[]⟩ _ 0) ?_ (hby:=by omega);refine fS _ ?_;refine bW λeU a=>?_;generalize (C 5).b=azm at a⊢;generalize (C 6).A=ayR at a⊢;generalize (C 6).c=aAb at a⊢;replace a:=a.drop 5;replace a:=a.pk [1,0,2,3,4,5,6,7];replace a:=ak.aoX (m:=⟨1,(p:Int),q,(s:Int),[]⟩) aa a;go_step;refine ah ?_;refine v2 ?_;refine pad _ _ ((p+s:Nat):Int) ?_;refine ag ?_;refine an ?_;go_step;refine ah ?_;refine ag ?_;refine a' a 1 (J _ ((p+s:Nat):Int)) (λgF a=>?_);refine an ?_;go_wp2_with fail;go_roundw;case rel=>exact⟨p+s,p+s,Z,_,_,j++[(⟨1,_,q,_,[]⟩,af,0)],ad,ad,ad,by rw[fP,N,c7,F];simp;omega,aa,hid (by rw[fP,N,eg,P9];rfl),hid (by rw[fP,N];exact aoG PU (cC _)),by rw[fP,N.out,c7,F.out,As,CA];exact a.pick [1,7,6,0,2,3,4]⟩
    case measure=>grind[bQ]
  .have cb:¬(p:Int)<(new.length:Int):=ad;have hend:=atE (old:=old) (blk:=blk) (k:=Q) (fr:=fr) (ms:=ms) hlt;rw[ca]at hend;have akw:=hid hend;clear hend;go_step;refine ah ?_;refine ag ?_;refine pl a 4 0 ?_;refine v2 ?_;refine an ?_;go_step;refine ah ?_;refine v2 ?_;have S:=ak.tail [aj r #[J R (fr:Int)] 3,aj f #[ae A n c] 24,ba A n c 73 5 (cD l),gJ l,aj o #[ae d new.length c1] 22] [bP _,aj M (bb 0 0 dq.zero dq.zero (ae af 0 0)) 26] (a.pick [0,1,2,3,4,5,6]);refine aR (aab r f o fr p n c c1 A d new l w _ (λ_=>False) _ ad ad hc1 ad ad (by rw[D,O]) (λW g=>V.out.aI g) S) ?_ (hr:=by(first|(go_simp;done)|(go_simp;exact Xo.out _ _)));rintro e hI ⟨rfl,L,P,j,y,B,a⟩;clear S;rw[D]at y B a;obtain⟨m4,I⟩:=ex (oc new ms fr p);have H:=Z9 new ms fr p;have G:=Z8 (fr:=fr) (p:=p) U;have P9:=hid I;rw[I]at y B a H G;rw[O]at H;obtain⟨E,K⟩:=ex m4.length;rw[K]at B a H;have F:=hid K;have N:=hid y;have PU:=hid G;clear I K y B G;replace a:ak _ _ _ [aj r _ 3,aj f _ 24,ba L E P 73 5 (cD j),gJ j,aj o _ 22,bP _,aj M _ 26]:=ak.iF [aj r _ 3,aj f _ 24,ba L E P 73 5 (cD j),gJ j,aj o _ 22] _ a;refine aU ?_;refine an ?_;have pB:m4=FH old new blk:=by rw[<-P9,akw]
   subst pB;go_step;refine ah ?_;refine ag ?_;refine pl a 4 0 ?_;refine pl a 1 0 ?_;refine aR ((by have h:=aoO c2 c1 aK d L P old new (FH old new blk) _ gU ad (fc.out.aI a.only) (r1.out.aI a.only) (V.out.aI a.only) (gp.out.aI a.only) (afX (a.atR 2) N.out F.out.symm (λx hx=>(a.at 3 aa x hx).cmd)) (by rw[F];omega) (λm X=>Nat.le_trans (PU.out m X) ad);rw[F.out]at h;exact h)) ?_;rintro e jK ⟨hL,gS,bD,rfl,hF,kS⟩;replace a:=a.new _ hF;refine aU ?_;refine a' a 7 (ar _) (λke a=>?_) (hk:=by show 0+gw (bb _ _ _ _ _)<=_;simp only[bH];decide) (hz:=by show _=ab (gw (bb _ _ _ _ _));rw[bH];rfl) (h1:=(sc aa)) (hc:=xr);refine an ?_;go_wp2_with fail;refine c' (v:=_) (gG aa _ _ _ _ _ _ _ aa (a.aW 7) Tryz.underlying26 aa (by rw[bH];rfl)) aa (⟨hL,gS,by rw[F],bD,a.fresh 0,kS⟩)
def uQ:List Int:=[97,98,99,100,101,102]
def lA:List Int:=[100,101,102,120,97,98,99]
def o4:List bO:=[⟨1,0,3,3,[]⟩,⟨2,3,0,0,[120]⟩,⟨1,4,0,3,[]⟩]
def Co:List bO:=[⟨1,4,0,3,[]⟩,⟨2,0,0,0,[100,101,102]⟩,⟨2,3,0,0,[120]⟩]
def NS:List bO:=[⟨2,0,0,0,[100,101,102]⟩,⟨2,3,0,0,[120]⟩]
def Aj:List jO:=[((0,3),0),((3,1),1),((4,3),2)]
def sG:List (Int×Int):=[(0,1),(0,2),(2,0)]
def atp:FH uQ lA 3=o4:=aw
theorem Vp:s6 o4 Aj=sG:=aw
theorem adN:ka o4 3=[1]:=aw
def aeX:A' uQ o4=lA:=aw
def af4{a:Type}{pre L}{x:a}(h:pre++[x]<+:L):L[pre.length]?=ab x/\L.take pre.length=pre:=by obtain⟨t,rfl⟩:=h;simp
def axI(L:List (Nat×Int×Int)):Bool:=(dQ L.length).all λj=>match L[j]? with
 |some x=>decide (x.2.1=iM (L.take j))&&decide (0<=iM (L.take j))&&decide (0<=x.2.2)&&decide (iM (L.take j)+x.2.2<=4611686018427387903)
 |none=>ao
def agp{n:Nat}{ms}(h:axI (ju ms)=az)(a:iM (ju ms)=(n:Int)):Lu n ms:=⟨λpre x c=>by obtain⟨b,d⟩:=af4 c;have e:=z7.1 h _ (List.mem_range.2 (eJ.1 b).1);grind,a⟩
def ax3:r5 6 7 o4:=⟨aS,aS,λm a=>by simp only[o4,gy,fQ,or_false]at a;rcases a with rfl|rfl|rfl<;>simp[jZ,gd,w3,eY,cG],agp aw aw,aS⟩
def ax2:r5 6 7 Co:=⟨aS,aS,λm a=>by simp only[Co,gy,fQ,or_false]at a;rcases a with rfl|rfl|rfl<;>simp[jZ,gd,w3,eY,cG],agp aw aw,aS⟩
def aak:j0 Aj:=⟨by simp[Aj],λx hx=>by grind[Aj,eY]⟩
theorem T1{E v x}(h:G.Path E v x):∃y,(v,y)∈E:=by
 induction h with
 |one h=>grind
 |more _ _ a=>omega
def aos:G.kT sG [] [0,2]:=⟨bg,λx=>by
 rw[G.HA];constructor
 .intro h;simp at h;rcases h with rfl|rfl;·exact .more (.one (x:=2) (by simp[sG])) (by simp[sG])
  .exact .more (.one (x:=0) (by simp[sG])) (by simp[sG])
 grind[T1,sG]⟩
def aot:G.kT sG [0] []:=⟨Ha,λx=>by grind[G.cut,sG,T1]⟩
theorem anz:G.wX sG [3,0,3] [1] [0] []:=⟨.snoc (v:=0) .nil aos aw,aot,aa⟩
theorem auq:G.oH sG 3 [1,0] [2]:=by
 have rd:∀v out,G.Ag sG 3 [1,0] out v->v=2:=λv out h=>by obtain⟨h1,a,_⟩:=h;simp at a;omega
 refine⟨.snoc (out:=[]) (v:=2) .nil ⟨⟨aS,bg,bg,λu b=>?_⟩,λu b=>aH⟩,λv hv=>?_⟩;·grind[sG]
 .have h1:=rd v _ hv;subst h1;exact hv.2.2.1 bg
def anX:Gs o4:=⟨aS,avX (l:=o4.map ck) (S:=Aj) bc aak,λm a hk=>by grind[o4,eY]⟩
def an1:Conv o4 Aj [0] [2]:=⟨anX,bc,aak,by grind[o4,adN,Vp,anz],by grind[o4,adN,Vp,auq],aw,aS⟩
def aoo:BE uQ o4 Aj [0] [2] NS:=⟨an1,λx hx=>⟨2,aH,aS⟩,aS,λm a hk=>by
 simp only[o4,gy,fQ,or_false]at a;rcases a with rfl|rfl|rfl;·exact⟨3,3,aa,aa,aS⟩
 .grind
 .exact⟨0,3,aa,aa,aS⟩,⟨bc,by simp[NS]⟩⟩
def Ho:fq o4 [2]++NS=Co:=aw
def DK:wy:=⟨2,6,7,oV uQ,oV lA,Co⟩
def CD:dR:=nM 64 (gv 64 2 7+0) uQ
def aoD:dY CD:=TI aS aS aS aS
def agd:ec 2 Co=[⟨1,4,0,2,[]⟩,⟨1,6,2,1,[]⟩,⟨2,0,0,0,[100,101]⟩,⟨2,2,0,0,[102]⟩,⟨2,3,0,0,[120]⟩]:=aw
def anT:qP DK CD:=⟨aoD,aS,aS,ax2,aS,by show(ec 2 Co).length<=_;rw[agd];decide,λbB b=>by
 have a:bB∈ec 2 Co:=b;rw[agd]at a;simp at a;rcases a with rfl|rfl|rfl|rfl|rfl;·exact⟨4,aa,aS⟩
 .exact⟨6,aa,aS⟩
 .exact⟨0,aa,aS⟩
 .exact⟨2,aa,aS⟩
 .exact⟨3,aa,aS⟩⟩
def afg:Bool:=match fR DK ([(4,1)]++[(-1,0)]) CD with
 |(l,d)=>decide (l.length=2)&&pw l&&decide (d.bytes.take 7=lA)&&decide (1<=d.size)&&decide (1<=d.cnt)&&decide (d.bytes.length=d.cnt*d.size)&&decide (d.cnt*d.size<=1048576)&&d.cache.isEmpty&&decide (d.writes=-1)
def avJ:afg=true:=aw
section
section
variable {lt:Nat->Nat->Bool} {key:Nat->Int}
def swap_perm{L:List Nat}{j}(a:j+1<L.length):((L.set (j+1) (L[j]?.getD 0)).set j (L[j+1]?.getD 0)).Perm L:=aH
def afV:∀(j) L,j<L.length->(sink lt j L).Perm L
 |0,_,_=>Ca _
 |j+1,L,a=>by
  unfold sink;split;·exact(afV j _ (by simp;omega)).trans (swap_perm a)
  .exact Ca _
def ade L:∀i,i<=L.length->(lv lt L i).Perm L
 |0,_=>Ca _
 |i+1,h=>(afV i _ (by grind[Fv])).trans (ade L i ad)
def kJ(key:Nat->Int)(L:List Nat)(a:Nat):Int:=key (L[a]?.getD 0)
def afW(hlt:∀x y,lt x y=decide (key x<key y)):∀(j) L,j<L.length->(∀a b,a<b->b<j->kJ key L a<=kJ key L b)->
 (∀a b,a<b->b<j+1->kJ key (sink lt j L) a<=kJ key (sink lt j L) b)/\(∀b,j<b->(sink lt j L)[b]?=L[b]?)/\∀f,(∀a,a<=j->kJ key L a<=f)->∀a,a<=j->kJ key (sink lt j L) a<=f
 |0,L,_,_=>⟨λa b h1 v=>ad,λb _=>rfl,λf h=>h⟩
 |j+1,L,s,i=>by
  unfold sink;rw[hlt];by_cases h:key (L[j+1]?.getD 0)<key (L[j]?.getD 0)
  .rw[if_pos (decide_eq_true h)];obtain⟨c,g⟩:∃z,(L.set (j+1) (L[j]?.getD 0)).set j (L[j+1]?.getD 0)=z:=⟨_,aa⟩
   have bE:∀a,a<j->c[a]?=L[a]?:=λa e=>by rw[<-g,Lj ad,Lj ad]
   have cr:c[j]?=ab (L[j+1]?.getD 0):=by rw[<-g,alQ (by simp;omega)]
   have q:c[j+1]?=ab (L[j]?.getD 0):=by rw[<-g,Lj ad,alQ s]
   have r:∀a,j+1<a->c[a]?=L[a]?:=λa e=>by rw[<-g,Lj ad,Lj ad]
   have k:∀a,a<j->kJ key c a=kJ _ L a:=λa e=>by unfold kJ;rw[bE a e]
   have m:kJ key c j=kJ key L (j+1):=by unfold kJ;rw[cr];rfl
   have t:kJ key c (j+1)=kJ key L j:=by unfold kJ;rw[q];rfl
   have hlen:c.length=L.length:=by rw[<-g];simp
   rw[g];obtain⟨u,o,p⟩:=afW hlt j c ad (λa b hab hb=>by rw[k a ad,k b ad];exact i a b hab ad);have n:kJ key (sink lt j c) (j+1)=kJ key L j:=by rw[<-t];unfold kJ;rw[o (j+1) ad]
   have hx:kJ _ L _<kJ _ L j:=h
   have hb:∀a,a<=j->kJ _ c a<=kJ key L j:=λa e=>by
    by_cases d:a=j;·rw[d,m];omega
    .rw[k a ad];exact i a j ad ad
   refine⟨λa b hab hb2=>?_,λb hb2=>by rw[o b ad,r b ad],λf l a e=>?_⟩
   .by_cases d:b=j+1;·rw[d,n];exact p _ hb a ad
    .exact u a b hab ad
   .by_cases d:a=j+1;·rw[d,n];exact l j ad
    .refine p f (λa e=>?_) a ad;by_cases d:a=j;·rw[d,m];exact l _ ad
     .rw[k a ad];exact l a ad
  .rw[if_neg (by simpa using h)];refine⟨λa b hab hb=>?_,λb _=>rfl,λf h=>h⟩;have hx:kJ _ L j<=kJ _ L _:=Int.not_lt.1 h;by_cases d:b=j+1
   .subst d;by_cases e:a=j;·rw[e];exact hx
    .exact Int.le_trans (i a j ad ad) hx
   .exact i a b hab ad
def adf(hlt:∀x y,lt x y=decide (key x<key y))L:∀i,i<=L.length->∀a b,a<b->b<i->kJ key (lv lt L i) a<=kJ key (lv lt L i) b
 |0,_=>λa b _ h=>by omega
 |i+1,h=>(afW hlt i _ (by grind[Fv]) (adf hlt L i ad)).1
end
def aey ms:(mb ms).Perm (dQ ms.length):=ade _ _ bg
theorem aez ms:(mb ms).Pairwise (λi j=>nO ms i<=nO ms j):=by rw[mr];intro i j hi b a;have c:=NA ms;have h:=adf (lt:=λx y=>decide (qg (nO ms x) (nO ms y)<0)) (key:=nO ms) (λx y=>by grind[qg]) (dQ ms.length) ms.length bg i j a ad;grind[kJ,mb]
end
structure Lays (n:Nat) (T:List (Int×Int)):Prop where
 pos:∀x∈T,0<=x.1/\0<x.2/\x.1+x.2<=(n:Int)
 apart:T.Pairwise (λx y=>x.1+x.2<=y.1\/y.1+y.2<=x.1)
 zero:0<n->∃z∈T,z.1<=0/\0<z.1+z.2
 next:∀x∈T,x.1+x.2<(n:Int)->∃z∈T,z.1<=x.1+x.2/\x.1+x.2<z.1+z.2
def Lays.perm{n T a}(h:Lays n T)(p:T.Perm a):Lays n a:=
 ⟨λx hx=>h.pos x (p.mem_iff.2 hx),(p.pairwise_iff (λh=>h.symm)).1 h.apart,λhn=>by
   obtain⟨z,hz,h1⟩:=h.zero hn;exact⟨z,p.mem_iff.1 hz,h1⟩,λx hx b=>by
   obtain⟨z,hz,h1⟩:=h.next x (p.mem_iff.2 hx) b;exact⟨z,p.mem_iff.1 hz,h1⟩⟩
def EH{L:List (Nat×Int×Int)}{k x}(h:L[k]?=ab x):iM (L.take (k+1))=iM (L.take k)+x.2.2:=by grind[List.take_add_one,ZK]
def N2 ms:((ju ms).map (λx=>(x.2.1,x.2.2))).Perm (ms.map ck):=by unfold ju;rw[List.map_map];refine((aey ms).map _).trans (List.Perm.of_eq ?_);refine List.ext_getElem? λi=>?_;grind[nO,Tu,ck]
def Jp ms:(ju ms).Pairwise (λx y=>x.2.1<=y.2.1):=by grind[ju,aez]
def IT{n}{L:List (Nat×Int×Int)}(h:Lays n (L.map (λx=>(x.2.1,x.2.2))))(o:L.Pairwise (λx y=>x.2.1<=y.2.1)):∀k,k<=L.length->
 (∀j x,j<k->L[j]?=ab x->x.2.1=iM (L.take j)/\x.2.1+x.2.2<=iM (L.take k))/\0<=iM (L.take k)/\iM (L.take k)<=(n:Int)
 |0,_=>⟨λj x b=>ad,by simp[iM],by simp[iM]⟩
 |k+1,hk=>by
  obtain⟨h1,v,w⟩:=IT h o k ad;obtain⟨x,hx⟩:∃x,L[k]?=ab x:=⟨_,cE ad⟩;have l:∀(j:Nat) y,L[j]?=ab y->(y.2.1,y.2.2)∈L.map (λx=>(x.2.1,x.2.2)):=λj y c=>gP.2 ⟨y,cX c,aa⟩
  have u:∀(i j:Nat) (y z),i<j->L[i]?=ab y->L[j]?=ab z->y.2.1<=z.2.1/\(y.2.1+y.2.2<=z.2.1\/z.2.1+z.2.2<=y.2.1):=λi j y z m c hz=>by obtain⟨hi,rfl⟩:=eJ.1 c;obtain⟨b,rfl⟩:=eJ.1 hz;exact⟨mr.1 o i j hi b m,mr.1 (List.pairwise_map.1 h.apart) i j hi b m⟩
  have t:=h.pos _ (l k x hx);simp only at t
  have r:iM (L.take k)<(n:Int)->∃z∈L,z.2.1<=iM (L.take k)/\iM (L.take k)<z.2.1+z.2.2:=λhlt=>by
   cases k with
   |zero=>
    have q:iM (L.take 0)=0:=bc;rw[q]at hlt⊢;obtain⟨z,hz,d⟩:=h.zero ad;grind
   |succ k=>
    obtain⟨p,a⟩:∃p,L[k]?=ab p:=⟨_,cE ad⟩;have d:=(h1 k p ad a).1;have e:=EH a;have f:=h.next _ (l k p a);simp only at f;rw[e,<-d]at hlt⊢;obtain⟨z,hz,g⟩:=f hlt;obtain⟨y,c,rfl⟩:=gP.1 hz;exact⟨y,c,g⟩
  have s:iM (L.take k)<=x.2.1:=by
   cases k with
   |zero=>grind[iM]
   |succ k=>
    obtain⟨p,a⟩:∃p,L[k]?=ab p:=⟨_,cE ad⟩;have d:=(h1 k p ad a).1;have e:=EH a;have f:=u k _ p x ad a hx;have g:=h.pos _ (l k p a);simp only at g;omega
  have B:x.2.1=iM (L.take k):=by
   rcases alF s with hlt|A;·exfalso;obtain⟨z,hz,d,e⟩:=r ad;obtain⟨j,b⟩:=p9.1 hz;grind
   .omega
  have hes:=EH hx;refine⟨λj y b c=>?_,ad,ad⟩;rcases vv.1 b with hlt|rfl;·grind
  .grind
def adD{n L}(h:Lays n (L.map (λx=>(x.2.1,x.2.2))))(g:L.Pairwise (λx y=>x.2.1<=y.2.1)):iM L=(n:Int):=by
 obtain⟨h1,d,b⟩:=IT h g L.length (b9 _);rw[lp]at h1 d b;rcases alF b with hlt|k
 .exfalso;have hend:∀z∈L,z.2.1+z.2.2<=iM L:=λz hz=>by grind[p9]
  by_cases c:L.length=0;·obtain rfl:=List.length_eq_zero_iff.1 c;obtain⟨z,hz,_⟩:=h.zero ad;simp at hz
  .obtain⟨p,a⟩:∃p,L[L.length -1]?=ab p:=⟨_,cE ad⟩;have j:=(h1 _ p ad a).1;have e:=EH a;rw[show L.length -1+1=L.length by omega,lp]at e;obtain⟨z,hz,f⟩:=h.next (p.2.1,p.2.2) (gP.2 ⟨p,cX a,aa⟩) ad;obtain⟨y,i,rfl⟩:=gP.1 hz;have:=hend y i;simp only at f;omega
 .omega
def ago{n ms}(h:Lays n (ms.map ck))(hn:(n:Int)<=4611686018427387903):Lu n ms:=by have cv:=h.perm (N2 ms).symm;refine⟨λpre x g=>?_,adD cv (Jp ms)⟩;obtain⟨h1,c⟩:=af4 g;have hk:=(eJ.1 h1).1;obtain⟨d,i,j⟩:=IT cv (Jp ms) (pre.length+1) hk;obtain⟨_,b,_⟩:=IT cv (Jp ms) pre.length ad;have a:=(d _ x ad h1).1;have e:=EH h1;have f:=cv.pos _ (gP.2 ⟨x,cX h1,aa⟩);simp only at f;rw[c]at a b e;exact⟨a,b,ad,ad⟩
def axv{P i}{a:Act}{w x f e d A n c bs}(l:List UInt8)(s:bs.take n=l.map (λb=>(b.toNat:Int)))(hn:n=l.length)(t:0<l.length)(ho:i.op=.convert f d x)(hx:a.eval x=ae A n c)(hb:b2 w A bs)(r:P.underlying f=ab (.slice e))(p:P.underlying e=ab (.int dO))(m:P.underlying d=ab .string):
 (execOp a.eval i).run P w=.ok (.value (.string ⟨l.toArray⟩)) w:=by
 subst hn;have hlen:l.length<=bs.length:=by grind[List.length_map]
 obtain⟨b,o,rfl,hc⟩:=hb ad
 have h:=run_convert_bytes_back (P:=P) w f d e _ c l r p m (λj q=>by rw[mW];have k:=hc j ad;rw[k];have g:(bs.take l.length)[j]?=ab ((l[j].toNat:Int)):=aH;rw[List.getElem?_take,if_pos q]at g;rw[g];rfl);unfold execOp;simp[ho,hx,h]
def awC G w(E:w.cell? ⟨0,0,af⟩=ab (J R G)):
 aD ax 9 #[] w λe w'=>e=aB (ai az)/\au w w':=by
 have T:=hid E
 have S:aE (∀W f aK,au w W->b2 W f lA->b2 W aK uQ->qb W f->qb W aK->aD _ 44 #[ae aK 6 6,ae f 7 7,J R 3] W λe w'=>∃B C t,e=aB (eL 6 7 _ _ (ae B 3 C))/\cf W w' t/\ia t B C o4):=hid (λW f aK g h1 p r s=>by have q:=atq f aK 7 6 3 _ _ G W ⟨aS,aS⟩ aS aS aS aS aS h1 p r s (by unfold n';decide) (by unfold n';decide) (g.cell T (λh=>h));rw[atp]at q;exact q);obtain⟨X,l,hat⟩:∃a b,fR DK ([(4,1)]++[(-1,0)]) CD=(a,b):=⟨_,_,aa⟩;have hres:=avJ;unfold afg at hres;rw[hat]at hres;simp at hres;obtain⟨⟨⟨⟨⟨⟨⟨⟨H,I⟩,y⟩,K⟩,L⟩,M⟩,N⟩,z⟩,O⟩:=hres;have F:dY l:=⟨K,L,M,N,λx hx=>by rw[z]at hx;exact absurd hx fQ,by rw[z];exact cC _,by rw[O];unfold cO;decide⟩;have D:7<=l.bytes.length:=by have h:=congrArg List.length y;rw[List.length_take]at h;have Me:lA.length=7:=rfl;omega
 have U:aE (∀W i A j c,b2 W i uQ->qb W i->cU W A o4->Cells W 2 j 1 [J R 4,J .u64 1]->qb W j->aD ax 43 #[ae i 6 6,eL 6 7 (oV uQ) (oV lA) (ae A 3 c),J R 64,J R 2,ae j 1 1] W λe w'=>∃f c1 aK c2 pk,e=aB _/\cf W w' (cx f c1 l.bytes)):=hid (λW i A j c h1 p r s Z=>by have q:=avM i A j 6 c 1 7 64 2 _ (oV lA) uQ o4 Aj [0] [2] NS [(4,1)] W aS aS h1 p r ax3 aS aa (by rw[aeX];rfl) (by rw[aeX];decide) aoo ⟨aS,aS⟩ aS (by rw[Ho];exact anT) (by rw[Ho];show dY (fR DK ([(4,1)]++[(-1,0)]) CD).2;rw[hat];exact F) (by rw[Ho];show pw (fR DK ([(4,1)]++[(-1,0)]) CD).1=az;rw[hat];exact I) (by rw[Ho];show 7<=(fR DK ([(4,1)]++[(-1,0)]) CD).2.bytes.length;rw[hat];exact D) s Z ⟨aS,aS⟩ (λk hk=>by(have e:k=(4,1):=(by simpa using hk));(rw[e]);(unfold cO);decide);rw[Ho]at q;refine q.mono λe w' hq=>?_;obtain⟨f,c1,aK,c2,pk,_,n,v⟩:=hq;have Y:fR (⟨2,uQ.length,7,_,_,_⟩:wy) _ (nM 64 (gv 64 2 (max uQ.length 7)+0) _)=(X,l):=hat;rw[Y]at n v;simp only at n v;rw[H]at n;exact⟨f,c1,aK,c2,pk,n,v⟩);have Q:=hid y;clear E hat H I y K L M N z O F D;go_enter func9,ntmps9;have d:=a8 w;go_step;refine ah ?_;refine ag ?_;refine an ?_;go_step;refine ah ?_;refine e7 d #[J dO 97,J dO 98,J dO 99,J dO 100,J dO 101,J dO 102] 5 (λBC w1 d=>?_);refine Dr d 0 (FR uQ aa aa (d.aW 0) aa dW mm) (λaT d=>?_);refine ag ?_;refine an ?_;go_step;refine ah ?_;iterate 2 refine ag ?_
 refine e7 d #[J dO 100,J dO 101,J dO 102,J dO 120,J dO 97,J dO 98,J dO 99] 5 (λay6 bF d=>?_);refine Dr d 0 (FR lA aa aa (d.aW 0) aa dW mm) (λb8 d=>?_);refine aR (S _ _ _ d.only (d.at 0) (d.at 1) (λb hb=>((d.has 0).2 b hb)) (λb hb=>((d.has 1).2 b hb))) ?_;rintro e cA ⟨P,dx,bD,rfl,u,V⟩;replace d:=d.new _ u;refine aU ?_;refine aG (ar #[J R 4,J .u64 1]) (by(show _=_;kernel_rfl)) ?_;refine e7 d #[J R 4,J .u64 1] 105 (λay8 cR d=>?_);refine aR (U _ _ P _ dx (d.at 3) (λb hb=>((d.has 3).2 b hb)) (V.wm (d.at 1)) (aX.cellsOf (m:=1) (d.aW 0) aa) (λb hb=>by obtain⟨o,sp,e⟩:=hb;cases e;exact(d.has 0).2 _ aa)) ?_;rintro e dz ⟨f,c1,aK,c2,pk,rfl,u⟩;replace d:=d.new _ u;refine aU ?_;iterate 4 refine ag ?_
 refine bl d #[ae _ 0 0,ai _,J _ 0] (λcj dv d=>?_);refine bl d #[J _ 0,J _ 0] (λdw eU d=>?_);refine ag ?_;refine a' d 1 (ar _) (λgF d=>?_);refine a' d 0 (ar _) (λhI d=>?_);refine an ?_;go_step;refine ah ?_;refine bh d 0 #[J R 0,J R 0] ?_;refine aG (ar #[J R 0,J R 0]) (by(show _=_;kernel_rfl)) ?_;refine aG (ai az) (by(show _=_;kernel_rfl)) ?_;iterate 2 refine ag ?_
 refine aG _ (axv (bs:=l.bytes) ([100,101,102,120,97,98,99]:List UInt8) (Q.out.trans aa) aa aS aa aa (d.lK 2).1 dW mm Tryz.underlying9) ?_;refine aG (ai az) (by(show _=_;kernel_rfl)) ?_;iterate 3 refine ag ?_
 refine pl d 1 0 ?_;refine ag ?_;refine aG (ai az) (by(show _=_;kernel_rfl)) ?_;iterate 2 refine ag ?_
 refine an ?_;go_wp2_with fail;go_ret;exact⟨aa,d.only⟩
section
attribute [local irreducible] wpList cL
def Jg m A c w:
 aD ax 155 #[kW m A c] w λe w'=>e=aB (J R (cG m))/\au w w':=by
 unfold cG;by_cases hk:m.k=1;·have b:=hid hk;rw[if_pos hk];clear hk;go_enter Tryz.func155,Tryz.ntmps155;have a:=a8 w;go_step;refine ah ?_;refine bL (cs:=#[J _ _,J _ _,J _ _,J _ _,ae A _ c]) a _ (λd w1 a=>?_);refine cB ?_;refine pl a 0 0 ?_;refine dp b (ai az) ?_;refine b5 ?_;refine pl a 0 3 ?_;refine bX ?_;go_wp2_with fail;go_ret;exact⟨aa,a.only⟩
 .have b:=hid hk;rw[if_neg hk];clear hk;go_enter Tryz.func155,Tryz.ntmps155;have a:=a8 w;go_step;refine ah ?_;refine bL (cs:=#[J _ _,J _ _,J _ _,J _ _,ae A _ c]) a _ (λd f a=>?_);refine cB ?_;refine pl a 0 0 ?_;refine dp b (ai ao) ?_;refine b5 ?_;refine pl a 0 4 ?_;refine dU ?_;go_wp2_with fail;go_ret;exact⟨aa,a.only⟩
def Jj m A c w:
 aD ax 171 #[kW m A c] w λe w'=>e=aB (ar #[J R m.to,J R (cG m)])/\au w w':=by
 obtain⟨z,hz⟩:=ex (cG m);have d:aE (∀W,aD _ _ #[ar _] W λe w'=>e=aB (J _ z)/\au W w'):=hid (λW=>by rw[<-hz];exact Jg m A c W);rw[hz];clear hz;go_enter func171,ntmps171;have a:=a8 w;go_step;refine ah ?_;refine bL (cs:=#[J _ _,J _ _,J _ _,J _ _,ae A _ c]) a _ (λg w1 a=>?_);refine bl a #[J _ 0,J _ 0] (λb j a=>?_);refine cy ?_;refine bR a [3,5] (λi _=>match i with|3=>J R z|_=>a7) (λ_=>λ|5=>aj b #[J R m.to,J R z] 35|_=>emp) (λ|5=>[0]|_=>[]) (λ|1=>[1]|2=>[1]|_=>[]) (λ_=>[]) [1,5,7] (λh=>?_);refine aJ ?_;refine dl 0 1 ?_;refine eM 0 #[J R m.k,J R m.to,J R m.fr,J R m.n,ae A m.data.length c] ?_;refine dK (λf _ _=>d f) ?_;refine aJ ?_;refine fS _ ?_;refine bW λl a=>?_;replace a:=a.drop 1;go_wp2_with fail;refine c' (v:=_) (gG aa _ _ _ _ _ _ _ aa (a.aW 1) x4 aa aw) aa (⟨aa,a.only⟩)
def awg m A c w:
 aD ax 170 #[kW m A c] w λe w'=>e=aB (ar #[J R m.fr,J R m.n])/\au w w':=by
 go_enter func170,ntmps170;have a:=a8 w;go_step;refine ah ?_;refine bL (cs:=#[J _ _,J _ _,J _ _,J _ _,ae A _ c]) a _ (λb w1 a=>?_);refine bl a #[J _ 0,J _ 0] (λd f a=>?_);refine b5 ?_;refine pl a 1 2 ?_;refine ag ?_;refine pl a 1 3 ?_;refine ag ?_;refine a' a 0 (ar _) (λg a=>?_);refine an ?_;go_wp2_with fail;refine c' (v:=_) (gG aa _ _ _ _ _ _ _ aa (a.aW 0) x4 aa aw) aa (⟨aa,a.only⟩)
def ue(m:bO):Int:=if m.k≠1/\m.k≠2 then 11 else if cG m=0 then 7 else if lE (ck m)=ao then 2 else if m.k=1/\(0<m.data.length\/lE (src m)=ao)then 2 else if m.k=2/\(m.fr≠0\/m.n≠0)then 2 else 0
structure pG (m:bO):Prop where
 k:cO m.k
 F':cO m.to
 fr:cO m.fr
 n:cO m.n
 d:m.data.length<=9223372036854775807
def pG.len{m}(h:pG m):cO (cG m):=by
 unfold cG;split;·exact h.n
 .have:=h.d;unfold cO;omega
theorem Rr{m}(h:ue m=0):gd m:=by
 unfold ue at h;by_cases h1:m.k≠1/\m.k≠2;·omega
 .rw[if_neg h1]at h;by_cases a:cG m=0;·omega
  .rw[if_neg a]at h;cases h3:lE (ck m)with
   |false=>grind
   |true=>
    rw[h3,if_neg aS]at h;have c:=Gd.1 h3;by_cases b:m.k=1/\(0<m.data.length\/lE (src m)=ao);·grind
    .rw[if_neg b]at h;by_cases d:m.k=2/\(m.fr≠0\/m.n≠0);·omega
     .unfold gd w3;by_cases hk:m.k=1;·grind[cG,lE,src,ck,Gd]
      grind[cG,ck]
set_option maxHeartbeats 4000000 in
def ae7 m A c w(ho:pG m):
 aD ax 186 #[kW m A c] w λe w'=>e=aB (J R (ue m))/\au w w':=by
 obtain⟨z,hz⟩:=ex (cG m);have f:aE (∀W,aD _ _ #[ar _] W λe w'=>e=aB (J _ z)/\au W w'):=hid (λW=>by rw[<-hz];exact Jg m A c W);have j:aE (∀W,aD _ _ #[ar _] W λe w'=>e=aB (ar #[J _ _,J _ z])/\au W w'):=hid (λW=>by rw[<-hz];exact Jj m A c W);have C:aE (∀W,aD _ _ #[ar _] W λe w'=>e=aB _/\au W w'):=hid (λW=>awg m A c W);obtain⟨eF,hb1⟩:=ex (lE (ck m));obtain⟨eK,hb2⟩:=ex (lE (src m));have l:=hid (λW=>by have q:=NU _ z W ho.F' (hz▸ho.len);rw[show lE (m.to,z)=eF from by rw[<-hb1,ck,hz]]at q;exact q);have D:=hid (λW=>by have q:=NU _ _ W ho.fr ho.n;rw[show lE (m.fr,m.n)=eK from hb2]at q;exact q);unfold ue;rw[hz,hb1,hb2];clear hz hb1 hb2 ho;have bE:((1:Int)!=1)=false:=rfl;clear bE;by_cases s:m.k≠1/\m.k≠2;·rw[if_pos s];have E:=hid s.1;have F:=hid s.2;clear s;go_enter wE,wG;have a:=a8 w;go_step;refine ah ?_;refine bL (cs:=#[J _ _,J _ _,J _ _,J _ _,ae A _ c]) a _ (λd w1 a=>?_);refine ag ?_;refine an ?_;go_step;refine ah ?_;refine ag ?_;refine pl a 0 0 ?_;refine dp E (ai az) ?_;refine v2 ?_;refine pl a 0 0 ?_;refine dp F (ai az) ?_;refine ag ?_;refine an ?_;go_step;refine ah ?_;refine ag ?_;refine an ?_;go_wp2_with fail;go_ret;exact⟨aa,a.only⟩
 .rw[if_neg s];have p:m.k=1\/m.k=2:=ad;clear s;by_cases h1:z=0
  .subst h1;rw[if_pos aa];rcases p with hk|hk
   .have b:=hid hk;clear hk;go_enter wE,wG;have a:=a8 w;go_step;refine ah ?_;refine bL (cs:=#[J _ _,J _ _,J _ _,J _ _,ae A _ c]) a _ (λd S a=>?_);refine ag ?_;refine an ?_;go_step;refine ah ?_;refine ag ?_;refine pl a 0 0 ?_;refine dp b (ai ao) ?_;refine ag ?_;iterate 3 refine ps ?_
    refine ag ?_;refine an ?_;go_step;refine ah ?_;refine bh a 0 #[J R m.k,J R m.to,J R m.fr,J R m.n,ae A m.data.length c] ?_;refine aR (f _) ?_;rintro e bF ⟨rfl,g⟩;replace a:=a.aI g;refine aU ?_;refine pk (ai az) ?_;refine an ?_;go_step;refine ah ?_;refine ag ?_;refine an ?_;go_wp2_with fail;go_ret;exact⟨aa,a.only⟩
   .have b:=hid hk;clear hk;go_enter wE,wG;have a:=a8 w;go_step;refine ah ?_;refine bL (cs:=#[J _ _,J _ _,J _ _,J _ _,ae A _ c]) a _ (λd b8 a=>?_);refine ag ?_;refine an ?_;go_step;refine ah ?_;refine ag ?_;refine pl a 0 0 ?_;refine dp b (ai az) ?_;refine v2 ?_;refine pl a 0 0 ?_;refine dp b (ai ao) ?_;refine ag ?_;refine an ?_;go_step;refine ah ?_;refine bh a 0 #[J R m.k,J R m.to,J R m.fr,J R m.n,ae A m.data.length c] ?_;refine aR (f _) ?_;rintro e cA ⟨rfl,g⟩;replace a:=a.aI g;refine aU ?_;refine pk (ai az) ?_;refine an ?_;go_step;refine ah ?_;refine ag ?_;refine an ?_;go_wp2_with fail;go_ret;exact⟨aa,a.only⟩
  .have o:=hid h1;rw[if_neg h1];clear h1;cases eF with
   |false=>
    rw[if_pos aa];rcases p with hk|hk
    .have b:=hid hk;clear hk;go_enter wE,wG;have a:=a8 w;go_step;refine ah ?_;refine bL (cs:=#[J _ _,J _ _,J _ _,J _ _,ae A _ c]) a _ (λd cR a=>?_);refine ag ?_;refine an ?_;go_step;refine ah ?_;refine ag ?_;refine pl a 0 0 ?_;refine dp b (ai ao) ?_;refine ag ?_;iterate 3 refine ps ?_
     refine ag ?_;refine an ?_;go_step;refine ah ?_;refine bh a 0 #[J R m.k,J R m.to,J R m.fr,J R m.n,ae A m.data.length c] ?_;refine aR (f _) ?_;rintro e dz ⟨rfl,g⟩;replace a:=a.aI g;refine aU ?_;refine dp o (ai ao) ?_;refine an ?_;go_step;refine ah ?_;refine bh a 0 #[J R m.k,J R m.to,J R m.fr,J R m.n,ae A m.data.length c] ?_;refine aR (j _) ?_;rintro e dv ⟨rfl,g⟩;replace a:=a.aI g;refine aU ?_;refine aR (l _) ?_;rintro e eU ⟨rfl,g⟩;replace a:=a.aI g;refine aU ?_;refine pk (ai az) ?_;refine an ?_;go_step;refine ah ?_;refine ag ?_;refine an ?_;go_wp2_with fail;go_ret;exact⟨aa,a.only⟩
    .have b:=hid hk;clear hk;go_enter wE,wG;have a:=a8 w;go_step;refine ah ?_;refine bL (cs:=#[J _ _,J _ _,J _ _,J _ _,ae A _ c]) a _ (λd G a=>?_);refine ag ?_;refine an ?_;go_step;refine ah ?_;refine ag ?_;refine pl a 0 0 ?_;refine dp b (ai az) ?_;refine v2 ?_;refine pl a 0 0 ?_;refine dp b (ai ao) ?_;refine ag ?_;refine an ?_;go_step;refine ah ?_;refine bh a 0 #[J R m.k,J R m.to,J R m.fr,J R m.n,ae A m.data.length c] ?_;refine aR (f _) ?_;rintro e H ⟨rfl,g⟩;replace a:=a.aI g;refine aU ?_;refine dp o (ai ao) ?_;refine an ?_;go_step;refine ah ?_;refine bh a 0 #[J R m.k,J R m.to,J R m.fr,J R m.n,ae A m.data.length c] ?_;refine aR (j _) ?_;rintro e I ⟨rfl,g⟩;replace a:=a.aI g;refine aU ?_;refine aR (l _) ?_;rintro e K ⟨rfl,g⟩;replace a:=a.aI g;refine aU ?_;refine pk (ai az) ?_;refine an ?_;go_step;refine ah ?_;refine ag ?_;refine an ?_;go_wp2_with fail;go_ret;exact⟨aa,a.only⟩
   |true=>
    rw[if_neg aS];by_cases i:m.k=1
    .have b:=hid i;have hk2:¬m.k=2:=ad;by_cases v:0<m.data.length
     .rw[if_pos ⟨i,.inl v⟩];have u:((m.data.length:Int)>0):=ad;have x:=hid u;clear p i hk2 v u;go_enter wE,wG;have a:=a8 w;go_step;refine ah ?_;refine bL (cs:=#[J _ _,J _ _,J _ _,J _ _,ae A _ c]) a _ (λd L a=>?_);refine ag ?_;refine an ?_;go_step;refine ah ?_;refine ag ?_;refine pl a 0 0 ?_;refine dp b (ai ao) ?_;refine ag ?_;iterate 3 refine ps ?_
      refine ag ?_;refine an ?_;go_step;refine ah ?_;refine bh a 0 #[J R m.k,J R m.to,J R m.fr,J R m.n,ae A m.data.length c] ?_;refine aR (f _) ?_;rintro e M ⟨rfl,g⟩;replace a:=a.aI g;refine aU ?_;refine dp o (ai ao) ?_;refine an ?_;go_step;refine ah ?_;refine bh a 0 #[J R m.k,J R m.to,J R m.fr,J R m.n,ae A m.data.length c] ?_;refine aR (j _) ?_;rintro e N ⟨rfl,g⟩;replace a:=a.aI g;refine aU ?_;refine aR (l _) ?_;rintro e O ⟨rfl,g⟩;replace a:=a.aI g;refine aU ?_;refine pk (ai ao) ?_;refine an ?_;go_step;refine ah ?_;refine ag ?_;refine pl a 0 0 ?_;refine dp b (ai az) ?_;refine v2 ?_;refine pl a 0 4 ?_;refine ag ?_;refine aG (ai az) (by(have h:=x.out;go_simp;try omega)) ?_;refine ag ?_;iterate 4 refine ps ?_
      refine v2 ?_;refine an ?_;go_step;refine ah ?_;refine ag ?_;refine an ?_;go_wp2_with fail;go_ret;exact⟨aa,a.only⟩
     .have u:¬((m.data.length:Int)>0):=ad;have x:=hid u;cases eK with
      |false=>
       rw[if_pos ⟨i,.inr aa⟩];clear p i hk2 v u;go_enter wE,wG;have a:=a8 w;go_step;refine ah ?_;refine bL (cs:=#[J _ _,J _ _,J _ _,J _ _,ae A _ c]) a _ (λd P a=>?_);refine ag ?_;refine an ?_;go_step;refine ah ?_;refine ag ?_;refine pl a 0 0 ?_;refine dp b (ai ao) ?_;refine ag ?_;iterate 3 refine ps ?_
       refine ag ?_;refine an ?_;go_step;refine ah ?_;refine bh a 0 #[J R m.k,J R m.to,J R m.fr,J R m.n,ae A m.data.length c] ?_;refine aR (f _) ?_;rintro e Q ⟨rfl,g⟩;replace a:=a.aI g;refine aU ?_;refine dp o (ai ao) ?_;refine an ?_;go_step;refine ah ?_;refine bh a 0 #[J R m.k,J R m.to,J R m.fr,J R m.n,ae A m.data.length c] ?_;refine aR (j _) ?_;rintro e T ⟨rfl,g⟩;replace a:=a.aI g;refine aU ?_;refine aR (l _) ?_;rintro e U ⟨rfl,g⟩;replace a:=a.aI g;refine aU ?_;refine pk (ai ao) ?_;refine an ?_;go_step;refine ah ?_;refine ag ?_;refine pl a 0 0 ?_;refine dp b (ai az) ?_;refine v2 ?_;refine pl a 0 4 ?_;refine ag ?_;refine aG (ai ao) (by(have h:=x.out;go_simp;exact j3 ad)) ?_;refine ag ?_;refine bh a 0 #[J R m.k,J R m.to,J R m.fr,J R m.n,ae A m.data.length c] ?_;refine aR (C _) ?_;rintro e V ⟨rfl,g⟩;replace a:=a.aI g;refine aU ?_;refine aR (D _) ?_;rintro e X ⟨rfl,g⟩;replace a:=a.aI g;refine aU ?_;refine pk (ai az) ?_;refine v2 ?_;refine an ?_;go_step;refine ah ?_;refine ag ?_;refine an ?_;go_wp2_with fail;go_ret;exact⟨aa,a.only⟩
      |true=>
       rw[if_neg (λh=>h.2.elim v (by intro h;cases h)),if_neg (λh=>hk2 h.1)];clear p i hk2 v u;go_enter wE,wG;have a:=a8 w;go_step;refine ah ?_;refine bL (cs:=#[J _ _,J _ _,J _ _,J _ _,ae A _ c]) a _ (λd Y a=>?_);refine ag ?_;refine an ?_;go_step;refine ah ?_;refine ag ?_;refine pl a 0 0 ?_;refine dp b (ai ao) ?_;refine ag ?_;iterate 3 refine ps ?_
       refine ag ?_;refine an ?_;go_step;refine ah ?_;refine bh a 0 #[J R m.k,J R m.to,J R m.fr,J R m.n,ae A m.data.length c] ?_;refine aR (f _) ?_;rintro e Z ⟨rfl,g⟩;replace a:=a.aI g;refine aU ?_;refine dp o (ai ao) ?_;refine an ?_;go_step;refine ah ?_;refine bh a 0 #[J R m.k,J R m.to,J R m.fr,J R m.n,ae A m.data.length c] ?_;refine aR (j _) ?_;rintro e UL ⟨rfl,g⟩;replace a:=a.aI g;refine aU ?_;refine aR (l _) ?_;rintro e UM ⟨rfl,g⟩;replace a:=a.aI g;refine aU ?_;refine pk (ai ao) ?_;refine an ?_;go_step;refine ah ?_;refine ag ?_;refine pl a 0 0 ?_;refine dp b (ai az) ?_;refine v2 ?_;refine pl a 0 4 ?_;refine ag ?_;refine aG (ai ao) (by(have h:=x.out;go_simp;exact j3 ad)) ?_;refine ag ?_;refine bh a 0 #[J R m.k,J R m.to,J R m.fr,J R m.n,ae A m.data.length c] ?_;refine aR (C _) ?_;rintro e UN ⟨rfl,g⟩;replace a:=a.aI g;refine aU ?_;refine aR (D _) ?_;rintro e agS ⟨rfl,g⟩;replace a:=a.aI g;refine aU ?_;refine pk (ai ao) ?_;refine v2 ?_;refine an ?_;go_step;refine ah ?_;refine ag ?_;refine pl a 0 0 ?_;refine dp b (ai ao) ?_;refine pk (ai ao) ?_;iterate 8 refine ps ?_
       refine pk (ai ao) ?_;refine an ?_;go_step;refine ah ?_;refine ag ?_;refine an ?_;go_wp2_with fail;go_ret;exact⟨aa,a.only⟩
    .have hk2:m.k=2:=ad;have b:=hid hk2;rw[if_neg (λh=>i h.1)];by_cases r:m.fr=0
     .have y:=hid r;by_cases t:m.n=0
      .rw[if_neg (λh=>h.2.elim (λh=>h r) (λh=>h t))];have B:=hid t;clear p i hk2 r t;go_enter wE,wG;have a:=a8 w;go_step;refine ah ?_;refine bL (cs:=#[J _ _,J _ _,J _ _,J _ _,ae A _ c]) a _ (λd aya a=>?_);refine ag ?_;refine an ?_;go_step;refine ah ?_;refine ag ?_;refine pl a 0 0 ?_;refine dp b (ai az) ?_;refine v2 ?_;refine pl a 0 0 ?_;refine dp b (ai ao) ?_;refine ag ?_;refine an ?_;go_step;refine ah ?_;refine bh a 0 #[J R m.k,J R m.to,J R m.fr,J R m.n,ae A m.data.length c] ?_;refine aR (f _) ?_;rintro e ayb ⟨rfl,g⟩;replace a:=a.aI g;refine aU ?_;refine dp o (ai ao) ?_;refine an ?_;go_step;refine ah ?_;refine bh a 0 #[J R m.k,J R m.to,J R m.fr,J R m.n,ae A m.data.length c] ?_;refine aR (j _) ?_;rintro e ayc ⟨rfl,g⟩;replace a:=a.aI g;refine aU ?_;refine aR (l _) ?_;rintro e ayd ⟨rfl,g⟩;replace a:=a.aI g;refine aU ?_;refine pk (ai ao) ?_;refine an ?_;go_step;refine ah ?_;refine ag ?_;refine pl a 0 0 ?_;refine dp b (ai ao) ?_;refine pk (ai ao) ?_;iterate 10 refine ps ?_
       refine pk (ai ao) ?_;refine an ?_;go_step;refine ah ?_;refine ag ?_;refine pl a 0 0 ?_;refine dp b (ai az) ?_;refine v2 ?_;refine pl a 0 2 ?_;refine dp y (ai ao) ?_;refine v2 ?_;refine pl a 0 3 ?_;refine dp B (ai ao) ?_;refine v2 ?_;refine an ?_;go_step;refine ah ?_;refine ag ?_;refine an ?_;go_wp2_with fail;go_ret;exact⟨aa,a.only⟩
      .rw[if_pos ⟨hk2,.inr t⟩];have B:=hid t;clear p i hk2 r t;go_enter wE,wG;have a:=a8 w;go_step;refine ah ?_;refine bL (cs:=#[J _ _,J _ _,J _ _,J _ _,ae A _ c]) a _ (λd aye a=>?_);refine ag ?_;refine an ?_;go_step;refine ah ?_;refine ag ?_;refine pl a 0 0 ?_;refine dp b (ai az) ?_;refine v2 ?_;refine pl a 0 0 ?_;refine dp b (ai ao) ?_;refine ag ?_;refine an ?_;go_step;refine ah ?_;refine bh a 0 #[J R m.k,J R m.to,J R m.fr,J R m.n,ae A m.data.length c] ?_;refine aR (f _) ?_;rintro e ayf ⟨rfl,g⟩;replace a:=a.aI g;refine aU ?_;refine dp o (ai ao) ?_;refine an ?_;go_step;refine ah ?_;refine bh a 0 #[J R m.k,J R m.to,J R m.fr,J R m.n,ae A m.data.length c] ?_;refine aR (j _) ?_;rintro e ayg ⟨rfl,g⟩;replace a:=a.aI g;refine aU ?_;refine aR (l _) ?_;rintro e ayh ⟨rfl,g⟩;replace a:=a.aI g;refine aU ?_;refine pk (ai ao) ?_;refine an ?_;go_step;refine ah ?_;refine ag ?_;refine pl a 0 0 ?_;refine dp b (ai ao) ?_;refine pk (ai ao) ?_;iterate 10 refine ps ?_
       refine pk (ai ao) ?_;refine an ?_;go_step;refine ah ?_;refine ag ?_;refine pl a 0 0 ?_;refine dp b (ai az) ?_;refine v2 ?_;refine pl a 0 2 ?_;refine dp y (ai ao) ?_;refine v2 ?_;refine pl a 0 3 ?_;refine dp B (ai az) ?_;refine v2 ?_;refine an ?_;go_step;refine ah ?_;refine ag ?_;refine an ?_;go_wp2_with fail;go_ret;exact⟨aa,a.only⟩
     .have y:=hid r;rw[if_pos ⟨hk2,.inl r⟩];clear p i hk2 r;go_enter wE,wG;have a:=a8 w;go_step;refine ah ?_;refine bL (cs:=#[J _ _,J _ _,J _ _,J _ _,ae A _ c]) a _ (λd ayi a=>?_);refine ag ?_;refine an ?_;go_step;refine ah ?_;refine ag ?_;refine pl a 0 0 ?_;refine dp b (ai az) ?_;refine v2 ?_;refine pl a 0 0 ?_;refine dp b (ai ao) ?_;refine ag ?_;refine an ?_;go_step;refine ah ?_;refine bh a 0 #[J R m.k,J R m.to,J R m.fr,J R m.n,ae A m.data.length c] ?_;refine aR (f _) ?_;rintro e aB9 ⟨rfl,g⟩;replace a:=a.aI g;refine aU ?_;refine dp o (ai ao) ?_;refine an ?_;go_step;refine ah ?_;refine bh a 0 #[J R m.k,J R m.to,J R m.fr,J R m.n,ae A m.data.length c] ?_;refine aR (j _) ?_;rintro e aCa ⟨rfl,g⟩;replace a:=a.aI g;refine aU ?_;refine aR (l _) ?_;rintro e aCb ⟨rfl,g⟩;replace a:=a.aI g;refine aU ?_;refine pk (ai ao) ?_;refine an ?_;go_step;refine ah ?_;refine ag ?_;refine pl a 0 0 ?_;refine dp b (ai ao) ?_;refine pk (ai ao) ?_;iterate 10 refine ps ?_
      refine pk (ai ao) ?_;refine an ?_;go_step;refine ah ?_;refine ag ?_;refine pl a 0 0 ?_;refine dp b (ai az) ?_;refine v2 ?_;refine pl a 0 2 ?_;refine dp y (ai az) ?_;refine ag ?_;iterate 3 refine ps ?_
      refine v2 ?_;refine an ?_;go_step;refine ah ?_;refine ag ?_;refine an ?_;go_wp2_with fail;go_ret;exact⟨aa,a.only⟩
end
section
attribute [local irreducible] wpList cL
def hasB(m:bO)(off:Int):Bool:=decide (m.to<=off/\off<m.to+cG m)
def s'(ms:List bO)(off:Int):Int:=match ms.findIdx? (λm=>hasB m off)with|some i=>(i:Int)|none=>-1
def zo(o n:Int)(m:bO):Int:=if ue m≠0 then ue m else if m.k=1/\m.fr+m.n>o then 5 else if m.to+cG m>n then 6 else 0
def avV m b c off w(hv:eY (ck m)):
 aD ax 165 #[kW m b c,J R off] w λe w'=>e=aB (ai (hasB m off))/\au w w':=by
 obtain⟨r,hr⟩:=ex (hasB m off);have d:=hid (λW=>aa3 _ _ _ W hv r hr);have f:=hid (λW=>Jj m b c W);rw[hr];clear hr hv;obtain⟨z,hz⟩:=ex (cG m);rw[hz]at d f;clear hz;go_enter func165,ntmps165;have a:=a8 w;go_step;refine ah ?_;refine bL (cs:=#[J _ _,J _ _,J _ _,J _ _,ae b _ c]) a _ (λg w1 a=>?_);refine dV ?_;refine bh a 0 #[J R m.k,J R m.to,J R m.fr,J R m.n,ae b m.data.length c] ?_;refine bC (f _) a (λh a=>?_);refine ag ?_;refine bC (d _) a (λi a=>?_);refine bX ?_;go_wp2_with fail;go_ret;exact⟨aa,a.only⟩
def afm(o n)(g1 g2)A c ms off w(v:cU w A ms)(N:ms.length<=1048576)(hv:∀m∈ms,eY (ck m)):
 aD ax 77 #[eL o n g1 g2 (ae A ms.length c),J R off] w λe w'=>e=aB (J R (s' ms off))/\au w w':=by
 have F:=hid v;have G:=hid hv;clear v hv;go_enter func77,ntmps77;have a:=a8 w;go_step;refine ah ?_;refine bL a (ar _) (λB w1 a=>?_);refine ag ?_;refine ah ?_;refine ag ?_;refine an ?_;have p:=a.pk [0];go_wp2_with fail;go_loopw [5] (λk wr=>∃j:Nat,j<=ms.length/\k=J R (j:Int)/\aE (∀(i:Nat) (x:bO),i<j->ms[i]?=ab x->hasB x off=ao)/\ak w (λ_=>False) wr [aj B (bb o n g1 g2 (ae A ms.length c)) 26]) (λk wr=>ms.length -(c5 k).toNat);case atStart=>exact⟨0,cC _,aa,hid (λi x h=>absurd h (Ad _)),p⟩
 case round=>
  clear a p;obtain⟨j,M,rfl,b,a⟩:=hrel;by_cases hlt:j<ms.length
  .have I:(j:Int)<(ms.length:Int):=ad;obtain⟨m,f⟩:∃m,ms[j]?=ab m:=⟨_,cE hlt⟩;obtain⟨q,K,z,H,s,t,u⟩:=cU.jb F f;have C:=hid s;have L:=hid t;have D:=hid u;have d:=hid f;clear s t u f;obtain⟨r,hr⟩:=ex (hasB m off);have l:=hid hr;have E:aE (∀W,aD _ _ #[ar _,J _ _] W λe w'=>e=aB (ai r)/\au W w'):=hid (λW=>by rw[<-hr];exact avV m z H _ W (G m (cX d)));clear hr;go_step;refine ah ?_;refine v2 ?_;refine pl a 0 66 ?_ (hv:=e');refine ag ?_;refine a1 (ai az) ?_;refine b5 ?_;refine pl a 0 66 ?_ (hv:=e');refine ag ?_;refine aG _ (b4 24 73 5 (bj 14) _ aa ee aw q K _ c j _ (by show ae A _ _=_;rw[C]) aa hlt aa) ?_;refine aG _ (by(refine eW 73 _ aa q _ aa _ (D _ a.only) fO aa aw)) ?_;refine ag ?_;refine bC (E _) a (λO a=>?_);refine an ?_;cases r with
   |true=>
    refine ah ?_;refine dU ?_;go_wp2_with fail;go_ret;exact⟨by rw[show s' ms _=(j:Int)from by unfold s';rw[Mc d l.out b]];rfl,a.only⟩
   |false=>
    refine b5 ?_;refine pad (j:Int) 1 ((j+1:Nat):Int) ?_;refine bX ?_;go_wp2_with fail;go_roundw;case rel=>exact⟨j+1,ad,aa,hid (λi y hi g=>by rcases vv.1 hi with h|rfl;exact b i y h g;rw[d]at g;cases g;exact l),a⟩
    case measure=>simp[c5]<;>omega
  .have I:¬(j:Int)<(ms.length:Int):=ad;obtain rfl:j=ms.length:=ad;go_step;refine ah ?_;refine v2 ?_;refine pl a 0 66 ?_ (hv:=e');refine ag ?_;refine a1 (ai ao) ?_;refine ah ?_;refine ag ?_;refine an ?_;go_wp2_with fail;go_ret;exact⟨by rw[show s' ms _=-1 from by unfold s';rw[Mb (λi x hi=>b i x (eJ.1 hi).1 hi)]];rfl,a.only⟩
def awe(o n)(g1 g2)S(I:S.oneCell'=az)m b c w(ho:pG m):
 aD ax 238 #[eL o n g1 g2 S,kW m b c] w λe w'=>e=aB (J R (zo o n m))/\au w w':=by
 obtain⟨z,hz⟩:=ex (ue m);have l:aE (∀W,aD _ _ #[ar _] W λe w'=>e=aB (J _ z)/\au W w'):=hid (λW=>by rw[<-hz];exact ae7 m b c W ho);unfold zo;rw[hz];by_cases x:z=0
 .subst x;have u:=Rr hz;rw[if_neg (λh=>h aa)];have E:=u.ck;have t:aE (∀W,aD _ _ #[ar _] W λe w'=>e=aB _/\au W w'):=hid (λW=>Jg m b c W);clear hz ho;obtain⟨fD,B⟩:=ex (cG m);rw[B]at t E⊢;clear B;by_cases hk:m.k=1
  .have p:=hid hk;have D:=(u.copy hk);obtain⟨F,G,H,_⟩:=D;by_cases q:m.fr+m.n>o;·rw[if_pos ⟨hk,q⟩];have v:=hid q;clear q hk u;go_enter GB,GD;have a:=a8 w;go_step;refine ah ?_;refine bL a (ar _) (λr w1 a=>?_);refine bL (cs:=#[J _ _,J _ _,J _ _,J _ _,ae b _ c]) a _ (λs X a=>?_);refine ag ?_;refine an ?_;go_step;refine ah ?_;refine bh a 0 #[J R m.k,J R m.to,J R m.fr,J R m.n,ae b m.data.length c] ?_;refine aR (l _) ?_;rintro e bF ⟨rfl,g⟩;replace a:=a.aI g;refine aU ?_;refine ag ?_;refine an ?_;go_step;refine ah ?_;refine ag ?_;refine pk (ai ao) ?_;refine an ?_;go_step;refine ah ?_;refine ag ?_;refine pl a 0 0 ?_;refine dp p (ai az) ?_;refine v2 ?_;refine pl a 0 2 ?_;refine ag ?_;refine pl a 0 3 ?_;refine pad _ _ (m.fr+m.n) ?_;refine ag ?_;refine pl a 1 0 ?_ (hv:=kI);refine aG (ai az) (by(have h:=v.out;go_simp;try omega)) ?_;refine ag ?_;refine an ?_;go_step;refine ah ?_;refine ag ?_;refine an ?_;go_wp2_with fail;go_ret;exact⟨aa,a.only⟩
   .rw[if_neg (λh=>q h.2)];have v:=hid q;clear q hk u;by_cases d:m.to+fD>n
    .have f:=hid d;rw[if_pos d];clear d;go_enter GB,GD;have a:=a8 w;go_step;refine ah ?_;refine bL a (ar _) (λr b8 a=>?_);refine bL (cs:=#[J _ _,J _ _,J _ _,J _ _,ae b _ c]) a _ (λs cA a=>?_);refine ag ?_;refine an ?_;go_step;refine ah ?_;refine bh a 0 #[J R m.k,J R m.to,J R m.fr,J R m.n,ae b m.data.length c] ?_;refine aR (l _) ?_;rintro e cR ⟨rfl,g⟩;replace a:=a.aI g;refine aU ?_;refine ag ?_;refine an ?_;go_step;refine ah ?_;refine ag ?_;refine pk (ai ao) ?_;refine an ?_;go_step;refine ah ?_;refine ag ?_;refine pl a 0 0 ?_;refine dp p (ai az) ?_;refine v2 ?_;refine pl a 0 2 ?_;refine ag ?_;refine pl a 0 3 ?_;refine pad _ _ (m.fr+m.n) ?_;refine ag ?_;refine pl a 1 0 ?_ (hv:=kI);refine aG (ai ao) (by(have h:=v.out;go_simp;try omega)) ?_;refine ag ?_;refine an ?_;go_step;refine cy ?_;refine bR a [3] (λi _=>match i with|3=>J R fD|_=>a7) (λ_ _=>emp) (λ_=>[]) (λ|1=>[0]|2=>[0]|6=>[1]|_=>[]) (λ_=>[]) [0,1,5] (λy=>?_);refine aJ ?_;refine dl 0 1 ?_;refine eM 0 #[J R m.k,J R m.to,J R m.fr,J R m.n,ae b m.data.length c] ?_;refine di (λj Fr a=>(t j).mono ?_) ?_;·rintro e A ⟨rfl,g⟩;exact⟨{},aa,(a.aI g).dE⟩
     refine aL _ (λ_ _ _=>mu 3 _ _ 3 aa _ _ (m.to+fD) aa aa ad ad ad) ?_;refine aJ ?_;refine dl 0 1 ?_ (hv:=ih);refine aL (ai az) (λ_ _ _=>by(have h:=f.out;go_simp;try omega)) ?_;refine bW λdz a=>?_;replace a:=a.drop 2;go_step;refine ah ?_;refine ag ?_;refine an ?_;go_wp2_with fail;go_ret;exact⟨aa,a.only⟩
    .have f:=hid d;rw[if_neg d];clear d;go_enter GB,GD;have a:=a8 w;go_step;refine ah ?_;refine bL a (ar _) (λr dv a=>?_);refine bL (cs:=#[J _ _,J _ _,J _ _,J _ _,ae b _ c]) a _ (λs eU a=>?_);refine ag ?_;refine an ?_;go_step;refine ah ?_;refine bh a 0 #[J R m.k,J R m.to,J R m.fr,J R m.n,ae b m.data.length c] ?_;refine aR (l _) ?_;rintro e K ⟨rfl,g⟩;replace a:=a.aI g;refine aU ?_;refine ag ?_;refine an ?_;go_step;refine ah ?_;refine ag ?_;refine pk (ai ao) ?_;refine an ?_;go_step;refine ah ?_;refine ag ?_;refine pl a 0 0 ?_;refine dp p (ai az) ?_;refine v2 ?_;refine pl a 0 2 ?_;refine ag ?_;refine pl a 0 3 ?_;refine pad _ _ (m.fr+m.n) ?_;refine ag ?_;refine pl a 1 0 ?_ (hv:=kI);refine aG (ai ao) (by(have h:=v.out;go_simp;try omega)) ?_;refine ag ?_;refine an ?_;go_step;refine cy ?_;refine bR a [3] (λi _=>match i with|3=>J R fD|_=>a7) (λ_ _=>emp) (λ_=>[]) (λ|1=>[0]|2=>[0]|6=>[1]|_=>[]) (λ_=>[]) [0,1,5] (λy=>?_);refine aJ ?_;refine dl 0 1 ?_;refine eM 0 #[J R m.k,J R m.to,J R m.fr,J R m.n,ae b m.data.length c] ?_;refine di (λj Fr a=>(t j).mono ?_) ?_;·rintro e A ⟨rfl,g⟩;exact⟨{},aa,(a.aI g).dE⟩
     refine aL _ (λ_ _ _=>mu 3 _ _ 3 aa _ _ (m.to+fD) aa aa ad ad ad) ?_;refine aJ ?_;refine dl 0 1 ?_ (hv:=ih);refine aL (ai ao) (λ_ _ _=>by(have h:=f.out;go_simp;try omega)) ?_;refine bW λL a=>?_;replace a:=a.drop 2;go_step;refine ah ?_;refine ag ?_;refine an ?_;go_wp2_with fail;go_ret;exact⟨aa,a.only⟩
  .have p:=hid hk;rw[if_neg (λh=>hk h.1)];clear hk u;by_cases d:m.to+fD>n
   .have f:=hid d;rw[if_pos d];clear d;go_enter GB,GD;have a:=a8 w;go_step;refine ah ?_;refine bL a (ar _) (λr M a=>?_);refine bL (cs:=#[J _ _,J _ _,J _ _,J _ _,ae b _ c]) a _ (λs N a=>?_);refine ag ?_;refine an ?_;go_step;refine ah ?_;refine bh a 0 #[J R m.k,J R m.to,J R m.fr,J R m.n,ae b m.data.length c] ?_;refine aR (l _) ?_;rintro e O ⟨rfl,g⟩;replace a:=a.aI g;refine aU ?_;refine ag ?_;refine an ?_;go_step;refine ah ?_;refine ag ?_;refine pk (ai ao) ?_;refine an ?_;go_step;refine ah ?_;refine ag ?_;refine pl a 0 0 ?_;refine dp p (ai ao) ?_;refine ag ?_;iterate 8 refine ps ?_
    refine ag ?_;refine an ?_;go_step;refine cy ?_;refine bR a [3] (λi _=>match i with|3=>J R fD|_=>a7) (λ_ _=>emp) (λ_=>[]) (λ|1=>[0]|2=>[0]|6=>[1]|_=>[]) (λ_=>[]) [0,1,5] (λy=>?_);refine aJ ?_;refine dl 0 1 ?_;refine eM 0 #[J R m.k,J R m.to,J R m.fr,J R m.n,ae b m.data.length c] ?_;refine di (λj Fr a=>(t j).mono ?_) ?_;·rintro e A ⟨rfl,g⟩;exact⟨{},aa,(a.aI g).dE⟩
    refine aL _ (λ_ _ _=>mu 3 _ _ 3 aa _ _ (m.to+fD) aa aa ad ad ad) ?_;refine aJ ?_;refine dl 0 1 ?_ (hv:=ih);refine aL (ai az) (λ_ _ _=>by(have h:=f.out;go_simp;try omega)) ?_;refine bW λP a=>?_;replace a:=a.drop 2;go_step;refine ah ?_;refine ag ?_;refine an ?_;go_wp2_with fail;go_ret;exact⟨aa,a.only⟩
   .have f:=hid d;rw[if_neg d];clear d;go_enter GB,GD;have a:=a8 w;go_step;refine ah ?_;refine bL a (ar _) (λr Q a=>?_);refine bL (cs:=#[J _ _,J _ _,J _ _,J _ _,ae b _ c]) a _ (λs T a=>?_);refine ag ?_;refine an ?_;go_step;refine ah ?_;refine bh a 0 #[J R m.k,J R m.to,J R m.fr,J R m.n,ae b m.data.length c] ?_;refine aR (l _) ?_;rintro e U ⟨rfl,g⟩;replace a:=a.aI g;refine aU ?_;refine ag ?_;refine an ?_;go_step;refine ah ?_;refine ag ?_;refine pk (ai ao) ?_;refine an ?_;go_step;refine ah ?_;refine ag ?_;refine pl a 0 0 ?_;refine dp p (ai ao) ?_;refine ag ?_;iterate 8 refine ps ?_
    refine ag ?_;refine an ?_;go_step;refine cy ?_;refine bR a [3] (λi _=>match i with|3=>J R fD|_=>a7) (λ_ _=>emp) (λ_=>[]) (λ|1=>[0]|2=>[0]|6=>[1]|_=>[]) (λ_=>[]) [0,1,5] (λy=>?_);refine aJ ?_;refine dl 0 1 ?_;refine eM 0 #[J R m.k,J R m.to,J R m.fr,J R m.n,ae b m.data.length c] ?_;refine di (λj Fr a=>(t j).mono ?_) ?_;·rintro e A ⟨rfl,g⟩;exact⟨{},aa,(a.aI g).dE⟩
    refine aL _ (λ_ _ _=>mu 3 _ _ 3 aa _ _ (m.to+fD) aa aa ad ad ad) ?_;refine aJ ?_;refine dl 0 1 ?_ (hv:=ih);refine aL (ai ao) (λ_ _ _=>by(have h:=f.out;go_simp;try omega)) ?_;refine bW λV a=>?_;replace a:=a.drop 2;go_step;refine ah ?_;refine ag ?_;refine an ?_;go_wp2_with fail;go_ret;exact⟨aa,a.only⟩
 .rw[if_pos x];have C:=hid x;clear x hz ho;go_enter GB,GD;have a:=a8 w;go_step;refine ah ?_;refine bL a (ar _) (λr Y a=>?_);refine bL (cs:=#[J _ _,J _ _,J _ _,J _ _,ae b _ c]) a _ (λs Z a=>?_);refine ag ?_;refine an ?_;go_step;refine ah ?_;refine bh a 0 #[J R m.k,J R m.to,J R m.fr,J R m.n,ae b m.data.length c] ?_;refine aR (l _) ?_;rintro e Bu ⟨rfl,g⟩;replace a:=a.aI g;refine aU ?_;refine ag ?_;refine an ?_;go_step;refine ah ?_;refine ag ?_;refine dp C (ai az) ?_;refine an ?_;go_step;refine ah ?_;refine v2 ?_;refine an ?_;go_wp2_with fail;go_ret;exact⟨aa,a.only⟩
end
section
attribute [local irreducible] wpList cL
def wg(ms:List bO):Nat->Int
 |0=>0
 |t+1=>match ms[t]? with|some m=>m.to+cG m|none=>0
def oe(n:Int)(ms:List bO)(t:Nat):Bool:=decide (wg ms t<n)&&decide (s' ms (wg ms t)<0)
structure oK (o n:Int) (ms:List bO):Prop where
 bd:(0<=o/\0<=n)/\o<=4611686018427387903/\n<=4611686018427387903
 bI:∀m∈ms,zo o n m=0
 ap:∀(i j:Nat) (x y:bO),j<i->ms[i]?=ab x->ms[j]?=ab y->meets (ck x) (ck y)=ao
 aan:∀t,t<=ms.length->oe n ms t=ao
def Gp7(n:Int)(ms:List bO)(t:Nat)(a:Int):Prop:=(a=-1/\∀s,s<t->oe n ms s=ao)\/(0<=a/\∃s,s<t/\oe n ms s=az)
def Gp7.nG{n ms t a}(h:Gp7 n ms t a)(hb:oe n ms t=ao):Gp7 n ms (t+1) a:=by
 rcases h with⟨h1,b⟩|⟨h1,s,b,c⟩;·exact .inl ⟨h1,λs d=>aH⟩
 .exact .inr ⟨h1,s,ad,c⟩
theorem Gp7.bad{n ms t a}(h1:0<=a)(hb:oe n ms t=az):Gp7 n ms (t+1) a:=.inr ⟨h1,t,Nat.lt_succ_self _,hb⟩
def gd.Gc{m}(h:gd m):eY (Go.Proofs.YtcmhplknoglbkaaGreat.ck m):=⟨h.ck.1,Int.le_of_lt h.ck.2.1,h.ck.2.2⟩
set_option maxHeartbeats 16000000 in
def avU(o n)(g1 g2)A c ms w(B:cU w A ms)(fU:ms.length<=1048576)(hv:∀m∈ms,gd m):
 aD ax 239 #[eL o n g1 g2 (ae A ms.length c)] w λe w'=>∃d,e=aB (J R d)/\Gp7 n ms (ms.length+1) d/\au w w':=by
 have Q:=hid B;have V:=hid hv;have Q:=hid B;have V:=hid hv;have P:=hid (λW off y=>afm o n g1 g2 A c ms off W (B.aI y) fU (λm z=>(hv m z).Gc));clear B hv;go_enter func239,ntmps239;have a:=a8 w;go_step;refine ah ?_;refine bL a (ar _) (λdD w1 a=>?_);refine ag ?_;refine an ?_;go_step;refine ah ?_;refine ag ?_;refine an ?_;go_step;refine ah ?_;refine ag ?_;refine an ?_;have U:=a.pk [0];go_wp2_with fail;go_loopw [3,4] (λek L wr=>∃(t:Nat) (d:Int),t<=ms.length+1/\ek=J R d/\L=J R ((t:Int) -1)/\aE (Gp7 n ms t d)/\ak w (λ_=>False) wr [aj dD (bb o n g1 g2 (ae A ms.length c)) 26]) (λek L wr=>ms.length+1 -(c5 L+1).toNat);case atStart=>exact⟨0,-1,cC _,aa,aa,hid (.inl ⟨rfl,λs h=>absurd h (Ad _)⟩),U⟩
 case round=>
  clear a U;obtain⟨t,d,ht,rfl,rfl,r,a⟩:=hrel;by_cases hlt:t<=ms.length
  .have cb:((t:Int) -1)<(ms.length:Int):=ad;obtain⟨off,C⟩:=ex (wg ms t);have v:=hid C;cases t with
   |zero=>
    have K:(0:Int)=off:=C;subst K;have I:(0:Int)<=0:=Int.le_refl _;clear C;go_step;refine ah ?_;iterate 2 refine ag ?_
    refine pl a 0 66 ?_ (hv:=e');refine ag ?_;refine a1 (ai az) ?_;refine an ?_;go_step;refine ah ?_;refine ag ?_;refine an ?_;go_step;refine ah ?_;refine ag ?_;refine pk (ai ao) ?_;refine an ?_;by_cases k:0<n
    .have b:=hid k;obtain⟨G,u⟩:=ex (s' ms 0);have p:=hid (λW y=>by have q:=P W 0 y;rwa [u]at q);have x:=hid u;clear k u;by_cases l:G<0
     .have f:=hid l;have j:aE (oe n ms 0=az):=hid (by unfold oe;rw[v,x];simp[b.out,f.out]);clear l;rcases r.out with⟨rfl,H⟩|⟨eS,_⟩
      .clear H;go_step;refine ah ?_;iterate 2 refine ag ?_
       refine pl a 0 1 ?_ (hv:=ih);refine aG (ai az) (by(have h:=b.out;go_simp;try omega)) ?_;refine ag ?_;refine bh a 0 (bb o n g1 g2 (ae A ms.length c)) ?_ (hv:=(e6 _)) (hk:=by omega) (hz:=(by rw[bH];rfl));refine ag ?_;refine aR (p _ a.only) ?_;rintro e aT ⟨rfl,g⟩;replace a:=a.aI g;refine aU ?_;refine aG (ai az) (by(have h:=f.out;go_simp;try omega)) ?_;iterate 3 refine ag ?_
       refine pk (ai az) ?_;refine ag ?_;iterate 3 refine ps ?_
       iterate 2 refine ag ?_
       refine an ?_;go_step;refine ah ?_;iterate 2 refine ag ?_
       refine an ?_;go_step;refine ah ?_;refine ag ?_;refine pad _ 1 (((0+1:Nat):Int) -1) ?_;refine ag ?_;refine an ?_;go_wp2_with fail;go_roundw;case rel=>grind[hid,Gp7.bad]
       case measure=>grind[c5]
      .omega
     .have f:=hid l;have j:aE (oe n ms 0=ao):=hid (by unfold oe;rw[v,x];simp[f.out]);clear l;go_step;refine ah ?_;iterate 2 refine ag ?_
      refine pl a 0 1 ?_ (hv:=ih);refine aG (ai az) (by(have h:=b.out;go_simp;try omega)) ?_;refine ag ?_;refine bh a 0 (bb o n g1 g2 (ae A ms.length c)) ?_ (hv:=(e6 _)) (hk:=by omega) (hz:=(by rw[bH];rfl));refine ag ?_;refine aR (p _ a.only) ?_;rintro e cA ⟨rfl,g⟩;replace a:=a.aI g;refine aU ?_;refine aG (ai ao) (by(have h:=f.out;go_simp;try omega)) ?_;iterate 2 refine ag ?_
      iterate 7 refine ps ?_
      refine ag ?_;refine an ?_;go_step;refine ah ?_;refine ag ?_;refine pad _ 1 (((0+1:Nat):Int) -1) ?_;refine ag ?_;refine an ?_;go_wp2_with fail;go_roundw;case rel=>exact⟨_,d,ad,aa,aa,hid (r.out.nG j),a.pick [0]⟩
      case measure=>grind[c5]
    .have b:=hid k;have j:aE (oe n ms 0=ao):=hid (by unfold oe;rw[v];simp[b.out]);clear k;go_step;refine ah ?_;iterate 2 refine ag ?_
     refine pl a 0 1 ?_ (hv:=ih);refine aG (ai ao) (by(have h:=b.out;go_simp;try omega)) ?_;refine ag ?_;iterate 4 refine ps ?_
     iterate 2 refine ag ?_
     iterate 7 refine ps ?_
     refine ag ?_;refine an ?_;go_step;refine ah ?_;refine ag ?_;refine pad _ 1 (((0+1:Nat):Int) -1) ?_;refine ag ?_;refine an ?_;go_wp2_with fail;go_roundw;case rel=>exact⟨_,d,ad,aa,aa,hid (r.out.nG j),a.pick [0]⟩
     case measure=>grind[c5]
   |succ s=>
    obtain⟨m,z⟩:∃m,ms[s]?=ab m:=⟨_,cE ad⟩;have j':=V m (cX z);have ry:=j'.Gc;obtain⟨v1,v2,v3⟩:=ry;have v1:0<=m.to:=v1;have v2:0<=cG m:=v2;have v3:m.to+cG m<=4611686018427387903:=v3;have K:m.to+cG m=off:=by grind[wg]
    obtain⟨F,M,aV,aY,X,et,Y⟩:=cU.jb Q z;have N:=hid X;have O:=hid Y;have S:aE (∀W,aD _ _ #[ar _] W λe w'=>e=aB _/\au W w'):=hid (λW=>Jg m aV aY W);obtain⟨fD,k6⟩:=ex (cG m);rw[k6]at S v2 v3 K;have I:0<=off:=ad;clear X et Y z C j' k6;have Z:s<ms.length:=ad;have hs1:(((s+1:Nat):Int) -1)=(s:Int):=ad;rw[hs1];go_step;refine ah ?_;iterate 2 refine ag ?_
    refine pl a 0 66 ?_ (hv:=e');refine ag ?_;refine a1 (ai az) ?_;refine an ?_;go_step;refine ah ?_;refine ag ?_;refine an ?_;go_step;refine ah ?_;refine ag ?_;refine a1 (ai az) ?_;refine an ?_;go_step;refine cy ?_;refine bR a [11] (λi _=>match i with|11=>J R fD|_=>a7) (λ_ _=>emp) (λ_=>[]) (λ|1=>[0]|7=>[0]|_=>[]) (λ_=>[]) [0,12] (λus=>?_);refine aJ ?_;refine dl 0 66 ?_ (hv:=e');refine aJ ?_;refine aL _ (λ_ _ _=>b4 24 73 5 _ _ aa ee aw F M _ c s _ (by show ae A _ _=_;rw[N]) aa Z aa) ?_;refine aJ ?_;refine aL _ (λ_ _ a=>mG aa aa (O _ a.only 1 _ aa) aw) ?_;refine aJ ?_;refine dl 0 66 ?_ (hv:=e');refine aJ ?_;refine aL _ (λ_ _ _=>b4 24 73 5 _ _ aa ee aw F M _ c s _ (by show ae A _ _=_;rw[N]) aa Z aa) ?_;refine aL _ (λ_ _ a=>eW 73 (bj 24) aa F (M+s*5) aa _ (O _ a.only) fO aa aw) ?_;refine di (λwl Fr a=>(S wl).mono ?_) ?_;·rintro e dr ⟨rfl,g⟩;exact⟨{},aa,(a.aI g).dE⟩
    refine aL _ (λ_ _ _=>mu 3 _ _ 3 aa _ _ off aa aa ad ad ad) ?_;refine aJ ?_;refine bW λcR a=>?_;replace a:=a.drop 1;by_cases k:off<n
    .have b:=hid k;obtain⟨G,u⟩:=ex (s' ms off);have p:=hid (λW y=>by have q:=P W off y;rwa [u]at q);have x:=hid u;clear k u;by_cases l:G<0
     .have f:=hid l;have j:aE (oe n ms _=az):=hid (by unfold oe;rw[v,x];simp[b.out,f.out]);clear l;rcases r.out with⟨rfl,H⟩|⟨eS,_⟩
      .clear H;go_step;refine ah ?_;iterate 2 refine ag ?_
       refine pl a 0 1 ?_ (hv:=ih);refine aG (ai az) (by(have h:=b.out;go_simp;try omega)) ?_;refine ag ?_;refine bh a 0 (bb o n g1 g2 (ae A ms.length c)) ?_ (hv:=(e6 _)) (hk:=by omega) (hz:=(by rw[bH];rfl));refine ag ?_;refine aR (p _ a.only) ?_;rintro e dz ⟨rfl,g⟩;replace a:=a.aI g;refine aU ?_;refine aG (ai az) (by(have h:=f.out;go_simp;try omega)) ?_;iterate 3 refine ag ?_
       refine pk (ai az) ?_;refine ag ?_;iterate 3 refine ps ?_
       iterate 2 refine ag ?_
       refine an ?_;go_step;refine ah ?_;iterate 2 refine ag ?_
       refine an ?_;go_step;refine ah ?_;refine ag ?_;refine pad _ 1 (((s+1+1:Nat):Int) -1) ?_;refine ag ?_;refine an ?_;go_wp2_with fail;go_roundw;case rel=>exact⟨_,_,ad,aa,congrArg _ ad,hid (Gp7.bad I j),a.pick [0]⟩
       case measure=>grind[c5]
      .have T:aE (¬d<0):=hid ad;by_cases D:off<d
       .have E:=hid D;clear D;go_step;refine ah ?_;iterate 2 refine ag ?_
        refine pl a 0 1 ?_ (hv:=ih);refine aG (ai az) (by(have h:=b.out;go_simp;try omega)) ?_;refine ag ?_;refine bh a 0 (bb o n g1 g2 (ae A ms.length c)) ?_ (hv:=(e6 _)) (hk:=by omega) (hz:=(by rw[bH];rfl));refine ag ?_;refine aR (p _ a.only) ?_;rintro e dv ⟨rfl,g⟩;replace a:=a.aI g;refine aU ?_;refine aG (ai az) (by(have h:=f.out;go_simp;try omega)) ?_;iterate 3 refine ag ?_
        refine aG (ai ao) (by(have h:=T.out;go_simp;try omega)) ?_;iterate 3 refine ag ?_
        refine aG (ai az) (by(have h:=E.out;go_simp;try omega)) ?_;iterate 2 refine ag ?_
        refine an ?_;go_step;refine ah ?_;iterate 2 refine ag ?_
        refine an ?_;go_step;refine ah ?_;refine ag ?_;refine pad _ 1 (((s+1+1:Nat):Int) -1) ?_;refine ag ?_;refine an ?_;go_wp2_with fail;go_roundw;case rel=>exact⟨_,_,ad,aa,congrArg _ ad,hid (Gp7.bad I j),a.pick [0]⟩
        case measure=>grind[c5]
       .have E:=hid D;clear D;go_step;refine ah ?_;iterate 2 refine ag ?_
        refine pl a 0 1 ?_ (hv:=ih);refine aG (ai az) (by(have h:=b.out;go_simp;try omega)) ?_;refine ag ?_;refine bh a 0 (bb o n g1 g2 (ae A ms.length c)) ?_ (hv:=(e6 _)) (hk:=by omega) (hz:=(by rw[bH];rfl));refine ag ?_;refine aR (p _ a.only) ?_;rintro e eU ⟨rfl,g⟩;replace a:=a.aI g;refine aU ?_;refine aG (ai az) (by(have h:=f.out;go_simp;try omega)) ?_;iterate 3 refine ag ?_
        refine aG (ai ao) (by(have h:=T.out;go_simp;try omega)) ?_;iterate 3 refine ag ?_
        refine aG (ai ao) (by(have h:=E.out;go_simp;try omega)) ?_;iterate 2 refine ag ?_
        refine an ?_;go_step;refine ah ?_;refine ag ?_;refine pad _ 1 (((s+1+1:Nat):Int) -1) ?_;refine ag ?_;refine an ?_;go_wp2_with fail;go_roundw;case rel=>exact⟨_,d,ad,aa,congrArg _ ad,hid (Gp7.bad eS j),a.pick [0]⟩
        case measure=>grind[c5]
     .have f:=hid l;have j:aE (oe n ms _=ao):=hid (by unfold oe;rw[v,x];simp[f.out]);clear l;go_step;refine ah ?_;iterate 2 refine ag ?_
      refine pl a 0 1 ?_ (hv:=ih);refine aG (ai az) (by(have h:=b.out;go_simp;try omega)) ?_;refine ag ?_;refine bh a 0 (bb o n g1 g2 (ae A ms.length c)) ?_ (hv:=(e6 _)) (hk:=by omega) (hz:=(by rw[bH];rfl));refine ag ?_;refine aR (p _ a.only) ?_;rintro e gF ⟨rfl,g⟩;replace a:=a.aI g;refine aU ?_;refine aG (ai ao) (by(have h:=f.out;go_simp;try omega)) ?_;iterate 2 refine ag ?_
      iterate 7 refine ps ?_
      refine ag ?_;refine an ?_;go_step;refine ah ?_;refine ag ?_;refine pad _ 1 (((s+1+1:Nat):Int) -1) ?_;refine ag ?_;refine an ?_;go_wp2_with fail;go_roundw;case rel=>exact⟨_,d,ad,aa,congrArg _ ad,hid (r.out.nG j),a.pick [0]⟩
      case measure=>grind[c5]
    .have b:=hid k;have j:aE (oe n ms _=ao):=hid (by unfold oe;rw[v];simp[b.out]);clear k;go_step;refine ah ?_;iterate 2 refine ag ?_
     refine pl a 0 1 ?_ (hv:=ih);refine aG (ai ao) (by(have h:=b.out;go_simp;try omega)) ?_;refine ag ?_;iterate 4 refine ps ?_
     iterate 2 refine ag ?_
     iterate 7 refine ps ?_
     refine ag ?_;refine an ?_;go_step;refine ah ?_;refine ag ?_;refine pad _ 1 (((s+1+1:Nat):Int) -1) ?_;refine ag ?_;refine an ?_;go_wp2_with fail;go_roundw;case rel=>exact⟨_,d,ad,aa,congrArg _ ad,hid (r.out.nG j),a.pick [0]⟩
     case measure=>grind[c5]
  .have cb:¬((t:Int) -1)<(ms.length:Int):=ad;obtain rfl:t=ms.length+1:=ad;go_step;refine ah ?_;iterate 2 refine ag ?_
   refine pl a 0 66 ?_ (hv:=e');refine ag ?_;refine a1 (ai ao) ?_;refine an ?_;go_step;refine ah ?_;iterate 2 refine ag ?_
   refine an ?_;go_wp2_with fail;go_ret;exact⟨d,aa,r,a.only⟩
end
section
attribute [local irreducible] wpList cL
def af3{o n m}(h:zo o n m=0):gd m/\(m.k=1->m.fr+m.n<=o)/\m.to+cG m<=n:=by grind[zo,Rr]
def auE{a b}:(0<(me a b).2)↔meets a b=true:=by grind[me,meets]
def s9(ms:List bO):Bool:=ms.all (λm=>decide (m.data.length<=300))&&decide (ms.length<=40)
set_option maxHeartbeats 16000000 in
def avq(o n)(g1 g2)A c ms w(hl:cU w A ms)(fU:ms.length<=1048576)(ho:∀m∈ms,pG m):
 aD ax 161 #[eL o n g1 g2 (ae A ms.length c)] w λe w'=>∃bE,(∃YH,e=aB (bn #[J R bE,J R YH]))/\(bE=0↔oK o n ms)/\au w w':=by
 have cK:=hid hl;have fc:=hid ho;have O:aE (∀W,aD _ _ _ W λe w'=>e=aB _/\au W w'):=hid (λW=>(FJ W).mono λ_ _ ⟨h1,Y⟩=>⟨h1,Y▸av.refl _ _⟩);have Ef:aE (∀W m F I,m∈ms->aD _ _ #[eL o n g1 g2 _,ar _] W λe w'=>e=aB _/\au W w'):=hid (λW m F I k=>awe o n g1 g2 (ae A ms.length c) aa m F I W (ho m k));have akC:=hid (λW hg hv=>avU o n g1 g2 A c ms W (hl.aI hg) fU hv);clear hl ho;by_cases h1:o<0
 .have G:=hid h1;go_enter Kz,KD;have d:=a8 w;go_step;refine ah ?_;refine bL d (ar _) (λC w1 d=>?_);refine v2 ?_;refine an ?_;go_step;refine cy ?_;refine bR d [] (λ_ _=>a7) (λ_ _=>emp) (λ_=>[]) (λ|1=>[0]|_=>[]) (λ_=>[]) [0] (λB=>?_);refine aJ ?_;refine dl 0 0 ?_ (hv:=kI);refine aL (ai az) (λ_ _ _=>by(have h:=G.out;go_simp;try omega)) ?_;refine aJ ?_;iterate 3 refine ds ?_
  refine bG ?_;iterate 4 refine ds ?_
  refine bG ?_;iterate 4 refine ds ?_
  refine aJ ?_;refine bW λaT d=>?_;go_step;refine ah ?_;refine v2 ?_;refine an ?_;go_wp2_with fail;go_ret2;exact⟨2,⟨-1,aa⟩,⟨λh=>absurd h aS,λh=>absurd h.bd ad⟩,d.only⟩
 .have G:=hid h1;by_cases Y:n<0
  .have L:=hid Y;go_enter Kz,KD;have d:=a8 w;go_step;refine ah ?_;refine bL d (ar _) (λC bF d=>?_);refine v2 ?_;refine an ?_;go_step;refine cy ?_;refine bR d [] (λ_ _=>a7) (λ_ _=>emp) (λ_=>[]) (λ|1=>[0]|5=>[0]|_=>[]) (λ_=>[]) [0] (λB=>?_);refine aJ ?_;refine dl 0 0 ?_ (hv:=kI);refine aL (ai ao) (λ_ _ _=>by(have h:=G.out;go_simp;try omega)) ?_;refine bG ?_;refine dl 0 1 ?_ (hv:=ih);refine aL (ai az) (λ_ _ _=>by(have h:=L.out;go_simp;try omega)) ?_;refine bG ?_;iterate 4 refine ds ?_
   refine bG ?_;iterate 4 refine ds ?_
   refine aJ ?_;refine bW λb8 d=>?_;go_step;refine ah ?_;refine v2 ?_;refine an ?_;go_wp2_with fail;go_ret2;exact⟨2,⟨-1,aa⟩,⟨λh=>absurd h aS,λh=>absurd h.bd ad⟩,d.only⟩
  .have L:=hid Y;by_cases h3:o>4611686018427387903
   .have V:=hid h3;go_enter Kz,KD;have d:=a8 w;go_step;refine ah ?_;refine bL d (ar _) (λC cA d=>?_);refine v2 ?_;refine an ?_;go_step;refine cy ?_;refine bR d [11] (λi _=>match i with|11=>J R 4611686018427387903|_=>a7) (λ_ _=>emp) (λ_=>[]) (λ|1=>[0]|5=>[0]|10=>[0]|_=>[]) (λ_=>[]) [0,12] (λB=>?_);refine aJ ?_;refine dl 0 0 ?_ (hv:=kI);refine aL (ai ao) (λ_ _ _=>by(have h:=G.out;go_simp;try omega)) ?_;refine bG ?_;refine dl 0 1 ?_ (hv:=ih);refine aL (ai ao) (λ_ _ _=>by(have h:=L.out;go_simp;try omega)) ?_;refine da ?_;refine dl 0 0 ?_ (hv:=kI);refine di (λf Fr d=>(O f).mono ?_) ?_;·rintro e p ⟨rfl,g⟩;exact⟨{},aa,(d.aI g).dE⟩
    refine aL (ai az) (λ_ _ _=>by(have h:=V.out;go_simp;try omega)) ?_;refine bG ?_;iterate 4 refine ds ?_
    refine aJ ?_;refine bW λcR d=>?_;replace d:=d.drop 1;go_step;refine ah ?_;refine v2 ?_;refine an ?_;go_wp2_with fail;go_ret2;exact⟨2,⟨-1,aa⟩,⟨λh=>absurd h aS,λh=>absurd h.bd ad⟩,d.only⟩
   .have V:=hid h3;by_cases h4:n>4611686018427387903
    .have hZ:=hid h4;go_enter Kz,KD;have d:=a8 w;go_step;refine ah ?_;refine bL d (ar _) (λC dz d=>?_);refine v2 ?_;refine an ?_;go_step;refine cy ?_;refine bR d [11,17] (λi _=>match i with|11=>J R 4611686018427387903|17=>J R 4611686018427387903|_=>a7) (λ_ _=>emp) (λ_=>[]) (λ|1=>[0]|5=>[0]|10=>[0]|16=>[0]|_=>[]) (λ_=>[]) [0,12,18] (λB=>?_);refine aJ ?_;refine dl 0 0 ?_ (hv:=kI);refine aL (ai ao) (λ_ _ _=>by(have h:=G.out;go_simp;try omega)) ?_;refine bG ?_;refine dl 0 1 ?_ (hv:=ih);refine aL (ai ao) (λ_ _ _=>by(have h:=L.out;go_simp;try omega)) ?_;refine da ?_;refine dl 0 0 ?_ (hv:=kI);refine di (λf Fr d=>(O f).mono ?_) ?_;·rintro e p ⟨rfl,g⟩;exact⟨{},aa,(d.aI g).dE⟩
     refine aL (ai ao) (λ_ _ _=>by(have h:=V.out;go_simp;try omega)) ?_;refine da ?_;refine dl 0 1 ?_ (hv:=ih);refine di (λf Fr d=>(O f).mono ?_) ?_;·rintro e p ⟨rfl,g⟩;exact⟨{},aa,(d.aI g).dE⟩
     refine aL (ai az) (λ_ _ _=>by(have h:=hZ.out;go_simp;try omega)) ?_;refine aJ ?_;refine bW λdv d=>?_;replace d:=d.drop 1;replace d:=d.drop 1;go_step;refine ah ?_;refine v2 ?_;refine an ?_;go_wp2_with fail;go_ret2;exact⟨2,⟨-1,aa⟩,⟨λh=>absurd h aS,λh=>absurd h.bd ad⟩,d.only⟩
    .have hZ:=hid h4;go_enter Kz,KD;have d:=a8 w;go_step;refine ah ?_;refine bL d (ar _) (λC eU d=>?_);refine v2 ?_;refine an ?_;go_step;refine cy ?_;refine bR d [11,17] (λi _=>match i with|11=>J R 4611686018427387903|17=>J R 4611686018427387903|_=>a7) (λ_ _=>emp) (λ_=>[]) (λ|1=>[0]|5=>[0]|10=>[0]|16=>[0]|_=>[]) (λ_=>[]) [0,12,18] (λB=>?_);refine aJ ?_;refine dl 0 0 ?_ (hv:=kI);refine aL (ai ao) (λ_ _ _=>by(have h:=G.out;go_simp;try omega)) ?_;refine bG ?_;refine dl 0 1 ?_ (hv:=ih);refine aL (ai ao) (λ_ _ _=>by(have h:=L.out;go_simp;try omega)) ?_;refine da ?_;refine dl 0 0 ?_ (hv:=kI);refine di (λf Fr d=>(O f).mono ?_) ?_;·rintro e p ⟨rfl,g⟩;exact⟨{},aa,(d.aI g).dE⟩
     refine aL (ai ao) (λ_ _ _=>by(have h:=V.out;go_simp;try omega)) ?_;refine da ?_;refine dl 0 1 ?_ (hv:=ih);refine di (λf Fr d=>(O f).mono ?_) ?_;·rintro e p ⟨rfl,g⟩;exact⟨{},aa,(d.aI g).dE⟩
     refine aL (ai ao) (λ_ _ _=>by(have h:=hZ.out;go_simp;try omega)) ?_;refine aJ ?_;refine bW λgF d=>?_;replace d:=d.drop 1;replace d:=d.drop 1;go_step;refine ah ?_;refine ag ?_;refine an ?_;have u:=d.pk [0];go_wp2_with fail;go_loopw [4] (λE wr=>∃j:Nat,j<=ms.length/\E=J R (j:Int)/\aE (∀(i:Nat) (x:bO),i<j->ms[i]?=ab x->zo o n x=0)/\ak w (λ_=>False) wr [aj C (bb o n g1 g2 (ae A ms.length c)) 26]) (λE wr=>ms.length -(c5 E).toNat);case atStart=>exact⟨0,cC _,aa,hid (λi x h=>absurd h (Ad _)),u⟩
     case round=>
      clear d u;obtain⟨j,hj,rfl,mS,d⟩:=hrel;by_cases hlt:j<ms.length
      .have cb:(j:Int)<(ms.length:Int):=ad;obtain⟨m,k⟩:∃m,ms[j]?=ab m:=⟨_,cE hlt⟩;obtain⟨r,U,F,I,P,Q,S⟩:=cU.jb cK k;have M:=hid P;have iz:=hid Q;have N:=hid S;have D:=hid k;clear P Q S k;obtain⟨z,hz⟩:=ex (zo o n m);have e3:=hid hz;have XU:aE (∀W,aD _ _ _ W λe w'=>e=aB (J _ z)/\au W w'):=hid (λW=>by rw[<-hz];exact Ef W m F I (cX D));clear hz;go_step;refine ah ?_;refine v2 ?_;refine pl d 0 66 ?_ (hv:=e');refine ag ?_;refine a1 (ai az) ?_;refine an ?_;by_cases hz0:z=0
       .subst hz0;go_step;refine cy ?_;refine bR d [6] (λi _=>match i with|6=>J R 0|_=>a7) (λ_ _=>emp) (λ_=>[]) (λ|0=>[0]|2=>[0]|_=>[]) (λ_=>[]) [0,7] (λB=>?_);refine eM 0 (bb o n g1 g2 (ae A ms.length c)) ?_ (hv:=(e6 _)) (hk:=by omega) (hz:=(by rw[bH];rfl));refine aJ ?_;refine dl 0 66 ?_ (hv:=e');refine aJ ?_;refine aL _ (λ_ _ _=>b4 24 73 5 _ _ aa ee aw r U _ c j _ (by show ae A _ _=_;rw[M]) aa hlt aa) ?_;refine aL _ (λ_ _ d=>by(refine eW 73 _ aa r _ aa _ (N _ d.only) fO aa aw)) ?_;refine di (λf Fr d=>(XU f).mono ?_) ?_;·rintro e p ⟨rfl,g⟩;exact⟨{},aa,(d.aI g).dE⟩
        refine aJ ?_;refine bW λhI d=>?_;replace d:=d.drop 1;go_step;refine ah ?_;refine ag ?_;refine pk (ai ao) ?_;refine an ?_;go_step;refine ah ?_;refine ag ?_;refine pad _ 1 ((j+1:Nat):Int) ?_;refine ag ?_;refine an ?_;go_wp2_with fail;go_roundw;case rel=>exact⟨j+1,ad,aa,hid (λi y hi l=>by rcases vv.1 hi with h|rfl;exact mS i y h l;rw[D]at l;cases l;exact e3),d.pick [0]⟩
        case measure=>grind[c5]
       .have Qy:=hid hz0;go_step;refine cy ?_;refine bR d [6] (λi _=>match i with|6=>J R z|_=>a7) (λ_ _=>emp) (λ_=>[]) (λ|0=>[0]|2=>[0]|_=>[]) (λ_=>[]) [0,7] (λB=>?_);refine eM 0 (bb o n g1 g2 (ae A ms.length c)) ?_ (hv:=(e6 _)) (hk:=by omega) (hz:=(by rw[bH];rfl));refine aJ ?_;refine dl 0 66 ?_ (hv:=e');refine aJ ?_;refine aL _ (λ_ _ _=>b4 24 73 5 _ _ aa ee aw r U _ c j _ (by show ae A _ _=_;rw[M]) aa hlt aa) ?_;refine aL _ (λ_ _ d=>by(refine eW 73 _ aa r _ aa _ (N _ d.only) fO aa aw)) ?_;refine di (λf Fr d=>(XU f).mono ?_) ?_;·rintro e p ⟨rfl,g⟩;exact⟨{},aa,(d.aI g).dE⟩
        refine aJ ?_;refine bW λjK d=>?_;replace d:=d.drop 1;go_step;refine ah ?_;refine ag ?_;refine dp Qy (ai az) ?_;refine an ?_;go_step;refine ah ?_;refine v4 ?_;refine an ?_;go_wp2_with fail;go_ret2;exact⟨z,⟨_,aa⟩,⟨λh=>absurd h Qy,λh=>absurd (h.bI m (cX D)) (by rw[e3];exact Qy)⟩,d.only⟩
      .have cb:¬(j:Int)<(ms.length:Int):=ad;obtain rfl:j=ms.length:=ad;have XS:=hid (λm k=>by obtain⟨i,hi⟩:=p9.1 k;exact mS i m (eJ.1 hi).1 hi);have Qu:=hid (λm k=>(af3 (XS m k)).1);go_step;refine ah ?_;refine v2 ?_;refine pl d 0 66 ?_ (hv:=e');refine ag ?_;refine a1 (ai ao) ?_;refine an ?_;go_step;refine ah ?_;refine ag ?_;refine an ?_;have u:=d;go_wp2_with fail;go_loopw [6] (λE wr=>∃i:Nat,i<=ms.length/\E=J R (i:Int)/\aE (∀(a b:Nat) (x y:bO),b<a->a<i->ms[a]?=ab x->ms[b]?=ab y->meets (ck x) (ck y)=ao)/\ak w (λ_=>False) wr [aj C (bb o n g1 g2 (ae A ms.length c)) 26]) (λE wr=>ms.length -(c5 E).toNat);case atStart=>exact⟨0,cC _,aa,hid (λa b x y _ h=>absurd h (Ad _)),u⟩
       case round=>
        clear d u;obtain⟨i,hi,rfl,yc,d⟩:=hrel;by_cases hlt:i<ms.length
        .have cb:(i:Int)<(ms.length:Int):=ad;obtain⟨m,k⟩:∃m,ms[i]?=ab m:=⟨_,cE hlt⟩;obtain⟨r,U,F,I,P,Q,S⟩:=cU.jb cK k;have M:=hid P;have iz:=hid Q;have N:=hid S;have D:=hid k;clear P Q S k;go_step;refine ah ?_;refine v2 ?_;refine pl d 0 66 ?_ (hv:=e');refine ag ?_;refine a1 (ai az) ?_;refine an ?_;go_step;refine ah ?_;refine ag ?_;refine an ?_;have u:=d;go_wp2_with fail;go_loopw [7] (λiP wr=>∃j:Nat,j<=i/\iP=J R (j:Int)/\aE (∀(b:Nat) (y:bO),b<j->ms[b]?=ab y->meets (ck m) (ck y)=ao)/\ak w (λ_=>False) wr [aj C (bb o n g1 g2 (ae A ms.length c)) 26]) (λiP wr=>i -(c5 iP).toNat);case atStart=>exact⟨0,cC _,aa,hid (λb y h=>absurd h (Ad _)),u⟩
         case round=>
          clear d u;obtain⟨j,hj,rfl,Xd,d⟩:=hrel;by_cases CX:j<i
          .have arp:(j:Int)<(i:Int):=ad;have SD:j<ms.length:=ad;obtain⟨y,l⟩:∃y,ms[j]?=ab y:=⟨_,cE SD⟩;obtain⟨X,uP,ahC,sb,aav,_,xe⟩:=cU.jb cK.out l;have Xb:=hid aav;have Xh:=hid xe;have oD:=hid l;have MY:=(Qu m (cX D)).Gc;have acR:=(Qu y (cX l)).Gc;obtain⟨gC,v,T⟩:∃a b,me (ck m) (ck y)=(a,b):=⟨_,_,aa⟩;have H:aE (∀W,aD _ _ _ W λe w'=>e=aB (ar #[J _ gC,J _ v])/\au W w'):=hid (λW=>by have q:=av0 _ _ _ _ W MY acR;rw[show me (m.to,cG m) (y.to,cG y)=(gC,v)from T]at q;exact q);have XD:aE ((0<v)↔meets _ _=az):=hid (by have q:=auE (a:=ck m) (b:=ck y);rw[T]at q;exact q);have Qq:=hid (λW=>Jj m F I W);have Qr:=hid (λW=>Jj y ahC sb W);clear l aav xe MY acR T;obtain⟨t1,C9⟩:=ex (cG m);obtain⟨t2,IF⟩:=ex (cG y);rw[C9]at H Qq;rw[IF]at H Qr;clear C9 IF;go_step;refine ah ?_;refine v2 ?_;refine a1 (ai az) ?_;refine an ?_;by_cases K:0<v
           .have bZ:=hid K;have Qb:=hid (XD.1 K);clear K;go_step;refine cy ?_;refine bR d [5,11,12] (λi _=>match i with|5=>ar #[J R m.to,J R t1]|11=>ar #[J R y.to,J R t2]|12=>ar #[J R gC,J R v]|_=>a7) (λ_ _=>emp) (λ_=>[]) (λ|1=>[0]|7=>[0]|_=>[]) (λ_=>[]) [0,6,12,13] (λB=>?_);refine aJ ?_;refine dl 0 66 ?_ (hv:=e');refine aJ ?_;refine aL _ (λ_ _ _=>b4 24 73 5 _ _ aa ee aw r U _ c i _ (by show ae A _ _=_;rw[M]) aa hlt aa) ?_;refine aL _ (λ_ _ d=>by(refine eW 73 _ aa r _ aa _ (N _ d.only) fO aa aw)) ?_;refine di (λf Fr d=>(Qq f).mono ?_) ?_;·rintro e p ⟨rfl,g⟩;exact⟨{},aa,(d.aI g).dE⟩
            refine aJ ?_;refine dl 0 66 ?_ (hv:=e');refine aJ ?_;refine aL _ (λ_ _ _=>b4 24 73 5 _ _ aa ee aw X uP _ c j _ (by show ae A _ _=_;rw[Xb]) aa SD aa) ?_;refine aL _ (λ_ _ d=>eW 73 (bj 68) aa X (uP+j*5) aa _ (Xh _ d.only) fO aa aw) ?_;refine di (λf Fr d=>(Qr f).mono ?_) ?_;·rintro e p ⟨rfl,g⟩;exact⟨{},aa,(d.aI g).dE⟩
            refine di (λf Fr d=>(H f).mono ?_) ?_;·rintro e p ⟨rfl,g⟩;exact⟨{},aa,(d.aI g).dE⟩
            refine fT (J R v) ?_;refine aL (ai az) (λ_ _ _=>by(have h:=bZ.out;go_simp;try omega)) ?_;refine bW λke d=>?_;replace d:=d.drop 1;replace d:=d.drop 1;replace d:=d.drop 1;go_step;refine ah ?_;refine v3 ?_;refine an ?_;go_wp2_with fail;go_ret2;exact⟨4,⟨_,aa⟩,⟨λh=>absurd h aS,λh=>absurd (h.ap i j m y CX D oD) (by rw[Qb];decide)⟩,d.only⟩
           .have bZ:=hid K;have Qb:aE (meets _ _=ao):=hid (by cases hq:meets (ck m) (ck y)with|false=>rfl|true=>exact absurd (XD.2 hq) K);clear K;go_step;refine cy ?_;refine bR d [5,11,12] (λi _=>match i with|5=>ar #[J R m.to,J R t1]|11=>ar #[J R y.to,J R t2]|12=>ar #[J R gC,J R v]|_=>a7) (λ_ _=>emp) (λ_=>[]) (λ|1=>[0]|7=>[0]|_=>[]) (λ_=>[]) [0,6,12,13] (λB=>?_);refine aJ ?_;refine dl 0 66 ?_ (hv:=e');refine aJ ?_;refine aL _ (λ_ _ _=>b4 24 73 5 _ _ aa ee aw r U _ c i _ (by show ae A _ _=_;rw[M]) aa hlt aa) ?_;refine aL _ (λ_ _ d=>by(refine eW 73 _ aa r _ aa _ (N _ d.only) fO aa aw)) ?_;refine di (λf Fr d=>(Qq f).mono ?_) ?_;·rintro e p ⟨rfl,g⟩;exact⟨{},aa,(d.aI g).dE⟩
            refine aJ ?_;refine dl 0 66 ?_ (hv:=e');refine aJ ?_;refine aL _ (λ_ _ _=>b4 24 73 5 _ _ aa ee aw X uP _ c j _ (by show ae A _ _=_;rw[Xb]) aa SD aa) ?_;refine aL _ (λ_ _ d=>eW 73 (bj 68) aa X (uP+j*5) aa _ (Xh _ d.only) fO aa aw) ?_;refine di (λf Fr d=>(Qr f).mono ?_) ?_;·rintro e p ⟨rfl,g⟩;exact⟨{},aa,(d.aI g).dE⟩
            refine di (λf Fr d=>(H f).mono ?_) ?_;·rintro e p ⟨rfl,g⟩;exact⟨{},aa,(d.aI g).dE⟩
            refine fT (J R v) ?_;refine aL (ai ao) (λ_ _ _=>by(have h:=bZ.out;go_simp;try omega)) ?_;refine bW λk9 d=>?_;replace d:=d.drop 1;replace d:=d.drop 1;replace d:=d.drop 1;go_step;refine ah ?_;refine ag ?_;refine pad _ 1 ((j+1:Nat):Int) ?_;refine ag ?_;refine an ?_;go_wp2_with fail;go_roundw;case rel=>exact⟨j+1,ad,aa,hid (λb x hb hx=>by rcases vv.1 hb with h|rfl;exact Xd b x h hx;rw[oD]at hx;cases hx;exact Qb),d.pick [0]⟩
            case measure=>simp[c5]<;>omega
          .have arp:¬(j:Int)<(i:Int):=ad;obtain rfl:j=i:=ad;go_step;refine ah ?_;refine v2 ?_;refine a1 (ai ao) ?_;refine an ?_;go_step;refine ah ?_;refine ag ?_;refine pad _ 1 ((j+1:Nat):Int) ?_;refine ag ?_;refine an ?_;go_wp2_with fail;go_roundw;case rel=>exact⟨j+1,ad,aa,hid (λa b x y Z ha hx l=>by rcases vv.1 ha with h|rfl;exact yc a b x y Z h hx l;rw[D]at hx;cases hx;exact Xd b y Z l),d.pick [0]⟩
           case measure=>simp[c5]<;>omega
        .have cb:¬(i:Int)<(ms.length:Int):=ad;obtain rfl:i=ms.length:=ad;go_step;refine ah ?_;refine v2 ?_;refine pl d 0 66 ?_ (hv:=e');refine ag ?_;refine a1 (ai ao) ?_;refine an ?_;go_step;refine ah ?_;refine bh d 0 (bb o n g1 g2 (ae A ms.length c)) ?_ (hv:=(e6 _)) (hk:=by omega) (hz:=(by rw[bH];rfl));refine aR (akC _ d.only Qu) ?_;rintro e mj ⟨ez,rfl,abz,g⟩;replace d:=d.aI g;refine aU ?_;refine ag ?_;refine an ?_;rcases abz with⟨rfl,hb⟩|⟨T,s,hs,hb⟩;·have HB:=hid hb;clear hb;go_step;refine ah ?_;refine ag ?_;refine pk (ai ao) ?_;refine an ?_;go_step;refine ah ?_;refine v2 ?_;refine an ?_;go_wp2_with fail;go_ret2;exact⟨0,⟨_,aa⟩,⟨λ_=>⟨⟨⟨ad,ad⟩,ad,ad⟩,XS,λa b x y Z hx l=>yc a b x y Z (eJ.1 hx).1 hx l,λt ht=>HB t ad⟩,λ_=>aa⟩,d.only⟩
         .have HB:=hid hb;have H:=hid T;clear hb;go_step;refine ah ?_;refine ag ?_;refine aG (ai az) (by(have h:=H.out;go_simp;try omega)) ?_;refine an ?_;go_step;refine ah ?_;refine v3 ?_;refine an ?_;go_wp2_with fail;go_ret2;exact⟨3,⟨_,aa⟩,⟨λh=>absurd h aS,λh=>absurd (h.aan s ad) (by rw[HB];decide)⟩,d.only⟩
end
section
attribute [local irreducible] wpList cL
def afC(o n)(g1 g2)A c ms w(f:cU w A ms)(k:ms.length<=1048576)(ho:∀m∈ms,pG m)b(hb:b=az↔oK o n ms):
 aD ax 75 #[eL o n g1 g2 (ae A ms.length c)] w λe w'=>e=aB (ai b)/\au w w':=by
 have i:=hid (λW g=>avq o n g1 g2 A c ms W (f.aI g) k ho);have d:=hid hb;clear f ho hb;go_enter func75,ntmps75;have a:=a8 w;go_step;refine ah ?_;refine bL a (ar _) (λl w1 a=>?_);refine dV ?_;refine bh a 0 (bb o n g1 g2 (ae A ms.length c)) ?_ (hv:=(e6 _)) (hk:=by omega) (hz:=(by rw[bH];rfl));refine aR (i _ a.only) ?_;rintro e q ⟨bE,⟨p,rfl⟩,hv,g⟩;replace a:=a.aI g;refine aU ?_;refine v5 ?_;refine an ?_
 have j:aE ((bE==0)=b):=hid (by cases b with
  |true=>exact beq_iff_eq.2 (hv.2 (d.1 aa))
  |false=>exact beq_eq_false_iff_ne.2 (λh=>by have:=d.2 (hv.1 h);cases this));clear hv;refine b5 ?_;refine dp j (ai b) ?_;refine bX ?_;go_wp2_with fail;go_ret;exact⟨aa,a.only⟩
def afl(o n)(g1 g2)A c ms w(E:cU w A ms)(P:ms.length<=1048576):
 aD ax 74 #[eL o n g1 g2 (ae A ms.length c)] w λe w'=>e=aB (ai (s9 ms))/\au w w':=by
 have G:=hid E;clear E;go_enter func74,ntmps74;have a:=a8 w;go_step;refine ah ?_;refine bL a (ar _) (λF w1 a=>?_);refine ag ?_;refine ah ?_;refine ag ?_;refine an ?_;have z:=a;go_wp2_with fail;go_loopw [3] (λp wr=>∃j:Nat,j<=ms.length/\p=J R (j:Int)/\aE (∀(i:Nat) (x:bO),i<j->ms[i]?=ab x->x.data.length<=300)/\ak w (λ_=>False) wr [aj F (bb o n g1 g2 (ae A ms.length c)) 26]) (λp wr=>ms.length -(c5 p).toNat);case atStart=>exact⟨0,cC _,aa,hid (λi x h=>absurd h (Ad _)),z⟩
 case round=>
  clear a z;obtain⟨j,O,rfl,s,a⟩:=hrel;by_cases hlt:j<ms.length
  .have I:(j:Int)<(ms.length:Int):=ad;obtain⟨m,d⟩:∃m,ms[j]?=ab m:=⟨_,cE hlt⟩;obtain⟨M,Q,K,N,B,C,D⟩:=cU.jb G d;have q:=hid B;have L:=hid C;have t:=hid D;have v:=hid d;clear B C D d;go_step;refine ah ?_;refine v2 ?_;refine pl a 0 66 ?_ (hv:=e');refine ag ?_;refine a1 (ai az) ?_;refine an ?_;by_cases f:m.data.length>300;·have b:(m.data.length:Int)>300:=ad;have g:=hid b;have k:=hid f;clear f b;refine b5 ?_;refine pl a 0 66 ?_ (hv:=e');refine ag ?_;refine aG _ (b4 24 73 5 _ _ aa ee aw _ _ _ _ _ _ (by show ae A _ _=_;rw[q]) aa hlt aa) ?_;refine ag ?_;refine aG _ (mG aa aa (t _ a.only 4 _ aa) aw) ?_;refine ag ?_;refine aG (ai az) (by(have h:=g.out;go_simp;try omega)) ?_;refine ah ?_;refine ag ?_;refine an ?_;go_wp2_with fail;go_ret;exact⟨by rw[show s9 ms=ao from by unfold s9;rw[show ms.all (λm=>decide _)=ao from List.all_eq_false.2 ⟨m,cX v,by have:=k.out;simp;omega⟩];rfl];rfl,a.only⟩
   .have b:¬(m.data.length:Int)>300:=ad;have g:=hid b;have k:=hid f;clear f b;refine b5 ?_;refine pl a 0 66 ?_ (hv:=e');refine ag ?_;refine aG _ (b4 24 73 5 _ _ aa ee aw _ _ _ _ _ _ (by show ae A _ _=_;rw[q]) aa hlt aa) ?_;refine ag ?_;refine aG _ (mG aa aa (t _ a.only 4 _ aa) aw) ?_;refine ag ?_;refine aG (ai ao) (by(have h:=g.out;go_simp;try omega)) ?_;refine b5 ?_;refine pad (j:Int) 1 ((j+1:Nat):Int) ?_;refine bX ?_;go_wp2_with fail;go_roundw;case rel=>exact⟨j+1,ad,aa,hid (λi y hi l=>by rcases vv.1 hi with h|rfl;exact s i y h l;rw[v]at l;cases l;have:=k.out;omega),a.pick [0]⟩
    case measure=>simp[c5]<;>omega
  .have I:¬(j:Int)<(ms.length:Int):=ad;obtain rfl:j=ms.length:=ad;have u:aE (s9 ms=decide ((ms.length:Int)<=40)):=hid (by unfold s9;rw[show ms.all (λm=>decide _)=az from z7.2 (λm d=>by obtain⟨i,hi⟩:=p9.1 d;exact decide_eq_true (s i m (eJ.1 hi).1 hi)),Bool.true_and];congr 1;rw[eq_iff_iff];omega);obtain⟨r,hr⟩:=ex (decide ((ms.length:Int)<=40));have H:=hid hr;rw[hr]at u;clear hr;go_step;refine ah ?_;refine v2 ?_;refine pl a 0 66 ?_ (hv:=e');refine ag ?_;refine a1 (ai ao) ?_;refine b5 ?_;refine pl a 0 66 ?_ (hv:=e');refine ag ?_;refine dp H (ai r) ?_;refine bX ?_;go_wp2_with fail;go_ret;exact⟨by rw[u];rfl,a.only⟩
def avS s(ol b0)(o n)(g1 g2)A c ms w(p:cU w A ms)(q:ms.length<=1048576)(ho:∀m∈ms,pG m)b(hb:b=az↔oK o n ms):
 aD ax 25 #[ae s ol b0,eL o n g1 g2 (ae A ms.length c)] w λe w'=>e=aB (ai (s9 ms&&b&&decide (o=(ol:Int))&&decide (n<=3000)))/\au w w':=by
 obtain⟨f,l⟩:=ex (s9 ms);have h:aE (∀W,au w W->aD _ 74 _ W λe w'=>e=aB (ai f)/\au W w'):=hid (λW g=>by rw[<-l];exact afl o n g1 g2 A c ms W (p.aI g) q);have k:=hid (λW g=>afC o n g1 g2 A c ms W (p.aI g) q ho b hb);rw[l];clear p ho hb l;cases f with
 |false=>
  go_enter O8,Pe;have a:=a8 w;go_step;refine ah ?_;refine bL a (ar _) (λi w1 a=>?_);refine dV ?_;refine bh a 0 (bb o n g1 g2 (ae A ms.length c)) ?_ (hv:=(e6 _)) (hk:=by omega) (hz:=(by rw[bH];rfl));refine bC (h _ a.only) a (λx a=>?_);refine ag ?_;iterate 2 refine ps ?_
  refine v2 ?_;iterate 5 refine ps ?_
  refine v2 ?_;iterate 3 refine ps ?_
  refine dU ?_;go_wp2_with fail;go_ret;exact⟨aa,a.only⟩
 |true=>
  cases b with
  |false=>
   go_enter O8,Pe;have a:=a8 w;go_step;refine ah ?_;refine bL a (ar _) (λi y a=>?_);refine dV ?_;refine bh a 0 (bb o n g1 g2 (ae A ms.length c)) ?_ (hv:=(e6 _)) (hk:=by omega) (hz:=(by rw[bH];rfl));refine bC (h _ a.only) a (λz a=>?_);refine ag ?_;refine bh a 0 (bb o n g1 g2 (ae A ms.length c)) ?_ (hv:=(e6 _)) (hk:=by omega) (hz:=(by rw[bH];rfl));refine bC (k _ a.only) a (λB a=>?_);refine v2 ?_;iterate 5 refine ps ?_
   refine v2 ?_;iterate 3 refine ps ?_
   refine dU ?_;go_wp2_with fail;go_ret;exact⟨aa,a.only⟩
  |true=>
   by_cases d:o=(ol:Int);·have j:=hid (beq_iff_eq.2 d);rw[show decide _=az from decide_eq_true d];clear d;obtain⟨r,hr⟩:=ex (decide (n<=3000));have t:=hid hr;rw[hr];clear hr;go_enter O8,Pe;have a:=a8 w;go_step;refine ah ?_;refine bL a (ar _) (λi C a=>?_);refine dV ?_;refine bh a 0 (bb o n g1 g2 (ae A ms.length c)) ?_ (hv:=(e6 _)) (hk:=by omega) (hz:=(by rw[bH];rfl));refine bC (h _ a.only) a (λD a=>?_);refine ag ?_;refine bh a 0 (bb o n g1 g2 (ae A ms.length c)) ?_ (hv:=(e6 _)) (hk:=by omega) (hz:=(by rw[bH];rfl));refine bC (k _ a.only) a (λE a=>?_);refine v3 ?_;refine pl a 0 0 ?_ (hv:=kI);refine v2 ?_;refine dp j (ai az) ?_;refine v3 ?_;refine pl a 0 1 ?_ (hv:=ih);refine dp t (ai r) ?_;refine dU ?_;go_wp2_with fail;go_ret;exact⟨aa,a.only⟩
   .have j:=hid (beq_eq_false_iff_ne.2 d);rw[show decide _=ao from decide_eq_false d];clear d;go_enter O8,Pe;have a:=a8 w;go_step;refine ah ?_;refine bL a (ar _) (λi F a=>?_);refine dV ?_;refine bh a 0 (bb o n g1 g2 (ae A ms.length c)) ?_ (hv:=(e6 _)) (hk:=by omega) (hz:=(by rw[bH];rfl));refine bC (h _ a.only) a (λu a=>?_);refine ag ?_;refine bh a 0 (bb o n g1 g2 (ae A ms.length c)) ?_ (hv:=(e6 _)) (hk:=by omega) (hz:=(by rw[bH];rfl));refine bC (k _ a.only) a (λv a=>?_);refine v3 ?_;refine pl a 0 0 ?_ (hv:=kI);refine v2 ?_;refine dp j (ai ao) ?_;refine v2 ?_;iterate 3 refine ps ?_
    refine dU ?_;go_wp2_with fail;go_ret;exact⟨aa,a.only⟩
end
section
attribute [local irreducible] wpList cL
def Cs(old:List Int)(i:Int)(m:bO):Int:=if m.k=1 then old[(m.fr+i -m.to).toNat]?.getD 0 else m.data[(i -m.to).toNat]?.getD 0
def lR(old:List Int)(ms:List bO)(i:Int):Int:=match ms.find? (λm=>hasB m i)with|some m=>Cs old i m|none=>0
def xE(old:List Int)(ms:List bO)(n:Nat):List Int:=(dQ n).map (λi:Nat=>lR old ms (i:Int))
def avj old ms n:(xE old ms n).length=n:=by simp[xE]
theorem avk old ms n:xE old ms (n+1)=xE old ms n++[lR old ms (n:Int)]:=by simp[xE,List.range_succ]
theorem Z6{ms m x}(a:m∈ms)(hx:hasB m x=az):∃j y,s' ms x=((j:Nat):Int)/\ms[j]?=ab y/\hasB y x=az/\∀old,lR old ms x=Cs old x y:=by
 unfold s' lR;cases h:ms.findIdx? (λm=>hasB m x)with
 |none=>grind
 |some j=>grind[List.findIdx?_eq_some_iff_getElem,List.find?_eq_some_iff_getElem]
def avn(E A)(b0 c n)o(g1 g2)old ms w(hold:b2 w E old)(M:cU w A ms)(fU:ms.length<=1048576)(gU:old.length<=1048576)(hn:n<=1048576)(hv:∀m∈ms,gd m)(lu:∀m∈ms,m.k=1->m.fr+m.n<=(old.length:Int))(Mr:∀i:Nat,i<n->∃m∈ms,hasB m (i:Int)=az):
 aD ax 27 #[ae E old.length b0,eL o (n:Int) g1 g2 (ae A ms.length c)] w λe w'=>∃S Z,e=aB (ae S n Z)/\cf w w' (ba S n Z 5 1 ((xE old ms n).map a6)):=by
 have cK:=hid M;have B3:=hid hold;have cJ:=hid hv;have q1:=hid lu;have KV:=hid Mr;have K1:=hid (λW off g=>afm o n g1 g2 A c ms off W (M.aI g) fU (λm x=>(hv m x).Gc));clear M hold hv lu Mr;go_enter func27,ntmps27;have a:=a8 w;go_step;refine ah ?_;refine bL a (ar _) (λcj w1 a=>?_);refine bX ?_;replace a:=a.new (ba af 0 0 5 1 []) ⟨av.refl _ _,Row.nil _ _ _ _,λb ⟨_,_,e⟩=>aH⟩;refine ah ?_;refine ag ?_;refine ah ?_;refine ag ?_;refine an ?_;have Y:=a.pk [0,1];go_wp2_with fail;go_loopw [5,6] (λek P wr=>∃(i:Nat) (aK:Option Addr) (c2:Nat),i<=n/\ek=ae aK i c2/\P=J R (i:Int)/\ak w (λ_=>False) wr [ba aK i c2 5 1 ((xE old ms i).map a6),aj cj (bb o (n:Int) g1 g2 (ae A ms.length c)) 26]) (λek P wr=>n -(c5 P).toNat);case atStart=>exact⟨0,_,0,cC _,aa,aa,Y⟩
 case round=>
  clear a Y;obtain⟨i,aK,c2,hi,rfl,rfl,a⟩:=hrel;by_cases hlt:i<n
  .have cb:(i:Int)<(n:Int):=ad;obtain⟨m0,vR,hx0⟩:=KV i hlt;obtain⟨j,d,abx,r,abb,nb⟩:=Z6 vR hx0;have L:=(eJ.1 r).1;have V:=hid (λW g=>by have q:=K1 W (i:Int) g;rwa [abx]at q);obtain⟨m,x⟩:∃m,ms[j]?=ab m:=⟨_,cE L⟩;obtain⟨C,D,F,K,bx,et,db⟩:=cU.jb cK x;have T:=hid bx;have iz:=hid et;have U:=hid db;have cg:=hid x;clear bx et db x;obtain rfl:d=m:=by have h:=cg.out;rw[r]at h;cases h;rfl
   have X:aE (xE old ms (i+1)=xE old ms i++[Cs old (i:Int) d]):=hid (by grind[avk]);have hb2:=of_decide_eq_true abb;have z:=cJ d (cX r);clear vR hx0 abx nb abb m0;go_step;refine ah ?_;refine v2 ?_;refine pl a 1 1 ?_ (hv:=ih);refine a1 (ai az) ?_;refine an ?_;by_cases hk:d.k=1
   .obtain⟨f1,f2,f3,_⟩:=z.copy hk;have gU:=q1 d (cX r) hk;have k6:cG d=d.n:=if_pos hk;rw[k6]at hb2;obtain⟨p,N⟩:∃p:Nat,d.fr+(i:Int) -d.to=(p:Int):=⟨(d.fr+(i:Int) -d.to).toNat,ad⟩;have hpl:p<old.length:=ad;obtain⟨kl,B,v,hc0⟩:=B3 ad;have G:=hid v;have s:=hid (hc0 p hpl);obtain⟨t,l⟩:=ex (old[p]?.getD 0);rw[l]at s;have H:aE (Cs _ _ d=t):=hid (by unfold Cs;rw[if_pos hk,N,p6];exact l);have O:=z.ck;rw[k6]at O;have I:=hid hk;clear hk z l v hc0 r;refine cy ?_;refine bR a [4,7,8] (λi u=>match i with|4=>J R (j:Int)|7=>ay (ab ⟨u.b,0,af⟩)|_=>a7) (λf=>λ|7=>aj ((f 7).b) #[J R 0,J R 0,J R 0,J R 0,ae af 0 0] 73|8=>aj ((f 7).b) #[J R d.k,J R d.to,J R d.fr,J R d.n,ae F d.data.length K] 73|_=>emp) (λ|8=>[9]|_=>[]) (λ|1=>[1]|2=>[1]|_=>[]) (λ|7=>[7]|8=>[7]|_=>[]) [0,1,6,10] (λf=>?_);refine aJ ?_;refine dl 0 66 ?_ (hv:=e');refine eM 0 (bb o (n:Int) g1 g2 (ae A ms.length c)) ?_ (hv:=(e6 _)) (hk:=by omega) (hz:=(by rw[bH];rfl));refine aJ ?_;refine dK (λQ _ a=>V Q a.only) ?_;refine aL _ (λ_ _ _=>b4 24 73 5 _ _ aa ee aw C D _ c j _ (by show ae A _ _=_;rw[T]) aa L aa) ?_;refine aL _ (λ_ _ a=>eW 73 (bj 19) aa C (D+j*5) aa _ (U _ a.only) fO aa aw) ?_;refine rh _ ?_;refine fS _ ?_;refine bW λaT a=>?_;generalize (f 7).b=fl at a⊢;replace a:=a.drop 2;refine b5 ?_;refine pl a 2 0 ?_;refine dp I (ai az) ?_;refine jk ?_;refine pl a 2 2 ?_;refine ag ?_;refine pad _ _ (d.fr+(i:Int)) ?_;refine ag ?_;refine pl a 2 1 ?_;refine jW _ _ _ ?_;refine aG _ (b4 22 5 1 _ _ aa dW aw kl B _ b0 p ((B+p)) (by show ae E _ _=_;rw[G]) aa hpl ad) ?_;refine aG _ (mG aa aa (a.only.cell s (λh=>h)) aw) ?_;refine e7 a #[J dO t] 5 (λazl bF a=>?_);refine jV (m:=1) a 1 1 (aX.cellsOf (m:=1) (a.aW 0) aa) (by intro u y;simp at y;subst y;rfl) (λU' YX b8 a=>?_) (hby:=by omega);refine cB ?_;refine pad (i:Int) 1 ((i+1:Nat):Int) ?_;refine bX ?_;go_wp2_with fail;go_roundw;case rel=>exact⟨_,_,_,ad,aa,aa,by rw[X,fP,H];exact a.pick [1,2]⟩
    case measure=>simp[c5]<;>omega
   .have hk2:cG d=(d.data.length:Int):=if_neg hk;rw[hk2]at hb2;obtain⟨p,N⟩:∃p:Nat,(i:Int) -d.to=(p:Int):=⟨((i:Int) -d.to).toNat,ad⟩;have hpl:p<d.data.length:=ad;obtain⟨kl,B,v,hc0⟩:=(iz w (av.refl _ _)).1 ad;have G:=hid v;have s:=hid (hc0 p hpl);obtain⟨t,l⟩:=ex (d.data[p]?.getD 0);rw[l]at s;have H:aE (Cs old _ d=t):=hid (by unfold Cs;rw[if_neg hk,N,p6];exact l);have O:=z.ck;rw[hk2]at O;have I:=hid hk;clear hk z l v hc0 r;refine cy ?_;refine bR a [4,7,8] (λi u=>match i with|4=>J R (j:Int)|7=>ay (ab ⟨u.b,0,af⟩)|_=>a7) (λf=>λ|7=>aj ((f 7).b) #[J R 0,J R 0,J R 0,J R 0,ae af 0 0] 73|8=>aj ((f 7).b) #[J R d.k,J R d.to,J R d.fr,J R d.n,ae F d.data.length K] 73|_=>emp) (λ|8=>[9]|_=>[]) (λ|1=>[1]|2=>[1]|_=>[]) (λ|7=>[7]|8=>[7]|_=>[]) [0,1,6,10] (λf=>?_);refine aJ ?_;refine dl 0 66 ?_ (hv:=e');refine eM 0 (bb o (n:Int) g1 g2 (ae A ms.length c)) ?_ (hv:=(e6 _)) (hk:=by omega) (hz:=(by rw[bH];rfl));refine aJ ?_;refine dK (λQ _ a=>V Q a.only) ?_;refine aL _ (λ_ _ _=>b4 24 73 5 _ _ aa ee aw C D _ c j _ (by show ae A _ _=_;rw[T]) aa L aa) ?_;refine aL _ (λ_ _ a=>eW 73 (bj 19) aa C (D+j*5) aa _ (U _ a.only) fO aa aw) ?_;refine rh _ ?_;refine fS _ ?_;refine bW λcA a=>?_;generalize (f 7).b=fl at a⊢;replace a:=a.drop 2;refine b5 ?_;refine pl a 2 0 ?_;refine dp I (ai ao) ?_;refine gV ?_;refine pl a 2 4 ?_;refine v2 ?_;refine pl a 2 1 ?_;refine jW _ _ _ ?_;refine aG _ (b4 22 5 1 _ _ aa dW aw kl B _ K p ((B+p)) (by show ae F _ _=_;rw[G]) aa hpl ad) ?_;refine aG _ (mG aa aa (a.only.cell s (λh=>h)) aw) ?_;refine e7 a #[J dO t] 5 (λOO cR a=>?_);refine jV (m:=1) a 1 1 (aX.cellsOf (m:=1) (a.aW 0) aa) (by intro u y;simp at y;subst y;rfl) (λrP r8 dz a=>?_) (hby:=by omega);refine cB ?_;refine pad (i:Int) 1 ((i+1:Nat):Int) ?_;refine bX ?_;go_wp2_with fail;go_roundw;case rel=>exact⟨_,_,_,ad,aa,aa,by rw[X,fP,H];exact a.pick [1,2]⟩
    case measure=>simp[c5]<;>omega
  .have cb:¬(i:Int)<(n:Int):=ad;obtain rfl:i=n:=ad;go_step;refine ah ?_;refine v2 ?_;refine pl a 1 1 ?_ (hv:=ih);refine a1 (ai ao) ?_;refine ah ?_;refine dU ?_;go_wp2_with fail;go_ret;exact⟨aK,c2,aa,a.fresh 0⟩
end
section
attribute [local irreducible] wpList cL
def HE(ms:List bO)(i j:Nat):Bool:=match ms[i]?,ms[j]? with
 |some m,ab y=>decide (i≠j)&&(decide (m.k=1)&&meets (src m) (ck y))
 |_,_=>ao
def afr(ms:List bO)(i j:Nat):List (Int×Int):=((dQ j).filter (HE ms i)).map (λj:Nat=>((i:Int),(j:Int)))
def Jd(ms:List bO)(i:Nat):List (Int×Int):=(dQ i).flatMap (λi=>afr ms i ms.length)
end
end Go.Proofs.YtcmhplknoglbkaaGreat
