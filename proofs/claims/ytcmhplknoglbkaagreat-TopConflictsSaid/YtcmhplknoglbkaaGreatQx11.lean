/- Part 11 of the proof of TopConflictsSaid. -/
import Derived.Shelf.Bytes.SlIndexWhole
import Derived.Test.YtcmhplknoglbkaaGreatProg
import Derived.Test.YtcmhplknoglbkaaGreatQx0
import Derived.Test.YtcmhplknoglbkaaGreatQx3
import Derived.Test.YtcmhplknoglbkaaGreatQx6
import Derived.Test.YtcmhplknoglbkaaGreatQx10
set_option linter.all false
set_option maxRecDepth 100000
set_option maxHeartbeats 4000000
open Go.Proofs.Tryz
open Array renaming size->ja
open Bool renaming false->ao,true->az
open Go renaming Calls->aD,bodyPost_ret->dp,results_cell_row->jd,undef->a1,wpList_nil->an
open Go.Ending renaming returned->aB
open Go.IntKind renaming i64->R,u8->d'
open Go.Lib renaming add_plain'->agI,bytesOf->Gu,index->Vl
open Go.Operand renaming tmp->bj
open Go.Proofs.Lays renaming n185->ayc
open Go.Proofs.Tryz renaming func161->JX,func186->wk,func238->Gy,func25->O6,ntmps161->J0,ntmps186->wo,ntmps238->GA,ntmps25->Pd,prog->aw,underlying22->dL,underlying24->eA,underlying35->Bu,underlying5->l2,underlying73->fy,underlying9->DN
open Go.Proofs renaming intOf->cO
open Go.RowKit renaming Hid->aE,intOf->cy
open Go.Value renaming agg->av,bool->ai,int->J,pointer->ax,slice->ae,tuple->bm
open Int renaming lt_or_eq_of_le->ajX,toNat_natCast->wK
open List.Pairwise renaming nil->Hc
open List.Perm renaming refl->BN
open List renaming all_eq_true->Eb,drop_of_length_le->QJ,eq_nil_of_length_eq_zero->j2,getElem?_eq_getElem->cC,getElem?_eq_some_iff->e5,getElem?_set_ne->KH,getElem?_set_self->akb,length_append->c',map_append->gp,mem_cons->gF,mem_iff_getElem?->qM,mem_map->fL,mem_of_getElem?->cY,not_mem_nil->fQ,pairwise_iff_getElem->l5,range->dG,take_length->kH
open Nat renaming le_refl->b4,lt_succ_iff_lt_or_eq->vn,not_lt_zero->zX,zero_le->cF
open Option renaming none->af,some->ab
namespace Go.Proofs.YtcmhplknoglbkaaGreat
open Go.Shelf
def Tryz.ark:Go.Shelf.Ren:=⟨λ|185=>189|187=>257|115=>258|253=>259|224=>260|254=>261|255=>314|291=>315|n=>n,λ|37=>22|3=>3|4=>4|0=>0|5=>5|46=>311|9=>9|146=>418|51=>315|n=>n,λ|1=>0|n=>n⟩
def Tryz.arj:ayc aw Tryz.ark:={
 mixed:=aY
 f115:=func258.trans (congrArg ab aY)
 f185:=func189.trans (congrArg ab aY)
 f187:=func257.trans (congrArg ab aY)
 f224:=func260.trans (congrArg ab aY)
 f253:=func259.trans (congrArg ab aY)
 f254:=func261.trans (congrArg ab aY)
 f255:=func314.trans (congrArg ab aY)
 f291:=func315.trans (congrArg ab aY)
 t0:=Tryz.underlying0
 a0:=Tryz.isAgg0
 z0:=Tryz.sizeOf0
 v0:=Tryz.zeroValue0
 t3:=Tryz.underlying3
 a3:=Tryz.isAgg3
 z3:=Tryz.sizeOf3
 v3:=Tryz.zeroValue3
 t4:=Tryz.underlying4
 a4:=Tryz.isAgg4
 z4:=Tryz.sizeOf4
 v4:=Tryz.zeroValue4
 t5:=l2
 a5:=Tryz.isAgg5
 z5:=Tryz.sizeOf5
 v5:=Tryz.zeroValue5
 t9:=DN
 a9:=Tryz.isAgg9
 z9:=Tryz.sizeOf9
 v9:=Tryz.zeroValue9
 t37:=dL
 a37:=isAgg22
 z37:=sizeOf22
 v37:=zeroValue22
 t46:=Tryz.underlying311
 a46:=Tryz.isAgg311
 z46:=Tryz.sizeOf311
 v46:=Tryz.zeroValue311
 t51:=Tryz.underlying315
 a51:=Tryz.isAgg315
 z51:=Tryz.sizeOf315
 v51:=Tryz.zeroValue315
 t146:=underlying418
 a146:=isAgg418
 z146:=sizeOf418
 v146:=zeroValue418
 g1:=by kernel_rfl}
open Go.RowKit Go.MapKept
def nI(l:List Int):Prop:=∀x∈l,0<=x/\x<256
def nI.drop{l}(h:nI l)n:nI (l.drop n):=λx hx=>h x (List.mem_of_mem_drop hx)
def nI.take{l}(h:nI l)n:nI (l.take n):=λx hx=>h x (List.mem_of_mem_take hx)
def xq(xs ct:List Int):Int:=Vl (Gu xs) (Gu ct)
def aqA(a aJ)(c1 c2)(xs ct)w m(h1:bX w a xs)(b:bX w aJ ct)(f:0<xs.length)(g:0<ct.length)(eF:nI xs)(eV:nI ct)(hc:xs.length<=c1)(j:xs.length<=1048576)(hs2:ct.length<=1048576)(c:w.cell? ⟨0,0,af⟩=ab (J R m)):
 aD aw 189 #[ae a xs.length c1,ae aJ ct.length c2] w λe w'=>e=aB (J R (xq xs ct))/\ar w w':=by
 obtain⟨g1,fB,rfl,k⟩:=h1 f;obtain⟨g2,d,rfl,l⟩:=b g;exact(Any.bytes_Index_at Tryz.arj ⟨g1,fB,af⟩ ⟨g2,d,af⟩ xs.length c1 ct.length c2 xs ct m w aa aa eF eV (λi hi=>by grind[agI]) (λi hi=>by grind[agI]) hc ad ad c).mono λe w' ⟨h,q,bY⟩=>⟨h,bY▸au.drewN _ _⟩
def aqu(xs ct):-1<=xq xs ct/\xq xs ct<=xs.length:=by
 refine⟨Lib.index_ge _ _,?_⟩;unfold xq;rw[<-Lib.bytesOf_length xs];generalize Gu xs=l;generalize Gu ct=s;induction l with
 |nil=>grind[Vl]
 |cons b l a=>grind[Vl]
def o8:List Int->List Int->Nat
 |x::xs,y::ct=>if x=y then o8 xs ct+1 else 0
 |_,_=>0
def anS{b o:List Int}{n k}(h:n<b.length)(a:k<o.length):o8 (b.drop n) (o.drop k)=if b[n]?.getD 0=o[k]?.getD 0 then o8 (b.drop (n+1)) (o.drop (k+1))+1 else 0:=by grind[List.drop_eq_getElem_cons,o8]
def anQ{b o:List Int}{n k}(h:b.length<=n):o8 (b.drop n) (o.drop k)=0:=by grind[QJ,o8]
def anR{b o:List Int}{n k}(h:o.length<=k):o8 (b.drop n) (o.drop k)=0:=by grind[QJ,o8]
def nS(old b:List Int)(blk:Nat):Int×Int:=
 if b.length<blk then(-1,0)else if xq old (b.take blk)<0 then(-1,0)else(xq old (b.take blk),((blk+o8 (b.drop blk) (old.drop ((xq old (b.take blk)).toNat+blk)):Nat):Int))
def arN(cT jA blk:Nat)(d aJ)(c1 c2)(old b)Z w(hblk:1<=blk/\blk<=1048576)(hop:0<old.length)(iw:old.length<=1048576)(aaG:b.length<=1048576)(hc2:old.length<=c2)(hc1:b.length<=c1)(Q:bX w d b)(hold:bX w aJ old)(N:nI b)(O:nI old)(hb1:aU w cT #[J R (blk:Int)] 3)(hb2:aU w jA #[ae aJ old.length c2] 22)(P:w.cell? ⟨0,0,af⟩=ab (J R Z)):
 aD aw 188 #[ae d b.length c1,ax (ab ⟨cT,0,af⟩),ax (ab ⟨jA,0,af⟩)] w λe w'=>e=aB (bm #[J R (nS old b blk).1,J R (nS old b blk).2])/\ar w w':=by
 have F:=hid Q;have G:=hid hold;have f:=hid hb1;have j:=hid hb2;have b9:=hid P;obtain⟨hb0,Av⟩:=hblk;have PL:=hid N;have PM:=hid O;clear Q hold hb1 hb2 P N O;go_enter Tryz.func188,ntmps188;have a:=bc w;go_step;refine ah ?_;refine dZ ?_;by_cases hbl:b.length<blk;·have Se:(blk:Int)>(b.length:Int):=ad;have c:=hid (show nS old b _=(-1,0)from if_pos hbl);refine ah ?_;refine iL f.out a.only ?_;refine bu (ai ao) ?_;refine ag ?_;refine iL f a.only ?_;refine v2 ?_;refine bu (ai az) ?_;refine pk (ai az) ?_;refine ah ?_;refine dZ ?_;go_wp2_with fail;go_ret2;exact⟨by rw[c];rfl,a.only⟩
 .have Se:¬(blk:Int)>(b.length:Int):=ad;refine ah ?_;refine iL f.out a.only ?_;refine bu (ai ao) ?_;refine ag ?_;refine iL f a.only ?_;refine v2 ?_;refine bu (ai ao) ?_;refine pk (ai ao) ?_;refine an ?_;have X:(b.take blk).length=blk:=aF
  have z:=hid (λW g=>by have h:=aqA aJ d c2 c1 _ (b.take blk) W Z (G.out.aG g) ((F.out.aG g).Dl ad) hop ad PM (PL.out.take _) hc2 ad ad (Ht g b9);rw[X]at h;exact h);clear X;have V:=aqu old (b.take blk);have l:nS _ b _=if xq _ _<0 then(-1,0)else(xq old _,((blk+o8 _ _:Nat):Int)):=if_neg hbl;obtain⟨q,T⟩:=ex (xq old (b.take blk));rw[T]at V z l;obtain⟨oE,oF⟩:=V;clear T;by_cases U:q<0;·rw[if_pos U]at l;have c:=hid l;clear l;refine cx ?_;refine bN a [4] (λi _=>match i with|4=>J R q|_=>a1) (λ_ _=>emp) (λ_=>[]) (λ_=>[]) (λ_=>[]) [4] (λm=>?_);refine aN (ae aJ _ c2) (λ_ _ a=>fw aa aa (aU.aG j a.only) aa ay) ?_;refine aK ?_;refine aN (J _ _) (λ_ _ a=>fw aa aa (aU.aG f a.only) aa ay) ?_;refine aN _ (λ_ _ _=>qt 22 5 1 _ _ aa dL ay d _ c1 blk aa aa ad) ?_;refine dD (λ_ _ a=>z _ a.only) ?_;refine aK ?_;refine bU λw1 a=>?_;replace a:=a.drop 0;refine b' ?_;refine bu (ai az) ?_;refine ah ?_;refine dZ ?_;go_wp2_with fail;go_ret2;exact⟨by rw[c];rfl,a.only⟩
  .rw[if_neg U]at l;have c:=hid l;clear l;refine cx ?_;refine bN a [4] (λi _=>match i with|4=>J R q|_=>a1) (λ_ _=>emp) (λ_=>[]) (λ_=>[]) (λ_=>[]) [4] (λm=>?_);refine aN (ae aJ _ c2) (λ_ _ a=>fw aa aa (aU.aG j a.only) aa ay) ?_;refine aK ?_;refine aN (J _ _) (λ_ _ a=>fw aa aa (aU.aG f a.only) aa ay) ?_;refine aN _ (λ_ _ _=>qt 22 5 1 _ _ aa dL ay d _ c1 blk aa aa ad) ?_;refine dD (λ_ _ a=>z _ a.only) ?_;refine aK ?_;refine bU λaW a=>?_;replace a:=a.drop 0;obtain⟨q,rfl⟩:=Int.eq_ofNat_of_zero_le (show 0<=q by omega);refine b' ?_;refine bu (ai ao) ?_;refine ah ?_;refine iL f.out a.only ?_;refine bP ?_;rw[show((q:Int)).toNat+blk=q+blk from a8]at c;obtain⟨p,v,K,M⟩:=F (show 0<b.length by omega);obtain⟨r,pq,L,S⟩:=G hop;have D:=hid K;have E:=hid L;have aiQ:=hid M;have ajn:=hid S;clear K L M S;have H:=a;go_wp2_with fail;go_loopw [7] (λC wr=>∃n:Nat,blk<=n/\n<=b.length/\C=J R (n:Int)/\aE (blk+o8 (b.drop blk) (old.drop (q+blk))=n+o8 (b.drop n) (old.drop (q+n)))/\ak w (λ_=>False) wr []) (λC wr=>b.length -(cy C).toNat);case atStart=>exact⟨_,b4 _,ad,aa,hid aa,H⟩
   case round=>
    clear a H;obtain⟨n,oC,vJ,rfl,o,a⟩:=hrel;by_cases s:n<b.length
    .have hnz:(n:Int)<(b.length:Int):=ad;by_cases t:q+n<old.length
     .have uv:((q+n:Nat):Int)<(old.length:Int):=ad;have A:aE (∀W,ar w W->W.cell? _=ab _):=hid (λW g=>Ht g (aiQ n s));have B:aE (∀W,ar w W->W.cell? _=ab _):=hid (λW g=>Ht g (ajn _ t));have hst:=anS (k:=_) s t;obtain⟨x,hx⟩:=ex (b[n]?.getD 0);obtain⟨y,Y⟩:=ex (old[q+n]?.getD 0);rw[hx]at hst A;rw[Y]at hst B;have I:=hid hst;clear hst hx Y;by_cases u:x=y
      .
       go_step;refine cx ?_;refine bN a [] (λ_ _=>a1) (λ_ _=>emp) (λ_=>[]) (λ_=>[]) (λ_=>[]) [] (λm=>?_);refine da ?_;refine aN (ai az) (λ_ _ _=>by(go_simp;try omega)) ?_;refine da ?_;refine aN _ (λ_ _ _=>mZ 3 _ _ 3 aa _ _ ((q+n:Nat):Int) aa aa ad ad ad) ?_;refine aN (ae aJ _ c2) (λ_ _ a=>fw aa aa (aU.aG j a.only) aa ay) ?_;refine aK ?_;refine aN (ai az) (λ_ _ _=>by(go_simp;try omega)) ?_;refine gZ (ai az) ?_;refine da ?_;refine aN _ (λ_ _ _=>cq 22 5 1 _ _ aa dL ay p v _ c1 n ((v+n)) (by show ae d _ _=_;rw[D]) aa s ad) ?_;refine aN _ (λ_ _ a=>Fo 5 _ aa p _ aa (A _ a.only) ay) ?_;refine aN (ae aJ _ c2) (λ_ _ a=>fw aa aa (aU.aG j a.only) aa ay) ?_;refine bF ?_;refine aN _ (λ_ _ _=>mZ 3 _ _ 3 aa _ _ ((q+n:Nat):Int) aa aa ad ad ad) ?_;refine aN _ (λ_ _ _=>cq 22 5 1 _ (bj 44) aa dL ay r pq _ c2 ((q+n)) ((pq+(q+n))) (by show ae aJ _ _=_;rw[E]) aa t ad) ?_;refine aN _ (λ_ _ a=>Fo 5 _ aa r _ aa (B _ a.only) ay) ?_;refine aN (ai az) (λ_ _ _=>by(go_simp;try exact u)) ?_;refine gZ (ai az) ?_;refine bU λbI a=>?_;refine b' ?_;refine pad (n:Int) 1 ((n+1:Nat):Int) ?_;refine bP ?_;go_wp2_with fail;go_roundw;case rel=>exact⟨n+1,ad,ad,aa,hid (by rw[o,I,if_pos u];show _=n+1+o8 _ (old.drop (q+n+1));omega),a⟩
       case measure=>simp[cy]<;>omega
      .
       go_step;refine cx ?_;refine bN a [] (λ_ _=>a1) (λ_ _=>emp) (λ_=>[]) (λ_=>[]) (λ_=>[]) [] (λm=>?_);refine da ?_;refine aN (ai az) (λ_ _ _=>by(go_simp;try omega)) ?_;refine da ?_;refine aN _ (λ_ _ _=>mZ 3 _ _ 3 aa _ _ ((q+n:Nat):Int) aa aa ad ad ad) ?_;refine aN (ae aJ _ c2) (λ_ _ a=>fw aa aa (aU.aG j a.only) aa ay) ?_;refine aK ?_;refine aN (ai az) (λ_ _ _=>by(go_simp;try omega)) ?_;refine gZ (ai az) ?_;refine da ?_;refine aN _ (λ_ _ _=>cq 22 5 1 _ _ aa dL ay p v _ c1 n ((v+n)) (by show ae d _ _=_;rw[D]) aa s ad) ?_;refine aN _ (λ_ _ a=>Fo 5 _ aa p _ aa (A _ a.only) ay) ?_;refine aN (ae aJ _ c2) (λ_ _ a=>fw aa aa (aU.aG j a.only) aa ay) ?_;refine bF ?_;refine aN _ (λ_ _ _=>mZ 3 _ _ 3 aa _ _ ((q+n:Nat):Int) aa aa ad ad ad) ?_;refine aN _ (λ_ _ _=>cq 22 5 1 _ (bj 44) aa dL ay r pq _ c2 ((q+n)) ((pq+(q+n))) (by show ae aJ _ _=_;rw[E]) aa t ad) ?_;refine aN _ (λ_ _ a=>Fo 5 _ aa r _ aa (B _ a.only) ay) ?_;refine aN (ai ao) (λ_ _ _=>by(go_simp;try exact u)) ?_;refine gZ (ai ao) ?_;refine bU λcc a=>?_;refine ah ?_;refine v4 ?_;refine an ?_;go_wp2_with fail;go_ret2;exact⟨by rw[c,o,I,if_neg u];rfl,a.only⟩
     .have uv:¬((q+n:Nat):Int)<(old.length:Int):=ad;go_step;refine cx ?_;refine bN a [] (λ_ _=>a1) (λ_ _=>emp) (λ_=>[]) (λ_=>[]) (λ_=>[]) [] (λm=>?_);refine da ?_;refine aN (ai az) (λ_ _ _=>by(go_simp;try omega)) ?_;refine da ?_;refine aN _ (λ_ _ _=>mZ 3 _ _ 3 aa _ _ ((q+n:Nat):Int) aa aa ad ad ad) ?_;refine aN (ae aJ _ c2) (λ_ _ a=>fw aa aa (aU.aG j a.only) aa ay) ?_;refine aK ?_;refine aN (ai ao) (λ_ _ _=>by(go_simp;try omega)) ?_;refine gZ (ai ao) ?_;refine aK ?_;iterate 11 refine ds ?_
      refine gZ (ai ao) ?_;refine bU λcJ a=>?_;refine ah ?_;refine v4 ?_;refine an ?_;go_wp2_with fail;go_ret2;exact⟨by rw[c,o,anR (n:=n) (k:=_) ad];rfl,a.only⟩
    .have hnz:¬(n:Int)<(b.length:Int):=ad;go_step;refine cx ?_;refine bN a [] (λ_ _=>a1) (λ_ _=>emp) (λ_=>[]) (λ_=>[]) (λ_=>[]) [] (λm=>?_);refine da ?_;refine aN (ai ao) (λ_ _ _=>by(go_simp;try omega)) ?_;refine aK ?_;iterate 6 refine ds ?_
     refine gZ (ai ao) ?_;refine aK ?_;iterate 11 refine ds ?_
     refine gZ (ai ao) ?_;refine bU λc5 a=>?_;refine ah ?_;refine v4 ?_;refine an ?_;go_wp2_with fail;go_ret2;exact⟨by rw[c,o,anQ (n:=n) (k:=_) ad];rfl,a.only⟩
def nN(new:List Int)(ms:List bJ)(fr p:Nat):List bJ:=if fr<p then ms++[⟨2,(fr:Int),0,0,(new.drop fr).take (p -fr)⟩]else ms
def ZQ new ms(fr p):(nN new ms fr p).length<=ms.length+1:=by grind[nN]
def ZP{new ms fr p}(h:∀m∈ms,m.data.length<=new.length):∀m∈nN new ms fr p,m.data.length<=new.length:=by grind[nN,List.mem_singleton]
def xA(old new:List Int)(blk:Nat):Nat->Nat->Nat->List bJ->List bJ
 |0,p,fr,ms=>nN new ms fr p
 |k+1,p,fr,ms=>if p<new.length then(if(nS old (new.drop p) blk).1<0 then xA old new blk k (p+1) fr ms
  else xA old new blk k (p+(nS old (new.drop p) blk).2.toNat) (p+(nS old (new.drop p) blk).2.toNat) (nN new ms fr p++[⟨1,(p:Int),(nS old (new.drop p) blk).1,(nS old (new.drop p) blk).2,[]⟩]))else nN new ms fr p
theorem ZJ:∀(xs ct),o8 xs ct<=xs.length
 |[],_=>by simp[o8]
 |x::xs,[]=>by simp[o8]
 |x::xs,y::ct=>by rw[o8];have:=ZJ xs ct;split<;>simp<;>omega
def arM{old b blk}(hb:1<=blk)(h:¬(nS old b blk).1<0):∃n:Nat,(nS old b blk).2=(n:Int)/\1<=n/\n<=b.length:=by
 unfold nS at h⊢;split at h;·omega
 .split at h;·omega
  .rename_i h1 a;rw[if_neg h1,if_neg a];refine⟨_,aa,ad,?_⟩;grind[ZJ]
def ZT(v r t fr p n c c1:Nat)(A k)new l(aq w)FX F(S:fr<=p)(hpl:p<=new.length)(hc1:new.length<=c1)(U:new.length<=1048576)(T:n<=1048576)(B:(l.map (·.1)).length=n)(hn:∀W,au FX aq W->bX W k new)(f:ak aq FX w [aj v #[J R (fr:Int)] 3,aj r #[ae A n c] 24,bk A n c 73 5 (cE l),gA l,aj t #[ae k new.length c1] 22,F]):
 aD aw 99 #[J R (p:Int),ax (ab ⟨v,0,af⟩),ax (ab ⟨r,0,af⟩),ax (ab ⟨t,0,af⟩)] w λe w'=>e=aB (bm #[])/\∃o s l',l'.map (·.1)=nN new (l.map (·.1)) fr p/\(l'.map (·.1)).length=(nN new (l.map (·.1)) fr p).length/\ak aq FX w' [aj v #[J R (fr:Int)] 3,aj r #[ae o (nN new (l.map (·.1)) fr p).length s] 24,bk o ((nN new (l.map (·.1)) fr p).length) s 73 5 (cE l'),gA l',aj t #[ae k new.length c1] 22,F]:=by
 have E:=hid hn;have y:=hid B;clear hn B;by_cases Q:fr<p
 .have K:(p:Int)>(fr:Int):=ad;obtain⟨d,z⟩:=ex ((new.drop fr).take (p -fr));have P:d.length=p -fr:=aF;have G:=hid (λW g=>by have h:=(E W g).win (i:=fr) (q:=p) hc1 hpl;rwa [z]at h);have j:aE (nN new (l.map (·.1)) fr p=l.map (·.1)++[⟨2,(fr:Int),0,0,d⟩]):=hid (by grind[nN]);clear z;go_enter Tryz.func99,Tryz.ntmps99;go_step;refine ah ?_;refine ag ?_;refine pl f 0 0 ?_;refine bu (ai az) ?_;refine cx ?_;refine bN f [6,7,8,9,10] (λi u=>match i with|6=>ae (ab ⟨u.b,0,af⟩) 1 1|7=>av #[J R 2,J R (fr:Int),J R 0,J R 0,ae u.A d.length u.c]|8=>ae (ab ⟨u.b,0,af⟩) 1 1|9=>ae u.A (n+1) u.c|_=>a1) (λa=>λ|6=>aj ((a 6).b) #[ae (fF k c1 fr 1) d.length (c1 -fr)] 22|7=>cg ((a 7).A) ((a 7).c) d|8=>aj ((a 8).b) #[J R 2,J R (fr:Int),J R 0,J R 0,ae (a 7).A d.length (a 7).c] 73|9=>bk ((a 9).A) (n+1) ((a 9).c) 73 5 ((cE l)++(jv ⟨2,(fr:Int),0,0,d⟩ (a 7).A (a 7).c))|10=>aj r #[ae (a 9).A (n+1) (a 9).c] 24|_=>emp) (λ|9=>[2]|10=>[1]|_=>[]) (λ|0=>[1]|1=>[0]|2=>[4]|3=>[0]|7=>[12]|9=>[14]|_=>[]) (λ|6=>[6]|7=>[7]|8=>[7,8]|9=>[7,9]|10=>[9]|_=>[]) [0,3,4,5,12,13,14,15,16] (λa=>?_);refine dl 0 0 ?_;refine dl 0 0 ?_;refine dl 0 0 ?_;refine dl 0 0 ?_;refine aK ?_;refine aN _ (λ_ _ _=>Jh 22 5 1 _ _ _ aa dL ay k _ c1 fr p d.length aa aa aa ad ad) ?_;refine lN _ 22 ?_;refine du (λM Fr f=>(Tw _ _ _ _ d M ((f.aX 0).cell 0 aa) (G _ f.only) ad).mono ?_) ?_;·rintro e V ⟨o,s,rfl,L,g⟩;exact⟨{A:=o,c:=s},aa,f.jE g L⟩
  refine lN #[J _ 2,J R _,J R 0,J _ 0,ae (a 7).A _ (a 7).c] 73 ?_;refine ub (m:=1) 56 (λ_ _ f=>aU.cellsOf (m:=1) (f.aX 1) aa) (Er ⟨2,_,0,0,d⟩ _ _) ?_ (hby:=by omega);refine gi _ ?_;refine bU λw1 f=>?_;generalize (a 6).b=N at f⊢;generalize (a 7).A=C at f⊢;generalize (a 7).c=H at f⊢;generalize (a 8).b=O at f⊢;generalize (a 9).A=D at f⊢;generalize (a 9).c=I at f⊢;have x:=f.pk [1,5,0,8,7,2,3];replace x:=ak.Lr (m:=⟨2,(fr:Int),0,0,d⟩) x;go_wp2_with fail;first|go_end0|refine bodyPost_ret (results_none rfl _ _ _) rfl ?_
  refine⟨aa,D,I,l++[(⟨2,_,0,0,d⟩,C,H)],by rw[j,gp];rfl,by rw[j];simp,?_⟩;rw[j,c',y,B8,Ew];exact x.pick [1,2,3,0,4,5]
 .have K:¬(p:Int)>(fr:Int):=ad;have j:aE (nN new (l.map (·.1)) fr p=l.map (·.1)):=hid (by grind[nN]);go_enter Tryz.func99,Tryz.ntmps99;go_step;refine ah ?_;refine ag ?_;refine pl f 0 0 ?_;refine bu (ai ao) ?_;refine an ?_;go_wp2_with fail;first|go_end0|refine bodyPost_ret (results_none rfl _ _ _) rfl ?_
  refine⟨aa,A,c,l,j.out.symm,by rw[j];simp,?_⟩;rw[j,y];exact f
def arO A(c n blk:Nat)w:
 aD aw 98 #[ae A c n,J R (blk:Int)] w λe w'=>∃cT jA,e=aB (.func (.func 188) #[] #[ax (ab ⟨cT,0,af⟩),ax (ab ⟨jA,0,af⟩)])/\ak w (λ_=>False) w' [aj cT #[J R (blk:Int)] 3,aj jA #[ae A c n] 22]:=by
 go_enter func98,ntmps98;have a:=bc w;go_step;refine ah ?_;refine bG a (ae A c n) (λb w1 a=>?_);refine bG a (J _ _) (λd f a=>?_);refine ag ?_;refine ah ?_;refine dZ ?_;go_wp2_with fail;go_ret;exact⟨_,_,aa,(a.pick (l':=_) [0,1])⟩
def amO{N ms}{m:bJ}(h:∀x∈ms,x.data.length<=N)(a:m.data.length<=N):∀x∈ms++[m],x.data.length<=N:=aF
def ar0{old new blk k p fr ms}(h:p<new.length)(hk:new.length -p<=k+1):xA old new blk (k+1) p fr ms=if(nS old (new.drop p) blk).1<0 then xA old new blk k (p+1) fr ms
 else xA old new blk k (p+(nS old (new.drop p) blk).2.toNat) (p+(nS old (new.drop p) blk).2.toNat) (nN new ms fr p++[⟨1,(p:Int),(nS old (new.drop p) blk).1,(nS old (new.drop p) blk).2,[]⟩]):=by grind[xA]
def arZ{old new blk k p fr ms}(h:¬p<new.length):xA old new blk k p fr ms=nN new ms fr p:=by
 cases k with
 |zero=>rfl
 |succ k=>grind[xA]
def Fu(old new:List Int)(blk:Nat):List bJ:=xA old new blk new.length 0 0 []
def arJ(d aJ)(c1 c2 blk:Nat)(old new)qi w(hblk:1<=blk/\blk<=1048576)(hop:0<old.length)(iw:old.length<=1048576)(iv:new.length<=9)(hc2:old.length<=c2)(hc1:new.length<=c1)(kP:bX w d new)(hold:bX w aJ old)(Ia:mW w d)(me:mW w aJ)(HX:nI new)(HY:nI old)(X:w.cell? ⟨0,0,af⟩=ab (J R qi)):
 aD aw 44 #[ae aJ old.length c2,ae d new.length c1,J R (blk:Int)] w λe w'=>∃aA aC t,e=aB (eB (old.length:Int) (new.length:Int) (e9 old) (e9 new) (ae aA (Fu old new blk).length aC))/\cf w w' t/\gM t aA aC (Fu old new blk):=by
 have V:=hid kP;have er:=hid hold;have gd:=hid Ia;have og:=hid me;have b9:=hid X;have PL:=hid HX;have PM:=hid HY;have aiW:aE (∀args w,(callFunc 188 _).run _ w=.ok (.enter 188 args) w):=hid (λargs w=>enters_of Tryz.func188 ay aa _ w);have W3:aE (∀args w,(callFunc 99 _).run _ w=.ok (.enter 99 _) w):=hid (λargs w=>enters_of Tryz.func99 ay aa args w);clear kP hold Ia me X HX HY;go_enter func44,ntmps44;have a:=bc w;go_step;refine ah ?_;refine bG a (ae d _ c1) (λo w1 a=>?_);refine bA a (a7 0 0 dS.zero dS.zero _) (λM aW a=>?_);refine an ?_;go_step;refine ah ?_;refine v2 ?_;refine aP (arO aJ _ c2 blk _) ?_;rintro e bI ⟨OD,OE,rfl,Qc⟩;replace a:=a.new _ (((Qc.fv 2)).fresh 0);refine aQ ?_;refine ag ?_;refine an ?_;go_step;refine ah ?_;refine bA a #[ae _ 0 0] (λf cc a=>?_);refine an ?_;go_step;refine ah ?_;refine bA a #[J _ 0] (λr cJ a=>?_);refine a' a 0 (J _ 0) (λc5 a=>?_);refine an ?_;go_step;refine ah ?_;refine v2 ?_;refine an ?_;go_step;refine ah ?_;refine ag ?_;refine an ?_;replace a:=a.new (bk af 0 0 73 5 []) ⟨au.refl _ _,Row.nil _ _ _ _,λb ⟨_,_,e⟩=>aF⟩;replace a:=a.Ls;have cj:ak w (λ_=>False) _ [aj r #[J R (((0:Nat):Int):Int)] 3,aj f #[ae af (([]:List (bJ×Option Addr×Nat)).map (·.1)).length 0] 24,bk af ((([]:List (bJ×Option Addr×Nat)).map (·.1)).length) 0 73 5 (cE ([]:List _)),gA _,aj o #[ae d new.length c1] 22,bK [aj OD _ 3,aj OE _ 22],aj M _ 26]:=a.pick [2,3,1,0,6,4,5];go_wp2_with fail;go_loopw [11] (λaS wr=>∃(p fr Q:Nat) (A:Option Addr) (c:Nat) (l:List (bJ×Option Addr×Nat)),fr<=p/\p<=new.length/\new.length -p<=Q/\(l.map (·.1)).length<=2*p/\aS=J R (p:Int)/\aE (xA old new blk Q p fr (l.map (·.1))=Fu old new blk)/\aE (∀m∈l.map (·.1),m.data.length<=new.length)/\ak w (λ_=>False) wr [aj r #[J R (fr:Int)] 3,aj f #[ae A (l.map (·.1)).length c] 24,bk A ((l.map (·.1)).length) c 73 5 (cE l),gA l,aj o #[ae d new.length c1] 22,bK [aj OD #[J R (blk:Int)] 3,aj OE #[ae aJ old.length c2] 22],aj M (a7 0 0 dS.zero dS.zero (ae af 0 0)) 26]) (λaS wr=>new.length -(cy aS).toNat);case atStart=>exact⟨0,0,_,_,0,[],b4 _,cF _,ad,a8,aa,hid aa,hid (λ_ h=>(fQ h).elim),cj⟩
 case round=>
  clear a cj;obtain⟨p,fr,Q,A,c,l,yW,vL,AE,dJ,rfl,b6,U,a⟩:=hrel;obtain⟨ms,dR⟩:=ex (l.map (·.1));rw[dR]at dJ b6 U a;obtain⟨n,hn⟩:=ex ms.length;rw[hn]at dJ a;have D:=hid dR;have O:=hid hn;clear dR hn;by_cases hlt:p<new.length
  .have cN:(p:Int)<(new.length:Int):=ad;obtain⟨Z,rfl⟩:∃Z,Q=Z+1:=⟨Q -1,ad⟩;have hstep:=ar0 (old:=old) (blk:=blk) (fr:=fr) (ms:=ms) hlt AE;rw[b6]at hstep;obtain⟨uf,jl⟩:=ex ((new.drop p).length);have az5:p+uf=new.length:=aF;have P':=hid (λW g eF eV=>arN OD OE blk (fF d c1 p 1) aJ (c1 -p) c2 old (new.drop p) qi W hblk hop iw ad hc2 ad ((V.out.aG g).Gc hc1) (er.out.aG g) (PL.out.drop p) PM eF eV (Ht g b9));have Y:=λh=>arM (old:=old) (b:=new.drop p) (blk:=_) hblk.1 h;obtain⟨q,hq⟩:=ex ((nS old (new.drop p) blk).1);obtain⟨z,hz⟩:=ex ((nS old (new.drop p) blk).2);rw[hq,hz]at hstep P';rw[hq,hz]at Y;rw[jl]at P' Y;clear hq hz jl;go_step;refine ah ?_;refine ag ?_;refine pl a 4 0 ?_;refine v2 ?_;refine an ?_;go_step;refine ah ?_;refine ag ?_;refine pl a 4 0 ?_;refine ag ?_;refine aI _ (A3 22 5 1 _ _ aa dL ay d _ c1 p uf aa aa ad ad) ?_;have abC:=a.at 5;refine aP (P'.out _ a.only abC.1 abC.2.1.1) ?_ (hr:=by(first|(go_simp;done)|(go_simp;exact aiW.out _ _)));rintro e dK ⟨rfl,g⟩;replace a:=a.aG g;refine aQ ?_;refine v5 ?_;refine an ?_;by_cases T:q<0
   .rw[if_pos T]at hstep;have ey:=hid hstep;clear hstep;go_step;refine ah ?_;refine ag ?_;refine aI (ai az) (by(go_simp;try exact T)) ?_;refine an ?_;go_step;refine ah ?_;refine ag ?_;refine pad _ 1 ((p+1:Nat):Int) ?_;refine ag ?_;refine an ?_;go_wp2_with fail;go_roundw;case rel=>exact⟨p+1,fr,Z,A,c,l,ad,ad,ad,by rw[D,O];omega,aa,hid (by rw[D,<-ey]),hid (by rw[D];exact U),by rw[D,O];exact a.pick [0,1,2,3,4,5,6]⟩
    case measure=>simp[cy]<;>omega
   .rw[if_neg T]at hstep;obtain⟨s,rfl,hz1,hz2⟩:=Y T;rw[show((s:Int)).toNat=s from aa]at hstep;have ey:=hid hstep;clear hstep Y;go_step;refine ah ?_;refine ag ?_;refine aI (ai ao) (by(go_simp;try exact T)) ?_;refine an ?_;go_step;refine ah ?_;refine v2 ?_;have S:=ak.tail [aj r _ 3,aj f _ 24,bk A n c 73 5 (cE l),gA l,aj o _ 22] [bK _,aj M _ 26] (a.pick [0,1,2,3,4,5,6]);refine aP (ZT r f o fr p n c c1 A d new l w _ (λ_=>False) _ ad ad hc1 ad ad (by rw[D,O]) (λW g=>V.out.aG g) S) ?_ (hr:=by(first|(go_simp;done)|(go_simp;exact W3.out _ _)));rintro e dz ⟨rfl,L,P,j,y,B,a⟩;clear S;rw[D]at y B a;obtain⟨m4,I⟩:=ex (nN new ms fr p);have H:=ZQ new ms fr p;have G:=ZP (fr:=fr) (p:=p) U;have P9:=hid I;rw[I]at y B a H G;rw[O]at H;obtain⟨E,K⟩:=ex m4.length;rw[K]at B a H;have F:=hid K;have N:=hid y;have PQ:=hid G;clear I K y B G;replace a:ak _ _ _ [aj r _ 3,aj f _ 24,bk L E P 73 5 (cE j),gA j,aj o _ 22,bK _,aj M _ 26]:=ak.iz [aj r _ 3,aj f _ 24,bk L E P 73 5 (cE j),gA j,aj o _ 22] _ a;refine aQ ?_;refine an ?_;go_step;refine cx ?_;refine bN a [4,5,6,7] (λi u=>match i with|4=>av #[J R 1,J R (p:Int),J R q,J R (s:Int),ae af 0 0]|5=>ae (ab ⟨u.b,0,af⟩) 1 1|6=>ae u.A (E+1) u.c|_=>a1) (λC=>λ|5=>aj ((C 5).b) #[J R 1,J R (p:Int),J R q,J R (s:Int),ae af 0 0] 73|6=>bk ((C 6).A) (E+1) ((C 6).c) 73 5 ((cE j)++(jv ⟨1,(p:Int),q,(s:Int),[]⟩ af 0))|7=>aj f #[ae (C 6).A (E+1) (C 6).c] 24|_=>emp) (λ|6=>[2]|7=>[1]|_=>[]) (λ|0=>[1]|6=>[12]|_=>[]) (λ|5=>[5]|6=>[6]|7=>[6]|_=>[]) [0,3,4,5,6,11,12,13,14] (λC=>?_);refine dl 0 0 ?_;refine da ?_;refine du (λwl Fr a=>(Y0 (p:Int) q _ _).mono ?_) ?_;·rintro e dA ⟨rfl,g⟩;exact⟨{},aa,(a.aG g).dN⟩
    refine lN _ 73 ?_;refine ub (m:=1) 56 (λ_ _ a=>aU.cellsOf (m:=1) (a.aX 1) aa) (Er ⟨1,_,q,_,[]⟩ _ 0) ?_ (hby:=by omega);refine gi _ ?_;refine bU λeY a=>?_;generalize (C 5).b=axU at a⊢;generalize (C 6).A=axr at a⊢;generalize (C 6).c=ayI at a⊢;replace a:=a.drop 5;replace a:=a.pk [1,0,2,3,4,5,6,7];replace a:=ak.am5 (m:=⟨1,(p:Int),q,(s:Int),[]⟩) aa a;go_step;refine ah ?_;refine v2 ?_;refine pad _ _ ((p+s:Nat):Int) ?_;refine ag ?_;refine an ?_;go_step;refine ah ?_;refine ag ?_;refine a' a 1 (J _ ((p+s:Nat):Int)) (λgQ a=>?_);refine an ?_;go_wp2_with fail;go_roundw;case rel=>exact⟨p+s,p+s,Z,_,_,j++[(⟨1,_,q,_,[]⟩,af,0)],ad,ad,ad,by rw[gp,N,c',F];simp;omega,aa,hid (by rw[gp,N,ey,P9];rfl),hid (by rw[gp,N];exact amO PQ (cF _)),by rw[gp,N.out,c',F.out,B8,Ew];exact a.pick [1,7,6,0,2,3,4]⟩
    case measure=>grind[cy]
  .have cN:¬(p:Int)<(new.length:Int):=ad;have hend:=arZ (old:=old) (blk:=blk) (k:=Q) (fr:=fr) (ms:=ms) hlt;rw[b6]at hend;have aiX:=hid hend;clear hend;go_step;refine ah ?_;refine ag ?_;refine pl a 4 0 ?_;refine v2 ?_;refine an ?_;go_step;refine ah ?_;refine v2 ?_;have S:=ak.tail [aj r #[J R (fr:Int)] 3,aj f #[ae A n c] 24,bk A n c 73 5 (cE l),gA l,aj o #[ae d new.length c1] 22] [bK _,aj M (a7 0 0 dS.zero dS.zero (ae af 0 0)) 26] (a.pick [0,1,2,3,4,5,6]);refine aP (ZT r f o fr p n c c1 A d new l w _ (λ_=>False) _ ad ad hc1 ad ad (by rw[D,O]) (λW g=>V.out.aG g) S) ?_ (hr:=by(first|(go_simp;done)|(go_simp;exact W3.out _ _)));rintro e ib ⟨rfl,L,P,j,y,B,a⟩;clear S;rw[D]at y B a;obtain⟨m4,I⟩:=ex (nN new ms fr p);have H:=ZQ new ms fr p;have G:=ZP (fr:=fr) (p:=p) U;have P9:=hid I;rw[I]at y B a H G;rw[O]at H;obtain⟨E,K⟩:=ex m4.length;rw[K]at B a H;have F:=hid K;have N:=hid y;have PQ:=hid G;clear I K y B G;replace a:ak _ _ _ [aj r _ 3,aj f _ 24,bk L E P 73 5 (cE j),gA j,aj o _ 22,bK _,aj M _ 26]:=ak.iz [aj r _ 3,aj f _ 24,bk L E P 73 5 (cE j),gA j,aj o _ 22] _ a;refine aQ ?_;refine an ?_;have k4:m4=Fu old new blk:=by rw[<-P9,aiX]
   subst k4;go_step;refine ah ?_;refine ag ?_;refine pl a 4 0 ?_;refine pl a 1 0 ?_;refine aP ((by have h:=Zk c2 c1 aJ d L P old new (Fu old new blk) _ iw ad (er.out.aG a.only) (og.out.aG a.only) (V.out.aG a.only) (gd.out.aG a.only) (afe (a.atR 2) N.out F.out.symm (λx hx=>(a.at 3 aa x hx).cmd)) (by rw[F];omega) (λm X=>Nat.le_trans (PQ.out m X) ad);rw[F.out]at h;exact h)) ?_;rintro e jS ⟨gR,gy,bz,rfl,hF,jY⟩;replace a:=a.new _ hF;refine aQ ?_;refine a' a 7 (av _) (λkh a=>?_) (hk:=by show 0+ja (a7 _ _ _ _ _)<=_;simp only[bW];decide) (hz:=by show _=ab (ja (a7 _ _ _ _ _));rw[bW];rfl) (h1:=(w2 aa)) (hc:=xt);refine an ?_;go_wp2_with fail;refine dp (v:=_) (jd aa _ _ _ _ _ _ _ aa (a.aX 7) Tryz.underlying26 aa (by rw[bW];rfl)) aa (⟨gR,gy,by rw[F],bz,a.fresh 0,jY⟩)
def uF:List Int:=[97,98,99,100,101,102]
def k9:List Int:=[100,101,102,120,97,98,99]
def oK:List bJ:=[⟨1,0,3,3,[]⟩,⟨2,3,0,0,[120]⟩,⟨1,4,0,3,[]⟩]
def BY:List bJ:=[⟨1,4,0,3,[]⟩,⟨2,0,0,0,[100,101,102]⟩,⟨2,3,0,0,[120]⟩]
def Nn:List bJ:=[⟨2,0,0,0,[100,101,102]⟩,⟨2,3,0,0,[120]⟩]
def z8:List kj:=[((0,3),0),((3,1),1),((4,3),2)]
def sr:List (Int×Int):=[(0,1),(0,2),(2,0)]
def arI:Fu uF k9 3=oK:=ay
theorem Ve:ua oK z8=sr:=ay
theorem ac7:mI oK 3=[1]:=ay
def ad9:vW uF oK=k9:=ay
def afk{a:Type}{pre L}{x:a}(h:pre++[x]<+:L):L[pre.length]?=ab x/\L.take pre.length=pre:=by obtain⟨t,rfl⟩:=h;simp
def avZ(L:List (Nat×Int×Int)):Bool:=(dG L.length).all λj=>match L[j]? with
 |some x=>decide (x.2.1=ij (L.take j))&&decide (0<=ij (L.take j))&&decide (0<=x.2.2)&&decide (ij (L.take j)+x.2.2<=4611686018427387903)
 |none=>ao
def afD{n:Nat}{ms}(h:avZ (hQ ms)=az)(a:ij (hQ ms)=(n:Int)):KU n ms:=⟨λpre x c=>by obtain⟨b,d⟩:=afk c;have e:=Eb.1 h _ (List.mem_range.2 (e5.1 b).1);grind,a⟩
def awn:vp 6 7 oK:=⟨bf,bf,λm a=>by simp only[oK,gF,fQ,or_false]at a;rcases a with rfl|rfl|rfl<;>simp[mP,gW,wU,et,b5],afD ay ay,bf⟩
def awm:vp 6 7 BY:=⟨bf,bf,λm a=>by simp only[BY,gF,fQ,or_false]at a;rcases a with rfl|rfl|rfl<;>simp[mP,gW,wU,et,b5],afD ay ay,bf⟩
def Z3:jW z8:=⟨by simp[z8],λx hx=>by grind[z8,et]⟩
theorem ad4{E v x}(h:G.Path E v x):∃y,(v,y)∈E:=by
 induction h with
 |one h=>grind
 |more _ _ a=>omega
def amB:G.lJ sr [] [0,2]:=⟨a8,λx=>by
 rw[G.amv];constructor
 .intro h;simp at h;rcases h with rfl|rfl;·exact .more (.one (x:=2) (by simp[sr])) (by simp[sr])
  .exact .more (.one (x:=0) (by simp[sr])) (by simp[sr])
 grind[ad4,sr]⟩
def amC:G.lJ sr [0] []:=⟨Hc,λx=>by grind[G.cut,sr,ad4]⟩
theorem alT:G.zS sr [3,0,3] [1] [0] []:=⟨.snoc (v:=0) .nil amB ay,amC,aa⟩
theorem asN:G.wL sr 3 [1,0] [2]:=by
 have rd:∀v out,G.Hm sr 3 [1,0] out v->v=2:=λv out h=>by obtain⟨h1,a,_⟩:=h;simp at a;omega
 refine⟨.snoc (out:=[]) (v:=2) .nil ⟨⟨bf,a8,a8,λu b=>?_⟩,λu b=>aF⟩,λv hv=>?_⟩;·grind[sr]
 .have h1:=rd v _ hv;subst h1;exact hv.2.2.1 a8
def amb:Dy oK:=⟨bf,aun (l:=oK.map ck) (S:=z8) aY Z3,λm a hk=>by grind[oK,et]⟩
def amf:Conv oK z8 [0] [2]:=⟨amb,aY,Z3,by grind[oK,ac7,Ve,alT],by grind[oK,ac7,Ve,asN],ay,bf⟩
def amy:Dz uF oK z8 [0] [2] Nn:=⟨amf,λx hx=>⟨2,aF,bf⟩,bf,λm a hk=>by
 simp only[oK,gF,fQ,or_false]at a;rcases a with rfl|rfl|rfl;·exact⟨3,3,aa,aa,bf⟩
 .grind
 .exact⟨0,3,aa,aa,bf⟩,⟨aY,by simp[Nn]⟩⟩
def Hp:jR oK [2]++Nn=BY:=ay
def Dx:sq:=⟨2,6,7,e9 uF,e9 k9,BY⟩
def Ca:dn:=hP 64 (ia 64 2 7+0) uF
def amM:dv Ca:=TI bf bf bf bf
def afu:db 2 BY=[⟨1,4,0,2,[]⟩,⟨1,6,2,1,[]⟩,⟨2,0,0,0,[100,101]⟩,⟨2,2,0,0,[102]⟩,⟨2,3,0,0,[120]⟩]:=ay
def al7:oP Dx Ca:=⟨amM,bf,bf,awm,bf,by show(db 2 BY).length<=_;rw[afu];decide,λba b=>by
 have a:ba∈db 2 BY:=b;rw[afu]at a;simp at a;rcases a with rfl|rfl|rfl|rfl|rfl;·exact⟨4,aa,bf⟩
 .exact⟨6,aa,bf⟩
 .exact⟨0,aa,bf⟩
 .exact⟨2,aa,bf⟩
 .exact⟨3,aa,bf⟩⟩
def aez:Bool:=match gx Dx ([(4,1)]++[(-1,0)]) Ca with
 |(l,d)=>decide (l.length=2)&&ug l&&decide (d.bytes.take 7=k9)&&decide (1<=d.size)&&decide (1<=d.cnt)&&decide (d.bytes.length=d.cnt*d.size)&&decide (d.cnt*d.size<=1048576)&&d.cache.isEmpty&&decide (d.writes=-1)
def at9:aez=true:=ay
section
section
variable {lt:Nat->Nat->Bool} {key:Nat->Int}
def swap_perm{L:List Nat}{j}(a:j+1<L.length):((L.set (j+1) (L[j]?.getD 0)).set j (L[j+1]?.getD 0)).Perm L:=aF
def afc:∀(j) L,j<L.length->(sink lt j L).Perm L
 |0,_,_=>BN _
 |j+1,L,a=>by
  unfold sink;split;·exact(afc j _ (by simp;omega)).trans (swap_perm a)
  .exact BN _
def acH L:∀i,i<=L.length->(k6 lt L i).Perm L
 |0,_=>BN _
 |i+1,h=>(afc i _ (by grind[Fg])).trans (acH L i ad)
def kx(key:Nat->Int)(L:List Nat)(a:Nat):Int:=key (L[a]?.getD 0)
def afd(hlt:∀x y,lt x y=decide (key x<key y)):∀(j) L,j<L.length->(∀a b,a<b->b<j->kx key L a<=kx key L b)->
 (∀a b,a<b->b<j+1->kx key (sink lt j L) a<=kx key (sink lt j L) b)/\(∀b,j<b->(sink lt j L)[b]?=L[b]?)/\∀f,(∀a,a<=j->kx key L a<=f)->∀a,a<=j->kx key (sink lt j L) a<=f
 |0,L,_,_=>⟨λa b h1 v=>ad,λb _=>rfl,λf h=>h⟩
 |j+1,L,s,i=>by
  unfold sink;rw[hlt];by_cases h:key (L[j+1]?.getD 0)<key (L[j]?.getD 0)
  .rw[if_pos (decide_eq_true h)];obtain⟨c,g⟩:∃z,(L.set (j+1) (L[j]?.getD 0)).set j (L[j+1]?.getD 0)=z:=⟨_,aa⟩
   have bB:∀a,a<j->c[a]?=L[a]?:=λa e=>by rw[<-g,KH ad,KH ad]
   have bY:c[j]?=ab (L[j+1]?.getD 0):=by rw[<-g,akb (by simp;omega)]
   have q:c[j+1]?=ab (L[j]?.getD 0):=by rw[<-g,KH ad,akb s]
   have r:∀a,j+1<a->c[a]?=L[a]?:=λa e=>by rw[<-g,KH ad,KH ad]
   have k:∀a,a<j->kx key c a=kx _ L a:=λa e=>by unfold kx;rw[bB a e]
   have m:kx key c j=kx key L (j+1):=by unfold kx;rw[bY];rfl
   have t:kx key c (j+1)=kx key L j:=by unfold kx;rw[q];rfl
   have hlen:c.length=L.length:=by rw[<-g];simp
   rw[g];obtain⟨u,o,p⟩:=afd hlt j c ad (λa b hab hb=>by rw[k a ad,k b ad];exact i a b hab ad);have n:kx key (sink lt j c) (j+1)=kx key L j:=by rw[<-t];unfold kx;rw[o (j+1) ad]
   have hx:kx _ L _<kx _ L j:=h
   have hb:∀a,a<=j->kx _ c a<=kx key L j:=λa e=>by
    by_cases d:a=j;·rw[d,m];omega
    .rw[k a ad];exact i a j ad ad
   refine⟨λa b hab hb2=>?_,λb hb2=>by rw[o b ad,r b ad],λf l a e=>?_⟩
   .by_cases d:b=j+1;·rw[d,n];exact p _ hb a ad
    .exact u a b hab ad
   .by_cases d:a=j+1;·rw[d,n];exact l j ad
    .refine p f (λa e=>?_) a ad;by_cases d:a=j;·rw[d,m];exact l _ ad
     .rw[k a ad];exact l a ad
  .rw[if_neg (by simpa using h)];refine⟨λa b hab hb=>?_,λb _=>rfl,λf h=>h⟩;have hx:kx _ L j<=kx _ L _:=Int.not_lt.1 h;by_cases d:b=j+1
   .subst d;by_cases e:a=j;·rw[e];exact hx
    .exact Int.le_trans (i a j ad ad) hx
   .exact i a b hab ad
def acI(hlt:∀x y,lt x y=decide (key x<key y))L:∀i,i<=L.length->∀a b,a<b->b<i->kx key (k6 lt L i) a<=kx key (k6 lt L i) b
 |0,_=>λa b _ h=>by omega
 |i+1,h=>(afd hlt i _ (by grind[Fg]) (acI hlt L i ad)).1
end
def asL ms:(lY ms).Perm (dG ms.length):=acH _ _ a8
theorem asM ms:(lY ms).Pairwise (λi j=>nr ms i<=nr ms j):=by rw[l5];intro i j hi b a;have c:=M3 ms;have h:=acI (lt:=λx y=>decide (pZ (nr ms x) (nr ms y)<0)) (key:=nr ms) (λx y=>by grind[pZ]) (dG ms.length) ms.length a8 i j a ad;grind[kx,lY]
end
structure Lays (n:Nat) (T:List (Int×Int)):Prop where
 pos:∀x∈T,0<=x.1/\0<x.2/\x.1+x.2<=(n:Int)
 apart:T.Pairwise (λx y=>x.1+x.2<=y.1\/y.1+y.2<=x.1)
 zero:0<n->∃z∈T,z.1<=0/\0<z.1+z.2
 next:∀x∈T,x.1+x.2<(n:Int)->∃z∈T,z.1<=x.1+x.2/\x.1+x.2<z.1+z.2
def Lays.perm{n T a}(h:Lays n T)(p:T.Perm a):Lays n a:=
 ⟨λx hx=>h.pos x (p.mem_iff.2 hx),(p.pairwise_iff (λh=>h.symm)).1 h.apart,λhn=>by
   obtain⟨z,hz,h1⟩:=h.zero hn;exact⟨z,p.mem_iff.1 hz,h1⟩,λx hx b=>by
   obtain⟨z,hz,h1⟩:=h.next x (p.mem_iff.2 hx) b;exact⟨z,p.mem_iff.1 hz,h1⟩⟩
def Cc{L:List (Nat×Int×Int)}{k x}(h:L[k]?=ab x):ij (L.take (k+1))=ij (L.take k)+x.2.2:=by grind[List.take_add_one,Zr]
def F4 ms:((hQ ms).map (λx=>(x.2.1,x.2.2))).Perm (ms.map ck):=by unfold hQ;rw[List.map_map];refine((asL ms).map _).trans (List.Perm.of_eq ?_);refine List.ext_getElem? λi=>?_;grind[nr,MH,ck]
def Dd ms:(hQ ms).Pairwise (λx y=>x.2.1<=y.2.1):=by grind[hQ,asM]
def Fm{n}{L:List (Nat×Int×Int)}(h:Lays n (L.map (λx=>(x.2.1,x.2.2))))(o:L.Pairwise (λx y=>x.2.1<=y.2.1)):∀k,k<=L.length->
 (∀j x,j<k->L[j]?=ab x->x.2.1=ij (L.take j)/\x.2.1+x.2.2<=ij (L.take k))/\0<=ij (L.take k)/\ij (L.take k)<=(n:Int)
 |0,_=>⟨λj x b=>ad,by simp[ij],by simp[ij]⟩
 |k+1,hk=>by
  obtain⟨h1,v,w⟩:=Fm h o k ad;obtain⟨x,hx⟩:∃x,L[k]?=ab x:=⟨_,cC ad⟩;have l:∀(j:Nat) y,L[j]?=ab y->(y.2.1,y.2.2)∈L.map (λx=>(x.2.1,x.2.2)):=λj y c=>fL.2 ⟨y,cY c,aa⟩
  have u:∀(i j:Nat) (y z),i<j->L[i]?=ab y->L[j]?=ab z->y.2.1<=z.2.1/\(y.2.1+y.2.2<=z.2.1\/z.2.1+z.2.2<=y.2.1):=λi j y z m c hz=>by obtain⟨hi,rfl⟩:=e5.1 c;obtain⟨b,rfl⟩:=e5.1 hz;exact⟨l5.1 o i j hi b m,l5.1 (List.pairwise_map.1 h.apart) i j hi b m⟩
  have t:=h.pos _ (l k x hx);simp only at t
  have r:ij (L.take k)<(n:Int)->∃z∈L,z.2.1<=ij (L.take k)/\ij (L.take k)<z.2.1+z.2.2:=λhlt=>by
   cases k with
   |zero=>
    have q:ij (L.take 0)=0:=aY;rw[q]at hlt⊢;obtain⟨z,hz,d⟩:=h.zero ad;grind
   |succ k=>
    obtain⟨p,a⟩:∃p,L[k]?=ab p:=⟨_,cC ad⟩;have d:=(h1 k p ad a).1;have e:=Cc a;have f:=h.next _ (l k p a);simp only at f;rw[e,<-d]at hlt⊢;obtain⟨z,hz,g⟩:=f hlt;obtain⟨y,c,rfl⟩:=fL.1 hz;exact⟨y,c,g⟩
  have s:ij (L.take k)<=x.2.1:=by
   cases k with
   |zero=>grind[ij]
   |succ k=>
    obtain⟨p,a⟩:∃p,L[k]?=ab p:=⟨_,cC ad⟩;have d:=(h1 k p ad a).1;have e:=Cc a;have f:=u k _ p x ad a hx;have g:=h.pos _ (l k p a);simp only at g;omega
  have B:x.2.1=ij (L.take k):=by
   rcases ajX s with hlt|A;·exfalso;obtain⟨z,hz,d,e⟩:=r ad;obtain⟨j,b⟩:=qM.1 hz;grind
   .omega
  have hes:=Cc hx;refine⟨λj y b c=>?_,ad,ad⟩;rcases vn.1 b with hlt|rfl;·grind
  .grind
def Tu{n L}(h:Lays n (L.map (λx=>(x.2.1,x.2.2))))(g:L.Pairwise (λx y=>x.2.1<=y.2.1)):ij L=(n:Int):=by
 obtain⟨h1,d,b⟩:=Fm h g L.length (b4 _);rw[kH]at h1 d b;rcases ajX b with hlt|k
 .exfalso;have hend:∀z∈L,z.2.1+z.2.2<=ij L:=λz hz=>by grind[qM]
  by_cases c:L.length=0;·obtain rfl:=List.length_eq_zero_iff.1 c;obtain⟨z,hz,_⟩:=h.zero ad;simp at hz
  .obtain⟨p,a⟩:∃p,L[L.length -1]?=ab p:=⟨_,cC ad⟩;have j:=(h1 _ p ad a).1;have e:=Cc a;rw[show L.length -1+1=L.length by omega,kH]at e;obtain⟨z,hz,f⟩:=h.next (p.2.1,p.2.2) (fL.2 ⟨p,cY a,aa⟩) ad;obtain⟨y,i,rfl⟩:=fL.1 hz;have:=hend y i;simp only at f;omega
 .omega
def av0{n ms}(h:Lays n (ms.map ck))(hn:(n:Int)<=4611686018427387903):KU n ms:=by have cz:=h.perm (F4 ms).symm;refine⟨λpre x g=>?_,Tu cz (Dd ms)⟩;obtain⟨h1,c⟩:=afk g;have hk:=(e5.1 h1).1;obtain⟨d,i,j⟩:=Fm cz (Dd ms) (pre.length+1) hk;obtain⟨_,b,_⟩:=Fm cz (Dd ms) pre.length ad;have a:=(d _ x ad h1).1;have e:=Cc h1;have f:=cz.pos _ (fL.2 ⟨x,cY h1,aa⟩);simp only at f;rw[c]at a b e;exact⟨a,b,ad,ad⟩
def avK{P i}{a:Act}{w x f e d A n c bs}(l:List UInt8)(s:bs.take n=l.map (λb=>(b.toNat:Int)))(hn:n=l.length)(t:0<l.length)(ho:i.op=.convert f d x)(hx:a.eval x=ae A n c)(hb:bX w A bs)(r:P.underlying f=ab (.slice e))(p:P.underlying e=ab (.int d'))(m:P.underlying d=ab .string):
 (execOp a.eval i).run P w=.ok (.value (.string ⟨l.toArray⟩)) w:=by
 subst hn;have hlen:l.length<=bs.length:=by grind[List.length_map]
 obtain⟨b,o,rfl,hc⟩:=hb ad
 have h:=run_convert_bytes_back (P:=P) w f d e _ c l r p m (λj q=>by rw[nL];have k:=hc j ad;rw[k];have g:(bs.take l.length)[j]?=ab ((l[j].toNat:Int)):=aF;rw[List.getElem?_take,if_pos q]at g;rw[g];rfl);unfold execOp;simp[ho,hx,h]
def auS G w(E:w.cell? ⟨0,0,af⟩=ab (J R G)):
 aD aw 9 #[] w λe w'=>e=aB (ai az)/\ar w w':=by
 have T:=hid E
 have S:aE (∀W f aJ,ar w W->bX W f k9->bX W aJ uF->mW W f->mW W aJ->aD _ 44 #[ae aJ 6 6,ae f 7 7,J R 3] W λe w'=>∃B C t,e=aB (eB 6 7 _ _ (ae B 3 C))/\cf W w' t/\gM t B C oK):=hid (λW f aJ g h1 p r s=>by have q:=arJ f aJ 7 6 3 _ _ G W ⟨bf,bf⟩ bf bf bf bf bf h1 p r s (by unfold nI;decide) (by unfold nI;decide) (g.cell T (λh=>h));rw[arI]at q;exact q);obtain⟨X,l,hat⟩:∃a b,gx Dx ([(4,1)]++[(-1,0)]) Ca=(a,b):=⟨_,_,aa⟩;have hres:=at9;unfold aez at hres;rw[hat]at hres;simp at hres;obtain⟨⟨⟨⟨⟨⟨⟨⟨H,I⟩,y⟩,K⟩,L⟩,M⟩,N⟩,z⟩,O⟩:=hres;have F:dv l:=⟨K,L,M,N,λx hx=>by rw[z]at hx;exact absurd hx fQ,by rw[z];exact cF _,by rw[O];unfold c4;decide⟩;have D:7<=l.bytes.length:=by have h:=congrArg List.length y;rw[List.length_take]at h;have pa:k9.length=7:=rfl;omega
 have U:aE (∀W i A j c,bX W i uF->mW W i->cX W A oK->Cells W 2 j 1 [J R 4,J .u64 1]->mW W j->aD aw 43 #[ae i 6 6,eB 6 7 (e9 uF) (e9 k9) (ae A 3 c),J R 64,J R 2,ae j 1 1] W λe w'=>∃f c1 aJ c2 pk,e=aB _/\cf W w' (cg f c1 l.bytes)):=hid (λW i A j c h1 p r s Z=>by have q:=auc i A j 6 c 1 7 64 2 _ (e9 k9) uF oK z8 [0] [2] Nn [(4,1)] W bf bf h1 p r awn bf aa (by rw[ad9];rfl) (by rw[ad9];decide) amy ⟨bf,bf⟩ bf (by rw[Hp];exact al7) (by rw[Hp];show dv (gx Dx ([(4,1)]++[(-1,0)]) Ca).2;rw[hat];exact F) (by rw[Hp];show ug (gx Dx ([(4,1)]++[(-1,0)]) Ca).1=az;rw[hat];exact I) (by rw[Hp];show 7<=(gx Dx ([(4,1)]++[(-1,0)]) Ca).2.bytes.length;rw[hat];exact D) s Z ⟨bf,bf⟩ (λk hk=>by(have e:k=(4,1):=(by simpa using hk));(rw[e]);(unfold c4);decide);rw[Hp]at q;refine q.mono λe w' hq=>?_;obtain⟨f,c1,aJ,c2,pk,_,n,v⟩:=hq;have Y:gx (⟨2,uF.length,7,_,_,_⟩:sq) _ (hP 64 (ia 64 2 (max uF.length 7)+0) _)=(X,l):=hat;rw[Y]at n v;simp only at n v;rw[H]at n;exact⟨f,c1,aJ,c2,pk,n,v⟩);have Q:=hid y;clear E hat H I y K L M N z O F D;go_enter func9,ntmps9;have d:=bc w;go_step;refine ah ?_;refine ag ?_;refine an ?_;go_step;refine ah ?_;refine fC d #[J d' 97,J d' 98,J d' 99,J d' 100,J d' 101,J d' 102] 5 (λBg w1 d=>?_);refine C3 d 0 (FF uF aa aa (d.aX 0) aa dL l2) (λaW d=>?_);refine ag ?_;refine an ?_;go_step;refine ah ?_;iterate 2 refine ag ?_
 refine fC d #[J d' 100,J d' 101,J d' 102,J d' 120,J d' 97,J d' 98,J d' 99] 5 (λaxF bI d=>?_);refine C3 d 0 (FF k9 aa aa (d.aX 0) aa dL l2) (λcc d=>?_);refine aP (S _ _ _ d.only (d.at 0) (d.at 1) (λb hb=>((d.has 0).2 b hb)) (λb hb=>((d.has 1).2 b hb))) ?_;rintro e cJ ⟨P,eG,bz,rfl,u,V⟩;replace d:=d.new _ u;refine aQ ?_;refine aI (av #[J R 4,J .u64 1]) (by(show _=_;kernel_rfl)) ?_;refine fC d #[J R 4,J .u64 1] 105 (λaxH c5 d=>?_);refine aP (U _ _ P _ eG (d.at 3) (λb hb=>((d.has 3).2 b hb)) (V.vZ (d.at 1)) (aU.cellsOf (m:=1) (d.aX 0) aa) (λb hb=>by obtain⟨o,sp,e⟩:=hb;cases e;exact(d.has 0).2 _ aa)) ?_;rintro e dK ⟨f,c1,aJ,c2,pk,rfl,u⟩;replace d:=d.new _ u;refine aQ ?_;iterate 4 refine ag ?_
 refine bA d #[ae _ 0 0,ai _,J _ 0] (λb3 dz d=>?_);refine bA d #[J _ 0,J _ 0] (λdV eY d=>?_);refine ag ?_;refine a' d 1 (av _) (λgQ d=>?_);refine a' d 0 (av _) (λib d=>?_);refine an ?_;go_step;refine ah ?_;refine bh d 0 #[J R 0,J R 0] ?_;refine aI (av #[J R 0,J R 0]) (by(show _=_;kernel_rfl)) ?_;refine aI (ai az) (by(show _=_;kernel_rfl)) ?_;iterate 2 refine ag ?_
 refine aI _ (avK (bs:=l.bytes) ([100,101,102,120,97,98,99]:List UInt8) (Q.out.trans aa) aa bf aa aa (d.kK 2).1 dL l2 DN) ?_;refine aI (ai az) (by(show _=_;kernel_rfl)) ?_;iterate 3 refine ag ?_
 refine pl d 1 0 ?_;refine ag ?_;refine aI (ai az) (by(show _=_;kernel_rfl)) ?_;iterate 2 refine ag ?_
 refine an ?_;go_wp2_with fail;go_ret;exact⟨aa,d.only⟩
section
attribute [local irreducible] wpList cM
def Ja m A c w:
 aD aw 155 #[l6 m A c] w λe w'=>e=aB (J R (b5 m))/\ar w w':=by
 unfold b5;by_cases hk:m.k=1;·have b:=hid hk;rw[if_pos hk];clear hk;go_enter Tryz.func155,Tryz.ntmps155;have a:=bc w;go_step;refine ah ?_;refine bG (cs:=#[J _ _,J _ _,J _ _,J _ _,ae A _ c]) a _ (λd w1 a=>?_);refine cK ?_;refine pl a 0 0 ?_;refine di b (ai az) ?_;refine b' ?_;refine pl a 0 3 ?_;refine bP ?_;go_wp2_with fail;go_ret;exact⟨aa,a.only⟩
 .have b:=hid hk;rw[if_neg hk];clear hk;go_enter Tryz.func155,Tryz.ntmps155;have a:=bc w;go_step;refine ah ?_;refine bG (cs:=#[J _ _,J _ _,J _ _,J _ _,ae A _ c]) a _ (λd f a=>?_);refine cK ?_;refine pl a 0 0 ?_;refine di b (ai ao) ?_;refine b' ?_;refine pl a 0 4 ?_;refine dZ ?_;go_wp2_with fail;go_ret;exact⟨aa,a.only⟩
def Jd m A c w:
 aD aw 171 #[l6 m A c] w λe w'=>e=aB (av #[J R m.to,J R (b5 m)])/\ar w w':=by
 obtain⟨z,hz⟩:=ex (b5 m);have d:aE (∀W,aD _ _ #[av _] W λe w'=>e=aB (J _ z)/\ar W w'):=hid (λW=>by rw[<-hz];exact Ja m A c W);rw[hz];clear hz;go_enter func171,ntmps171;have a:=bc w;go_step;refine ah ?_;refine bG (cs:=#[J _ _,J _ _,J _ _,J _ _,ae A _ c]) a _ (λg w1 a=>?_);refine bA a #[J _ 0,J _ 0] (λb j a=>?_);refine cx ?_;refine bN a [3,5] (λi _=>match i with|3=>J R z|_=>a1) (λ_=>λ|5=>aj b #[J R m.to,J R z] 35|_=>emp) (λ|5=>[0]|_=>[]) (λ|1=>[1]|2=>[1]|_=>[]) (λ_=>[]) [1,5,7] (λh=>?_);refine aK ?_;refine dl 0 1 ?_;refine eI 0 #[J R m.k,J R m.to,J R m.fr,J R m.n,ae A m.data.length c] ?_;refine dD (λf _ _=>d f) ?_;refine aK ?_;refine gi _ ?_;refine bU λl a=>?_;replace a:=a.drop 1;go_wp2_with fail;refine dp (v:=_) (jd aa _ _ _ _ _ _ _ aa (a.aX 1) Bu aa ay) aa (⟨aa,a.only⟩)
def aeM m A c w:
 aD aw 170 #[l6 m A c] w λe w'=>e=aB (av #[J R m.fr,J R m.n])/\ar w w':=by
 go_enter func170,ntmps170;have a:=bc w;go_step;refine ah ?_;refine bG (cs:=#[J _ _,J _ _,J _ _,J _ _,ae A _ c]) a _ (λb w1 a=>?_);refine bA a #[J _ 0,J _ 0] (λd f a=>?_);refine b' ?_;refine pl a 1 2 ?_;refine ag ?_;refine pl a 1 3 ?_;refine ag ?_;refine a' a 0 (av _) (λg a=>?_);refine an ?_;go_wp2_with fail;refine dp (v:=_) (jd aa _ _ _ _ _ _ _ aa (a.aX 0) Bu aa ay) aa (⟨aa,a.only⟩)
def wY(m:bJ):Int:=if m.k≠1/\m.k≠2 then 11 else if b5 m=0 then 7 else if nt (ck m)=ao then 2 else if m.k=1/\(0<m.data.length\/nt (src m)=ao)then 2 else if m.k=2/\(m.fr≠0\/m.n≠0)then 2 else 0
structure qj (m:bJ):Prop where
 k:c4 m.k
 F7:c4 m.to
 fr:c4 m.fr
 n:c4 m.n
 d:m.data.length<=9223372036854775807
def qj.len{m}(h:qj m):c4 (b5 m):=by
 unfold b5;split;·exact h.n
 .have:=h.d;unfold c4;omega
theorem Ru{m}(h:wY m=0):gW m:=by
 unfold wY at h;by_cases h1:m.k≠1/\m.k≠2;·omega
 .rw[if_neg h1]at h;by_cases a:b5 m=0;·omega
  .rw[if_neg a]at h;cases h3:nt (ck m)with
   |false=>grind
   |true=>
    rw[h3,if_neg bf]at h;have c:=Ga.1 h3;by_cases b:m.k=1/\(0<m.data.length\/nt (src m)=ao);·grind
    .rw[if_neg b]at h;by_cases d:m.k=2/\(m.fr≠0\/m.n≠0);·omega
     .unfold gW wU;by_cases hk:m.k=1;·grind[b5,nt,src,ck,Ga]
      grind[b5,ck]
set_option maxHeartbeats 4000000 in
def aeo m A c w(ho:qj m):
 aD aw 186 #[l6 m A c] w λe w'=>e=aB (J R (wY m))/\ar w w':=by
 obtain⟨z,hz⟩:=ex (b5 m);have f:aE (∀W,aD _ _ #[av _] W λe w'=>e=aB (J _ z)/\ar W w'):=hid (λW=>by rw[<-hz];exact Ja m A c W);have j:aE (∀W,aD _ _ #[av _] W λe w'=>e=aB (av #[J _ _,J _ z])/\ar W w'):=hid (λW=>by rw[<-hz];exact Jd m A c W);have C:aE (∀W,aD _ _ #[av _] W λe w'=>e=aB _/\ar W w'):=hid (λW=>aeM m A c W);obtain⟨eF,hb1⟩:=ex (nt (ck m));obtain⟨eV,hb2⟩:=ex (nt (src m));have l:=hid (λW=>by have q:=Ul _ z W ho.F7 (hz▸ho.len);rw[show nt (m.to,z)=eF from by rw[<-hb1,ck,hz]]at q;exact q);have D:=hid (λW=>by have q:=Ul _ _ W ho.fr ho.n;rw[show nt (m.fr,m.n)=eV from hb2]at q;exact q);unfold wY;rw[hz,hb1,hb2];clear hz hb1 hb2 ho;have bB:((1:Int)!=1)=false:=rfl;clear bB;by_cases s:m.k≠1/\m.k≠2;·rw[if_pos s];have E:=hid s.1;have F:=hid s.2;clear s;go_enter wk,wo;have a:=bc w;go_step;refine ah ?_;refine bG (cs:=#[J _ _,J _ _,J _ _,J _ _,ae A _ c]) a _ (λd w1 a=>?_);refine ag ?_;refine an ?_;go_step;refine ah ?_;refine ag ?_;refine pl a 0 0 ?_;refine di E (ai az) ?_;refine v2 ?_;refine pl a 0 0 ?_;refine di F (ai az) ?_;refine ag ?_;refine an ?_;go_step;refine ah ?_;refine ag ?_;refine an ?_;go_wp2_with fail;go_ret;exact⟨aa,a.only⟩
 .rw[if_neg s];have p:m.k=1\/m.k=2:=ad;clear s;by_cases h1:z=0
  .subst h1;rw[if_pos aa];rcases p with hk|hk
   .have b:=hid hk;clear hk;go_enter wk,wo;have a:=bc w;go_step;refine ah ?_;refine bG (cs:=#[J _ _,J _ _,J _ _,J _ _,ae A _ c]) a _ (λd S a=>?_);refine ag ?_;refine an ?_;go_step;refine ah ?_;refine ag ?_;refine pl a 0 0 ?_;refine di b (ai ao) ?_;refine ag ?_;iterate 3 refine ps ?_
    refine ag ?_;refine an ?_;go_step;refine ah ?_;refine bh a 0 #[J R m.k,J R m.to,J R m.fr,J R m.n,ae A m.data.length c] ?_;refine aP (f _) ?_;rintro e bI ⟨rfl,g⟩;replace a:=a.aG g;refine aQ ?_;refine pk (ai az) ?_;refine an ?_;go_step;refine ah ?_;refine ag ?_;refine an ?_;go_wp2_with fail;go_ret;exact⟨aa,a.only⟩
   .have b:=hid hk;clear hk;go_enter wk,wo;have a:=bc w;go_step;refine ah ?_;refine bG (cs:=#[J _ _,J _ _,J _ _,J _ _,ae A _ c]) a _ (λd cc a=>?_);refine ag ?_;refine an ?_;go_step;refine ah ?_;refine ag ?_;refine pl a 0 0 ?_;refine di b (ai az) ?_;refine v2 ?_;refine pl a 0 0 ?_;refine di b (ai ao) ?_;refine ag ?_;refine an ?_;go_step;refine ah ?_;refine bh a 0 #[J R m.k,J R m.to,J R m.fr,J R m.n,ae A m.data.length c] ?_;refine aP (f _) ?_;rintro e cJ ⟨rfl,g⟩;replace a:=a.aG g;refine aQ ?_;refine pk (ai az) ?_;refine an ?_;go_step;refine ah ?_;refine ag ?_;refine an ?_;go_wp2_with fail;go_ret;exact⟨aa,a.only⟩
  .have o:=hid h1;rw[if_neg h1];clear h1;cases eF with
   |false=>
    rw[if_pos aa];rcases p with hk|hk
    .have b:=hid hk;clear hk;go_enter wk,wo;have a:=bc w;go_step;refine ah ?_;refine bG (cs:=#[J _ _,J _ _,J _ _,J _ _,ae A _ c]) a _ (λd c5 a=>?_);refine ag ?_;refine an ?_;go_step;refine ah ?_;refine ag ?_;refine pl a 0 0 ?_;refine di b (ai ao) ?_;refine ag ?_;iterate 3 refine ps ?_
     refine ag ?_;refine an ?_;go_step;refine ah ?_;refine bh a 0 #[J R m.k,J R m.to,J R m.fr,J R m.n,ae A m.data.length c] ?_;refine aP (f _) ?_;rintro e dK ⟨rfl,g⟩;replace a:=a.aG g;refine aQ ?_;refine di o (ai ao) ?_;refine an ?_;go_step;refine ah ?_;refine bh a 0 #[J R m.k,J R m.to,J R m.fr,J R m.n,ae A m.data.length c] ?_;refine aP (j _) ?_;rintro e dz ⟨rfl,g⟩;replace a:=a.aG g;refine aQ ?_;refine aP (l _) ?_;rintro e eY ⟨rfl,g⟩;replace a:=a.aG g;refine aQ ?_;refine pk (ai az) ?_;refine an ?_;go_step;refine ah ?_;refine ag ?_;refine an ?_;go_wp2_with fail;go_ret;exact⟨aa,a.only⟩
    .have b:=hid hk;clear hk;go_enter wk,wo;have a:=bc w;go_step;refine ah ?_;refine bG (cs:=#[J _ _,J _ _,J _ _,J _ _,ae A _ c]) a _ (λd G a=>?_);refine ag ?_;refine an ?_;go_step;refine ah ?_;refine ag ?_;refine pl a 0 0 ?_;refine di b (ai az) ?_;refine v2 ?_;refine pl a 0 0 ?_;refine di b (ai ao) ?_;refine ag ?_;refine an ?_;go_step;refine ah ?_;refine bh a 0 #[J R m.k,J R m.to,J R m.fr,J R m.n,ae A m.data.length c] ?_;refine aP (f _) ?_;rintro e H ⟨rfl,g⟩;replace a:=a.aG g;refine aQ ?_;refine di o (ai ao) ?_;refine an ?_;go_step;refine ah ?_;refine bh a 0 #[J R m.k,J R m.to,J R m.fr,J R m.n,ae A m.data.length c] ?_;refine aP (j _) ?_;rintro e I ⟨rfl,g⟩;replace a:=a.aG g;refine aQ ?_;refine aP (l _) ?_;rintro e K ⟨rfl,g⟩;replace a:=a.aG g;refine aQ ?_;refine pk (ai az) ?_;refine an ?_;go_step;refine ah ?_;refine ag ?_;refine an ?_;go_wp2_with fail;go_ret;exact⟨aa,a.only⟩
   |true=>
    rw[if_neg bf];by_cases i:m.k=1
    .have b:=hid i;have hk2:¬m.k=2:=ad;by_cases v:0<m.data.length
     .rw[if_pos ⟨i,.inl v⟩];have u:((m.data.length:Int)>0):=ad;have x:=hid u;clear p i hk2 v u;go_enter wk,wo;have a:=bc w;go_step;refine ah ?_;refine bG (cs:=#[J _ _,J _ _,J _ _,J _ _,ae A _ c]) a _ (λd L a=>?_);refine ag ?_;refine an ?_;go_step;refine ah ?_;refine ag ?_;refine pl a 0 0 ?_;refine di b (ai ao) ?_;refine ag ?_;iterate 3 refine ps ?_
      refine ag ?_;refine an ?_;go_step;refine ah ?_;refine bh a 0 #[J R m.k,J R m.to,J R m.fr,J R m.n,ae A m.data.length c] ?_;refine aP (f _) ?_;rintro e M ⟨rfl,g⟩;replace a:=a.aG g;refine aQ ?_;refine di o (ai ao) ?_;refine an ?_;go_step;refine ah ?_;refine bh a 0 #[J R m.k,J R m.to,J R m.fr,J R m.n,ae A m.data.length c] ?_;refine aP (j _) ?_;rintro e N ⟨rfl,g⟩;replace a:=a.aG g;refine aQ ?_;refine aP (l _) ?_;rintro e O ⟨rfl,g⟩;replace a:=a.aG g;refine aQ ?_;refine pk (ai ao) ?_;refine an ?_;go_step;refine ah ?_;refine ag ?_;refine pl a 0 0 ?_;refine di b (ai az) ?_;refine v2 ?_;refine pl a 0 4 ?_;refine ag ?_;refine aI (ai az) (by(have h:=x.out;go_simp;try omega)) ?_;refine ag ?_;iterate 4 refine ps ?_
      refine v2 ?_;refine an ?_;go_step;refine ah ?_;refine ag ?_;refine an ?_;go_wp2_with fail;go_ret;exact⟨aa,a.only⟩
     .have u:¬((m.data.length:Int)>0):=ad;have x:=hid u;cases eV with
      |false=>
       rw[if_pos ⟨i,.inr aa⟩];clear p i hk2 v u;go_enter wk,wo;have a:=bc w;go_step;refine ah ?_;refine bG (cs:=#[J _ _,J _ _,J _ _,J _ _,ae A _ c]) a _ (λd P a=>?_);refine ag ?_;refine an ?_;go_step;refine ah ?_;refine ag ?_;refine pl a 0 0 ?_;refine di b (ai ao) ?_;refine ag ?_;iterate 3 refine ps ?_
       refine ag ?_;refine an ?_;go_step;refine ah ?_;refine bh a 0 #[J R m.k,J R m.to,J R m.fr,J R m.n,ae A m.data.length c] ?_;refine aP (f _) ?_;rintro e Q ⟨rfl,g⟩;replace a:=a.aG g;refine aQ ?_;refine di o (ai ao) ?_;refine an ?_;go_step;refine ah ?_;refine bh a 0 #[J R m.k,J R m.to,J R m.fr,J R m.n,ae A m.data.length c] ?_;refine aP (j _) ?_;rintro e T ⟨rfl,g⟩;replace a:=a.aG g;refine aQ ?_;refine aP (l _) ?_;rintro e U ⟨rfl,g⟩;replace a:=a.aG g;refine aQ ?_;refine pk (ai ao) ?_;refine an ?_;go_step;refine ah ?_;refine ag ?_;refine pl a 0 0 ?_;refine di b (ai az) ?_;refine v2 ?_;refine pl a 0 4 ?_;refine ag ?_;refine aI (ai ao) (by(have h:=x.out;go_simp;exact j2 ad)) ?_;refine ag ?_;refine bh a 0 #[J R m.k,J R m.to,J R m.fr,J R m.n,ae A m.data.length c] ?_;refine aP (C _) ?_;rintro e V ⟨rfl,g⟩;replace a:=a.aG g;refine aQ ?_;refine aP (D _) ?_;rintro e X ⟨rfl,g⟩;replace a:=a.aG g;refine aQ ?_;refine pk (ai az) ?_;refine v2 ?_;refine an ?_;go_step;refine ah ?_;refine ag ?_;refine an ?_;go_wp2_with fail;go_ret;exact⟨aa,a.only⟩
      |true=>
       rw[if_neg (λh=>h.2.elim v (by intro h;cases h)),if_neg (λh=>hk2 h.1)];clear p i hk2 v u;go_enter wk,wo;have a:=bc w;go_step;refine ah ?_;refine bG (cs:=#[J _ _,J _ _,J _ _,J _ _,ae A _ c]) a _ (λd Y a=>?_);refine ag ?_;refine an ?_;go_step;refine ah ?_;refine ag ?_;refine pl a 0 0 ?_;refine di b (ai ao) ?_;refine ag ?_;iterate 3 refine ps ?_
       refine ag ?_;refine an ?_;go_step;refine ah ?_;refine bh a 0 #[J R m.k,J R m.to,J R m.fr,J R m.n,ae A m.data.length c] ?_;refine aP (f _) ?_;rintro e Z ⟨rfl,g⟩;replace a:=a.aG g;refine aQ ?_;refine di o (ai ao) ?_;refine an ?_;go_step;refine ah ?_;refine bh a 0 #[J R m.k,J R m.to,J R m.fr,J R m.n,ae A m.data.length c] ?_;refine aP (j _) ?_;rintro e NK ⟨rfl,g⟩;replace a:=a.aG g;refine aQ ?_;refine aP (l _) ?_;rintro e NL ⟨rfl,g⟩;replace a:=a.aG g;refine aQ ?_;refine pk (ai ao) ?_;refine an ?_;go_step;refine ah ?_;refine ag ?_;refine pl a 0 0 ?_;refine di b (ai az) ?_;refine v2 ?_;refine pl a 0 4 ?_;refine ag ?_;refine aI (ai ao) (by(have h:=x.out;go_simp;exact j2 ad)) ?_;refine ag ?_;refine bh a 0 #[J R m.k,J R m.to,J R m.fr,J R m.n,ae A m.data.length c] ?_;refine aP (C _) ?_;rintro e NM ⟨rfl,g⟩;replace a:=a.aG g;refine aQ ?_;refine aP (D _) ?_;rintro e UE ⟨rfl,g⟩;replace a:=a.aG g;refine aQ ?_;refine pk (ai ao) ?_;refine v2 ?_;refine an ?_;go_step;refine ah ?_;refine ag ?_;refine pl a 0 0 ?_;refine di b (ai ao) ?_;refine pk (ai ao) ?_;iterate 8 refine ps ?_
       refine pk (ai ao) ?_;refine an ?_;go_step;refine ah ?_;refine ag ?_;refine an ?_;go_wp2_with fail;go_ret;exact⟨aa,a.only⟩
    .have hk2:m.k=2:=ad;have b:=hid hk2;rw[if_neg (λh=>i h.1)];by_cases r:m.fr=0
     .have y:=hid r;by_cases t:m.n=0
      .rw[if_neg (λh=>h.2.elim (λh=>h r) (λh=>h t))];have B:=hid t;clear p i hk2 r t;go_enter wk,wo;have a:=bc w;go_step;refine ah ?_;refine bG (cs:=#[J _ _,J _ _,J _ _,J _ _,ae A _ c]) a _ (λd afT a=>?_);refine ag ?_;refine an ?_;go_step;refine ah ?_;refine ag ?_;refine pl a 0 0 ?_;refine di b (ai az) ?_;refine v2 ?_;refine pl a 0 0 ?_;refine di b (ai ao) ?_;refine ag ?_;refine an ?_;go_step;refine ah ?_;refine bh a 0 #[J R m.k,J R m.to,J R m.fr,J R m.n,ae A m.data.length c] ?_;refine aP (f _) ?_;rintro e afU ⟨rfl,g⟩;replace a:=a.aG g;refine aQ ?_;refine di o (ai ao) ?_;refine an ?_;go_step;refine ah ?_;refine bh a 0 #[J R m.k,J R m.to,J R m.fr,J R m.n,ae A m.data.length c] ?_;refine aP (j _) ?_;rintro e awt ⟨rfl,g⟩;replace a:=a.aG g;refine aQ ?_;refine aP (l _) ?_;rintro e awu ⟨rfl,g⟩;replace a:=a.aG g;refine aQ ?_;refine pk (ai ao) ?_;refine an ?_;go_step;refine ah ?_;refine ag ?_;refine pl a 0 0 ?_;refine di b (ai ao) ?_;refine pk (ai ao) ?_;iterate 10 refine ps ?_
       refine pk (ai ao) ?_;refine an ?_;go_step;refine ah ?_;refine ag ?_;refine pl a 0 0 ?_;refine di b (ai az) ?_;refine v2 ?_;refine pl a 0 2 ?_;refine di y (ai ao) ?_;refine v2 ?_;refine pl a 0 3 ?_;refine di B (ai ao) ?_;refine v2 ?_;refine an ?_;go_step;refine ah ?_;refine ag ?_;refine an ?_;go_wp2_with fail;go_ret;exact⟨aa,a.only⟩
      .rw[if_pos ⟨hk2,.inr t⟩];have B:=hid t;clear p i hk2 r t;go_enter wk,wo;have a:=bc w;go_step;refine ah ?_;refine bG (cs:=#[J _ _,J _ _,J _ _,J _ _,ae A _ c]) a _ (λd awv a=>?_);refine ag ?_;refine an ?_;go_step;refine ah ?_;refine ag ?_;refine pl a 0 0 ?_;refine di b (ai az) ?_;refine v2 ?_;refine pl a 0 0 ?_;refine di b (ai ao) ?_;refine ag ?_;refine an ?_;go_step;refine ah ?_;refine bh a 0 #[J R m.k,J R m.to,J R m.fr,J R m.n,ae A m.data.length c] ?_;refine aP (f _) ?_;rintro e aww ⟨rfl,g⟩;replace a:=a.aG g;refine aQ ?_;refine di o (ai ao) ?_;refine an ?_;go_step;refine ah ?_;refine bh a 0 #[J R m.k,J R m.to,J R m.fr,J R m.n,ae A m.data.length c] ?_;refine aP (j _) ?_;rintro e awx ⟨rfl,g⟩;replace a:=a.aG g;refine aQ ?_;refine aP (l _) ?_;rintro e awy ⟨rfl,g⟩;replace a:=a.aG g;refine aQ ?_;refine pk (ai ao) ?_;refine an ?_;go_step;refine ah ?_;refine ag ?_;refine pl a 0 0 ?_;refine di b (ai ao) ?_;refine pk (ai ao) ?_;iterate 10 refine ps ?_
       refine pk (ai ao) ?_;refine an ?_;go_step;refine ah ?_;refine ag ?_;refine pl a 0 0 ?_;refine di b (ai az) ?_;refine v2 ?_;refine pl a 0 2 ?_;refine di y (ai ao) ?_;refine v2 ?_;refine pl a 0 3 ?_;refine di B (ai az) ?_;refine v2 ?_;refine an ?_;go_step;refine ah ?_;refine ag ?_;refine an ?_;go_wp2_with fail;go_ret;exact⟨aa,a.only⟩
     .have y:=hid r;rw[if_pos ⟨hk2,.inl r⟩];clear p i hk2 r;go_enter wk,wo;have a:=bc w;go_step;refine ah ?_;refine bG (cs:=#[J _ _,J _ _,J _ _,J _ _,ae A _ c]) a _ (λd awz a=>?_);refine ag ?_;refine an ?_;go_step;refine ah ?_;refine ag ?_;refine pl a 0 0 ?_;refine di b (ai az) ?_;refine v2 ?_;refine pl a 0 0 ?_;refine di b (ai ao) ?_;refine ag ?_;refine an ?_;go_step;refine ah ?_;refine bh a 0 #[J R m.k,J R m.to,J R m.fr,J R m.n,ae A m.data.length c] ?_;refine aP (f _) ?_;rintro e aAA ⟨rfl,g⟩;replace a:=a.aG g;refine aQ ?_;refine di o (ai ao) ?_;refine an ?_;go_step;refine ah ?_;refine bh a 0 #[J R m.k,J R m.to,J R m.fr,J R m.n,ae A m.data.length c] ?_;refine aP (j _) ?_;rintro e aAB ⟨rfl,g⟩;replace a:=a.aG g;refine aQ ?_;refine aP (l _) ?_;rintro e aAC ⟨rfl,g⟩;replace a:=a.aG g;refine aQ ?_;refine pk (ai ao) ?_;refine an ?_;go_step;refine ah ?_;refine ag ?_;refine pl a 0 0 ?_;refine di b (ai ao) ?_;refine pk (ai ao) ?_;iterate 10 refine ps ?_
      refine pk (ai ao) ?_;refine an ?_;go_step;refine ah ?_;refine ag ?_;refine pl a 0 0 ?_;refine di b (ai az) ?_;refine v2 ?_;refine pl a 0 2 ?_;refine di y (ai az) ?_;refine ag ?_;iterate 3 refine ps ?_
      refine v2 ?_;refine an ?_;go_step;refine ah ?_;refine ag ?_;refine an ?_;go_wp2_with fail;go_ret;exact⟨aa,a.only⟩
end
section
attribute [local irreducible] wpList cM
def hasB(m:bJ)(off:Int):Bool:=decide (m.to<=off/\off<m.to+b5 m)
def uk(ms:List bJ)(off:Int):Int:=match ms.findIdx? (λm=>hasB m off)with|some i=>(i:Int)|none=>-1
def Dc(o n:Int)(m:bJ):Int:=if wY m≠0 then wY m else if m.k=1/\m.fr+m.n>o then 5 else if m.to+b5 m>n then 6 else 0
def aul m b c off w(hv:et (ck m)):
 aD aw 165 #[l6 m b c,J R off] w λe w'=>e=aB (ai (hasB m off))/\ar w w':=by
 obtain⟨r,hr⟩:=ex (hasB m off);have d:=hid (λW=>ao1 _ _ _ W hv r hr);have f:=hid (λW=>Jd m b c W);rw[hr];clear hr hv;obtain⟨z,hz⟩:=ex (b5 m);rw[hz]at d f;clear hz;go_enter func165,ntmps165;have a:=bc w;go_step;refine ah ?_;refine bG (cs:=#[J _ _,J _ _,J _ _,J _ _,ae b _ c]) a _ (λg w1 a=>?_);refine en ?_;refine bh a 0 #[J R m.k,J R m.to,J R m.fr,J R m.n,ae b m.data.length c] ?_;refine bH (f _) a (λh a=>?_);refine ag ?_;refine bH (d _) a (λi a=>?_);refine bP ?_;go_wp2_with fail;go_ret;exact⟨aa,a.only⟩
def aeE(o n)(g1 g2)A c ms off w(v:cX w A ms)(N:ms.length<=1048576)(hv:∀m∈ms,et (ck m)):
 aD aw 77 #[eB o n g1 g2 (ae A ms.length c),J R off] w λe w'=>e=aB (J R (uk ms off))/\ar w w':=by
 have F:=hid v;have G:=hid hv;clear v hv;go_enter func77,ntmps77;have a:=bc w;go_step;refine ah ?_;refine bG a (av _) (λB w1 a=>?_);refine ag ?_;refine ah ?_;refine ag ?_;refine an ?_;have p:=a.pk [0];go_wp2_with fail;go_loopw [5] (λk wr=>∃j:Nat,j<=ms.length/\k=J R (j:Int)/\aE (∀(i:Nat) (x:bJ),i<j->ms[i]?=ab x->hasB x off=ao)/\ak w (λ_=>False) wr [aj B (a7 o n g1 g2 (ae A ms.length c)) 26]) (λk wr=>ms.length -(cO k).toNat);case atStart=>exact⟨0,cF _,aa,hid (λi x h=>absurd h (zX _)),p⟩
 case round=>
  clear a p;obtain⟨j,M,rfl,b,a⟩:=hrel;by_cases hlt:j<ms.length
  .have I:(j:Int)<(ms.length:Int):=ad;obtain⟨m,f⟩:∃m,ms[j]?=ab m:=⟨_,cC hlt⟩;obtain⟨q,K,z,H,s,t,u⟩:=cX.ji F f;have C:=hid s;have L:=hid t;have D:=hid u;have d:=hid f;clear s t u f;obtain⟨r,hr⟩:=ex (hasB m off);have l:=hid hr;have E:aE (∀W,aD _ _ #[av _,J _ _] W λe w'=>e=aB (ai r)/\ar W w'):=hid (λW=>by rw[<-hr];exact aul m z H _ W (G m (cY d)));clear hr;go_step;refine ah ?_;refine v2 ?_;refine pl a 0 66 ?_ (hv:=eH);refine ag ?_;refine bu (ai az) ?_;refine b' ?_;refine pl a 0 66 ?_ (hv:=eH);refine ag ?_;refine aI _ (cq 24 73 5 (bj 14) _ aa eA ay q K _ c j _ (by show ae A _ _=_;rw[C]) aa hlt aa) ?_;refine aI _ (by(refine eC 73 _ aa q _ aa _ (D _ a.only) fy aa ay)) ?_;refine ag ?_;refine bH (E _) a (λO a=>?_);refine an ?_;cases r with
   |true=>
    refine ah ?_;refine dZ ?_;go_wp2_with fail;go_ret;exact⟨by rw[show uk ms _=(j:Int)from by unfold uk;rw[Ly d l.out b]];rfl,a.only⟩
   |false=>
    refine b' ?_;refine pad (j:Int) 1 ((j+1:Nat):Int) ?_;refine bP ?_;go_wp2_with fail;go_roundw;case rel=>exact⟨j+1,ad,aa,hid (λi y hi g=>by rcases vn.1 hi with h|rfl;exact b i y h g;rw[d]at g;cases g;exact l),a⟩
    case measure=>simp[cO]<;>omega
  .have I:¬(j:Int)<(ms.length:Int):=ad;obtain rfl:j=ms.length:=ad;go_step;refine ah ?_;refine v2 ?_;refine pl a 0 66 ?_ (hv:=eH);refine ag ?_;refine bu (ai ao) ?_;refine ah ?_;refine ag ?_;refine an ?_;go_wp2_with fail;go_ret;exact⟨by rw[show uk ms _=-1 from by unfold uk;rw[Lx (λi x hi=>b i x (e5.1 hi).1 hi)]];rfl,a.only⟩
def auv(o n)(g1 g2)S(I:S.oneCell'=az)m b c w(ho:qj m):
 aD aw 238 #[eB o n g1 g2 S,l6 m b c] w λe w'=>e=aB (J R (Dc o n m))/\ar w w':=by
 obtain⟨z,hz⟩:=ex (wY m);have l:aE (∀W,aD _ _ #[av _] W λe w'=>e=aB (J _ z)/\ar W w'):=hid (λW=>by rw[<-hz];exact aeo m b c W ho);unfold Dc;rw[hz];by_cases x:z=0
 .subst x;have u:=Ru hz;rw[if_neg (λh=>h aa)];have E:=u.ck;have t:aE (∀W,aD _ _ #[av _] W λe w'=>e=aB _/\ar W w'):=hid (λW=>Ja m b c W);clear hz ho;obtain⟨fg,B⟩:=ex (b5 m);rw[B]at t E⊢;clear B;by_cases hk:m.k=1
  .have p:=hid hk;have D:=(u.copy hk);obtain⟨F,G,H,_⟩:=D;by_cases q:m.fr+m.n>o;·rw[if_pos ⟨hk,q⟩];have v:=hid q;clear q hk u;go_enter Gy,GA;have a:=bc w;go_step;refine ah ?_;refine bG a (av _) (λr w1 a=>?_);refine bG (cs:=#[J _ _,J _ _,J _ _,J _ _,ae b _ c]) a _ (λs X a=>?_);refine ag ?_;refine an ?_;go_step;refine ah ?_;refine bh a 0 #[J R m.k,J R m.to,J R m.fr,J R m.n,ae b m.data.length c] ?_;refine aP (l _) ?_;rintro e bI ⟨rfl,g⟩;replace a:=a.aG g;refine aQ ?_;refine ag ?_;refine an ?_;go_step;refine ah ?_;refine ag ?_;refine pk (ai ao) ?_;refine an ?_;go_step;refine ah ?_;refine ag ?_;refine pl a 0 0 ?_;refine di p (ai az) ?_;refine v2 ?_;refine pl a 0 2 ?_;refine ag ?_;refine pl a 0 3 ?_;refine pad _ _ (m.fr+m.n) ?_;refine ag ?_;refine pl a 1 0 ?_ (hv:=ku);refine aI (ai az) (by(have h:=v.out;go_simp;try omega)) ?_;refine ag ?_;refine an ?_;go_step;refine ah ?_;refine ag ?_;refine an ?_;go_wp2_with fail;go_ret;exact⟨aa,a.only⟩
   .rw[if_neg (λh=>q h.2)];have v:=hid q;clear q hk u;by_cases d:m.to+fg>n
    .have f:=hid d;rw[if_pos d];clear d;go_enter Gy,GA;have a:=bc w;go_step;refine ah ?_;refine bG a (av _) (λr cc a=>?_);refine bG (cs:=#[J _ _,J _ _,J _ _,J _ _,ae b _ c]) a _ (λs cJ a=>?_);refine ag ?_;refine an ?_;go_step;refine ah ?_;refine bh a 0 #[J R m.k,J R m.to,J R m.fr,J R m.n,ae b m.data.length c] ?_;refine aP (l _) ?_;rintro e c5 ⟨rfl,g⟩;replace a:=a.aG g;refine aQ ?_;refine ag ?_;refine an ?_;go_step;refine ah ?_;refine ag ?_;refine pk (ai ao) ?_;refine an ?_;go_step;refine ah ?_;refine ag ?_;refine pl a 0 0 ?_;refine di p (ai az) ?_;refine v2 ?_;refine pl a 0 2 ?_;refine ag ?_;refine pl a 0 3 ?_;refine pad _ _ (m.fr+m.n) ?_;refine ag ?_;refine pl a 1 0 ?_ (hv:=ku);refine aI (ai ao) (by(have h:=v.out;go_simp;try omega)) ?_;refine ag ?_;refine an ?_;go_step;refine cx ?_;refine bN a [3] (λi _=>match i with|3=>J R fg|_=>a1) (λ_ _=>emp) (λ_=>[]) (λ|1=>[0]|2=>[0]|6=>[1]|_=>[]) (λ_=>[]) [0,1,5] (λy=>?_);refine aK ?_;refine dl 0 1 ?_;refine eI 0 #[J R m.k,J R m.to,J R m.fr,J R m.n,ae b m.data.length c] ?_;refine du (λj Fr a=>(t j).mono ?_) ?_;·rintro e A ⟨rfl,g⟩;exact⟨{},aa,(a.aG g).dN⟩
     refine aN _ (λ_ _ _=>mZ 3 _ _ 3 aa _ _ (m.to+fg) aa aa ad ad ad) ?_;refine aK ?_;refine dl 0 1 ?_ (hv:=hZ);refine aN (ai az) (λ_ _ _=>by(have h:=f.out;go_simp;try omega)) ?_;refine bU λdK a=>?_;replace a:=a.drop 2;go_step;refine ah ?_;refine ag ?_;refine an ?_;go_wp2_with fail;go_ret;exact⟨aa,a.only⟩
    .have f:=hid d;rw[if_neg d];clear d;go_enter Gy,GA;have a:=bc w;go_step;refine ah ?_;refine bG a (av _) (λr dz a=>?_);refine bG (cs:=#[J _ _,J _ _,J _ _,J _ _,ae b _ c]) a _ (λs eY a=>?_);refine ag ?_;refine an ?_;go_step;refine ah ?_;refine bh a 0 #[J R m.k,J R m.to,J R m.fr,J R m.n,ae b m.data.length c] ?_;refine aP (l _) ?_;rintro e K ⟨rfl,g⟩;replace a:=a.aG g;refine aQ ?_;refine ag ?_;refine an ?_;go_step;refine ah ?_;refine ag ?_;refine pk (ai ao) ?_;refine an ?_;go_step;refine ah ?_;refine ag ?_;refine pl a 0 0 ?_;refine di p (ai az) ?_;refine v2 ?_;refine pl a 0 2 ?_;refine ag ?_;refine pl a 0 3 ?_;refine pad _ _ (m.fr+m.n) ?_;refine ag ?_;refine pl a 1 0 ?_ (hv:=ku);refine aI (ai ao) (by(have h:=v.out;go_simp;try omega)) ?_;refine ag ?_;refine an ?_;go_step;refine cx ?_;refine bN a [3] (λi _=>match i with|3=>J R fg|_=>a1) (λ_ _=>emp) (λ_=>[]) (λ|1=>[0]|2=>[0]|6=>[1]|_=>[]) (λ_=>[]) [0,1,5] (λy=>?_);refine aK ?_;refine dl 0 1 ?_;refine eI 0 #[J R m.k,J R m.to,J R m.fr,J R m.n,ae b m.data.length c] ?_;refine du (λj Fr a=>(t j).mono ?_) ?_;·rintro e A ⟨rfl,g⟩;exact⟨{},aa,(a.aG g).dN⟩
     refine aN _ (λ_ _ _=>mZ 3 _ _ 3 aa _ _ (m.to+fg) aa aa ad ad ad) ?_;refine aK ?_;refine dl 0 1 ?_ (hv:=hZ);refine aN (ai ao) (λ_ _ _=>by(have h:=f.out;go_simp;try omega)) ?_;refine bU λL a=>?_;replace a:=a.drop 2;go_step;refine ah ?_;refine ag ?_;refine an ?_;go_wp2_with fail;go_ret;exact⟨aa,a.only⟩
  .have p:=hid hk;rw[if_neg (λh=>hk h.1)];clear hk u;by_cases d:m.to+fg>n
   .have f:=hid d;rw[if_pos d];clear d;go_enter Gy,GA;have a:=bc w;go_step;refine ah ?_;refine bG a (av _) (λr M a=>?_);refine bG (cs:=#[J _ _,J _ _,J _ _,J _ _,ae b _ c]) a _ (λs N a=>?_);refine ag ?_;refine an ?_;go_step;refine ah ?_;refine bh a 0 #[J R m.k,J R m.to,J R m.fr,J R m.n,ae b m.data.length c] ?_;refine aP (l _) ?_;rintro e O ⟨rfl,g⟩;replace a:=a.aG g;refine aQ ?_;refine ag ?_;refine an ?_;go_step;refine ah ?_;refine ag ?_;refine pk (ai ao) ?_;refine an ?_;go_step;refine ah ?_;refine ag ?_;refine pl a 0 0 ?_;refine di p (ai ao) ?_;refine ag ?_;iterate 8 refine ps ?_
    refine ag ?_;refine an ?_;go_step;refine cx ?_;refine bN a [3] (λi _=>match i with|3=>J R fg|_=>a1) (λ_ _=>emp) (λ_=>[]) (λ|1=>[0]|2=>[0]|6=>[1]|_=>[]) (λ_=>[]) [0,1,5] (λy=>?_);refine aK ?_;refine dl 0 1 ?_;refine eI 0 #[J R m.k,J R m.to,J R m.fr,J R m.n,ae b m.data.length c] ?_;refine du (λj Fr a=>(t j).mono ?_) ?_;·rintro e A ⟨rfl,g⟩;exact⟨{},aa,(a.aG g).dN⟩
    refine aN _ (λ_ _ _=>mZ 3 _ _ 3 aa _ _ (m.to+fg) aa aa ad ad ad) ?_;refine aK ?_;refine dl 0 1 ?_ (hv:=hZ);refine aN (ai az) (λ_ _ _=>by(have h:=f.out;go_simp;try omega)) ?_;refine bU λP a=>?_;replace a:=a.drop 2;go_step;refine ah ?_;refine ag ?_;refine an ?_;go_wp2_with fail;go_ret;exact⟨aa,a.only⟩
   .have f:=hid d;rw[if_neg d];clear d;go_enter Gy,GA;have a:=bc w;go_step;refine ah ?_;refine bG a (av _) (λr Q a=>?_);refine bG (cs:=#[J _ _,J _ _,J _ _,J _ _,ae b _ c]) a _ (λs T a=>?_);refine ag ?_;refine an ?_;go_step;refine ah ?_;refine bh a 0 #[J R m.k,J R m.to,J R m.fr,J R m.n,ae b m.data.length c] ?_;refine aP (l _) ?_;rintro e U ⟨rfl,g⟩;replace a:=a.aG g;refine aQ ?_;refine ag ?_;refine an ?_;go_step;refine ah ?_;refine ag ?_;refine pk (ai ao) ?_;refine an ?_;go_step;refine ah ?_;refine ag ?_;refine pl a 0 0 ?_;refine di p (ai ao) ?_;refine ag ?_;iterate 8 refine ps ?_
    refine ag ?_;refine an ?_;go_step;refine cx ?_;refine bN a [3] (λi _=>match i with|3=>J R fg|_=>a1) (λ_ _=>emp) (λ_=>[]) (λ|1=>[0]|2=>[0]|6=>[1]|_=>[]) (λ_=>[]) [0,1,5] (λy=>?_);refine aK ?_;refine dl 0 1 ?_;refine eI 0 #[J R m.k,J R m.to,J R m.fr,J R m.n,ae b m.data.length c] ?_;refine du (λj Fr a=>(t j).mono ?_) ?_;·rintro e A ⟨rfl,g⟩;exact⟨{},aa,(a.aG g).dN⟩
    refine aN _ (λ_ _ _=>mZ 3 _ _ 3 aa _ _ (m.to+fg) aa aa ad ad ad) ?_;refine aK ?_;refine dl 0 1 ?_ (hv:=hZ);refine aN (ai ao) (λ_ _ _=>by(have h:=f.out;go_simp;try omega)) ?_;refine bU λV a=>?_;replace a:=a.drop 2;go_step;refine ah ?_;refine ag ?_;refine an ?_;go_wp2_with fail;go_ret;exact⟨aa,a.only⟩
 .rw[if_pos x];have C:=hid x;clear x hz ho;go_enter Gy,GA;have a:=bc w;go_step;refine ah ?_;refine bG a (av _) (λr Y a=>?_);refine bG (cs:=#[J _ _,J _ _,J _ _,J _ _,ae b _ c]) a _ (λs Z a=>?_);refine ag ?_;refine an ?_;go_step;refine ah ?_;refine bh a 0 #[J R m.k,J R m.to,J R m.fr,J R m.n,ae b m.data.length c] ?_;refine aP (l _) ?_;rintro e Bb ⟨rfl,g⟩;replace a:=a.aG g;refine aQ ?_;refine ag ?_;refine an ?_;go_step;refine ah ?_;refine ag ?_;refine di C (ai az) ?_;refine an ?_;go_step;refine ah ?_;refine v2 ?_;refine an ?_;go_wp2_with fail;go_ret;exact⟨aa,a.only⟩
end
section
attribute [local irreducible] wpList cM
def FE(ms:List bJ):Nat->Int
 |0=>0
 |t+1=>match ms[t]? with|some m=>m.to+b5 m|none=>0
def oA(n:Int)(ms:List bJ)(t:Nat):Bool:=decide (FE ms t<n)&&decide (uk ms (FE ms t)<0)
structure pS (o n:Int) (ms:List bJ):Prop where
 bd:(0<=o/\0<=n)/\o<=4611686018427387903/\n<=4611686018427387903
 bw:∀m∈ms,Dc o n m=0
 ap:∀(i j:Nat) (x y:bJ),j<i->ms[i]?=ab x->ms[j]?=ab y->meets (ck x) (ck y)=ao
 Z5:∀t,t<=ms.length->oA n ms t=ao
def uZ(n:Int)(ms:List bJ)(t:Nat)(a:Int):Prop:=(a=-1/\∀s,s<t->oA n ms s=ao)\/(0<=a/\∃s,s<t/\oA n ms s=az)
def uZ.nO{n ms t a}(h:uZ n ms t a)(hb:oA n ms t=ao):uZ n ms (t+1) a:=by
 rcases h with⟨h1,b⟩|⟨h1,s,b,c⟩;·exact .inl ⟨h1,λs d=>aF⟩
 .exact .inr ⟨h1,s,ad,c⟩
theorem uZ.bad{n ms t a}(h1:0<=a)(hb:oA n ms t=az):uZ n ms (t+1) a:=.inr ⟨h1,t,Nat.lt_succ_self _,hb⟩
def gW.F'{m}(h:gW m):et (Go.Proofs.YtcmhplknoglbkaaGreat.ck m):=⟨h.ck.1,Int.le_of_lt h.ck.2.1,h.ck.2.2⟩
set_option maxHeartbeats 16000000 in
def auj(o n)(g1 g2)A c ms w(B:cX w A ms)(gr:ms.length<=1048576)(hv:∀m∈ms,gW m):
 aD aw 239 #[eB o n g1 g2 (ae A ms.length c)] w λe w'=>∃d,e=aB (J R d)/\uZ n ms (ms.length+1) d/\ar w w':=by
 have Q:=hid B;have V:=hid hv;have Q:=hid B;have V:=hid hv;have P:=hid (λW off y=>aeE o n g1 g2 A c ms off W (B.aG y) gr (λm z=>(hv m z).F'));clear B hv;go_enter func239,ntmps239;have a:=bc w;go_step;refine ah ?_;refine bG a (av _) (λdt w1 a=>?_);refine ag ?_;refine an ?_;go_step;refine ah ?_;refine ag ?_;refine an ?_;go_step;refine ah ?_;refine ag ?_;refine an ?_;have U:=a.pk [0];go_wp2_with fail;go_loopw [3,4] (λic L wr=>∃(t:Nat) (d:Int),t<=ms.length+1/\ic=J R d/\L=J R ((t:Int) -1)/\aE (uZ n ms t d)/\ak w (λ_=>False) wr [aj dt (a7 o n g1 g2 (ae A ms.length c)) 26]) (λic L wr=>ms.length+1 -(cO L+1).toNat);case atStart=>exact⟨0,-1,cF _,aa,aa,hid (.inl ⟨rfl,λs h=>absurd h (zX _)⟩),U⟩
 case round=>
  clear a U;obtain⟨t,d,ht,rfl,rfl,r,a⟩:=hrel;by_cases hlt:t<=ms.length
  .have cN:((t:Int) -1)<(ms.length:Int):=ad;obtain⟨off,C⟩:=ex (FE ms t);have v:=hid C;cases t with
   |zero=>
    have K:(0:Int)=off:=C;subst K;have I:(0:Int)<=0:=Int.le_refl _;clear C;go_step;refine ah ?_;iterate 2 refine ag ?_
    refine pl a 0 66 ?_ (hv:=eH);refine ag ?_;refine bu (ai az) ?_;refine an ?_;go_step;refine ah ?_;refine ag ?_;refine an ?_;go_step;refine ah ?_;refine ag ?_;refine pk (ai ao) ?_;refine an ?_;by_cases k:0<n
    .have b:=hid k;obtain⟨G,u⟩:=ex (uk ms 0);have p:=hid (λW y=>by have q:=P W 0 y;rwa [u]at q);have x:=hid u;clear k u;by_cases l:G<0
     .have f:=hid l;have j:aE (oA n ms 0=az):=hid (by unfold oA;rw[v,x];simp[b.out,f.out]);clear l;rcases r.out with⟨rfl,H⟩|⟨ei,_⟩
      .clear H;go_step;refine ah ?_;iterate 2 refine ag ?_
       refine pl a 0 1 ?_ (hv:=hZ);refine aI (ai az) (by(have h:=b.out;go_simp;try omega)) ?_;refine ag ?_;refine bh a 0 (a7 o n g1 g2 (ae A ms.length c)) ?_ (hv:=(eW _)) (hk:=by omega) (hz:=(by rw[bW];rfl));refine ag ?_;refine aP (p _ a.only) ?_;rintro e aW ⟨rfl,g⟩;replace a:=a.aG g;refine aQ ?_;refine aI (ai az) (by(have h:=f.out;go_simp;try omega)) ?_;iterate 3 refine ag ?_
       refine pk (ai az) ?_;refine ag ?_;iterate 3 refine ps ?_
       iterate 2 refine ag ?_
       refine an ?_;go_step;refine ah ?_;iterate 2 refine ag ?_
       refine an ?_;go_step;refine ah ?_;refine ag ?_;refine pad _ 1 (((0+1:Nat):Int) -1) ?_;refine ag ?_;refine an ?_;go_wp2_with fail;go_roundw;case rel=>grind[hid,uZ.bad]
       case measure=>grind[cO]
      .omega
     .have f:=hid l;have j:aE (oA n ms 0=ao):=hid (by unfold oA;rw[v,x];simp[f.out]);clear l;go_step;refine ah ?_;iterate 2 refine ag ?_
      refine pl a 0 1 ?_ (hv:=hZ);refine aI (ai az) (by(have h:=b.out;go_simp;try omega)) ?_;refine ag ?_;refine bh a 0 (a7 o n g1 g2 (ae A ms.length c)) ?_ (hv:=(eW _)) (hk:=by omega) (hz:=(by rw[bW];rfl));refine ag ?_;refine aP (p _ a.only) ?_;rintro e cJ ⟨rfl,g⟩;replace a:=a.aG g;refine aQ ?_;refine aI (ai ao) (by(have h:=f.out;go_simp;try omega)) ?_;iterate 2 refine ag ?_
      iterate 7 refine ps ?_
      refine ag ?_;refine an ?_;go_step;refine ah ?_;refine ag ?_;refine pad _ 1 (((0+1:Nat):Int) -1) ?_;refine ag ?_;refine an ?_;go_wp2_with fail;go_roundw;case rel=>exact⟨_,d,ad,aa,aa,hid (r.out.nO j),a.pick [0]⟩
      case measure=>grind[cO]
    .have b:=hid k;have j:aE (oA n ms 0=ao):=hid (by unfold oA;rw[v];simp[b.out]);clear k;go_step;refine ah ?_;iterate 2 refine ag ?_
     refine pl a 0 1 ?_ (hv:=hZ);refine aI (ai ao) (by(have h:=b.out;go_simp;try omega)) ?_;refine ag ?_;iterate 4 refine ps ?_
     iterate 2 refine ag ?_
     iterate 7 refine ps ?_
     refine ag ?_;refine an ?_;go_step;refine ah ?_;refine ag ?_;refine pad _ 1 (((0+1:Nat):Int) -1) ?_;refine ag ?_;refine an ?_;go_wp2_with fail;go_roundw;case rel=>exact⟨_,d,ad,aa,aa,hid (r.out.nO j),a.pick [0]⟩
     case measure=>grind[cO]
   |succ s=>
    obtain⟨m,z⟩:∃m,ms[s]?=ab m:=⟨_,cC ad⟩;have lz:=V m (cY z);have s6:=lz.F';obtain⟨v1,v2,v3⟩:=s6;have v1:0<=m.to:=v1;have v2:0<=b5 m:=v2;have v3:m.to+b5 m<=4611686018427387903:=v3;have K:m.to+b5 m=off:=by grind[FE]
    obtain⟨F,M,aR,aT,X,eu,Y⟩:=cX.ji Q z;have N:=hid X;have O:=hid Y;have S:aE (∀W,aD _ _ #[av _] W λe w'=>e=aB _/\ar W w'):=hid (λW=>Ja m aR aT W);obtain⟨fg,j'⟩:=ex (b5 m);rw[j']at S v2 v3 K;have I:0<=off:=ad;clear X eu Y z C lz j';have Z:s<ms.length:=ad;have hs1:(((s+1:Nat):Int) -1)=(s:Int):=ad;rw[hs1];go_step;refine ah ?_;iterate 2 refine ag ?_
    refine pl a 0 66 ?_ (hv:=eH);refine ag ?_;refine bu (ai az) ?_;refine an ?_;go_step;refine ah ?_;refine ag ?_;refine an ?_;go_step;refine ah ?_;refine ag ?_;refine bu (ai az) ?_;refine an ?_;go_step;refine cx ?_;refine bN a [11] (λi _=>match i with|11=>J R fg|_=>a1) (λ_ _=>emp) (λ_=>[]) (λ|1=>[0]|7=>[0]|_=>[]) (λ_=>[]) [0,12] (λus=>?_);refine aK ?_;refine dl 0 66 ?_ (hv:=eH);refine aK ?_;refine aN _ (λ_ _ _=>cq 24 73 5 _ _ aa eA ay F M _ c s _ (by show ae A _ _=_;rw[N]) aa Z aa) ?_;refine aK ?_;refine aN _ (λ_ _ a=>po aa aa (O _ a.only 1 _ aa) ay) ?_;refine aK ?_;refine dl 0 66 ?_ (hv:=eH);refine aK ?_;refine aN _ (λ_ _ _=>cq 24 73 5 _ _ aa eA ay F M _ c s _ (by show ae A _ _=_;rw[N]) aa Z aa) ?_;refine aN _ (λ_ _ a=>eC 73 (bj 24) aa F (M+s*5) aa _ (O _ a.only) fy aa ay) ?_;refine du (λwl Fr a=>(S wl).mono ?_) ?_;·rintro e dA ⟨rfl,g⟩;exact⟨{},aa,(a.aG g).dN⟩
    refine aN _ (λ_ _ _=>mZ 3 _ _ 3 aa _ _ off aa aa ad ad ad) ?_;refine aK ?_;refine bU λc5 a=>?_;replace a:=a.drop 1;by_cases k:off<n
    .have b:=hid k;obtain⟨G,u⟩:=ex (uk ms off);have p:=hid (λW y=>by have q:=P W off y;rwa [u]at q);have x:=hid u;clear k u;by_cases l:G<0
     .have f:=hid l;have j:aE (oA n ms _=az):=hid (by unfold oA;rw[v,x];simp[b.out,f.out]);clear l;rcases r.out with⟨rfl,H⟩|⟨ei,_⟩
      .clear H;go_step;refine ah ?_;iterate 2 refine ag ?_
       refine pl a 0 1 ?_ (hv:=hZ);refine aI (ai az) (by(have h:=b.out;go_simp;try omega)) ?_;refine ag ?_;refine bh a 0 (a7 o n g1 g2 (ae A ms.length c)) ?_ (hv:=(eW _)) (hk:=by omega) (hz:=(by rw[bW];rfl));refine ag ?_;refine aP (p _ a.only) ?_;rintro e dK ⟨rfl,g⟩;replace a:=a.aG g;refine aQ ?_;refine aI (ai az) (by(have h:=f.out;go_simp;try omega)) ?_;iterate 3 refine ag ?_
       refine pk (ai az) ?_;refine ag ?_;iterate 3 refine ps ?_
       iterate 2 refine ag ?_
       refine an ?_;go_step;refine ah ?_;iterate 2 refine ag ?_
       refine an ?_;go_step;refine ah ?_;refine ag ?_;refine pad _ 1 (((s+1+1:Nat):Int) -1) ?_;refine ag ?_;refine an ?_;go_wp2_with fail;go_roundw;case rel=>exact⟨_,_,ad,aa,congrArg _ ad,hid (uZ.bad I j),a.pick [0]⟩
       case measure=>grind[cO]
      .have T:aE (¬d<0):=hid ad;by_cases D:off<d
       .have E:=hid D;clear D;go_step;refine ah ?_;iterate 2 refine ag ?_
        refine pl a 0 1 ?_ (hv:=hZ);refine aI (ai az) (by(have h:=b.out;go_simp;try omega)) ?_;refine ag ?_;refine bh a 0 (a7 o n g1 g2 (ae A ms.length c)) ?_ (hv:=(eW _)) (hk:=by omega) (hz:=(by rw[bW];rfl));refine ag ?_;refine aP (p _ a.only) ?_;rintro e dz ⟨rfl,g⟩;replace a:=a.aG g;refine aQ ?_;refine aI (ai az) (by(have h:=f.out;go_simp;try omega)) ?_;iterate 3 refine ag ?_
        refine aI (ai ao) (by(have h:=T.out;go_simp;try omega)) ?_;iterate 3 refine ag ?_
        refine aI (ai az) (by(have h:=E.out;go_simp;try omega)) ?_;iterate 2 refine ag ?_
        refine an ?_;go_step;refine ah ?_;iterate 2 refine ag ?_
        refine an ?_;go_step;refine ah ?_;refine ag ?_;refine pad _ 1 (((s+1+1:Nat):Int) -1) ?_;refine ag ?_;refine an ?_;go_wp2_with fail;go_roundw;case rel=>exact⟨_,_,ad,aa,congrArg _ ad,hid (uZ.bad I j),a.pick [0]⟩
        case measure=>grind[cO]
       .have E:=hid D;clear D;go_step;refine ah ?_;iterate 2 refine ag ?_
        refine pl a 0 1 ?_ (hv:=hZ);refine aI (ai az) (by(have h:=b.out;go_simp;try omega)) ?_;refine ag ?_;refine bh a 0 (a7 o n g1 g2 (ae A ms.length c)) ?_ (hv:=(eW _)) (hk:=by omega) (hz:=(by rw[bW];rfl));refine ag ?_;refine aP (p _ a.only) ?_;rintro e eY ⟨rfl,g⟩;replace a:=a.aG g;refine aQ ?_;refine aI (ai az) (by(have h:=f.out;go_simp;try omega)) ?_;iterate 3 refine ag ?_
        refine aI (ai ao) (by(have h:=T.out;go_simp;try omega)) ?_;iterate 3 refine ag ?_
        refine aI (ai ao) (by(have h:=E.out;go_simp;try omega)) ?_;iterate 2 refine ag ?_
        refine an ?_;go_step;refine ah ?_;refine ag ?_;refine pad _ 1 (((s+1+1:Nat):Int) -1) ?_;refine ag ?_;refine an ?_;go_wp2_with fail;go_roundw;case rel=>exact⟨_,d,ad,aa,congrArg _ ad,hid (uZ.bad ei j),a.pick [0]⟩
        case measure=>grind[cO]
     .have f:=hid l;have j:aE (oA n ms _=ao):=hid (by unfold oA;rw[v,x];simp[f.out]);clear l;go_step;refine ah ?_;iterate 2 refine ag ?_
      refine pl a 0 1 ?_ (hv:=hZ);refine aI (ai az) (by(have h:=b.out;go_simp;try omega)) ?_;refine ag ?_;refine bh a 0 (a7 o n g1 g2 (ae A ms.length c)) ?_ (hv:=(eW _)) (hk:=by omega) (hz:=(by rw[bW];rfl));refine ag ?_;refine aP (p _ a.only) ?_;rintro e gQ ⟨rfl,g⟩;replace a:=a.aG g;refine aQ ?_;refine aI (ai ao) (by(have h:=f.out;go_simp;try omega)) ?_;iterate 2 refine ag ?_
      iterate 7 refine ps ?_
      refine ag ?_;refine an ?_;go_step;refine ah ?_;refine ag ?_;refine pad _ 1 (((s+1+1:Nat):Int) -1) ?_;refine ag ?_;refine an ?_;go_wp2_with fail;go_roundw;case rel=>exact⟨_,d,ad,aa,congrArg _ ad,hid (r.out.nO j),a.pick [0]⟩
      case measure=>grind[cO]
    .have b:=hid k;have j:aE (oA n ms _=ao):=hid (by unfold oA;rw[v];simp[b.out]);clear k;go_step;refine ah ?_;iterate 2 refine ag ?_
     refine pl a 0 1 ?_ (hv:=hZ);refine aI (ai ao) (by(have h:=b.out;go_simp;try omega)) ?_;refine ag ?_;iterate 4 refine ps ?_
     iterate 2 refine ag ?_
     iterate 7 refine ps ?_
     refine ag ?_;refine an ?_;go_step;refine ah ?_;refine ag ?_;refine pad _ 1 (((s+1+1:Nat):Int) -1) ?_;refine ag ?_;refine an ?_;go_wp2_with fail;go_roundw;case rel=>exact⟨_,d,ad,aa,congrArg _ ad,hid (r.out.nO j),a.pick [0]⟩
     case measure=>grind[cO]
  .have cN:¬((t:Int) -1)<(ms.length:Int):=ad;obtain rfl:t=ms.length+1:=ad;go_step;refine ah ?_;iterate 2 refine ag ?_
   refine pl a 0 66 ?_ (hv:=eH);refine ag ?_;refine bu (ai ao) ?_;refine an ?_;go_step;refine ah ?_;iterate 2 refine ag ?_
   refine an ?_;go_wp2_with fail;go_ret;exact⟨d,aa,r,a.only⟩
end
section
attribute [local irreducible] wpList cM
def afj{o n m}(h:Dc o n m=0):gW m/\(m.k=1->m.fr+m.n<=o)/\m.to+b5 m<=n:=by grind[Dc,Ru]
def TW{a b}:(0<(kR a b).2)↔meets a b=true:=by grind[kR,meets]
def vy(ms:List bJ):Bool:=ms.all (λm=>decide (m.data.length<=300))&&decide (ms.length<=40)
set_option maxHeartbeats 16000000 in
def atS(o n)(g1 g2)A c ms w(hl:cX w A ms)(gr:ms.length<=1048576)(ho:∀m∈ms,qj m):
 aD aw 161 #[eB o n g1 g2 (ae A ms.length c)] w λe w'=>∃bB,(∃Yr,e=aB (bm #[J R bB,J R Yr]))/\(bB=0↔pS o n ms)/\ar w w':=by
 have cH:=hid hl;have er:=hid ho;have O:aE (∀W,aD _ _ _ W λe w'=>e=aB _/\ar W w'):=hid (λW=>(IL W).mono λ_ _ ⟨h1,Y⟩=>⟨h1,Y▸au.refl _ _⟩);have D9:aE (∀W m F I,m∈ms->aD _ _ #[eB o n g1 g2 _,av _] W λe w'=>e=aB _/\ar W w'):=hid (λW m F I k=>auv o n g1 g2 (ae A ms.length c) aa m F I W (ho m k));have ai5:=hid (λW hg hv=>auj o n g1 g2 A c ms W (hl.aG hg) gr hv);clear hl ho;by_cases h1:o<0
 .have G:=hid h1;go_enter JX,J0;have d:=bc w;go_step;refine ah ?_;refine bG d (av _) (λC w1 d=>?_);refine v2 ?_;refine an ?_;go_step;refine cx ?_;refine bN d [] (λ_ _=>a1) (λ_ _=>emp) (λ_=>[]) (λ|1=>[0]|_=>[]) (λ_=>[]) [0] (λB=>?_);refine aK ?_;refine dl 0 0 ?_ (hv:=ku);refine aN (ai az) (λ_ _ _=>by(have h:=G.out;go_simp;try omega)) ?_;refine aK ?_;iterate 3 refine ds ?_
  refine bF ?_;iterate 4 refine ds ?_
  refine bF ?_;iterate 4 refine ds ?_
  refine aK ?_;refine bU λaW d=>?_;go_step;refine ah ?_;refine v2 ?_;refine an ?_;go_wp2_with fail;go_ret2;exact⟨2,⟨-1,aa⟩,⟨λh=>absurd h bf,λh=>absurd h.bd ad⟩,d.only⟩
 .have G:=hid h1;by_cases Y:n<0
  .have L:=hid Y;go_enter JX,J0;have d:=bc w;go_step;refine ah ?_;refine bG d (av _) (λC bI d=>?_);refine v2 ?_;refine an ?_;go_step;refine cx ?_;refine bN d [] (λ_ _=>a1) (λ_ _=>emp) (λ_=>[]) (λ|1=>[0]|5=>[0]|_=>[]) (λ_=>[]) [0] (λB=>?_);refine aK ?_;refine dl 0 0 ?_ (hv:=ku);refine aN (ai ao) (λ_ _ _=>by(have h:=G.out;go_simp;try omega)) ?_;refine bF ?_;refine dl 0 1 ?_ (hv:=hZ);refine aN (ai az) (λ_ _ _=>by(have h:=L.out;go_simp;try omega)) ?_;refine bF ?_;iterate 4 refine ds ?_
   refine bF ?_;iterate 4 refine ds ?_
   refine aK ?_;refine bU λcc d=>?_;go_step;refine ah ?_;refine v2 ?_;refine an ?_;go_wp2_with fail;go_ret2;exact⟨2,⟨-1,aa⟩,⟨λh=>absurd h bf,λh=>absurd h.bd ad⟩,d.only⟩
  .have L:=hid Y;by_cases h3:o>4611686018427387903
   .have V:=hid h3;go_enter JX,J0;have d:=bc w;go_step;refine ah ?_;refine bG d (av _) (λC cJ d=>?_);refine v2 ?_;refine an ?_;go_step;refine cx ?_;refine bN d [11] (λi _=>match i with|11=>J R 4611686018427387903|_=>a1) (λ_ _=>emp) (λ_=>[]) (λ|1=>[0]|5=>[0]|10=>[0]|_=>[]) (λ_=>[]) [0,12] (λB=>?_);refine aK ?_;refine dl 0 0 ?_ (hv:=ku);refine aN (ai ao) (λ_ _ _=>by(have h:=G.out;go_simp;try omega)) ?_;refine bF ?_;refine dl 0 1 ?_ (hv:=hZ);refine aN (ai ao) (λ_ _ _=>by(have h:=L.out;go_simp;try omega)) ?_;refine da ?_;refine dl 0 0 ?_ (hv:=ku);refine du (λf Fr d=>(O f).mono ?_) ?_;·rintro e p ⟨rfl,g⟩;exact⟨{},aa,(d.aG g).dN⟩
    refine aN (ai az) (λ_ _ _=>by(have h:=V.out;go_simp;try omega)) ?_;refine bF ?_;iterate 4 refine ds ?_
    refine aK ?_;refine bU λc5 d=>?_;replace d:=d.drop 1;go_step;refine ah ?_;refine v2 ?_;refine an ?_;go_wp2_with fail;go_ret2;exact⟨2,⟨-1,aa⟩,⟨λh=>absurd h bf,λh=>absurd h.bd ad⟩,d.only⟩
   .have V:=hid h3;by_cases h4:n>4611686018427387903
    .have hT:=hid h4;go_enter JX,J0;have d:=bc w;go_step;refine ah ?_;refine bG d (av _) (λC dK d=>?_);refine v2 ?_;refine an ?_;go_step;refine cx ?_;refine bN d [11,17] (λi _=>match i with|11=>J R 4611686018427387903|17=>J R 4611686018427387903|_=>a1) (λ_ _=>emp) (λ_=>[]) (λ|1=>[0]|5=>[0]|10=>[0]|16=>[0]|_=>[]) (λ_=>[]) [0,12,18] (λB=>?_);refine aK ?_;refine dl 0 0 ?_ (hv:=ku);refine aN (ai ao) (λ_ _ _=>by(have h:=G.out;go_simp;try omega)) ?_;refine bF ?_;refine dl 0 1 ?_ (hv:=hZ);refine aN (ai ao) (λ_ _ _=>by(have h:=L.out;go_simp;try omega)) ?_;refine da ?_;refine dl 0 0 ?_ (hv:=ku);refine du (λf Fr d=>(O f).mono ?_) ?_;·rintro e p ⟨rfl,g⟩;exact⟨{},aa,(d.aG g).dN⟩
     refine aN (ai ao) (λ_ _ _=>by(have h:=V.out;go_simp;try omega)) ?_;refine da ?_;refine dl 0 1 ?_ (hv:=hZ);refine du (λf Fr d=>(O f).mono ?_) ?_;·rintro e p ⟨rfl,g⟩;exact⟨{},aa,(d.aG g).dN⟩
     refine aN (ai az) (λ_ _ _=>by(have h:=hT.out;go_simp;try omega)) ?_;refine aK ?_;refine bU λdz d=>?_;replace d:=d.drop 1;replace d:=d.drop 1;go_step;refine ah ?_;refine v2 ?_;refine an ?_;go_wp2_with fail;go_ret2;exact⟨2,⟨-1,aa⟩,⟨λh=>absurd h bf,λh=>absurd h.bd ad⟩,d.only⟩
    .have hT:=hid h4;go_enter JX,J0;have d:=bc w;go_step;refine ah ?_;refine bG d (av _) (λC eY d=>?_);refine v2 ?_;refine an ?_;go_step;refine cx ?_;refine bN d [11,17] (λi _=>match i with|11=>J R 4611686018427387903|17=>J R 4611686018427387903|_=>a1) (λ_ _=>emp) (λ_=>[]) (λ|1=>[0]|5=>[0]|10=>[0]|16=>[0]|_=>[]) (λ_=>[]) [0,12,18] (λB=>?_);refine aK ?_;refine dl 0 0 ?_ (hv:=ku);refine aN (ai ao) (λ_ _ _=>by(have h:=G.out;go_simp;try omega)) ?_;refine bF ?_;refine dl 0 1 ?_ (hv:=hZ);refine aN (ai ao) (λ_ _ _=>by(have h:=L.out;go_simp;try omega)) ?_;refine da ?_;refine dl 0 0 ?_ (hv:=ku);refine du (λf Fr d=>(O f).mono ?_) ?_;·rintro e p ⟨rfl,g⟩;exact⟨{},aa,(d.aG g).dN⟩
     refine aN (ai ao) (λ_ _ _=>by(have h:=V.out;go_simp;try omega)) ?_;refine da ?_;refine dl 0 1 ?_ (hv:=hZ);refine du (λf Fr d=>(O f).mono ?_) ?_;·rintro e p ⟨rfl,g⟩;exact⟨{},aa,(d.aG g).dN⟩
     refine aN (ai ao) (λ_ _ _=>by(have h:=hT.out;go_simp;try omega)) ?_;refine aK ?_;refine bU λgQ d=>?_;replace d:=d.drop 1;replace d:=d.drop 1;go_step;refine ah ?_;refine ag ?_;refine an ?_;have u:=d.pk [0];go_wp2_with fail;go_loopw [4] (λE wr=>∃j:Nat,j<=ms.length/\E=J R (j:Int)/\aE (∀(i:Nat) (x:bJ),i<j->ms[i]?=ab x->Dc o n x=0)/\ak w (λ_=>False) wr [aj C (a7 o n g1 g2 (ae A ms.length c)) 26]) (λE wr=>ms.length -(cO E).toNat);case atStart=>exact⟨0,cF _,aa,hid (λi x h=>absurd h (zX _)),u⟩
     case round=>
      clear d u;obtain⟨j,hj,rfl,mz,d⟩:=hrel;by_cases hlt:j<ms.length
      .have cN:(j:Int)<(ms.length:Int):=ad;obtain⟨m,k⟩:∃m,ms[j]?=ab m:=⟨_,cC hlt⟩;obtain⟨r,U,F,I,P,Q,S⟩:=cX.ji cH k;have M:=hid P;have iR:=hid Q;have N:=hid S;have D:=hid k;clear P Q S k;obtain⟨z,hz⟩:=ex (Dc o n m);have fV:=hid hz;have XB:aE (∀W,aD _ _ _ W λe w'=>e=aB (J _ z)/\ar W w'):=hid (λW=>by rw[<-hz];exact D9 W m F I (cY D));clear hz;go_step;refine ah ?_;refine v2 ?_;refine pl d 0 66 ?_ (hv:=eH);refine ag ?_;refine bu (ai az) ?_;refine an ?_;by_cases hz0:z=0
       .subst hz0;go_step;refine cx ?_;refine bN d [6] (λi _=>match i with|6=>J R 0|_=>a1) (λ_ _=>emp) (λ_=>[]) (λ|0=>[0]|2=>[0]|_=>[]) (λ_=>[]) [0,7] (λB=>?_);refine eI 0 (a7 o n g1 g2 (ae A ms.length c)) ?_ (hv:=(eW _)) (hk:=by omega) (hz:=(by rw[bW];rfl));refine aK ?_;refine dl 0 66 ?_ (hv:=eH);refine aK ?_;refine aN _ (λ_ _ _=>cq 24 73 5 _ _ aa eA ay r U _ c j _ (by show ae A _ _=_;rw[M]) aa hlt aa) ?_;refine aN _ (λ_ _ d=>by(refine eC 73 _ aa r _ aa _ (N _ d.only) fy aa ay)) ?_;refine du (λf Fr d=>(XB f).mono ?_) ?_;·rintro e p ⟨rfl,g⟩;exact⟨{},aa,(d.aG g).dN⟩
        refine aK ?_;refine bU λib d=>?_;replace d:=d.drop 1;go_step;refine ah ?_;refine ag ?_;refine pk (ai ao) ?_;refine an ?_;go_step;refine ah ?_;refine ag ?_;refine pad _ 1 ((j+1:Nat):Int) ?_;refine ag ?_;refine an ?_;go_wp2_with fail;go_roundw;case rel=>exact⟨j+1,ad,aa,hid (λi y hi l=>by rcases vn.1 hi with h|rfl;exact mz i y h l;rw[D]at l;cases l;exact fV),d.pick [0]⟩
        case measure=>grind[cO]
       .have QB:=hid hz0;go_step;refine cx ?_;refine bN d [6] (λi _=>match i with|6=>J R z|_=>a1) (λ_ _=>emp) (λ_=>[]) (λ|0=>[0]|2=>[0]|_=>[]) (λ_=>[]) [0,7] (λB=>?_);refine eI 0 (a7 o n g1 g2 (ae A ms.length c)) ?_ (hv:=(eW _)) (hk:=by omega) (hz:=(by rw[bW];rfl));refine aK ?_;refine dl 0 66 ?_ (hv:=eH);refine aK ?_;refine aN _ (λ_ _ _=>cq 24 73 5 _ _ aa eA ay r U _ c j _ (by show ae A _ _=_;rw[M]) aa hlt aa) ?_;refine aN _ (λ_ _ d=>by(refine eC 73 _ aa r _ aa _ (N _ d.only) fy aa ay)) ?_;refine du (λf Fr d=>(XB f).mono ?_) ?_;·rintro e p ⟨rfl,g⟩;exact⟨{},aa,(d.aG g).dN⟩
        refine aK ?_;refine bU λjS d=>?_;replace d:=d.drop 1;go_step;refine ah ?_;refine ag ?_;refine di QB (ai az) ?_;refine an ?_;go_step;refine ah ?_;refine v4 ?_;refine an ?_;go_wp2_with fail;go_ret2;exact⟨z,⟨_,aa⟩,⟨λh=>absurd h QB,λh=>absurd (h.bw m (cY D)) (by rw[fV];exact QB)⟩,d.only⟩
      .have cN:¬(j:Int)<(ms.length:Int):=ad;obtain rfl:j=ms.length:=ad;have Xz:=hid (λm k=>by obtain⟨i,hi⟩:=qM.1 k;exact mz i m (e5.1 hi).1 hi);have Qv:=hid (λm k=>(afj (Xz m k)).1);go_step;refine ah ?_;refine v2 ?_;refine pl d 0 66 ?_ (hv:=eH);refine ag ?_;refine bu (ai ao) ?_;refine an ?_;go_step;refine ah ?_;refine ag ?_;refine an ?_;have u:=d;go_wp2_with fail;go_loopw [6] (λE wr=>∃i:Nat,i<=ms.length/\E=J R (i:Int)/\aE (∀(a b:Nat) (x y:bJ),b<a->a<i->ms[a]?=ab x->ms[b]?=ab y->meets (ck x) (ck y)=ao)/\ak w (λ_=>False) wr [aj C (a7 o n g1 g2 (ae A ms.length c)) 26]) (λE wr=>ms.length -(cO E).toNat);case atStart=>exact⟨0,cF _,aa,hid (λa b x y _ h=>absurd h (zX _)),u⟩
       case round=>
        clear d u;obtain⟨i,hi,rfl,yb,d⟩:=hrel;by_cases hlt:i<ms.length
        .have cN:(i:Int)<(ms.length:Int):=ad;obtain⟨m,k⟩:∃m,ms[i]?=ab m:=⟨_,cC hlt⟩;obtain⟨r,U,F,I,P,Q,S⟩:=cX.ji cH k;have M:=hid P;have iR:=hid Q;have N:=hid S;have D:=hid k;clear P Q S k;go_step;refine ah ?_;refine v2 ?_;refine pl d 0 66 ?_ (hv:=eH);refine ag ?_;refine bu (ai az) ?_;refine an ?_;go_step;refine ah ?_;refine ag ?_;refine an ?_;have u:=d;go_wp2_with fail;go_loopw [7] (λjD wr=>∃j:Nat,j<=i/\jD=J R (j:Int)/\aE (∀(b:Nat) (y:bJ),b<j->ms[b]?=ab y->meets (ck m) (ck y)=ao)/\ak w (λ_=>False) wr [aj C (a7 o n g1 g2 (ae A ms.length c)) 26]) (λjD wr=>i -(cO jD).toNat);case atStart=>exact⟨0,cF _,aa,hid (λb y h=>absurd h (zX _)),u⟩
         case round=>
          clear d u;obtain⟨j,hj,rfl,WU,d⟩:=hrel;by_cases vF:j<i
          .have SE:(j:Int)<(i:Int):=ad;have SD:j<ms.length:=ad;obtain⟨y,l⟩:∃y,ms[j]?=ab y:=⟨_,cC SD⟩;obtain⟨X,pq,xW,mb,HL,_,xa⟩:=cX.ji cH.out l;have GI:=hid HL;have GO:=hid xa;have pL:=hid l;have Ml:=(Qv m (cY D)).F';have Iz:=(Qv y (cY l)).F';obtain⟨fB,v,T⟩:∃a b,kR (ck m) (ck y)=(a,b):=⟨_,_,aa⟩;have H:aE (∀W,aD _ _ _ W λe w'=>e=aB (av #[J _ fB,J _ v])/\ar W w'):=hid (λW=>by have q:=aeI _ _ _ _ W Ml Iz;rw[show kR (m.to,b5 m) (y.to,b5 y)=(fB,v)from T]at q;exact q);have Xh:aE ((0<v)↔meets _ _=az):=hid (by have q:=TW (a:=ck m) (b:=ck y);rw[T]at q;exact q);have Qr:=hid (λW=>Jd m F I W);have Qs:=hid (λW=>Jd y xW mb W);clear l HL xa Ml Iz T;obtain⟨t1,Mi⟩:=ex (b5 m);obtain⟨t2,aca⟩:=ex (b5 y);rw[Mi]at H Qr;rw[aca]at H Qs;clear Mi aca;go_step;refine ah ?_;refine v2 ?_;refine bu (ai az) ?_;refine an ?_;by_cases K:0<v
           .have bR:=hid K;have zL:=hid (Xh.1 K);clear K;go_step;refine cx ?_;refine bN d [5,11,12] (λi _=>match i with|5=>av #[J R m.to,J R t1]|11=>av #[J R y.to,J R t2]|12=>av #[J R fB,J R v]|_=>a1) (λ_ _=>emp) (λ_=>[]) (λ|1=>[0]|7=>[0]|_=>[]) (λ_=>[]) [0,6,12,13] (λB=>?_);refine aK ?_;refine dl 0 66 ?_ (hv:=eH);refine aK ?_;refine aN _ (λ_ _ _=>cq 24 73 5 _ _ aa eA ay r U _ c i _ (by show ae A _ _=_;rw[M]) aa hlt aa) ?_;refine aN _ (λ_ _ d=>by(refine eC 73 _ aa r _ aa _ (N _ d.only) fy aa ay)) ?_;refine du (λf Fr d=>(Qr f).mono ?_) ?_;·rintro e p ⟨rfl,g⟩;exact⟨{},aa,(d.aG g).dN⟩
            refine aK ?_;refine dl 0 66 ?_ (hv:=eH);refine aK ?_;refine aN _ (λ_ _ _=>cq 24 73 5 _ _ aa eA ay X pq _ c j _ (by show ae A _ _=_;rw[GI]) aa SD aa) ?_;refine aN _ (λ_ _ d=>eC 73 (bj 68) aa X (pq+j*5) aa _ (GO _ d.only) fy aa ay) ?_;refine du (λf Fr d=>(Qs f).mono ?_) ?_;·rintro e p ⟨rfl,g⟩;exact⟨{},aa,(d.aG g).dN⟩
            refine du (λf Fr d=>(H f).mono ?_) ?_;·rintro e p ⟨rfl,g⟩;exact⟨{},aa,(d.aG g).dN⟩
            refine gZ (J R v) ?_;refine aN (ai az) (λ_ _ _=>by(have h:=bR.out;go_simp;try omega)) ?_;refine bU λkh d=>?_;replace d:=d.drop 1;replace d:=d.drop 1;replace d:=d.drop 1;go_step;refine ah ?_;refine v3 ?_;refine an ?_;go_wp2_with fail;go_ret2;exact⟨4,⟨_,aa⟩,⟨λh=>absurd h bf,λh=>absurd (h.ap i j m y vF D pL) (by rw[zL];decide)⟩,d.only⟩
           .have bR:=hid K;have zL:aE (meets _ _=ao):=hid (by cases hq:meets (ck m) (ck y)with|false=>rfl|true=>exact absurd (Xh.2 hq) K);clear K;go_step;refine cx ?_;refine bN d [5,11,12] (λi _=>match i with|5=>av #[J R m.to,J R t1]|11=>av #[J R y.to,J R t2]|12=>av #[J R fB,J R v]|_=>a1) (λ_ _=>emp) (λ_=>[]) (λ|1=>[0]|7=>[0]|_=>[]) (λ_=>[]) [0,6,12,13] (λB=>?_);refine aK ?_;refine dl 0 66 ?_ (hv:=eH);refine aK ?_;refine aN _ (λ_ _ _=>cq 24 73 5 _ _ aa eA ay r U _ c i _ (by show ae A _ _=_;rw[M]) aa hlt aa) ?_;refine aN _ (λ_ _ d=>by(refine eC 73 _ aa r _ aa _ (N _ d.only) fy aa ay)) ?_;refine du (λf Fr d=>(Qr f).mono ?_) ?_;·rintro e p ⟨rfl,g⟩;exact⟨{},aa,(d.aG g).dN⟩
            refine aK ?_;refine dl 0 66 ?_ (hv:=eH);refine aK ?_;refine aN _ (λ_ _ _=>cq 24 73 5 _ _ aa eA ay X pq _ c j _ (by show ae A _ _=_;rw[GI]) aa SD aa) ?_;refine aN _ (λ_ _ d=>eC 73 (bj 68) aa X (pq+j*5) aa _ (GO _ d.only) fy aa ay) ?_;refine du (λf Fr d=>(Qs f).mono ?_) ?_;·rintro e p ⟨rfl,g⟩;exact⟨{},aa,(d.aG g).dN⟩
            refine du (λf Fr d=>(H f).mono ?_) ?_;·rintro e p ⟨rfl,g⟩;exact⟨{},aa,(d.aG g).dN⟩
            refine gZ (J R v) ?_;refine aN (ai ao) (λ_ _ _=>by(have h:=bR.out;go_simp;try omega)) ?_;refine bU λlf d=>?_;replace d:=d.drop 1;replace d:=d.drop 1;replace d:=d.drop 1;go_step;refine ah ?_;refine ag ?_;refine pad _ 1 ((j+1:Nat):Int) ?_;refine ag ?_;refine an ?_;go_wp2_with fail;go_roundw;case rel=>exact⟨j+1,ad,aa,hid (λb x hb hx=>by rcases vn.1 hb with h|rfl;exact WU b x h hx;rw[pL]at hx;cases hx;exact zL),d.pick [0]⟩
            case measure=>simp[cO]<;>omega
          .have SE:¬(j:Int)<(i:Int):=ad;obtain rfl:j=i:=ad;go_step;refine ah ?_;refine v2 ?_;refine bu (ai ao) ?_;refine an ?_;go_step;refine ah ?_;refine ag ?_;refine pad _ 1 ((j+1:Nat):Int) ?_;refine ag ?_;refine an ?_;go_wp2_with fail;go_roundw;case rel=>exact⟨j+1,ad,aa,hid (λa b x y Z ha hx l=>by rcases vn.1 ha with h|rfl;exact yb a b x y Z h hx l;rw[D]at hx;cases hx;exact WU b y Z l),d.pick [0]⟩
           case measure=>simp[cO]<;>omega
        .have cN:¬(i:Int)<(ms.length:Int):=ad;obtain rfl:i=ms.length:=ad;go_step;refine ah ?_;refine v2 ?_;refine pl d 0 66 ?_ (hv:=eH);refine ag ?_;refine bu (ai ao) ?_;refine an ?_;go_step;refine ah ?_;refine bh d 0 (a7 o n g1 g2 (ae A ms.length c)) ?_ (hv:=(eW _)) (hk:=by omega) (hz:=(by rw[bW];rfl));refine aP (ai5 _ d.only Qv) ?_;rintro e mr ⟨ec,rfl,aa2,g⟩;replace d:=d.aG g;refine aQ ?_;refine ag ?_;refine an ?_;rcases aa2 with⟨rfl,hb⟩|⟨T,s,hs,hb⟩;·have HB:=hid hb;clear hb;go_step;refine ah ?_;refine ag ?_;refine pk (ai ao) ?_;refine an ?_;go_step;refine ah ?_;refine v2 ?_;refine an ?_;go_wp2_with fail;go_ret2;exact⟨0,⟨_,aa⟩,⟨λ_=>⟨⟨⟨ad,ad⟩,ad,ad⟩,Xz,λa b x y Z hx l=>yb a b x y Z (e5.1 hx).1 hx l,λt ht=>HB t ad⟩,λ_=>aa⟩,d.only⟩
         .have HB:=hid hb;have H:=hid T;clear hb;go_step;refine ah ?_;refine ag ?_;refine aI (ai az) (by(have h:=H.out;go_simp;try omega)) ?_;refine an ?_;go_step;refine ah ?_;refine v3 ?_;refine an ?_;go_wp2_with fail;go_ret2;exact⟨3,⟨_,aa⟩,⟨λh=>absurd h bf,λh=>absurd (h.Z5 s ad) (by rw[HB];decide)⟩,d.only⟩
end
section
attribute [local irreducible] wpList cM
def aeV(o n)(g1 g2)A c ms w(f:cX w A ms)(k:ms.length<=1048576)(ho:∀m∈ms,qj m)b(hb:b=az↔pS o n ms):
 aD aw 75 #[eB o n g1 g2 (ae A ms.length c)] w λe w'=>e=aB (ai b)/\ar w w':=by
 have i:=hid (λW g=>atS o n g1 g2 A c ms W (f.aG g) k ho);have d:=hid hb;clear f ho hb;go_enter func75,ntmps75;have a:=bc w;go_step;refine ah ?_;refine bG a (av _) (λl w1 a=>?_);refine en ?_;refine bh a 0 (a7 o n g1 g2 (ae A ms.length c)) ?_ (hv:=(eW _)) (hk:=by omega) (hz:=(by rw[bW];rfl));refine aP (i _ a.only) ?_;rintro e q ⟨bB,⟨p,rfl⟩,hv,g⟩;replace a:=a.aG g;refine aQ ?_;refine v5 ?_;refine an ?_
 have j:aE ((bB==0)=b):=hid (by cases b with
  |true=>exact beq_iff_eq.2 (hv.2 (d.1 aa))
  |false=>exact beq_eq_false_iff_ne.2 (λh=>by have:=d.2 (hv.1 h);cases this));clear hv;refine b' ?_;refine di j (ai b) ?_;refine bP ?_;go_wp2_with fail;go_ret;exact⟨aa,a.only⟩
def aeD(o n)(g1 g2)A c ms w(E:cX w A ms)(P:ms.length<=1048576):
 aD aw 74 #[eB o n g1 g2 (ae A ms.length c)] w λe w'=>e=aB (ai (vy ms))/\ar w w':=by
 have G:=hid E;clear E;go_enter func74,ntmps74;have a:=bc w;go_step;refine ah ?_;refine bG a (av _) (λF w1 a=>?_);refine ag ?_;refine ah ?_;refine ag ?_;refine an ?_;have z:=a;go_wp2_with fail;go_loopw [3] (λp wr=>∃j:Nat,j<=ms.length/\p=J R (j:Int)/\aE (∀(i:Nat) (x:bJ),i<j->ms[i]?=ab x->x.data.length<=300)/\ak w (λ_=>False) wr [aj F (a7 o n g1 g2 (ae A ms.length c)) 26]) (λp wr=>ms.length -(cO p).toNat);case atStart=>exact⟨0,cF _,aa,hid (λi x h=>absurd h (zX _)),z⟩
 case round=>
  clear a z;obtain⟨j,O,rfl,s,a⟩:=hrel;by_cases hlt:j<ms.length
  .have I:(j:Int)<(ms.length:Int):=ad;obtain⟨m,d⟩:∃m,ms[j]?=ab m:=⟨_,cC hlt⟩;obtain⟨M,Q,K,N,B,C,D⟩:=cX.ji G d;have q:=hid B;have L:=hid C;have t:=hid D;have v:=hid d;clear B C D d;go_step;refine ah ?_;refine v2 ?_;refine pl a 0 66 ?_ (hv:=eH);refine ag ?_;refine bu (ai az) ?_;refine an ?_;by_cases f:m.data.length>300;·have b:(m.data.length:Int)>300:=ad;have g:=hid b;have k:=hid f;clear f b;refine b' ?_;refine pl a 0 66 ?_ (hv:=eH);refine ag ?_;refine aI _ (cq 24 73 5 _ _ aa eA ay _ _ _ _ _ _ (by show ae A _ _=_;rw[q]) aa hlt aa) ?_;refine ag ?_;refine aI _ (po aa aa (t _ a.only 4 _ aa) ay) ?_;refine ag ?_;refine aI (ai az) (by(have h:=g.out;go_simp;try omega)) ?_;refine ah ?_;refine ag ?_;refine an ?_;go_wp2_with fail;go_ret;exact⟨by rw[show vy ms=ao from by unfold vy;rw[show ms.all (λm=>decide _)=ao from List.all_eq_false.2 ⟨m,cY v,by have:=k.out;simp;omega⟩];rfl];rfl,a.only⟩
   .have b:¬(m.data.length:Int)>300:=ad;have g:=hid b;have k:=hid f;clear f b;refine b' ?_;refine pl a 0 66 ?_ (hv:=eH);refine ag ?_;refine aI _ (cq 24 73 5 _ _ aa eA ay _ _ _ _ _ _ (by show ae A _ _=_;rw[q]) aa hlt aa) ?_;refine ag ?_;refine aI _ (po aa aa (t _ a.only 4 _ aa) ay) ?_;refine ag ?_;refine aI (ai ao) (by(have h:=g.out;go_simp;try omega)) ?_;refine b' ?_;refine pad (j:Int) 1 ((j+1:Nat):Int) ?_;refine bP ?_;go_wp2_with fail;go_roundw;case rel=>exact⟨j+1,ad,aa,hid (λi y hi l=>by rcases vn.1 hi with h|rfl;exact s i y h l;rw[v]at l;cases l;have:=k.out;omega),a.pick [0]⟩
    case measure=>simp[cO]<;>omega
  .have I:¬(j:Int)<(ms.length:Int):=ad;obtain rfl:j=ms.length:=ad;have u:aE (vy ms=decide ((ms.length:Int)<=40)):=hid (by unfold vy;rw[show ms.all (λm=>decide _)=az from Eb.2 (λm d=>by obtain⟨i,hi⟩:=qM.1 d;exact decide_eq_true (s i m (e5.1 hi).1 hi)),Bool.true_and];congr 1;rw[eq_iff_iff];omega);obtain⟨r,hr⟩:=ex (decide ((ms.length:Int)<=40));have H:=hid hr;rw[hr]at u;clear hr;go_step;refine ah ?_;refine v2 ?_;refine pl a 0 66 ?_ (hv:=eH);refine ag ?_;refine bu (ai ao) ?_;refine b' ?_;refine pl a 0 66 ?_ (hv:=eH);refine ag ?_;refine di H (ai r) ?_;refine bP ?_;go_wp2_with fail;go_ret;exact⟨by rw[u];rfl,a.only⟩
def aui s(ol bZ)(o n)(g1 g2)A c ms w(p:cX w A ms)(q:ms.length<=1048576)(ho:∀m∈ms,qj m)b(hb:b=az↔pS o n ms):
 aD aw 25 #[ae s ol bZ,eB o n g1 g2 (ae A ms.length c)] w λe w'=>e=aB (ai (vy ms&&b&&decide (o=(ol:Int))&&decide (n<=3000)))/\ar w w':=by
 obtain⟨f,l⟩:=ex (vy ms);have h:aE (∀W,ar w W->aD _ 74 _ W λe w'=>e=aB (ai f)/\ar W w'):=hid (λW g=>by rw[<-l];exact aeD o n g1 g2 A c ms W (p.aG g) q);have k:=hid (λW g=>aeV o n g1 g2 A c ms W (p.aG g) q ho b hb);rw[l];clear p ho hb l;cases f with
 |false=>
  go_enter O6,Pd;have a:=bc w;go_step;refine ah ?_;refine bG a (av _) (λi w1 a=>?_);refine en ?_;refine bh a 0 (a7 o n g1 g2 (ae A ms.length c)) ?_ (hv:=(eW _)) (hk:=by omega) (hz:=(by rw[bW];rfl));refine bH (h _ a.only) a (λx a=>?_);refine ag ?_;iterate 2 refine ps ?_
  refine v2 ?_;iterate 5 refine ps ?_
  refine v2 ?_;iterate 3 refine ps ?_
  refine dZ ?_;go_wp2_with fail;go_ret;exact⟨aa,a.only⟩
 |true=>
  cases b with
  |false=>
   go_enter O6,Pd;have a:=bc w;go_step;refine ah ?_;refine bG a (av _) (λi y a=>?_);refine en ?_;refine bh a 0 (a7 o n g1 g2 (ae A ms.length c)) ?_ (hv:=(eW _)) (hk:=by omega) (hz:=(by rw[bW];rfl));refine bH (h _ a.only) a (λz a=>?_);refine ag ?_;refine bh a 0 (a7 o n g1 g2 (ae A ms.length c)) ?_ (hv:=(eW _)) (hk:=by omega) (hz:=(by rw[bW];rfl));refine bH (k _ a.only) a (λB a=>?_);refine v2 ?_;iterate 5 refine ps ?_
   refine v2 ?_;iterate 3 refine ps ?_
   refine dZ ?_;go_wp2_with fail;go_ret;exact⟨aa,a.only⟩
  |true=>
   by_cases d:o=(ol:Int);·have j:=hid (beq_iff_eq.2 d);rw[show decide _=az from decide_eq_true d];clear d;obtain⟨r,hr⟩:=ex (decide (n<=3000));have t:=hid hr;rw[hr];clear hr;go_enter O6,Pd;have a:=bc w;go_step;refine ah ?_;refine bG a (av _) (λi C a=>?_);refine en ?_;refine bh a 0 (a7 o n g1 g2 (ae A ms.length c)) ?_ (hv:=(eW _)) (hk:=by omega) (hz:=(by rw[bW];rfl));refine bH (h _ a.only) a (λD a=>?_);refine ag ?_;refine bh a 0 (a7 o n g1 g2 (ae A ms.length c)) ?_ (hv:=(eW _)) (hk:=by omega) (hz:=(by rw[bW];rfl));refine bH (k _ a.only) a (λE a=>?_);refine v3 ?_;refine pl a 0 0 ?_ (hv:=ku);refine v2 ?_;refine di j (ai az) ?_;refine v3 ?_;refine pl a 0 1 ?_ (hv:=hZ);refine di t (ai r) ?_;refine dZ ?_;go_wp2_with fail;go_ret;exact⟨aa,a.only⟩
   .have j:=hid (beq_eq_false_iff_ne.2 d);rw[show decide _=ao from decide_eq_false d];clear d;go_enter O6,Pd;have a:=bc w;go_step;refine ah ?_;refine bG a (av _) (λi F a=>?_);refine en ?_;refine bh a 0 (a7 o n g1 g2 (ae A ms.length c)) ?_ (hv:=(eW _)) (hk:=by omega) (hz:=(by rw[bW];rfl));refine bH (h _ a.only) a (λu a=>?_);refine ag ?_;refine bh a 0 (a7 o n g1 g2 (ae A ms.length c)) ?_ (hv:=(eW _)) (hk:=by omega) (hz:=(by rw[bW];rfl));refine bH (k _ a.only) a (λv a=>?_);refine v3 ?_;refine pl a 0 0 ?_ (hv:=ku);refine v2 ?_;refine di j (ai ao) ?_;refine v2 ?_;iterate 3 refine ps ?_
    refine dZ ?_;go_wp2_with fail;go_ret;exact⟨aa,a.only⟩
end
section
attribute [local irreducible] wpList cM
def wW(old:List Int)(i:Int)(m:bJ):Int:=if m.k=1 then old[(m.fr+i -m.to).toNat]?.getD 0 else m.data[(i -m.to).toNat]?.getD 0
def jE(old:List Int)(ms:List bJ)(i:Int):Int:=match ms.find? (λm=>hasB m i)with|some m=>wW old i m|none=>0
def l1(old:List Int)(ms:List bJ)(n:Nat):List Int:=(dG n).map (λi:Nat=>jE old ms (i:Int))
def atL old ms n:(l1 old ms n).length=n:=by simp[l1]
theorem atM old ms n:l1 old ms (n+1)=l1 old ms n++[jE old ms (n:Int)]:=by simp[l1,List.range_succ]
def an5{ms m x}(a:m∈ms)(hx:hasB m x=az):∃j y,uk ms x=((j:Nat):Int)/\ms[j]?=ab y/\hasB y x=az/\∀old,jE old ms x=wW old x y:=by
 unfold uk jE;cases h:ms.findIdx? (λm=>hasB m x)with
 |none=>grind
 |some j=>grind[List.findIdx?_eq_some_iff_getElem,List.find?_eq_some_iff_getElem]
def atP(E A)(bZ c n)o(g1 g2)old ms w(hold:bX w E old)(M:cX w A ms)(gr:ms.length<=1048576)(iw:old.length<=1048576)(hn:n<=1048576)(hv:∀m∈ms,gW m)(k5:∀m∈ms,m.k=1->m.fr+m.n<=(old.length:Int))(LR:∀i:Nat,i<n->∃m∈ms,hasB m (i:Int)=az):
 aD aw 27 #[ae E old.length bZ,eB o (n:Int) g1 g2 (ae A ms.length c)] w λe w'=>∃S Z,e=aB (ae S n Z)/\cf w w' (bk S n Z 5 1 ((l1 old ms n).map bb)):=by
 have cH:=hid M;have BH:=hid hold;have cB:=hid hv;have qJ:=hid k5;have Kj:=hid LR;have Kn:=hid (λW off g=>aeE o n g1 g2 A c ms off W (M.aG g) gr (λm x=>(hv m x).F'));clear M hold hv k5 LR;go_enter func27,ntmps27;have a:=bc w;go_step;refine ah ?_;refine bG a (av _) (λb3 w1 a=>?_);refine bP ?_;replace a:=a.new (bk af 0 0 5 1 []) ⟨au.refl _ _,Row.nil _ _ _ _,λb ⟨_,_,e⟩=>aF⟩;refine ah ?_;refine ag ?_;refine ah ?_;refine ag ?_;refine an ?_;have Y:=a.pk [0,1];go_wp2_with fail;go_loopw [5,6] (λic P wr=>∃(i:Nat) (aJ:Option Addr) (c2:Nat),i<=n/\ic=ae aJ i c2/\P=J R (i:Int)/\ak w (λ_=>False) wr [bk aJ i c2 5 1 ((l1 old ms i).map bb),aj b3 (a7 o (n:Int) g1 g2 (ae A ms.length c)) 26]) (λic P wr=>n -(cO P).toNat);case atStart=>exact⟨0,_,0,cF _,aa,aa,Y⟩
 case round=>
  clear a Y;obtain⟨i,aJ,c2,hi,rfl,rfl,a⟩:=hrel;by_cases hlt:i<n
  .have cN:(i:Int)<(n:Int):=ad;obtain⟨m0,E3,hx0⟩:=Kj i hlt;obtain⟨j,d,aa0,r,aaH,j8⟩:=an5 E3 hx0;have L:=(e5.1 r).1;have V:=hid (λW g=>by have q:=Kn W (i:Int) g;rwa [aa0]at q);obtain⟨m,x⟩:∃m,ms[j]?=ab m:=⟨_,cC L⟩;obtain⟨C,D,F,K,bC,eu,dh⟩:=cX.ji cH x;have T:=hid bC;have iR:=hid eu;have U:=hid dh;have b9:=hid x;clear bC eu dh x;obtain rfl:d=m:=by have h:=b9.out;rw[r]at h;cases h;rfl
   have X:aE (l1 old ms (i+1)=l1 old ms i++[wW old (i:Int) d]):=hid (by grind[atM]);have hb2:=of_decide_eq_true aaH;have z:=cB d (cY r);clear E3 hx0 aa0 j8 aaH m0;go_step;refine ah ?_;refine v2 ?_;refine pl a 1 1 ?_ (hv:=hZ);refine bu (ai az) ?_;refine an ?_;by_cases hk:d.k=1
   .obtain⟨f1,f2,f3,_⟩:=z.copy hk;have iw:=qJ d (cY r) hk;have j':b5 d=d.n:=if_pos hk;rw[j']at hb2;obtain⟨p,N⟩:∃p:Nat,d.fr+(i:Int) -d.to=(p:Int):=⟨(d.fr+(i:Int) -d.to).toNat,ad⟩;have hpl:p<old.length:=ad;obtain⟨b0,B,v,hc0⟩:=BH ad;have G:=hid v;have s:=hid (hc0 p hpl);obtain⟨t,l⟩:=ex (old[p]?.getD 0);rw[l]at s;have H:aE (wW _ _ d=t):=hid (by unfold wW;rw[if_pos hk,N,wK];exact l);have O:=z.ck;rw[j']at O;have I:=hid hk;clear hk z l v hc0 r;refine cx ?_;refine bN a [4,7,8] (λi u=>match i with|4=>J R (j:Int)|7=>ax (ab ⟨u.b,0,af⟩)|_=>a1) (λf=>λ|7=>aj ((f 7).b) #[J R 0,J R 0,J R 0,J R 0,ae af 0 0] 73|8=>aj ((f 7).b) #[J R d.k,J R d.to,J R d.fr,J R d.n,ae F d.data.length K] 73|_=>emp) (λ|8=>[9]|_=>[]) (λ|1=>[1]|2=>[1]|_=>[]) (λ|7=>[7]|8=>[7]|_=>[]) [0,1,6,10] (λf=>?_);refine aK ?_;refine dl 0 66 ?_ (hv:=eH);refine eI 0 (a7 o (n:Int) g1 g2 (ae A ms.length c)) ?_ (hv:=(eW _)) (hk:=by omega) (hz:=(by rw[bW];rfl));refine aK ?_;refine dD (λQ _ a=>V Q a.only) ?_;refine aN _ (λ_ _ _=>cq 24 73 5 _ _ aa eA ay C D _ c j _ (by show ae A _ _=_;rw[T]) aa L aa) ?_;refine aN _ (λ_ _ a=>eC 73 (bj 19) aa C (D+j*5) aa _ (U _ a.only) fy aa ay) ?_;refine rR _ ?_;refine gi _ ?_;refine bU λaW a=>?_;generalize (f 7).b=gn at a⊢;replace a:=a.drop 2;refine b' ?_;refine pl a 2 0 ?_;refine di I (ai az) ?_;refine jz ?_;refine pl a 2 2 ?_;refine ag ?_;refine pad _ _ (d.fr+(i:Int)) ?_;refine ag ?_;refine pl a 2 1 ?_;refine lH _ _ _ ?_;refine aI _ (cq 22 5 1 _ _ aa dL ay b0 B _ bZ p ((B+p)) (by show ae E _ _=_;rw[G]) aa hpl ad) ?_;refine aI _ (po aa aa (a.only.cell s (λh=>h)) ay) ?_;refine fC a #[J d' t] 5 (λaxT bI a=>?_);refine lZ (m:=1) a 1 1 (aU.cellsOf (m:=1) (a.aX 0) aa) (by intro u y;simp at y;subst y;rfl) (λU0 YK cc a=>?_) (hby:=by omega);refine cK ?_;refine pad (i:Int) 1 ((i+1:Nat):Int) ?_;refine bP ?_;go_wp2_with fail;go_roundw;case rel=>exact⟨_,_,_,ad,aa,aa,by rw[X,gp,H];exact a.pick [1,2]⟩
    case measure=>simp[cO]<;>omega
   .have hk2:b5 d=(d.data.length:Int):=if_neg hk;rw[hk2]at hb2;obtain⟨p,N⟩:∃p:Nat,(i:Int) -d.to=(p:Int):=⟨((i:Int) -d.to).toNat,ad⟩;have hpl:p<d.data.length:=ad;obtain⟨b0,B,v,hc0⟩:=(iR w (au.refl _ _)).1 ad;have G:=hid v;have s:=hid (hc0 p hpl);obtain⟨t,l⟩:=ex (d.data[p]?.getD 0);rw[l]at s;have H:aE (wW old _ d=t):=hid (by unfold wW;rw[if_neg hk,N,wK];exact l);have O:=z.ck;rw[hk2]at O;have I:=hid hk;clear hk z l v hc0 r;refine cx ?_;refine bN a [4,7,8] (λi u=>match i with|4=>J R (j:Int)|7=>ax (ab ⟨u.b,0,af⟩)|_=>a1) (λf=>λ|7=>aj ((f 7).b) #[J R 0,J R 0,J R 0,J R 0,ae af 0 0] 73|8=>aj ((f 7).b) #[J R d.k,J R d.to,J R d.fr,J R d.n,ae F d.data.length K] 73|_=>emp) (λ|8=>[9]|_=>[]) (λ|1=>[1]|2=>[1]|_=>[]) (λ|7=>[7]|8=>[7]|_=>[]) [0,1,6,10] (λf=>?_);refine aK ?_;refine dl 0 66 ?_ (hv:=eH);refine eI 0 (a7 o (n:Int) g1 g2 (ae A ms.length c)) ?_ (hv:=(eW _)) (hk:=by omega) (hz:=(by rw[bW];rfl));refine aK ?_;refine dD (λQ _ a=>V Q a.only) ?_;refine aN _ (λ_ _ _=>cq 24 73 5 _ _ aa eA ay C D _ c j _ (by show ae A _ _=_;rw[T]) aa L aa) ?_;refine aN _ (λ_ _ a=>eC 73 (bj 19) aa C (D+j*5) aa _ (U _ a.only) fy aa ay) ?_;refine rR _ ?_;refine gi _ ?_;refine bU λcJ a=>?_;generalize (f 7).b=gn at a⊢;replace a:=a.drop 2;refine b' ?_;refine pl a 2 0 ?_;refine di I (ai ao) ?_;refine hE ?_;refine pl a 2 4 ?_;refine v2 ?_;refine pl a 2 1 ?_;refine lH _ _ _ ?_;refine aI _ (cq 22 5 1 _ _ aa dL ay b0 B _ K p ((B+p)) (by show ae F _ _=_;rw[G]) aa hpl ad) ?_;refine aI _ (po aa aa (a.only.cell s (λh=>h)) ay) ?_;refine fC a #[J d' t] 5 (λOM c5 a=>?_);refine lZ (m:=1) a 1 1 (aU.cellsOf (m:=1) (a.aX 0) aa) (by intro u y;simp at y;subst y;rfl) (λrm rP dK a=>?_) (hby:=by omega);refine cK ?_;refine pad (i:Int) 1 ((i+1:Nat):Int) ?_;refine bP ?_;go_wp2_with fail;go_roundw;case rel=>exact⟨_,_,_,ad,aa,aa,by rw[X,gp,H];exact a.pick [1,2]⟩
    case measure=>simp[cO]<;>omega
  .have cN:¬(i:Int)<(n:Int):=ad;obtain rfl:i=n:=ad;go_step;refine ah ?_;refine v2 ?_;refine pl a 1 1 ?_ (hv:=hZ);refine bu (ai ao) ?_;refine ah ?_;refine dZ ?_;go_wp2_with fail;go_ret;exact⟨aJ,c2,aa,a.fresh 0⟩
end
end Go.Proofs.YtcmhplknoglbkaaGreat
