/- Part 11 of the proof of TopConfinedSaid. -/
import Derived.Test.YtcmhplknoglbkaaGreatQf0
import Derived.Test.YtcmhplknoglbkaaGreatQf3
import Derived.Test.YtcmhplknoglbkaaGreatQf8
import Derived.Test.YtcmhplknoglbkaaGreatQf10
set_option linter.all false
set_option maxRecDepth 100000
set_option maxHeartbeats 4000000
open Go.Proofs.Tryz
open Array renaming size->gB
open Bool renaming false->ao,true->az
open Go renaming Calls->aC,bodyPost_ret->c8,results_cell_row->gH,undef->a1,wpList_nil->an
open Go.Ending renaming returned->aB
open Go.IntKind renaming i64->R,u8->dR
open Go.Lib renaming add_plain'->ah9,bytesOf->GD,index->VP
open Go.Operand renaming tmp->bj
open Go.Proofs.Tryz renaming func161->KL,func186->wC,func238->GI,func25->Pl,ntmps161->KP,ntmps186->wE,ntmps238->GK,ntmps25->Pr,prog->ax,underlying22->dK,underlying24->ey,underlying35->yg,underlying5->mr,underlying73->gi
open Go.Proofs renaming intOf->c'
open Go.RowKit renaming Hid->aE,intOf->bR
open Go.Value renaming agg->ar,bool->ai,int->J,pointer->ay,slice->ae,tuple->bo
open Int renaming lt_or_eq_of_le->alM,toNat_natCast->p3
open List.Pairwise renaming nil->Hj
open List.Perm renaming refl->Cc
open List renaming all_eq_true->Ce,drop_of_length_le->QX,eq_nil_of_length_eq_zero->j8,getElem?_eq_getElem->cF,getElem?_eq_some_iff->eM,getElem?_set_ne->Ls,getElem?_set_self->alX,length_append->db,map_append->fR,mem_cons->gD,mem_iff_getElem?->p6,mem_map->gQ,mem_of_getElem?->cW,not_mem_nil->fS,pairwise_iff_getElem->mv,range->dU,take_length->ll
open Nat renaming le_refl->b7,lt_succ_iff_lt_or_eq->vz,not_lt_zero->Ao,zero_le->cB
open Option renaming none->af,some->ab
namespace Go.Proofs.YtcmhplknoglbkaaGreat
open Go.RowKit Go.MapKept
def oc(l:List Int):Prop:=∀x∈l,0<=x/\x<256
def oc.drop{l}(h:oc l)n:oc (l.drop n):=λx hx=>h x (List.mem_of_mem_drop hx)
def oc.take{l}(h:oc l)n:oc (l.take n):=λx hx=>h x (List.mem_of_mem_take hx)
def xx(xs bV:List Int):Int:=VP (GD xs) (GD bV)
def asm(a aL)(c1 c2)(xs bV)w m(h1:bX w a xs)(b:bX w aL bV)(f:0<xs.length)(g:0<bV.length)(dX:oc xs)(dY:oc bV)(hc:xs.length<=c1)(j:xs.length<=1048576)(hs2:bV.length<=1048576)(c:w.cell? ⟨0,0,af⟩=ab (J R m)):
 aC ax 189 #[ae a xs.length c1,ae aL bV.length c2] w λe w'=>e=aB (J R (xx xs bV))/\au w w':=by
 obtain⟨g1,gr,rfl,k⟩:=h1 f;obtain⟨g2,d,rfl,l⟩:=b g;exact(Any.bytes_Index_at Tryz.as5 ⟨g1,gr,af⟩ ⟨g2,d,af⟩ xs.length c1 bV.length c2 xs bV m w aa aa dX dY (λi hi=>by grind[ah9]) (λi hi=>by grind[ah9]) hc ad ad c).mono λe w' ⟨h,q,cq⟩=>⟨h,cq▸av.drewN _ _⟩
def asf(xs bV):-1<=xx xs bV/\xx xs bV<=xs.length:=by
 refine⟨Lib.index_ge _ _,?_⟩;unfold xx;rw[<-Lib.bytesOf_length xs];generalize GD xs=l;generalize GD bV=s;induction l with
 |nil=>grind[VP]
 |cons b l a=>grind[VP]
def pv:List Int->List Int->Nat
 |x::xs,y::bV=>if x=y then pv xs bV+1 else 0
 |_,_=>0
def apO{b o:List Int}{n k}(h:n<b.length)(a:k<o.length):pv (b.drop n) (o.drop k)=if b[n]?.getD 0=o[k]?.getD 0 then pv (b.drop (n+1)) (o.drop (k+1))+1 else 0:=by grind[List.drop_eq_getElem_cons,pv]
def apM{b o:List Int}{n k}(h:b.length<=n):pv (b.drop n) (o.drop k)=0:=by grind[QX,pv]
def apN{b o:List Int}{n k}(h:o.length<=k):pv (b.drop n) (o.drop k)=0:=by grind[QX,pv]
def ou(old b:List Int)(blk:Nat):Int×Int:=
 if b.length<blk then(-1,0)else if xx old (b.take blk)<0 then(-1,0)else(xx old (b.take blk),((blk+pv (b.drop blk) (old.drop ((xx old (b.take blk)).toNat+blk)):Nat):Int))
def atw(de gY blk:Nat)(d aL)(c1 c2)(old b)Z w(hblk:1<=blk/\blk<=1048576)(hop:0<old.length)(gU:old.length<=1048576)(MB:b.length<=1048576)(hc2:old.length<=c2)(hc1:b.length<=c1)(Q:bX w d b)(hold:bX w aL old)(N:oc b)(O:oc old)(hb1:aX w de #[J R (blk:Int)] 3)(hb2:aX w gY #[ae aL old.length c2] 22)(P:w.cell? ⟨0,0,af⟩=ab (J R Z)):
 aC ax 188 #[ae d b.length c1,ay (ab ⟨de,0,af⟩),ay (ab ⟨gY,0,af⟩)] w λe w'=>e=aB (bo #[J R (ou old b blk).1,J R (ou old b blk).2])/\au w w':=by
 have F:=hid Q;have G:=hid hold;have f:=hid hb1;have j:=hid hb2;have cn:=hid P;obtain⟨hb0,AP⟩:=hblk;have P3:=hid N;have P4:=hid O;clear Q hold hb1 hb2 P N O;go_enter Tryz.func188,ntmps188;have a:=a8 w;go_step;refine ah ?_;refine eg ?_;by_cases hbl:b.length<blk;·have Sv:(blk:Int)>(b.length:Int):=ad;have c:=hid (show ou old b _=(-1,0)from if_pos hbl);refine ah ?_;refine jf f.out a.only ?_;refine a7 (ai ao) ?_;refine ag ?_;refine jf f a.only ?_;refine v2 ?_;refine a7 (ai az) ?_;refine pk (ai az) ?_;refine ah ?_;refine eg ?_;go_wp2_with fail;go_ret2;exact⟨by rw[c];rfl,a.only⟩
 .have Sv:¬(blk:Int)>(b.length:Int):=ad;refine ah ?_;refine jf f.out a.only ?_;refine a7 (ai ao) ?_;refine ag ?_;refine jf f a.only ?_;refine v2 ?_;refine a7 (ai ao) ?_;refine pk (ai ao) ?_;refine an ?_;have X:(b.take blk).length=blk:=aG
  have z:=hid (λW g=>by have h:=asm aL d c2 c1 _ (b.take blk) W Z (G.out.aH g) ((F.out.aH g).Gl ad) hop ad P4 (P3.out.take _) hc2 ad ad (HC g cn);rw[X]at h;exact h);clear X;have V:=asf old (b.take blk);have l:ou _ b _=if xx _ _<0 then(-1,0)else(xx old _,((blk+pv _ _:Nat):Int)):=if_neg hbl;obtain⟨q,T⟩:=ex (xx old (b.take blk));rw[T]at V z l;obtain⟨o1,oq⟩:=V;clear T;by_cases U:q<0;·rw[if_pos U]at l;have c:=hid l;clear l;refine cx ?_;refine bN a [4] (λi _=>match i with|4=>J R q|_=>a1) (λ_ _=>emp) (λ_=>[]) (λ_=>[]) (λ_=>[]) [4] (λm=>?_);refine aK (ae aL _ c2) (λ_ _ a=>fM aa aa (aX.aH j a.only) aa aw) ?_;refine aJ ?_;refine aK (J _ _) (λ_ _ a=>fM aa aa (aX.aH f a.only) aa aw) ?_;refine aK _ (λ_ _ _=>rF 22 5 1 _ _ aa dK aw d _ c1 blk aa aa ad) ?_;refine dA (λ_ _ a=>z _ a.only) ?_;refine aJ ?_;refine bQ λw1 a=>?_;replace a:=a.drop 0;refine b5 ?_;refine a7 (ai az) ?_;refine ah ?_;refine eg ?_;go_wp2_with fail;go_ret2;exact⟨by rw[c];rfl,a.only⟩
  .rw[if_neg U]at l;have c:=hid l;clear l;refine cx ?_;refine bN a [4] (λi _=>match i with|4=>J R q|_=>a1) (λ_ _=>emp) (λ_=>[]) (λ_=>[]) (λ_=>[]) [4] (λm=>?_);refine aK (ae aL _ c2) (λ_ _ a=>fM aa aa (aX.aH j a.only) aa aw) ?_;refine aJ ?_;refine aK (J _ _) (λ_ _ a=>fM aa aa (aX.aH f a.only) aa aw) ?_;refine aK _ (λ_ _ _=>rF 22 5 1 _ _ aa dK aw d _ c1 blk aa aa ad) ?_;refine dA (λ_ _ a=>z _ a.only) ?_;refine aJ ?_;refine bQ λaU a=>?_;replace a:=a.drop 0;obtain⟨q,rfl⟩:=Int.eq_ofNat_of_zero_le (show 0<=q by omega);refine b5 ?_;refine a7 (ai ao) ?_;refine ah ?_;refine jf f.out a.only ?_;refine bU ?_;rw[show((q:Int)).toNat+blk=q+blk from bc]at c;obtain⟨p,v,K,M⟩:=F (show 0<b.length by omega);obtain⟨r,uS,L,S⟩:=G hop;have D:=hid K;have E:=hid L;have akq:=hid M;have ak2:=hid S;clear K L M S;have H:=a;go_wp2_with fail;go_loopw [7] (λC wr=>∃n:Nat,blk<=n/\n<=b.length/\C=J R (n:Int)/\aE (blk+pv (b.drop blk) (old.drop (q+blk))=n+pv (b.drop n) (old.drop (q+n)))/\ak w (λ_=>False) wr []) (λC wr=>b.length -(bR C).toNat);case atStart=>exact⟨_,b7 _,ad,aa,hid aa,H⟩
   case round=>
    clear a H;obtain⟨n,oo,so,rfl,o,a⟩:=hrel;by_cases s:n<b.length
    .have hnz:(n:Int)<(b.length:Int):=ad;by_cases t:q+n<old.length
     .have uH:((q+n:Nat):Int)<(old.length:Int):=ad;have A:aE (∀W,au w W->W.cell? _=ab _):=hid (λW g=>HC g (akq n s));have B:aE (∀W,au w W->W.cell? _=ab _):=hid (λW g=>HC g (ak2 _ t));have hst:=apO (k:=_) s t;obtain⟨x,hx⟩:=ex (b[n]?.getD 0);obtain⟨y,Y⟩:=ex (old[q+n]?.getD 0);rw[hx]at hst A;rw[Y]at hst B;have I:=hid hst;clear hst hx Y;by_cases u:x=y
      .
       go_step;refine cx ?_;refine bN a [] (λ_ _=>a1) (λ_ _=>emp) (λ_=>[]) (λ_=>[]) (λ_=>[]) [] (λm=>?_);refine c5 ?_;refine aK (ai az) (λ_ _ _=>by(go_simp;try omega)) ?_;refine c5 ?_;refine aK _ (λ_ _ _=>mw 3 _ _ 3 aa _ _ ((q+n:Nat):Int) aa aa ad ad ad) ?_;refine aK (ae aL _ c2) (λ_ _ a=>fM aa aa (aX.aH j a.only) aa aw) ?_;refine aJ ?_;refine aK (ai az) (λ_ _ _=>by(go_simp;try omega)) ?_;refine fJ (ai az) ?_;refine c5 ?_;refine aK _ (λ_ _ _=>b4 22 5 1 _ _ aa dK aw p v _ c1 n ((v+n)) (by show ae d _ _=_;rw[D]) aa s ad) ?_;refine aK _ (λ_ _ a=>FM 5 _ aa p _ aa (A _ a.only) aw) ?_;refine aK (ae aL _ c2) (λ_ _ a=>fM aa aa (aX.aH j a.only) aa aw) ?_;refine bx ?_;refine aK _ (λ_ _ _=>mw 3 _ _ 3 aa _ _ ((q+n:Nat):Int) aa aa ad ad ad) ?_;refine aK _ (λ_ _ _=>b4 22 5 1 _ (bj 44) aa dK aw r uS _ c2 ((q+n)) ((uS+(q+n))) (by show ae aL _ _=_;rw[E]) aa t ad) ?_;refine aK _ (λ_ _ a=>FM 5 _ aa r _ aa (B _ a.only) aw) ?_;refine aK (ai az) (λ_ _ _=>by(go_simp;try exact u)) ?_;refine fJ (ai az) ?_;refine bQ λbI a=>?_;refine b5 ?_;refine pad (n:Int) 1 ((n+1:Nat):Int) ?_;refine bU ?_;go_wp2_with fail;go_roundw;case rel=>exact⟨n+1,ad,ad,aa,hid (by rw[o,I,if_pos u];show _=n+1+pv _ (old.drop (q+n+1));omega),a⟩
       case measure=>simp[bR]<;>omega
      .
       go_step;refine cx ?_;refine bN a [] (λ_ _=>a1) (λ_ _=>emp) (λ_=>[]) (λ_=>[]) (λ_=>[]) [] (λm=>?_);refine c5 ?_;refine aK (ai az) (λ_ _ _=>by(go_simp;try omega)) ?_;refine c5 ?_;refine aK _ (λ_ _ _=>mw 3 _ _ 3 aa _ _ ((q+n:Nat):Int) aa aa ad ad ad) ?_;refine aK (ae aL _ c2) (λ_ _ a=>fM aa aa (aX.aH j a.only) aa aw) ?_;refine aJ ?_;refine aK (ai az) (λ_ _ _=>by(go_simp;try omega)) ?_;refine fJ (ai az) ?_;refine c5 ?_;refine aK _ (λ_ _ _=>b4 22 5 1 _ _ aa dK aw p v _ c1 n ((v+n)) (by show ae d _ _=_;rw[D]) aa s ad) ?_;refine aK _ (λ_ _ a=>FM 5 _ aa p _ aa (A _ a.only) aw) ?_;refine aK (ae aL _ c2) (λ_ _ a=>fM aa aa (aX.aH j a.only) aa aw) ?_;refine bx ?_;refine aK _ (λ_ _ _=>mw 3 _ _ 3 aa _ _ ((q+n:Nat):Int) aa aa ad ad ad) ?_;refine aK _ (λ_ _ _=>b4 22 5 1 _ (bj 44) aa dK aw r uS _ c2 ((q+n)) ((uS+(q+n))) (by show ae aL _ _=_;rw[E]) aa t ad) ?_;refine aK _ (λ_ _ a=>FM 5 _ aa r _ aa (B _ a.only) aw) ?_;refine aK (ai ao) (λ_ _ _=>by(go_simp;try exact u)) ?_;refine fJ (ai ao) ?_;refine bQ λb9 a=>?_;refine ah ?_;refine v4 ?_;refine an ?_;go_wp2_with fail;go_ret2;exact⟨by rw[c,o,I,if_neg u];rfl,a.only⟩
     .have uH:¬((q+n:Nat):Int)<(old.length:Int):=ad;go_step;refine cx ?_;refine bN a [] (λ_ _=>a1) (λ_ _=>emp) (λ_=>[]) (λ_=>[]) (λ_=>[]) [] (λm=>?_);refine c5 ?_;refine aK (ai az) (λ_ _ _=>by(go_simp;try omega)) ?_;refine c5 ?_;refine aK _ (λ_ _ _=>mw 3 _ _ 3 aa _ _ ((q+n:Nat):Int) aa aa ad ad ad) ?_;refine aK (ae aL _ c2) (λ_ _ a=>fM aa aa (aX.aH j a.only) aa aw) ?_;refine aJ ?_;refine aK (ai ao) (λ_ _ _=>by(go_simp;try omega)) ?_;refine fJ (ai ao) ?_;refine aJ ?_;iterate 11 refine ds ?_
      refine fJ (ai ao) ?_;refine bQ λcE a=>?_;refine ah ?_;refine v4 ?_;refine an ?_;go_wp2_with fail;go_ret2;exact⟨by rw[c,o,apN (n:=n) (k:=_) ad];rfl,a.only⟩
    .have hnz:¬(n:Int)<(b.length:Int):=ad;go_step;refine cx ?_;refine bN a [] (λ_ _=>a1) (λ_ _=>emp) (λ_=>[]) (λ_=>[]) (λ_=>[]) [] (λm=>?_);refine c5 ?_;refine aK (ai ao) (λ_ _ _=>by(go_simp;try omega)) ?_;refine aJ ?_;iterate 6 refine ds ?_
     refine fJ (ai ao) ?_;refine aJ ?_;iterate 11 refine ds ?_
     refine fJ (ai ao) ?_;refine bQ λcV a=>?_;refine ah ?_;refine v4 ?_;refine an ?_;go_wp2_with fail;go_ret2;exact⟨by rw[c,o,apM (n:=n) (k:=_) ad];rfl,a.only⟩
def og(new:List Int)(ms:List bO)(fr p:Nat):List bO:=if fr<p then ms++[⟨2,(fr:Int),0,0,(new.drop fr).take (p -fr)⟩]else ms
def aau new ms(fr p):(og new ms fr p).length<=ms.length+1:=by grind[og]
def aat{new ms fr p}(h:∀m∈ms,m.data.length<=new.length):∀m∈og new ms fr p,m.data.length<=new.length:=by grind[og,List.mem_singleton]
def xE(old new:List Int)(blk:Nat):Nat->Nat->Nat->List bO->List bO
 |0,p,fr,ms=>og new ms fr p
 |k+1,p,fr,ms=>if p<new.length then(if(ou old (new.drop p) blk).1<0 then xE old new blk k (p+1) fr ms
  else xE old new blk k (p+(ou old (new.drop p) blk).2.toNat) (p+(ou old (new.drop p) blk).2.toNat) (og new ms fr p++[⟨1,(p:Int),(ou old (new.drop p) blk).1,(ou old (new.drop p) blk).2,[]⟩]))else og new ms fr p
theorem aam:∀(xs bV),pv xs bV<=xs.length
 |[],_=>by simp[pv]
 |x::xs,[]=>by simp[pv]
 |x::xs,y::bV=>by rw[pv];have:=aam xs bV;split<;>simp<;>omega
def atv{old b blk}(hb:1<=blk)(h:¬(ou old b blk).1<0):∃n:Nat,(ou old b blk).2=(n:Int)/\1<=n/\n<=b.length:=by
 unfold ou at h⊢;split at h;·omega
 .split at h;·omega
  .rename_i h1 a;rw[if_neg h1,if_neg a];refine⟨_,aa,ad,?_⟩;grind[aam]
def aax(v r t fr p n c c1:Nat)(A k)new l(aq w)FX F(S:fr<=p)(hpl:p<=new.length)(hc1:new.length<=c1)(U:new.length<=1048576)(T:n<=1048576)(B:(l.map (·.1)).length=n)(hn:∀W,av FX aq W->bX W k new)(f:ak aq FX w [aj v #[J R (fr:Int)] 3,aj r #[ae A n c] 24,bg A n c 73 5 (cL l),gK l,aj t #[ae k new.length c1] 22,F]):
 aC ax 99 #[J R (p:Int),ay (ab ⟨v,0,af⟩),ay (ab ⟨r,0,af⟩),ay (ab ⟨t,0,af⟩)] w λe w'=>e=aB (bo #[])/\∃o s l',l'.map (·.1)=og new (l.map (·.1)) fr p/\(l'.map (·.1)).length=(og new (l.map (·.1)) fr p).length/\ak aq FX w' [aj v #[J R (fr:Int)] 3,aj r #[ae o (og new (l.map (·.1)) fr p).length s] 24,bg o ((og new (l.map (·.1)) fr p).length) s 73 5 (cL l'),gK l',aj t #[ae k new.length c1] 22,F]:=by
 have E:=hid hn;have y:=hid B;clear hn B;by_cases Q:fr<p
 .have K:(p:Int)>(fr:Int):=ad;obtain⟨d,z⟩:=ex ((new.drop fr).take (p -fr));have P:d.length=p -fr:=aG;have G:=hid (λW g=>by have h:=(E W g).win (i:=fr) (q:=p) hc1 hpl;rwa [z]at h);have j:aE (og new (l.map (·.1)) fr p=l.map (·.1)++[⟨2,(fr:Int),0,0,d⟩]):=hid (by grind[og]);clear z;go_enter Tryz.func99,Tryz.ntmps99;go_step;refine ah ?_;refine ag ?_;refine pl f 0 0 ?_;refine a7 (ai az) ?_;refine cx ?_;refine bN f [6,7,8,9,10] (λi u=>match i with|6=>ae (ab ⟨u.b,0,af⟩) 1 1|7=>ar #[J R 2,J R (fr:Int),J R 0,J R 0,ae u.A d.length u.c]|8=>ae (ab ⟨u.b,0,af⟩) 1 1|9=>ae u.A (n+1) u.c|_=>a1) (λa=>λ|6=>aj ((a 6).b) #[ae (fm k c1 fr 1) d.length (c1 -fr)] 22|7=>cz ((a 7).A) ((a 7).c) d|8=>aj ((a 8).b) #[J R 2,J R (fr:Int),J R 0,J R 0,ae (a 7).A d.length (a 7).c] 73|9=>bg ((a 9).A) (n+1) ((a 9).c) 73 5 ((cL l)++(jD ⟨2,(fr:Int),0,0,d⟩ (a 7).A (a 7).c))|10=>aj r #[ae (a 9).A (n+1) (a 9).c] 24|_=>emp) (λ|9=>[2]|10=>[1]|_=>[]) (λ|0=>[1]|1=>[0]|2=>[4]|3=>[0]|7=>[12]|9=>[14]|_=>[]) (λ|6=>[6]|7=>[7]|8=>[7,8]|9=>[7,9]|10=>[9]|_=>[]) [0,3,4,5,12,13,14,15,16] (λa=>?_);refine dl 0 0 ?_;refine dl 0 0 ?_;refine dl 0 0 ?_;refine dl 0 0 ?_;refine aJ ?_;refine aK _ (λ_ _ _=>Bl 22 5 1 _ _ _ aa dK aw k _ c1 fr p d.length aa aa aa ad ad) ?_;refine kD _ 22 ?_;refine dh (λM Fr f=>(TJ _ _ _ _ d M ((f.aV 0).cell 0 aa) (G _ f.only) ad).mono ?_) ?_;·rintro e V ⟨o,s,rfl,L,g⟩;exact⟨{A:=o,c:=s},aa,f.lS g L⟩
  refine kD #[J _ 2,J R _,J R 0,J _ 0,ae (a 7).A _ (a 7).c] 73 ?_;refine rh (m:=1) 56 (λ_ _ f=>aX.cellsOf (m:=1) (f.aV 1) aa) (EL ⟨2,_,0,0,d⟩ _ _) ?_ (hby:=by omega);refine fY _ ?_;refine bQ λw1 f=>?_;generalize (a 6).b=N at f⊢;generalize (a 7).A=C at f⊢;generalize (a 7).c=H at f⊢;generalize (a 8).b=O at f⊢;generalize (a 9).A=D at f⊢;generalize (a 9).c=I at f⊢;have x:=f.pk [1,5,0,8,7,2,3];replace x:=ak.Mc (m:=⟨2,(fr:Int),0,0,d⟩) x;go_wp2_with fail;first|go_end0|refine bodyPost_ret (results_none rfl _ _ _) rfl ?_
  refine⟨aa,D,I,l++[(⟨2,_,0,0,d⟩,C,H)],by rw[j,fR];rfl,by rw[j];simp,?_⟩;rw[j,db,y,CD,ER];exact x.pick [1,2,3,0,4,5]
 .have K:¬(p:Int)>(fr:Int):=ad;have j:aE (og new (l.map (·.1)) fr p=l.map (·.1)):=hid (by grind[og]);go_enter Tryz.func99,Tryz.ntmps99;go_step;refine ah ?_;refine ag ?_;refine pl f 0 0 ?_;refine a7 (ai ao) ?_;refine an ?_;go_wp2_with fail;first|go_end0|refine bodyPost_ret (results_none rfl _ _ _) rfl ?_
  refine⟨aa,A,c,l,j.out.symm,by rw[j];simp,?_⟩;rw[j,y];exact f
def atx A(c n blk:Nat)w:
 aC ax 98 #[ae A c n,J R (blk:Int)] w λe w'=>∃de gY,e=aB (.func (.func 188) #[] #[ay (ab ⟨de,0,af⟩),ay (ab ⟨gY,0,af⟩)])/\ak w (λ_=>False) w' [aj de #[J R (blk:Int)] 3,aj gY #[ae A c n] 22]:=by
 go_enter func98,ntmps98;have a:=a8 w;go_step;refine ah ?_;refine bL a (ae A c n) (λb w1 a=>?_);refine bL a (J _ _) (λd f a=>?_);refine ag ?_;refine ah ?_;refine eg ?_;go_wp2_with fail;go_ret;exact⟨_,_,aa,(a.pick (l':=_) [0,1])⟩
def aoK{N ms}{m:bO}(h:∀x∈ms,x.data.length<=N)(a:m.data.length<=N):∀x∈ms++[m],x.data.length<=N:=aG
def atH{old new blk k p fr ms}(h:p<new.length)(hk:new.length -p<=k+1):xE old new blk (k+1) p fr ms=if(ou old (new.drop p) blk).1<0 then xE old new blk k (p+1) fr ms
 else xE old new blk k (p+(ou old (new.drop p) blk).2.toNat) (p+(ou old (new.drop p) blk).2.toNat) (og new ms fr p++[⟨1,(p:Int),(ou old (new.drop p) blk).1,(ou old (new.drop p) blk).2,[]⟩]):=by grind[xE]
def atG{old new blk k p fr ms}(h:¬p<new.length):xE old new blk k p fr ms=og new ms fr p:=by
 cases k with
 |zero=>rfl
 |succ k=>grind[xE]
def FR(old new:List Int)(blk:Nat):List bO:=xE old new blk new.length 0 0 []
def ats(d aL)(c1 c2 blk:Nat)(old new)qw w(hblk:1<=blk/\blk<=1048576)(hop:0<old.length)(gU:old.length<=1048576)(jG:new.length<=9)(hc2:old.length<=c2)(hc1:new.length<=c1)(k1:bX w d new)(hold:bX w aL old)(Ir:p7 w d)(qo:p7 w aL)(H9:oc new)(H':oc old)(X:w.cell? ⟨0,0,af⟩=ab (J R qw)):
 aC ax 44 #[ae aL old.length c2,ae d new.length c1,J R (blk:Int)] w λe w'=>∃aA aD t,e=aB (eN (old.length:Int) (new.length:Int) (oX old) (oX new) (ae aA (FR old new blk).length aD))/\cj w w' t/\ie t aA aD (FR old new blk):=by
 have V:=hid k1;have ff:=hid hold;have gw:=hid Ir;have r3:=hid qo;have cn:=hid X;have P3:=hid H9;have P4:=hid H';have aky:aE (∀args w,(callFunc 188 _).run _ w=.ok (.enter 188 args) w):=hid (λargs w=>enters_of Tryz.func188 aw aa _ w);have XI:aE (∀args w,(callFunc 99 _).run _ w=.ok (.enter 99 _) w):=hid (λargs w=>enters_of Tryz.func99 aw aa args w);clear k1 hold Ir qo X H9 H';go_enter func44,ntmps44;have a:=a8 w;go_step;refine ah ?_;refine bL a (ae d _ c1) (λo w1 a=>?_);refine bn a (a' 0 0 dq.zero dq.zero _) (λM aU a=>?_);refine an ?_;go_step;refine ah ?_;refine v2 ?_;refine aR (atx aL _ c2 blk _) ?_;rintro e bI ⟨OQ,OR,rfl,Qs⟩;replace a:=a.new _ (((Qs.fP 2)).fresh 0);refine aT ?_;refine ag ?_;refine an ?_;go_step;refine ah ?_;refine bn a #[ae _ 0 0] (λf b9 a=>?_);refine an ?_;go_step;refine ah ?_;refine bn a #[J _ 0] (λr cE a=>?_);refine bb a 0 (J _ 0) (λcV a=>?_);refine an ?_;go_step;refine ah ?_;refine v2 ?_;refine an ?_;go_step;refine ah ?_;refine ag ?_;refine an ?_;replace a:=a.new (bg af 0 0 73 5 []) ⟨av.refl _ _,Row.nil _ _ _ _,λb ⟨_,_,e⟩=>aG⟩;replace a:=a.Md;have bK:ak w (λ_=>False) _ [aj r #[J R (((0:Nat):Int):Int)] 3,aj f #[ae af (([]:List (bO×Option Addr×Nat)).map (·.1)).length 0] 24,bg af ((([]:List (bO×Option Addr×Nat)).map (·.1)).length) 0 73 5 (cL ([]:List _)),gK _,aj o #[ae d new.length c1] 22,bY [aj OQ _ 3,aj OR _ 22],aj M _ 26]:=a.pick [2,3,1,0,6,4,5];go_wp2_with fail;go_loopw [11] (λaQ wr=>∃(p fr Q:Nat) (A:Option Addr) (c:Nat) (l:List (bO×Option Addr×Nat)),fr<=p/\p<=new.length/\new.length -p<=Q/\(l.map (·.1)).length<=2*p/\aQ=J R (p:Int)/\aE (xE old new blk Q p fr (l.map (·.1))=FR old new blk)/\aE (∀m∈l.map (·.1),m.data.length<=new.length)/\ak w (λ_=>False) wr [aj r #[J R (fr:Int)] 3,aj f #[ae A (l.map (·.1)).length c] 24,bg A ((l.map (·.1)).length) c 73 5 (cL l),gK l,aj o #[ae d new.length c1] 22,bY [aj OQ #[J R (blk:Int)] 3,aj OR #[ae aL old.length c2] 22],aj M (a' 0 0 dq.zero dq.zero (ae af 0 0)) 26]) (λaQ wr=>new.length -(bR aQ).toNat);case atStart=>exact⟨0,0,_,_,0,[],b7 _,cB _,ad,bc,aa,hid aa,hid (λ_ h=>(fS h).elim),bK⟩
 case round=>
  clear a bK;obtain⟨p,fr,Q,A,c,l,MJ,Fu,AV,c9,rfl,cb,U,a⟩:=hrel;obtain⟨ms,eR⟩:=ex (l.map (·.1));rw[eR]at c9 cb U a;obtain⟨n,hn⟩:=ex ms.length;rw[hn]at c9 a;have D:=hid eR;have O:=hid hn;clear eR hn;by_cases hlt:p<new.length
  .have cf:(p:Int)<(new.length:Int):=ad;obtain⟨Z,rfl⟩:∃Z,Q=Z+1:=⟨Q -1,ad⟩;have hstep:=atH (old:=old) (blk:=blk) (fr:=fr) (ms:=ms) hlt AV;rw[cb]at hstep;obtain⟨uu,hX⟩:=ex ((new.drop p).length);have aBI:p+uu=new.length:=aG;have Qp:=hid (λW g dX dY=>atw OQ OR blk (fm d c1 p 1) aL (c1 -p) c2 old (new.drop p) qw W hblk hop gU ad hc2 ad ((V.out.aH g).By hc1) (ff.out.aH g) (P3.out.drop p) P4 dX dY (HC g cn));have Y:=λh=>atv (old:=old) (b:=new.drop p) (blk:=_) hblk.1 h;obtain⟨q,hq⟩:=ex ((ou old (new.drop p) blk).1);obtain⟨z,hz⟩:=ex ((ou old (new.drop p) blk).2);rw[hq,hz]at hstep Qp;rw[hq,hz]at Y;rw[hX]at Qp Y;clear hq hz hX;go_step;refine ah ?_;refine ag ?_;refine pl a 4 0 ?_;refine v2 ?_;refine an ?_;go_step;refine ah ?_;refine ag ?_;refine pl a 4 0 ?_;refine ag ?_;refine aI _ (xS 22 5 1 _ _ aa dK aw d _ c1 p uu aa aa ad ad) ?_;have acz:=a.at 5;refine aR (Qp.out _ a.only acz.1 acz.2.1.1) ?_ (hr:=by(first|(go_simp;done)|(go_simp;exact aky.out _ _)));rintro e dJ ⟨rfl,g⟩;replace a:=a.aH g;refine aT ?_;refine v5 ?_;refine an ?_;by_cases T:q<0
   .rw[if_pos T]at hstep;have ei:=hid hstep;clear hstep;go_step;refine ah ?_;refine ag ?_;refine aI (ai az) (by(go_simp;try exact T)) ?_;refine an ?_;go_step;refine ah ?_;refine ag ?_;refine pad _ 1 ((p+1:Nat):Int) ?_;refine ag ?_;refine an ?_;go_wp2_with fail;go_roundw;case rel=>exact⟨p+1,fr,Z,A,c,l,ad,ad,ad,by rw[D,O];omega,aa,hid (by rw[D,<-ei]),hid (by rw[D];exact U),by rw[D,O];exact a.pick [0,1,2,3,4,5,6]⟩
    case measure=>simp[bR]<;>omega
   .rw[if_neg T]at hstep;obtain⟨s,rfl,hz1,hz2⟩:=Y T;rw[show((s:Int)).toNat=s from aa]at hstep;have ei:=hid hstep;clear hstep Y;go_step;refine ah ?_;refine ag ?_;refine aI (ai ao) (by(go_simp;try exact T)) ?_;refine an ?_;go_step;refine ah ?_;refine v2 ?_;have S:=ak.tail [aj r _ 3,aj f _ 24,bg A n c 73 5 (cL l),gK l,aj o _ 22] [bY _,aj M _ 26] (a.pick [0,1,2,3,4,5,6]);refine aR (aax r f o fr p n c c1 A d new l w _ (λ_=>False) _ ad ad hc1 ad ad (by rw[D,O]) (λW g=>V.out.aH g) S) ?_ (hr:=by(first|(go_simp;done)|(go_simp;exact XI.out _ _)));rintro e dB ⟨rfl,L,P,j,y,B,a⟩;clear S;rw[D]at y B a;obtain⟨m4,I⟩:=ex (og new ms fr p);have H:=aau new ms fr p;have G:=aat (fr:=fr) (p:=p) U;have Qo:=hid I;rw[I]at y B a H G;rw[O]at H;obtain⟨E,K⟩:=ex m4.length;rw[K]at B a H;have F:=hid K;have N:=hid y;have P7:=hid G;clear I K y B G;replace a:ak _ _ _ [aj r _ 3,aj f _ 24,bg L E P 73 5 (cL j),gK j,aj o _ 22,bY _,aj M _ 26]:=ak.iB [aj r _ 3,aj f _ 24,bg L E P 73 5 (cL j),gK j,aj o _ 22] _ a;refine aT ?_;refine an ?_;go_step;refine cx ?_;refine bN a [4,5,6,7] (λi u=>match i with|4=>ar #[J R 1,J R (p:Int),J R q,J R (s:Int),ae af 0 0]|5=>ae (ab ⟨u.b,0,af⟩) 1 1|6=>ae u.A (E+1) u.c|_=>a1) (λC=>λ|5=>aj ((C 5).b) #[J R 1,J R (p:Int),J R q,J R (s:Int),ae af 0 0] 73|6=>bg ((C 6).A) (E+1) ((C 6).c) 73 5 ((cL j)++(jD ⟨1,(p:Int),q,(s:Int),[]⟩ af 0))|7=>aj f #[ae (C 6).A (E+1) (C 6).c] 24|_=>emp) (λ|6=>[2]|7=>[1]|_=>[]) (λ|0=>[1]|6=>[12]|_=>[]) (λ|5=>[5]|6=>[6]|7=>[6]|_=>[]) [0,3,4,5,6,11,12,13,14] (λC=>?_);refine dl 0 0 ?_;refine c5 ?_;refine dh (λwl Fr a=>(ZC (p:Int) q _ _).mono ?_) ?_;·rintro e dr ⟨rfl,g⟩;exact⟨{},aa,(a.aH g).dM⟩
    refine kD _ 73 ?_;refine rh (m:=1) 56 (λ_ _ a=>aX.cellsOf (m:=1) (a.aV 1) aa) (EL ⟨1,_,q,_,[]⟩ _ 0) ?_ (hby:=by omega);refine fY _ ?_;refine bQ λeZ a=>?_;generalize (C 5).b=azv at a⊢;generalize (C 6).A=ayZ at a⊢;generalize (C 6).c=aAl at a⊢;replace a:=a.drop 5;replace a:=a.pk [1,0,2,3,4,5,6,7];replace a:=ak.ao1 (m:=⟨1,(p:Int),q,(s:Int),[]⟩) aa a;go_step;refine ah ?_;refine v2 ?_;refine pad _ _ ((p+s:Nat):Int) ?_;refine ag ?_;refine an ?_;go_step;refine ah ?_;refine ag ?_;refine bb a 1 (J _ ((p+s:Nat):Int)) (λgV a=>?_);refine an ?_;go_wp2_with fail;go_roundw;case rel=>exact⟨p+s,p+s,Z,_,_,j++[(⟨1,_,q,_,[]⟩,af,0)],ad,ad,ad,by rw[fR,N,db,F];simp;omega,aa,hid (by rw[fR,N,ei,Qo];rfl),hid (by rw[fR,N];exact aoK P7 (cB _)),by rw[fR,N.out,db,F.out,CD,ER];exact a.pick [1,7,6,0,2,3,4]⟩
    case measure=>grind[bR]
  .have cf:¬(p:Int)<(new.length:Int):=ad;have hend:=atG (old:=old) (blk:=blk) (k:=Q) (fr:=fr) (ms:=ms) hlt;rw[cb]at hend;have akz:=hid hend;clear hend;go_step;refine ah ?_;refine ag ?_;refine pl a 4 0 ?_;refine v2 ?_;refine an ?_;go_step;refine ah ?_;refine v2 ?_;have S:=ak.tail [aj r #[J R (fr:Int)] 3,aj f #[ae A n c] 24,bg A n c 73 5 (cL l),gK l,aj o #[ae d new.length c1] 22] [bY _,aj M (a' 0 0 dq.zero dq.zero (ae af 0 0)) 26] (a.pick [0,1,2,3,4,5,6]);refine aR (aax r f o fr p n c c1 A d new l w _ (λ_=>False) _ ad ad hc1 ad ad (by rw[D,O]) (λW g=>V.out.aH g) S) ?_ (hr:=by(first|(go_simp;done)|(go_simp;exact XI.out _ _)));rintro e hZ ⟨rfl,L,P,j,y,B,a⟩;clear S;rw[D]at y B a;obtain⟨m4,I⟩:=ex (og new ms fr p);have H:=aau new ms fr p;have G:=aat (fr:=fr) (p:=p) U;have Qo:=hid I;rw[I]at y B a H G;rw[O]at H;obtain⟨E,K⟩:=ex m4.length;rw[K]at B a H;have F:=hid K;have N:=hid y;have P7:=hid G;clear I K y B G;replace a:ak _ _ _ [aj r _ 3,aj f _ 24,bg L E P 73 5 (cL j),gK j,aj o _ 22,bY _,aj M _ 26]:=ak.iB [aj r _ 3,aj f _ 24,bg L E P 73 5 (cL j),gK j,aj o _ 22] _ a;refine aT ?_;refine an ?_;have pA:m4=FR old new blk:=by rw[<-Qo,akz]
   subst pA;go_step;refine ah ?_;refine ag ?_;refine pl a 4 0 ?_;refine pl a 1 0 ?_;refine aR ((by have h:=aoR c2 c1 aL d L P old new (FR old new blk) _ gU ad (ff.out.aH a.only) (r3.out.aH a.only) (V.out.aH a.only) (gw.out.aH a.only) (agh (a.atR 2) N.out F.out.symm (λx hx=>(a.at 3 aa x hx).cmd)) (by rw[F];omega) (λm X=>Nat.le_trans (P7.out m X) ad);rw[F.out]at h;exact h)) ?_;rintro e jQ ⟨hT,gS,bG,rfl,hF,kO⟩;replace a:=a.new _ hF;refine aT ?_;refine bb a 7 (ar _) (λke a=>?_) (hk:=by show 0+gB (a' _ _ _ _ _)<=_;simp only[bD];decide) (hz:=by show _=ab (gB (a' _ _ _ _ _));rw[bD];rfl) (h1:=(sf aa)) (hc:=xy);refine an ?_;go_wp2_with fail;refine c8 (v:=_) (gH aa _ _ _ _ _ _ _ aa (a.aV 7) Tryz.underlying26 aa (by rw[bD];rfl)) aa (⟨hT,gS,by rw[F],bG,a.fresh 0,kO⟩)
def uT:List Int:=[97,98,99,100,101,102]
def lz:List Int:=[100,101,102,120,97,98,99]
def o4:List bO:=[⟨1,0,3,3,[]⟩,⟨2,3,0,0,[120]⟩,⟨1,4,0,3,[]⟩]
def Cr:List bO:=[⟨1,4,0,3,[]⟩,⟨2,0,0,0,[100,101,102]⟩,⟨2,3,0,0,[120]⟩]
def N5:List bO:=[⟨2,0,0,0,[100,101,102]⟩,⟨2,3,0,0,[120]⟩]
def Av:List jS:=[((0,3),0),((3,1),1),((4,3),2)]
def sS:List (Int×Int):=[(0,1),(0,2),(2,0)]
def atr:FR uT lz 3=o4:=aw
theorem VH:ti o4 Av=sS:=aw
theorem ad5:kb o4 3=[1]:=aw
def aff:Be uT o4=lz:=aw
def agp{a:Type}{pre L}{x:a}(h:pre++[x]<+:L):L[pre.length]?=ab x/\L.take pre.length=pre:=by obtain⟨t,rfl⟩:=h;simp
def axR(L:List (Nat×Int×Int)):Bool:=(dU L.length).all λj=>match L[j]? with
 |some x=>decide (x.2.1=iI (L.take j))&&decide (0<=iI (L.take j))&&decide (0<=x.2.2)&&decide (iI (L.take j)+x.2.2<=4611686018427387903)
 |none=>ao
def agI{n:Nat}{ms}(h:axR (jv ms)=az)(a:iI (jv ms)=(n:Int)):LD n ms:=⟨λpre x c=>by obtain⟨b,d⟩:=agp c;have e:=Ce.1 h _ (List.mem_range.2 (eM.1 b).1);grind,a⟩
def aya:r6 6 7 o4:=⟨aS,aS,λm a=>by simp only[o4,gD,fS,or_false]at a;rcases a with rfl|rfl|rfl<;>simp[j3,gJ,w2,eX,cD],agI aw aw,aS⟩
def ax9:r6 6 7 Cr:=⟨aS,aS,λm a=>by simp only[Cr,gD,fS,or_false]at a;rcases a with rfl|rfl|rfl<;>simp[j3,gJ,w2,eX,cD],agI aw aw,aS⟩
def aaG:j4 Av:=⟨by simp[Av],λx hx=>by grind[Av,eX]⟩
theorem Uc{E v x}(h:G.Path E v x):∃y,(v,y)∈E:=by
 induction h with
 |one h=>grind
 |more _ _ a=>omega
def aow:G.kP sS [] [0,2]:=⟨bc,λx=>by
 rw[G.HJ];constructor
 .intro h;simp at h;rcases h with rfl|rfl;·exact .more (.one (x:=2) (by simp[sS])) (by simp[sS])
  .exact .more (.one (x:=0) (by simp[sS])) (by simp[sS])
 grind[Uc,sS]⟩
def aox:G.kP sS [0] []:=⟨Hj,λx=>by grind[G.cut,sS,Uc]⟩
theorem anG:G.wV sS [3,0,3] [1] [0] []:=⟨.snoc (v:=0) .nil aow aw,aox,aa⟩
theorem auu:G.oH sS 3 [1,0] [2]:=by
 have rd:∀v out,G.Ar sS 3 [1,0] out v->v=2:=λv out h=>by obtain⟨h1,a,_⟩:=h;simp at a;omega
 refine⟨.snoc (out:=[]) (v:=2) .nil ⟨⟨aS,bc,bc,λu b=>?_⟩,λu b=>aG⟩,λv hv=>?_⟩;·grind[sS]
 .have h1:=rd v _ hv;subst h1;exact hv.2.2.1 bc
def an2:Gy o4:=⟨aS,av1 (l:=o4.map cm) (S:=Av) ba aaG,λm a hk=>by grind[o4,eX]⟩
def an6:Conv o4 Av [0] [2]:=⟨an2,ba,aaG,by grind[o4,ad5,VH,anG],by grind[o4,ad5,VH,auu],aw,aS⟩
def aos:BH uT o4 Av [0] [2] N5:=⟨an6,λx hx=>⟨2,aG,aS⟩,aS,λm a hk=>by
 simp only[o4,gD,fS,or_false]at a;rcases a with rfl|rfl|rfl;·exact⟨3,3,aa,aa,aS⟩
 .grind
 .exact⟨0,3,aa,aa,aS⟩,⟨ba,by simp[N5]⟩⟩
def Hv:fu o4 [2]++N5=Cr:=aw
def DR:wv:=⟨2,6,7,oX uT,oX lz,Cr⟩
def CG:dF:=mI 64 (gq 64 2 7+0) uT
def aoH:dt CG:=NC aS aS aS aS
def agy:dO 2 Cr=[⟨1,4,0,2,[]⟩,⟨1,6,2,1,[]⟩,⟨2,0,0,0,[100,101]⟩,⟨2,2,0,0,[102]⟩,⟨2,3,0,0,[120]⟩]:=aw
def anY:nW DR CG:=⟨aoH,aS,aS,ax9,aS,by show(dO 2 Cr).length<=_;rw[agy];decide,λbl b=>by
 have a:bl∈dO 2 Cr:=b;rw[agy]at a;simp at a;rcases a with rfl|rfl|rfl|rfl|rfl;·exact⟨4,aa,aS⟩
 .exact⟨6,aa,aS⟩
 .exact⟨0,aa,aS⟩
 .exact⟨2,aa,aS⟩
 .exact⟨3,aa,aS⟩⟩
def afy:Bool:=match fB DR ([(4,1)]++[(-1,0)]) CG with
 |(l,d)=>decide (l.length=2)&&ri l&&decide (d.bytes.take 7=lz)&&decide (1<=d.size)&&decide (1<=d.cnt)&&decide (d.bytes.length=d.cnt*d.size)&&decide (d.cnt*d.size<=1048576)&&d.cache.isEmpty&&decide (d.writes=-1)
def avN:afy=true:=aw
section
section
variable {lt:Nat->Nat->Bool} {key:Nat->Int}
def swap_perm{L:List Nat}{j}(a:j+1<L.length):((L.set (j+1) (L[j]?.getD 0)).set j (L[j+1]?.getD 0)).Perm L:=aG
def age:∀(j) L,j<L.length->(sink lt j L).Perm L
 |0,_,_=>Cc _
 |j+1,L,a=>by
  unfold sink;split;·exact(age j _ (by simp;omega)).trans (swap_perm a)
  .exact Cc _
def adA L:∀i,i<=L.length->(lv lt L i).Perm L
 |0,_=>Cc _
 |i+1,h=>(age i _ (by grind[FG])).trans (adA L i ad)
def kF(key:Nat->Int)(L:List Nat)(a:Nat):Int:=key (L[a]?.getD 0)
def agf(hlt:∀x y,lt x y=decide (key x<key y)):∀(j) L,j<L.length->(∀a b,a<b->b<j->kF key L a<=kF key L b)->
 (∀a b,a<b->b<j+1->kF key (sink lt j L) a<=kF key (sink lt j L) b)/\(∀b,j<b->(sink lt j L)[b]?=L[b]?)/\∀f,(∀a,a<=j->kF key L a<=f)->∀a,a<=j->kF key (sink lt j L) a<=f
 |0,L,_,_=>⟨λa b h1 v=>ad,λb _=>rfl,λf h=>h⟩
 |j+1,L,s,i=>by
  unfold sink;rw[hlt];by_cases h:key (L[j+1]?.getD 0)<key (L[j]?.getD 0)
  .rw[if_pos (decide_eq_true h)];obtain⟨c,g⟩:∃z,(L.set (j+1) (L[j]?.getD 0)).set j (L[j+1]?.getD 0)=z:=⟨_,aa⟩
   have bF:∀a,a<j->c[a]?=L[a]?:=λa e=>by rw[<-g,Ls ad,Ls ad]
   have cq:c[j]?=ab (L[j+1]?.getD 0):=by rw[<-g,alX (by simp;omega)]
   have q:c[j+1]?=ab (L[j]?.getD 0):=by rw[<-g,Ls ad,alX s]
   have r:∀a,j+1<a->c[a]?=L[a]?:=λa e=>by rw[<-g,Ls ad,Ls ad]
   have k:∀a,a<j->kF key c a=kF _ L a:=λa e=>by unfold kF;rw[bF a e]
   have m:kF key c j=kF key L (j+1):=by unfold kF;rw[cq];rfl
   have t:kF key c (j+1)=kF key L j:=by unfold kF;rw[q];rfl
   have hlen:c.length=L.length:=by rw[<-g];simp
   rw[g];obtain⟨u,o,p⟩:=agf hlt j c ad (λa b hab hb=>by rw[k a ad,k b ad];exact i a b hab ad);have n:kF key (sink lt j c) (j+1)=kF key L j:=by rw[<-t];unfold kF;rw[o (j+1) ad]
   have hx:kF _ L _<kF _ L j:=h
   have hb:∀a,a<=j->kF _ c a<=kF key L j:=λa e=>by
    by_cases d:a=j;·rw[d,m];omega
    .rw[k a ad];exact i a j ad ad
   refine⟨λa b hab hb2=>?_,λb hb2=>by rw[o b ad,r b ad],λf l a e=>?_⟩
   .by_cases d:b=j+1;·rw[d,n];exact p _ hb a ad
    .exact u a b hab ad
   .by_cases d:a=j+1;·rw[d,n];exact l j ad
    .refine p f (λa e=>?_) a ad;by_cases d:a=j;·rw[d,m];exact l _ ad
     .rw[k a ad];exact l a ad
  .rw[if_neg (by simpa using h)];refine⟨λa b hab hb=>?_,λb _=>rfl,λf h=>h⟩;have hx:kF _ L j<=kF _ L _:=Int.not_lt.1 h;by_cases d:b=j+1
   .subst d;by_cases e:a=j;·rw[e];exact hx
    .exact Int.le_trans (i a j ad ad) hx
   .exact i a b hab ad
def adB(hlt:∀x y,lt x y=decide (key x<key y))L:∀i,i<=L.length->∀a b,a<b->b<i->kF key (lv lt L i) a<=kF key (lv lt L i) b
 |0,_=>λa b _ h=>by omega
 |i+1,h=>(agf hlt i _ (by grind[FG]) (adB hlt L i ad)).1
end
def aeP ms:(mf ms).Perm (dU ms.length):=adA _ _ bc
theorem aeQ ms:(mf ms).Pairwise (λi j=>nR ms i<=nR ms j):=by rw[mv];intro i j hi b a;have c:=NN ms;have h:=adB (lt:=λx y=>decide (qd (nR ms x) (nR ms y)<0)) (key:=nR ms) (λx y=>by grind[qd]) (dU ms.length) ms.length bc i j a ad;grind[kF,mf]
end
structure Lays (n:Nat) (T:List (Int×Int)):Prop where
 pos:∀x∈T,0<=x.1/\0<x.2/\x.1+x.2<=(n:Int)
 apart:T.Pairwise (λx y=>x.1+x.2<=y.1\/y.1+y.2<=x.1)
 zero:0<n->∃z∈T,z.1<=0/\0<z.1+z.2
 next:∀x∈T,x.1+x.2<(n:Int)->∃z∈T,z.1<=x.1+x.2/\x.1+x.2<z.1+z.2
def Lays.perm{n T a}(h:Lays n T)(p:T.Perm a):Lays n a:=
 ⟨λx hx=>h.pos x (p.mem_iff.2 hx),(p.pairwise_iff (λh=>h.symm)).1 h.apart,λhn=>by
   obtain⟨z,hz,h1⟩:=h.zero hn;exact⟨z,p.mem_iff.1 hz,h1⟩,λx hx b=>by
   obtain⟨z,hz,h1⟩:=h.next x (p.mem_iff.2 hx) b;exact⟨z,p.mem_iff.1 hz,h1⟩⟩
def EV{L:List (Nat×Int×Int)}{k x}(h:L[k]?=ab x):iI (L.take (k+1))=iI (L.take k)+x.2.2:=by grind[List.take_add_one,Z6]
def Oe ms:((jv ms).map (λx=>(x.2.1,x.2.2))).Perm (ms.map cm):=by unfold jv;rw[List.map_map];refine((aeP ms).map _).trans (List.Perm.of_eq ?_);refine List.ext_getElem? λi=>?_;grind[nR,TK,cm]
def JB ms:(jv ms).Pairwise (λx y=>x.2.1<=y.2.1):=by grind[jv,aeQ]
def I4{n}{L:List (Nat×Int×Int)}(h:Lays n (L.map (λx=>(x.2.1,x.2.2))))(o:L.Pairwise (λx y=>x.2.1<=y.2.1)):∀k,k<=L.length->
 (∀j x,j<k->L[j]?=ab x->x.2.1=iI (L.take j)/\x.2.1+x.2.2<=iI (L.take k))/\0<=iI (L.take k)/\iI (L.take k)<=(n:Int)
 |0,_=>⟨λj x b=>ad,by simp[iI],by simp[iI]⟩
 |k+1,hk=>by
  obtain⟨h1,v,w⟩:=I4 h o k ad;obtain⟨x,hx⟩:∃x,L[k]?=ab x:=⟨_,cF ad⟩;have l:∀(j:Nat) y,L[j]?=ab y->(y.2.1,y.2.2)∈L.map (λx=>(x.2.1,x.2.2)):=λj y c=>gQ.2 ⟨y,cW c,aa⟩
  have u:∀(i j:Nat) (y z),i<j->L[i]?=ab y->L[j]?=ab z->y.2.1<=z.2.1/\(y.2.1+y.2.2<=z.2.1\/z.2.1+z.2.2<=y.2.1):=λi j y z m c hz=>by obtain⟨hi,rfl⟩:=eM.1 c;obtain⟨b,rfl⟩:=eM.1 hz;exact⟨mv.1 o i j hi b m,mv.1 (List.pairwise_map.1 h.apart) i j hi b m⟩
  have t:=h.pos _ (l k x hx);simp only at t
  have r:iI (L.take k)<(n:Int)->∃z∈L,z.2.1<=iI (L.take k)/\iI (L.take k)<z.2.1+z.2.2:=λhlt=>by
   cases k with
   |zero=>
    have q:iI (L.take 0)=0:=ba;rw[q]at hlt⊢;obtain⟨z,hz,d⟩:=h.zero ad;grind
   |succ k=>
    obtain⟨p,a⟩:∃p,L[k]?=ab p:=⟨_,cF ad⟩;have d:=(h1 k p ad a).1;have e:=EV a;have f:=h.next _ (l k p a);simp only at f;rw[e,<-d]at hlt⊢;obtain⟨z,hz,g⟩:=f hlt;obtain⟨y,c,rfl⟩:=gQ.1 hz;exact⟨y,c,g⟩
  have s:iI (L.take k)<=x.2.1:=by
   cases k with
   |zero=>grind[iI]
   |succ k=>
    obtain⟨p,a⟩:∃p,L[k]?=ab p:=⟨_,cF ad⟩;have d:=(h1 k p ad a).1;have e:=EV a;have f:=u k _ p x ad a hx;have g:=h.pos _ (l k p a);simp only at g;omega
  have B:x.2.1=iI (L.take k):=by
   rcases alM s with hlt|A;·exfalso;obtain⟨z,hz,d,e⟩:=r ad;obtain⟨j,b⟩:=p6.1 hz;grind
   .omega
  have hes:=EV hx;refine⟨λj y b c=>?_,ad,ad⟩;rcases vz.1 b with hlt|rfl;·grind
  .grind
def adW{n L}(h:Lays n (L.map (λx=>(x.2.1,x.2.2))))(g:L.Pairwise (λx y=>x.2.1<=y.2.1)):iI L=(n:Int):=by
 obtain⟨h1,d,b⟩:=I4 h g L.length (b7 _);rw[ll]at h1 d b;rcases alM b with hlt|k
 .exfalso;have hend:∀z∈L,z.2.1+z.2.2<=iI L:=λz hz=>by grind[p6]
  by_cases c:L.length=0;·obtain rfl:=List.length_eq_zero_iff.1 c;obtain⟨z,hz,_⟩:=h.zero ad;simp at hz
  .obtain⟨p,a⟩:∃p,L[L.length -1]?=ab p:=⟨_,cF ad⟩;have j:=(h1 _ p ad a).1;have e:=EV a;rw[show L.length -1+1=L.length by omega,ll]at e;obtain⟨z,hz,f⟩:=h.next (p.2.1,p.2.2) (gQ.2 ⟨p,cW a,aa⟩) ad;obtain⟨y,i,rfl⟩:=gQ.1 hz;have:=hend y i;simp only at f;omega
 .omega
def agH{n ms}(h:Lays n (ms.map cm))(hn:(n:Int)<=4611686018427387903):LD n ms:=by have cd:=h.perm (Oe ms).symm;refine⟨λpre x g=>?_,adW cd (JB ms)⟩;obtain⟨h1,c⟩:=agp g;have hk:=(eM.1 h1).1;obtain⟨d,i,j⟩:=I4 cd (JB ms) (pre.length+1) hk;obtain⟨_,b,_⟩:=I4 cd (JB ms) pre.length ad;have a:=(d _ x ad h1).1;have e:=EV h1;have f:=cd.pos _ (gQ.2 ⟨x,cW h1,aa⟩);simp only at f;rw[c]at a b e;exact⟨a,b,ad,ad⟩
def axC{P i}{a:Act}{w x f e d A n c bs}(l:List UInt8)(s:bs.take n=l.map (λb=>(b.toNat:Int)))(hn:n=l.length)(t:0<l.length)(ho:i.op=.convert f d x)(hx:a.eval x=ae A n c)(hb:bX w A bs)(r:P.underlying f=ab (.slice e))(p:P.underlying e=ab (.int dR))(m:P.underlying d=ab .string):
 (execOp a.eval i).run P w=.ok (.value (.string ⟨l.toArray⟩)) w:=by
 subst hn;have hlen:l.length<=bs.length:=by grind[List.length_map]
 obtain⟨b,o,rfl,hc⟩:=hb ad
 have h:=run_convert_bytes_back (P:=P) w f d e _ c l r p m (λj q=>by rw[mW];have k:=hc j ad;rw[k];have g:(bs.take l.length)[j]?=ab ((l[j].toNat:Int)):=aG;rw[List.getElem?_take,if_pos q]at g;rw[g];rfl);unfold execOp;simp[ho,hx,h]
def awG G w(E:w.cell? ⟨0,0,af⟩=ab (J R G)):
 aC ax 9 #[] w λe w'=>e=aB (ai az)/\au w w':=by
 have T:=hid E
 have S:aE (∀W f aL,au w W->bX W f lz->bX W aL uT->p7 W f->p7 W aL->aC _ 44 #[ae aL 6 6,ae f 7 7,J R 3] W λe w'=>∃B C t,e=aB (eN 6 7 _ _ (ae B 3 C))/\cj W w' t/\ie t B C o4):=hid (λW f aL g h1 p r s=>by have q:=ats f aL 7 6 3 _ _ G W ⟨aS,aS⟩ aS aS aS aS aS h1 p r s (by unfold oc;decide) (by unfold oc;decide) (g.cell T (λh=>h));rw[atr]at q;exact q);obtain⟨X,l,hat⟩:∃a b,fB DR ([(4,1)]++[(-1,0)]) CG=(a,b):=⟨_,_,aa⟩;have hres:=avN;unfold afy at hres;rw[hat]at hres;simp at hres;obtain⟨⟨⟨⟨⟨⟨⟨⟨H,I⟩,y⟩,K⟩,L⟩,M⟩,N⟩,z⟩,O⟩:=hres;have F:dt l:=⟨K,L,M,N,λx hx=>by rw[z]at hx;exact absurd hx fS,by rw[z];exact cB _,by rw[O];unfold cN;decide⟩;have D:7<=l.bytes.length:=by have h:=congrArg List.length y;rw[List.length_take]at h;have Mn:lz.length=7:=rfl;omega
 have U:aE (∀W i A j c,bX W i uT->p7 W i->cZ W A o4->Cells W 2 j 1 [J R 4,J .u64 1]->p7 W j->aC ax 43 #[ae i 6 6,eN 6 7 (oX uT) (oX lz) (ae A 3 c),J R 64,J R 2,ae j 1 1] W λe w'=>∃f c1 aL c2 pk,e=aB _/\cj W w' (cz f c1 l.bytes)):=hid (λW i A j c h1 p r s Z=>by have q:=avQ i A j 6 c 1 7 64 2 _ (oX lz) uT o4 Av [0] [2] N5 [(4,1)] W aS aS h1 p r aya aS aa (by rw[aff];rfl) (by rw[aff];decide) aos ⟨aS,aS⟩ aS (by rw[Hv];exact anY) (by rw[Hv];show dt (fB DR ([(4,1)]++[(-1,0)]) CG).2;rw[hat];exact F) (by rw[Hv];show ri (fB DR ([(4,1)]++[(-1,0)]) CG).1=az;rw[hat];exact I) (by rw[Hv];show 7<=(fB DR ([(4,1)]++[(-1,0)]) CG).2.bytes.length;rw[hat];exact D) s Z ⟨aS,aS⟩ (λk hk=>by(have e:k=(4,1):=(by simpa using hk));(rw[e]);(unfold cN);decide);rw[Hv]at q;refine q.mono λe w' hq=>?_;obtain⟨f,c1,aL,c2,pk,_,n,v⟩:=hq;have Y:fB (⟨2,uT.length,7,_,_,_⟩:wv) _ (mI 64 (gq 64 2 (max uT.length 7)+0) _)=(X,l):=hat;rw[Y]at n v;simp only at n v;rw[H]at n;exact⟨f,c1,aL,c2,pk,n,v⟩);have Q:=hid y;clear E hat H I y K L M N z O F D;go_enter func9,ntmps9;have d:=a8 w;go_step;refine ah ?_;refine ag ?_;refine an ?_;go_step;refine ah ?_;refine e' d #[J dR 97,J dR 98,J dR 99,J dR 100,J dR 101,J dR 102] 5 (λBF w1 d=>?_);refine Dy d 0 (F0 uT aa aa (d.aV 0) aa dK mr) (λaU d=>?_);refine ag ?_;refine an ?_;go_step;refine ah ?_;iterate 2 refine ag ?_
 refine e' d #[J dR 100,J dR 101,J dR 102,J dR 120,J dR 97,J dR 98,J dR 99] 5 (λaze bI d=>?_);refine Dy d 0 (F0 lz aa aa (d.aV 0) aa dK mr) (λb9 d=>?_);refine aR (S _ _ _ d.only (d.at 0) (d.at 1) (λb hb=>((d.has 0).2 b hb)) (λb hb=>((d.has 1).2 b hb))) ?_;rintro e cE ⟨P,dz,bG,rfl,u,V⟩;replace d:=d.new _ u;refine aT ?_;refine aI (ar #[J R 4,J .u64 1]) (by(show _=_;kernel_rfl)) ?_;refine e' d #[J R 4,J .u64 1] 105 (λazg cV d=>?_);refine aR (U _ _ P _ dz (d.at 3) (λb hb=>((d.has 3).2 b hb)) (V.xR (d.at 1)) (aX.cellsOf (m:=1) (d.aV 0) aa) (λb hb=>by obtain⟨o,sp,e⟩:=hb;cases e;exact(d.has 0).2 _ aa)) ?_;rintro e dJ ⟨f,c1,aL,c2,pk,rfl,u⟩;replace d:=d.new _ u;refine aT ?_;iterate 4 refine ag ?_
 refine bn d #[ae _ 0 0,ai _,J _ 0] (λcg dB d=>?_);refine bn d #[J _ 0,J _ 0] (λdv eZ d=>?_);refine ag ?_;refine bb d 1 (ar _) (λgV d=>?_);refine bb d 0 (ar _) (λhZ d=>?_);refine an ?_;go_step;refine ah ?_;refine bh d 0 #[J R 0,J R 0] ?_;refine aI (ar #[J R 0,J R 0]) (by(show _=_;kernel_rfl)) ?_;refine aI (ai az) (by(show _=_;kernel_rfl)) ?_;iterate 2 refine ag ?_
 refine aI _ (axC (bs:=l.bytes) ([100,101,102,120,97,98,99]:List UInt8) (Q.out.trans aa) aa aS aa aa (d.jW 2).1 dK mr Tryz.underlying9) ?_;refine aI (ai az) (by(show _=_;kernel_rfl)) ?_;iterate 3 refine ag ?_
 refine pl d 1 0 ?_;refine ag ?_;refine aI (ai az) (by(show _=_;kernel_rfl)) ?_;iterate 2 refine ag ?_
 refine an ?_;go_wp2_with fail;go_ret;exact⟨aa,d.only⟩
section
attribute [local irreducible] wpList cM
def Js m A c w:
 aC ax 155 #[nC m A c] w λe w'=>e=aB (J R (cD m))/\au w w':=by
 unfold cD;by_cases hk:m.k=1;·have b:=hid hk;rw[if_pos hk];clear hk;go_enter Tryz.func155,Tryz.ntmps155;have a:=a8 w;go_step;refine ah ?_;refine bL (cs:=#[J _ _,J _ _,J _ _,J _ _,ae A _ c]) a _ (λd w1 a=>?_);refine cA ?_;refine pl a 0 0 ?_;refine dp b (ai az) ?_;refine b5 ?_;refine pl a 0 3 ?_;refine bU ?_;go_wp2_with fail;go_ret;exact⟨aa,a.only⟩
 .have b:=hid hk;rw[if_neg hk];clear hk;go_enter Tryz.func155,Tryz.ntmps155;have a:=a8 w;go_step;refine ah ?_;refine bL (cs:=#[J _ _,J _ _,J _ _,J _ _,ae A _ c]) a _ (λd f a=>?_);refine cA ?_;refine pl a 0 0 ?_;refine dp b (ai ao) ?_;refine b5 ?_;refine pl a 0 4 ?_;refine eg ?_;go_wp2_with fail;go_ret;exact⟨aa,a.only⟩
def Jv m A c w:
 aC ax 171 #[nC m A c] w λe w'=>e=aB (ar #[J R m.to,J R (cD m)])/\au w w':=by
 obtain⟨z,hz⟩:=ex (cD m);have d:aE (∀W,aC _ _ #[ar _] W λe w'=>e=aB (J _ z)/\au W w'):=hid (λW=>by rw[<-hz];exact Js m A c W);rw[hz];clear hz;go_enter func171,ntmps171;have a:=a8 w;go_step;refine ah ?_;refine bL (cs:=#[J _ _,J _ _,J _ _,J _ _,ae A _ c]) a _ (λg w1 a=>?_);refine bn a #[J _ 0,J _ 0] (λb j a=>?_);refine cx ?_;refine bN a [3,5] (λi _=>match i with|3=>J R z|_=>a1) (λ_=>λ|5=>aj b #[J R m.to,J R z] 35|_=>emp) (λ|5=>[0]|_=>[]) (λ|1=>[1]|2=>[1]|_=>[]) (λ_=>[]) [1,5,7] (λh=>?_);refine aJ ?_;refine dl 0 1 ?_;refine eO 0 #[J R m.k,J R m.to,J R m.fr,J R m.n,ae A m.data.length c] ?_;refine dA (λf _ _=>d f) ?_;refine aJ ?_;refine fY _ ?_;refine bQ λl a=>?_;replace a:=a.drop 1;go_wp2_with fail;refine c8 (v:=_) (gH aa _ _ _ _ _ _ _ aa (a.aV 1) yg aa aw) aa (⟨aa,a.only⟩)
def awk m A c w:
 aC ax 170 #[nC m A c] w λe w'=>e=aB (ar #[J R m.fr,J R m.n])/\au w w':=by
 go_enter func170,ntmps170;have a:=a8 w;go_step;refine ah ?_;refine bL (cs:=#[J _ _,J _ _,J _ _,J _ _,ae A _ c]) a _ (λb w1 a=>?_);refine bn a #[J _ 0,J _ 0] (λd f a=>?_);refine b5 ?_;refine pl a 1 2 ?_;refine ag ?_;refine pl a 1 3 ?_;refine ag ?_;refine bb a 0 (ar _) (λg a=>?_);refine an ?_;go_wp2_with fail;refine c8 (v:=_) (gH aa _ _ _ _ _ _ _ aa (a.aV 0) yg aa aw) aa (⟨aa,a.only⟩)
def uk(m:bO):Int:=if m.k≠1/\m.k≠2 then 11 else if cD m=0 then 7 else if lC (cm m)=ao then 2 else if m.k=1/\(0<m.data.length\/lC (src m)=ao)then 2 else if m.k=2/\(m.fr≠0\/m.n≠0)then 2 else 0
structure pF (m:bO):Prop where
 k:cN m.k
 Gh:cN m.to
 fr:cN m.fr
 n:cN m.n
 d:m.data.length<=9223372036854775807
def pF.len{m}(h:pF m):cN (cD m):=by
 unfold cD;split;·exact h.n
 .have:=h.d;unfold cN;omega
theorem RG{m}(h:uk m=0):gJ m:=by
 unfold uk at h;by_cases h1:m.k≠1/\m.k≠2;·omega
 .rw[if_neg h1]at h;by_cases a:cD m=0;·omega
  .rw[if_neg a]at h;cases h3:lC (cm m)with
   |false=>grind
   |true=>
    rw[h3,if_neg aS]at h;have c:=Gk.1 h3;by_cases b:m.k=1/\(0<m.data.length\/lC (src m)=ao);·grind
    .rw[if_neg b]at h;by_cases d:m.k=2/\(m.fr≠0\/m.n≠0);·omega
     .unfold gJ w2;by_cases hk:m.k=1;·grind[cD,lC,src,cm,Gk]
      grind[cD,cm]
set_option maxHeartbeats 4000000 in
def afq m A c w(ho:pF m):
 aC ax 186 #[nC m A c] w λe w'=>e=aB (J R (uk m))/\au w w':=by
 obtain⟨z,hz⟩:=ex (cD m);have f:aE (∀W,aC _ _ #[ar _] W λe w'=>e=aB (J _ z)/\au W w'):=hid (λW=>by rw[<-hz];exact Js m A c W);have j:aE (∀W,aC _ _ #[ar _] W λe w'=>e=aB (ar #[J _ _,J _ z])/\au W w'):=hid (λW=>by rw[<-hz];exact Jv m A c W);have C:aE (∀W,aC _ _ #[ar _] W λe w'=>e=aB _/\au W w'):=hid (λW=>awk m A c W);obtain⟨dX,hb1⟩:=ex (lC (cm m));obtain⟨dY,hb2⟩:=ex (lC (src m));have l:=hid (λW=>by have q:=N8 _ z W ho.Gh (hz▸ho.len);rw[show lC (m.to,z)=dX from by rw[<-hb1,cm,hz]]at q;exact q);have D:=hid (λW=>by have q:=N8 _ _ W ho.fr ho.n;rw[show lC (m.fr,m.n)=dY from hb2]at q;exact q);unfold uk;rw[hz,hb1,hb2];clear hz hb1 hb2 ho;have bF:((1:Int)!=1)=false:=rfl;clear bF;by_cases s:m.k≠1/\m.k≠2;·rw[if_pos s];have E:=hid s.1;have F:=hid s.2;clear s;go_enter wC,wE;have a:=a8 w;go_step;refine ah ?_;refine bL (cs:=#[J _ _,J _ _,J _ _,J _ _,ae A _ c]) a _ (λd w1 a=>?_);refine ag ?_;refine an ?_;go_step;refine ah ?_;refine ag ?_;refine pl a 0 0 ?_;refine dp E (ai az) ?_;refine v2 ?_;refine pl a 0 0 ?_;refine dp F (ai az) ?_;refine ag ?_;refine an ?_;go_step;refine ah ?_;refine ag ?_;refine an ?_;go_wp2_with fail;go_ret;exact⟨aa,a.only⟩
 .rw[if_neg s];have p:m.k=1\/m.k=2:=ad;clear s;by_cases h1:z=0
  .subst h1;rw[if_pos aa];rcases p with hk|hk
   .have b:=hid hk;clear hk;go_enter wC,wE;have a:=a8 w;go_step;refine ah ?_;refine bL (cs:=#[J _ _,J _ _,J _ _,J _ _,ae A _ c]) a _ (λd S a=>?_);refine ag ?_;refine an ?_;go_step;refine ah ?_;refine ag ?_;refine pl a 0 0 ?_;refine dp b (ai ao) ?_;refine ag ?_;iterate 3 refine ps ?_
    refine ag ?_;refine an ?_;go_step;refine ah ?_;refine bh a 0 #[J R m.k,J R m.to,J R m.fr,J R m.n,ae A m.data.length c] ?_;refine aR (f _) ?_;rintro e bI ⟨rfl,g⟩;replace a:=a.aH g;refine aT ?_;refine pk (ai az) ?_;refine an ?_;go_step;refine ah ?_;refine ag ?_;refine an ?_;go_wp2_with fail;go_ret;exact⟨aa,a.only⟩
   .have b:=hid hk;clear hk;go_enter wC,wE;have a:=a8 w;go_step;refine ah ?_;refine bL (cs:=#[J _ _,J _ _,J _ _,J _ _,ae A _ c]) a _ (λd b9 a=>?_);refine ag ?_;refine an ?_;go_step;refine ah ?_;refine ag ?_;refine pl a 0 0 ?_;refine dp b (ai az) ?_;refine v2 ?_;refine pl a 0 0 ?_;refine dp b (ai ao) ?_;refine ag ?_;refine an ?_;go_step;refine ah ?_;refine bh a 0 #[J R m.k,J R m.to,J R m.fr,J R m.n,ae A m.data.length c] ?_;refine aR (f _) ?_;rintro e cE ⟨rfl,g⟩;replace a:=a.aH g;refine aT ?_;refine pk (ai az) ?_;refine an ?_;go_step;refine ah ?_;refine ag ?_;refine an ?_;go_wp2_with fail;go_ret;exact⟨aa,a.only⟩
  .have o:=hid h1;rw[if_neg h1];clear h1;cases dX with
   |false=>
    rw[if_pos aa];rcases p with hk|hk
    .have b:=hid hk;clear hk;go_enter wC,wE;have a:=a8 w;go_step;refine ah ?_;refine bL (cs:=#[J _ _,J _ _,J _ _,J _ _,ae A _ c]) a _ (λd cV a=>?_);refine ag ?_;refine an ?_;go_step;refine ah ?_;refine ag ?_;refine pl a 0 0 ?_;refine dp b (ai ao) ?_;refine ag ?_;iterate 3 refine ps ?_
     refine ag ?_;refine an ?_;go_step;refine ah ?_;refine bh a 0 #[J R m.k,J R m.to,J R m.fr,J R m.n,ae A m.data.length c] ?_;refine aR (f _) ?_;rintro e dJ ⟨rfl,g⟩;replace a:=a.aH g;refine aT ?_;refine dp o (ai ao) ?_;refine an ?_;go_step;refine ah ?_;refine bh a 0 #[J R m.k,J R m.to,J R m.fr,J R m.n,ae A m.data.length c] ?_;refine aR (j _) ?_;rintro e dB ⟨rfl,g⟩;replace a:=a.aH g;refine aT ?_;refine aR (l _) ?_;rintro e eZ ⟨rfl,g⟩;replace a:=a.aH g;refine aT ?_;refine pk (ai az) ?_;refine an ?_;go_step;refine ah ?_;refine ag ?_;refine an ?_;go_wp2_with fail;go_ret;exact⟨aa,a.only⟩
    .have b:=hid hk;clear hk;go_enter wC,wE;have a:=a8 w;go_step;refine ah ?_;refine bL (cs:=#[J _ _,J _ _,J _ _,J _ _,ae A _ c]) a _ (λd G a=>?_);refine ag ?_;refine an ?_;go_step;refine ah ?_;refine ag ?_;refine pl a 0 0 ?_;refine dp b (ai az) ?_;refine v2 ?_;refine pl a 0 0 ?_;refine dp b (ai ao) ?_;refine ag ?_;refine an ?_;go_step;refine ah ?_;refine bh a 0 #[J R m.k,J R m.to,J R m.fr,J R m.n,ae A m.data.length c] ?_;refine aR (f _) ?_;rintro e H ⟨rfl,g⟩;replace a:=a.aH g;refine aT ?_;refine dp o (ai ao) ?_;refine an ?_;go_step;refine ah ?_;refine bh a 0 #[J R m.k,J R m.to,J R m.fr,J R m.n,ae A m.data.length c] ?_;refine aR (j _) ?_;rintro e I ⟨rfl,g⟩;replace a:=a.aH g;refine aT ?_;refine aR (l _) ?_;rintro e K ⟨rfl,g⟩;replace a:=a.aH g;refine aT ?_;refine pk (ai az) ?_;refine an ?_;go_step;refine ah ?_;refine ag ?_;refine an ?_;go_wp2_with fail;go_ret;exact⟨aa,a.only⟩
   |true=>
    rw[if_neg aS];by_cases i:m.k=1
    .have b:=hid i;have hk2:¬m.k=2:=ad;by_cases v:0<m.data.length
     .rw[if_pos ⟨i,.inl v⟩];have u:((m.data.length:Int)>0):=ad;have x:=hid u;clear p i hk2 v u;go_enter wC,wE;have a:=a8 w;go_step;refine ah ?_;refine bL (cs:=#[J _ _,J _ _,J _ _,J _ _,ae A _ c]) a _ (λd L a=>?_);refine ag ?_;refine an ?_;go_step;refine ah ?_;refine ag ?_;refine pl a 0 0 ?_;refine dp b (ai ao) ?_;refine ag ?_;iterate 3 refine ps ?_
      refine ag ?_;refine an ?_;go_step;refine ah ?_;refine bh a 0 #[J R m.k,J R m.to,J R m.fr,J R m.n,ae A m.data.length c] ?_;refine aR (f _) ?_;rintro e M ⟨rfl,g⟩;replace a:=a.aH g;refine aT ?_;refine dp o (ai ao) ?_;refine an ?_;go_step;refine ah ?_;refine bh a 0 #[J R m.k,J R m.to,J R m.fr,J R m.n,ae A m.data.length c] ?_;refine aR (j _) ?_;rintro e N ⟨rfl,g⟩;replace a:=a.aH g;refine aT ?_;refine aR (l _) ?_;rintro e O ⟨rfl,g⟩;replace a:=a.aH g;refine aT ?_;refine pk (ai ao) ?_;refine an ?_;go_step;refine ah ?_;refine ag ?_;refine pl a 0 0 ?_;refine dp b (ai az) ?_;refine v2 ?_;refine pl a 0 4 ?_;refine ag ?_;refine aI (ai az) (by(have h:=x.out;go_simp;try omega)) ?_;refine ag ?_;iterate 4 refine ps ?_
      refine v2 ?_;refine an ?_;go_step;refine ah ?_;refine ag ?_;refine an ?_;go_wp2_with fail;go_ret;exact⟨aa,a.only⟩
     .have u:¬((m.data.length:Int)>0):=ad;have x:=hid u;cases dY with
      |false=>
       rw[if_pos ⟨i,.inr aa⟩];clear p i hk2 v u;go_enter wC,wE;have a:=a8 w;go_step;refine ah ?_;refine bL (cs:=#[J _ _,J _ _,J _ _,J _ _,ae A _ c]) a _ (λd P a=>?_);refine ag ?_;refine an ?_;go_step;refine ah ?_;refine ag ?_;refine pl a 0 0 ?_;refine dp b (ai ao) ?_;refine ag ?_;iterate 3 refine ps ?_
       refine ag ?_;refine an ?_;go_step;refine ah ?_;refine bh a 0 #[J R m.k,J R m.to,J R m.fr,J R m.n,ae A m.data.length c] ?_;refine aR (f _) ?_;rintro e Q ⟨rfl,g⟩;replace a:=a.aH g;refine aT ?_;refine dp o (ai ao) ?_;refine an ?_;go_step;refine ah ?_;refine bh a 0 #[J R m.k,J R m.to,J R m.fr,J R m.n,ae A m.data.length c] ?_;refine aR (j _) ?_;rintro e T ⟨rfl,g⟩;replace a:=a.aH g;refine aT ?_;refine aR (l _) ?_;rintro e U ⟨rfl,g⟩;replace a:=a.aH g;refine aT ?_;refine pk (ai ao) ?_;refine an ?_;go_step;refine ah ?_;refine ag ?_;refine pl a 0 0 ?_;refine dp b (ai az) ?_;refine v2 ?_;refine pl a 0 4 ?_;refine ag ?_;refine aI (ai ao) (by(have h:=x.out;go_simp;exact j8 ad)) ?_;refine ag ?_;refine bh a 0 #[J R m.k,J R m.to,J R m.fr,J R m.n,ae A m.data.length c] ?_;refine aR (C _) ?_;rintro e V ⟨rfl,g⟩;replace a:=a.aH g;refine aT ?_;refine aR (D _) ?_;rintro e X ⟨rfl,g⟩;replace a:=a.aH g;refine aT ?_;refine pk (ai az) ?_;refine v2 ?_;refine an ?_;go_step;refine ah ?_;refine ag ?_;refine an ?_;go_wp2_with fail;go_ret;exact⟨aa,a.only⟩
      |true=>
       rw[if_neg (λh=>h.2.elim v (by intro h;cases h)),if_neg (λh=>hk2 h.1)];clear p i hk2 v u;go_enter wC,wE;have a:=a8 w;go_step;refine ah ?_;refine bL (cs:=#[J _ _,J _ _,J _ _,J _ _,ae A _ c]) a _ (λd Y a=>?_);refine ag ?_;refine an ?_;go_step;refine ah ?_;refine ag ?_;refine pl a 0 0 ?_;refine dp b (ai ao) ?_;refine ag ?_;iterate 3 refine ps ?_
       refine ag ?_;refine an ?_;go_step;refine ah ?_;refine bh a 0 #[J R m.k,J R m.to,J R m.fr,J R m.n,ae A m.data.length c] ?_;refine aR (f _) ?_;rintro e Z ⟨rfl,g⟩;replace a:=a.aH g;refine aT ?_;refine dp o (ai ao) ?_;refine an ?_;go_step;refine ah ?_;refine bh a 0 #[J R m.k,J R m.to,J R m.fr,J R m.n,ae A m.data.length c] ?_;refine aR (j _) ?_;rintro e U1 ⟨rfl,g⟩;replace a:=a.aH g;refine aT ?_;refine aR (l _) ?_;rintro e U2 ⟨rfl,g⟩;replace a:=a.aH g;refine aT ?_;refine pk (ai ao) ?_;refine an ?_;go_step;refine ah ?_;refine ag ?_;refine pl a 0 0 ?_;refine dp b (ai az) ?_;refine v2 ?_;refine pl a 0 4 ?_;refine ag ?_;refine aI (ai ao) (by(have h:=x.out;go_simp;exact j8 ad)) ?_;refine ag ?_;refine bh a 0 #[J R m.k,J R m.to,J R m.fr,J R m.n,ae A m.data.length c] ?_;refine aR (C _) ?_;rintro e U3 ⟨rfl,g⟩;replace a:=a.aH g;refine aT ?_;refine aR (D _) ?_;rintro e agY ⟨rfl,g⟩;replace a:=a.aH g;refine aT ?_;refine pk (ai ao) ?_;refine v2 ?_;refine an ?_;go_step;refine ah ?_;refine ag ?_;refine pl a 0 0 ?_;refine dp b (ai ao) ?_;refine pk (ai ao) ?_;iterate 8 refine ps ?_
       refine pk (ai ao) ?_;refine an ?_;go_step;refine ah ?_;refine ag ?_;refine an ?_;go_wp2_with fail;go_ret;exact⟨aa,a.only⟩
    .have hk2:m.k=2:=ad;have b:=hid hk2;rw[if_neg (λh=>i h.1)];by_cases r:m.fr=0
     .have y:=hid r;by_cases t:m.n=0
      .rw[if_neg (λh=>h.2.elim (λh=>h r) (λh=>h t))];have B:=hid t;clear p i hk2 r t;go_enter wC,wE;have a:=a8 w;go_step;refine ah ?_;refine bL (cs:=#[J _ _,J _ _,J _ _,J _ _,ae A _ c]) a _ (λd ayh a=>?_);refine ag ?_;refine an ?_;go_step;refine ah ?_;refine ag ?_;refine pl a 0 0 ?_;refine dp b (ai az) ?_;refine v2 ?_;refine pl a 0 0 ?_;refine dp b (ai ao) ?_;refine ag ?_;refine an ?_;go_step;refine ah ?_;refine bh a 0 #[J R m.k,J R m.to,J R m.fr,J R m.n,ae A m.data.length c] ?_;refine aR (f _) ?_;rintro e ayi ⟨rfl,g⟩;replace a:=a.aH g;refine aT ?_;refine dp o (ai ao) ?_;refine an ?_;go_step;refine ah ?_;refine bh a 0 #[J R m.k,J R m.to,J R m.fr,J R m.n,ae A m.data.length c] ?_;refine aR (j _) ?_;rintro e ayj ⟨rfl,g⟩;replace a:=a.aH g;refine aT ?_;refine aR (l _) ?_;rintro e ayk ⟨rfl,g⟩;replace a:=a.aH g;refine aT ?_;refine pk (ai ao) ?_;refine an ?_;go_step;refine ah ?_;refine ag ?_;refine pl a 0 0 ?_;refine dp b (ai ao) ?_;refine pk (ai ao) ?_;iterate 10 refine ps ?_
       refine pk (ai ao) ?_;refine an ?_;go_step;refine ah ?_;refine ag ?_;refine pl a 0 0 ?_;refine dp b (ai az) ?_;refine v2 ?_;refine pl a 0 2 ?_;refine dp y (ai ao) ?_;refine v2 ?_;refine pl a 0 3 ?_;refine dp B (ai ao) ?_;refine v2 ?_;refine an ?_;go_step;refine ah ?_;refine ag ?_;refine an ?_;go_wp2_with fail;go_ret;exact⟨aa,a.only⟩
      .rw[if_pos ⟨hk2,.inr t⟩];have B:=hid t;clear p i hk2 r t;go_enter wC,wE;have a:=a8 w;go_step;refine ah ?_;refine bL (cs:=#[J _ _,J _ _,J _ _,J _ _,ae A _ c]) a _ (λd ayl a=>?_);refine ag ?_;refine an ?_;go_step;refine ah ?_;refine ag ?_;refine pl a 0 0 ?_;refine dp b (ai az) ?_;refine v2 ?_;refine pl a 0 0 ?_;refine dp b (ai ao) ?_;refine ag ?_;refine an ?_;go_step;refine ah ?_;refine bh a 0 #[J R m.k,J R m.to,J R m.fr,J R m.n,ae A m.data.length c] ?_;refine aR (f _) ?_;rintro e aym ⟨rfl,g⟩;replace a:=a.aH g;refine aT ?_;refine dp o (ai ao) ?_;refine an ?_;go_step;refine ah ?_;refine bh a 0 #[J R m.k,J R m.to,J R m.fr,J R m.n,ae A m.data.length c] ?_;refine aR (j _) ?_;rintro e ayn ⟨rfl,g⟩;replace a:=a.aH g;refine aT ?_;refine aR (l _) ?_;rintro e ayo ⟨rfl,g⟩;replace a:=a.aH g;refine aT ?_;refine pk (ai ao) ?_;refine an ?_;go_step;refine ah ?_;refine ag ?_;refine pl a 0 0 ?_;refine dp b (ai ao) ?_;refine pk (ai ao) ?_;iterate 10 refine ps ?_
       refine pk (ai ao) ?_;refine an ?_;go_step;refine ah ?_;refine ag ?_;refine pl a 0 0 ?_;refine dp b (ai az) ?_;refine v2 ?_;refine pl a 0 2 ?_;refine dp y (ai ao) ?_;refine v2 ?_;refine pl a 0 3 ?_;refine dp B (ai az) ?_;refine v2 ?_;refine an ?_;go_step;refine ah ?_;refine ag ?_;refine an ?_;go_wp2_with fail;go_ret;exact⟨aa,a.only⟩
     .have y:=hid r;rw[if_pos ⟨hk2,.inl r⟩];clear p i hk2 r;go_enter wC,wE;have a:=a8 w;go_step;refine ah ?_;refine bL (cs:=#[J _ _,J _ _,J _ _,J _ _,ae A _ c]) a _ (λd ayp a=>?_);refine ag ?_;refine an ?_;go_step;refine ah ?_;refine ag ?_;refine pl a 0 0 ?_;refine dp b (ai az) ?_;refine v2 ?_;refine pl a 0 0 ?_;refine dp b (ai ao) ?_;refine ag ?_;refine an ?_;go_step;refine ah ?_;refine bh a 0 #[J R m.k,J R m.to,J R m.fr,J R m.n,ae A m.data.length c] ?_;refine aR (f _) ?_;rintro e aCh ⟨rfl,g⟩;replace a:=a.aH g;refine aT ?_;refine dp o (ai ao) ?_;refine an ?_;go_step;refine ah ?_;refine bh a 0 #[J R m.k,J R m.to,J R m.fr,J R m.n,ae A m.data.length c] ?_;refine aR (j _) ?_;rintro e aCi ⟨rfl,g⟩;replace a:=a.aH g;refine aT ?_;refine aR (l _) ?_;rintro e aCj ⟨rfl,g⟩;replace a:=a.aH g;refine aT ?_;refine pk (ai ao) ?_;refine an ?_;go_step;refine ah ?_;refine ag ?_;refine pl a 0 0 ?_;refine dp b (ai ao) ?_;refine pk (ai ao) ?_;iterate 10 refine ps ?_
      refine pk (ai ao) ?_;refine an ?_;go_step;refine ah ?_;refine ag ?_;refine pl a 0 0 ?_;refine dp b (ai az) ?_;refine v2 ?_;refine pl a 0 2 ?_;refine dp y (ai az) ?_;refine ag ?_;iterate 3 refine ps ?_
      refine v2 ?_;refine an ?_;go_step;refine ah ?_;refine ag ?_;refine an ?_;go_wp2_with fail;go_ret;exact⟨aa,a.only⟩
end
section
attribute [local irreducible] wpList cM
def hasB(m:bO)(off:Int):Bool:=decide (m.to<=off/\off<m.to+cD m)
def tl(ms:List bO)(off:Int):Int:=match ms.findIdx? (λm=>hasB m off)with|some i=>(i:Int)|none=>-1
def zF(o n:Int)(m:bO):Int:=if uk m≠0 then uk m else if m.k=1/\m.fr+m.n>o then 5 else if m.to+cD m>n then 6 else 0
def avZ m b c off w(hv:eX (cm m)):
 aC ax 165 #[nC m b c,J R off] w λe w'=>e=aB (ai (hasB m off))/\au w w':=by
 obtain⟨r,hr⟩:=ex (hasB m off);have d:=hid (λW=>abt _ _ _ W hv r hr);have f:=hid (λW=>Jv m b c W);rw[hr];clear hr hv;obtain⟨z,hz⟩:=ex (cD m);rw[hz]at d f;clear hz;go_enter func165,ntmps165;have a:=a8 w;go_step;refine ah ?_;refine bL (cs:=#[J _ _,J _ _,J _ _,J _ _,ae b _ c]) a _ (λg w1 a=>?_);refine ed ?_;refine bh a 0 #[J R m.k,J R m.to,J R m.fr,J R m.n,ae b m.data.length c] ?_;refine bH (f _) a (λh a=>?_);refine ag ?_;refine bH (d _) a (λi a=>?_);refine bU ?_;go_wp2_with fail;go_ret;exact⟨aa,a.only⟩
def afE(o n)(g1 g2)A c ms off w(v:cZ w A ms)(N:ms.length<=1048576)(hv:∀m∈ms,eX (cm m)):
 aC ax 77 #[eN o n g1 g2 (ae A ms.length c),J R off] w λe w'=>e=aB (J R (tl ms off))/\au w w':=by
 have F:=hid v;have G:=hid hv;clear v hv;go_enter func77,ntmps77;have a:=a8 w;go_step;refine ah ?_;refine bL a (ar _) (λB w1 a=>?_);refine ag ?_;refine ah ?_;refine ag ?_;refine an ?_;have p:=a.pk [0];go_wp2_with fail;go_loopw [5] (λk wr=>∃j:Nat,j<=ms.length/\k=J R (j:Int)/\aE (∀(i:Nat) (x:bO),i<j->ms[i]?=ab x->hasB x off=ao)/\ak w (λ_=>False) wr [aj B (a' o n g1 g2 (ae A ms.length c)) 26]) (λk wr=>ms.length -(c' k).toNat);case atStart=>exact⟨0,cB _,aa,hid (λi x h=>absurd h (Ao _)),p⟩
 case round=>
  clear a p;obtain⟨j,M,rfl,b,a⟩:=hrel;by_cases hlt:j<ms.length
  .have I:(j:Int)<(ms.length:Int):=ad;obtain⟨m,f⟩:∃m,ms[j]?=ab m:=⟨_,cF hlt⟩;obtain⟨q,K,z,H,s,t,u⟩:=cZ.jt F f;have C:=hid s;have L:=hid t;have D:=hid u;have d:=hid f;clear s t u f;obtain⟨r,hr⟩:=ex (hasB m off);have l:=hid hr;have E:aE (∀W,aC _ _ #[ar _,J _ _] W λe w'=>e=aB (ai r)/\au W w'):=hid (λW=>by rw[<-hr];exact avZ m z H _ W (G m (cW d)));clear hr;go_step;refine ah ?_;refine v2 ?_;refine pl a 0 66 ?_ (hv:=fi);refine ag ?_;refine a7 (ai az) ?_;refine b5 ?_;refine pl a 0 66 ?_ (hv:=fi);refine ag ?_;refine aI _ (b4 24 73 5 (bj 14) _ aa ey aw q K _ c j _ (by show ae A _ _=_;rw[C]) aa hlt aa) ?_;refine aI _ (by(refine e5 73 _ aa q _ aa _ (D _ a.only) gi aa aw)) ?_;refine ag ?_;refine bH (E _) a (λO a=>?_);refine an ?_;cases r with
   |true=>
    refine ah ?_;refine eg ?_;go_wp2_with fail;go_ret;exact⟨by rw[show tl ms _=(j:Int)from by unfold tl;rw[Mk d l.out b]];rfl,a.only⟩
   |false=>
    refine b5 ?_;refine pad (j:Int) 1 ((j+1:Nat):Int) ?_;refine bU ?_;go_wp2_with fail;go_roundw;case rel=>exact⟨j+1,ad,aa,hid (λi y hi g=>by rcases vz.1 hi with h|rfl;exact b i y h g;rw[d]at g;cases g;exact l),a⟩
    case measure=>simp[c']<;>omega
  .have I:¬(j:Int)<(ms.length:Int):=ad;obtain rfl:j=ms.length:=ad;go_step;refine ah ?_;refine v2 ?_;refine pl a 0 66 ?_ (hv:=fi);refine ag ?_;refine a7 (ai ao) ?_;refine ah ?_;refine ag ?_;refine an ?_;go_wp2_with fail;go_ret;exact⟨by rw[show tl ms _=-1 from by unfold tl;rw[Mj (λi x hi=>b i x (eM.1 hi).1 hi)]];rfl,a.only⟩
def awi(o n)(g1 g2)S(I:S.oneCell'=az)m b c w(ho:pF m):
 aC ax 238 #[eN o n g1 g2 S,nC m b c] w λe w'=>e=aB (J R (zF o n m))/\au w w':=by
 obtain⟨z,hz⟩:=ex (uk m);have l:aE (∀W,aC _ _ #[ar _] W λe w'=>e=aB (J _ z)/\au W w'):=hid (λW=>by rw[<-hz];exact afq m b c W ho);unfold zF;rw[hz];by_cases x:z=0
 .subst x;have u:=RG hz;rw[if_neg (λh=>h aa)];have E:=u.cm;have t:aE (∀W,aC _ _ #[ar _] W λe w'=>e=aB _/\au W w'):=hid (λW=>Js m b c W);clear hz ho;obtain⟨fG,B⟩:=ex (cD m);rw[B]at t E⊢;clear B;by_cases hk:m.k=1
  .have p:=hid hk;have D:=(u.copy hk);obtain⟨F,G,H,_⟩:=D;by_cases q:m.fr+m.n>o;·rw[if_pos ⟨hk,q⟩];have v:=hid q;clear q hk u;go_enter GI,GK;have a:=a8 w;go_step;refine ah ?_;refine bL a (ar _) (λr w1 a=>?_);refine bL (cs:=#[J _ _,J _ _,J _ _,J _ _,ae b _ c]) a _ (λs X a=>?_);refine ag ?_;refine an ?_;go_step;refine ah ?_;refine bh a 0 #[J R m.k,J R m.to,J R m.fr,J R m.n,ae b m.data.length c] ?_;refine aR (l _) ?_;rintro e bI ⟨rfl,g⟩;replace a:=a.aH g;refine aT ?_;refine ag ?_;refine an ?_;go_step;refine ah ?_;refine ag ?_;refine pk (ai ao) ?_;refine an ?_;go_step;refine ah ?_;refine ag ?_;refine pl a 0 0 ?_;refine dp p (ai az) ?_;refine v2 ?_;refine pl a 0 2 ?_;refine ag ?_;refine pl a 0 3 ?_;refine pad _ _ (m.fr+m.n) ?_;refine ag ?_;refine pl a 1 0 ?_ (hv:=kE);refine aI (ai az) (by(have h:=v.out;go_simp;try omega)) ?_;refine ag ?_;refine an ?_;go_step;refine ah ?_;refine ag ?_;refine an ?_;go_wp2_with fail;go_ret;exact⟨aa,a.only⟩
   .rw[if_neg (λh=>q h.2)];have v:=hid q;clear q hk u;by_cases d:m.to+fG>n
    .have f:=hid d;rw[if_pos d];clear d;go_enter GI,GK;have a:=a8 w;go_step;refine ah ?_;refine bL a (ar _) (λr b9 a=>?_);refine bL (cs:=#[J _ _,J _ _,J _ _,J _ _,ae b _ c]) a _ (λs cE a=>?_);refine ag ?_;refine an ?_;go_step;refine ah ?_;refine bh a 0 #[J R m.k,J R m.to,J R m.fr,J R m.n,ae b m.data.length c] ?_;refine aR (l _) ?_;rintro e cV ⟨rfl,g⟩;replace a:=a.aH g;refine aT ?_;refine ag ?_;refine an ?_;go_step;refine ah ?_;refine ag ?_;refine pk (ai ao) ?_;refine an ?_;go_step;refine ah ?_;refine ag ?_;refine pl a 0 0 ?_;refine dp p (ai az) ?_;refine v2 ?_;refine pl a 0 2 ?_;refine ag ?_;refine pl a 0 3 ?_;refine pad _ _ (m.fr+m.n) ?_;refine ag ?_;refine pl a 1 0 ?_ (hv:=kE);refine aI (ai ao) (by(have h:=v.out;go_simp;try omega)) ?_;refine ag ?_;refine an ?_;go_step;refine cx ?_;refine bN a [3] (λi _=>match i with|3=>J R fG|_=>a1) (λ_ _=>emp) (λ_=>[]) (λ|1=>[0]|2=>[0]|6=>[1]|_=>[]) (λ_=>[]) [0,1,5] (λy=>?_);refine aJ ?_;refine dl 0 1 ?_;refine eO 0 #[J R m.k,J R m.to,J R m.fr,J R m.n,ae b m.data.length c] ?_;refine dh (λj Fr a=>(t j).mono ?_) ?_;·rintro e A ⟨rfl,g⟩;exact⟨{},aa,(a.aH g).dM⟩
     refine aK _ (λ_ _ _=>mw 3 _ _ 3 aa _ _ (m.to+fG) aa aa ad ad ad) ?_;refine aJ ?_;refine dl 0 1 ?_ (hv:=il);refine aK (ai az) (λ_ _ _=>by(have h:=f.out;go_simp;try omega)) ?_;refine bQ λdJ a=>?_;replace a:=a.drop 2;go_step;refine ah ?_;refine ag ?_;refine an ?_;go_wp2_with fail;go_ret;exact⟨aa,a.only⟩
    .have f:=hid d;rw[if_neg d];clear d;go_enter GI,GK;have a:=a8 w;go_step;refine ah ?_;refine bL a (ar _) (λr dB a=>?_);refine bL (cs:=#[J _ _,J _ _,J _ _,J _ _,ae b _ c]) a _ (λs eZ a=>?_);refine ag ?_;refine an ?_;go_step;refine ah ?_;refine bh a 0 #[J R m.k,J R m.to,J R m.fr,J R m.n,ae b m.data.length c] ?_;refine aR (l _) ?_;rintro e K ⟨rfl,g⟩;replace a:=a.aH g;refine aT ?_;refine ag ?_;refine an ?_;go_step;refine ah ?_;refine ag ?_;refine pk (ai ao) ?_;refine an ?_;go_step;refine ah ?_;refine ag ?_;refine pl a 0 0 ?_;refine dp p (ai az) ?_;refine v2 ?_;refine pl a 0 2 ?_;refine ag ?_;refine pl a 0 3 ?_;refine pad _ _ (m.fr+m.n) ?_;refine ag ?_;refine pl a 1 0 ?_ (hv:=kE);refine aI (ai ao) (by(have h:=v.out;go_simp;try omega)) ?_;refine ag ?_;refine an ?_;go_step;refine cx ?_;refine bN a [3] (λi _=>match i with|3=>J R fG|_=>a1) (λ_ _=>emp) (λ_=>[]) (λ|1=>[0]|2=>[0]|6=>[1]|_=>[]) (λ_=>[]) [0,1,5] (λy=>?_);refine aJ ?_;refine dl 0 1 ?_;refine eO 0 #[J R m.k,J R m.to,J R m.fr,J R m.n,ae b m.data.length c] ?_;refine dh (λj Fr a=>(t j).mono ?_) ?_;·rintro e A ⟨rfl,g⟩;exact⟨{},aa,(a.aH g).dM⟩
     refine aK _ (λ_ _ _=>mw 3 _ _ 3 aa _ _ (m.to+fG) aa aa ad ad ad) ?_;refine aJ ?_;refine dl 0 1 ?_ (hv:=il);refine aK (ai ao) (λ_ _ _=>by(have h:=f.out;go_simp;try omega)) ?_;refine bQ λL a=>?_;replace a:=a.drop 2;go_step;refine ah ?_;refine ag ?_;refine an ?_;go_wp2_with fail;go_ret;exact⟨aa,a.only⟩
  .have p:=hid hk;rw[if_neg (λh=>hk h.1)];clear hk u;by_cases d:m.to+fG>n
   .have f:=hid d;rw[if_pos d];clear d;go_enter GI,GK;have a:=a8 w;go_step;refine ah ?_;refine bL a (ar _) (λr M a=>?_);refine bL (cs:=#[J _ _,J _ _,J _ _,J _ _,ae b _ c]) a _ (λs N a=>?_);refine ag ?_;refine an ?_;go_step;refine ah ?_;refine bh a 0 #[J R m.k,J R m.to,J R m.fr,J R m.n,ae b m.data.length c] ?_;refine aR (l _) ?_;rintro e O ⟨rfl,g⟩;replace a:=a.aH g;refine aT ?_;refine ag ?_;refine an ?_;go_step;refine ah ?_;refine ag ?_;refine pk (ai ao) ?_;refine an ?_;go_step;refine ah ?_;refine ag ?_;refine pl a 0 0 ?_;refine dp p (ai ao) ?_;refine ag ?_;iterate 8 refine ps ?_
    refine ag ?_;refine an ?_;go_step;refine cx ?_;refine bN a [3] (λi _=>match i with|3=>J R fG|_=>a1) (λ_ _=>emp) (λ_=>[]) (λ|1=>[0]|2=>[0]|6=>[1]|_=>[]) (λ_=>[]) [0,1,5] (λy=>?_);refine aJ ?_;refine dl 0 1 ?_;refine eO 0 #[J R m.k,J R m.to,J R m.fr,J R m.n,ae b m.data.length c] ?_;refine dh (λj Fr a=>(t j).mono ?_) ?_;·rintro e A ⟨rfl,g⟩;exact⟨{},aa,(a.aH g).dM⟩
    refine aK _ (λ_ _ _=>mw 3 _ _ 3 aa _ _ (m.to+fG) aa aa ad ad ad) ?_;refine aJ ?_;refine dl 0 1 ?_ (hv:=il);refine aK (ai az) (λ_ _ _=>by(have h:=f.out;go_simp;try omega)) ?_;refine bQ λP a=>?_;replace a:=a.drop 2;go_step;refine ah ?_;refine ag ?_;refine an ?_;go_wp2_with fail;go_ret;exact⟨aa,a.only⟩
   .have f:=hid d;rw[if_neg d];clear d;go_enter GI,GK;have a:=a8 w;go_step;refine ah ?_;refine bL a (ar _) (λr Q a=>?_);refine bL (cs:=#[J _ _,J _ _,J _ _,J _ _,ae b _ c]) a _ (λs T a=>?_);refine ag ?_;refine an ?_;go_step;refine ah ?_;refine bh a 0 #[J R m.k,J R m.to,J R m.fr,J R m.n,ae b m.data.length c] ?_;refine aR (l _) ?_;rintro e U ⟨rfl,g⟩;replace a:=a.aH g;refine aT ?_;refine ag ?_;refine an ?_;go_step;refine ah ?_;refine ag ?_;refine pk (ai ao) ?_;refine an ?_;go_step;refine ah ?_;refine ag ?_;refine pl a 0 0 ?_;refine dp p (ai ao) ?_;refine ag ?_;iterate 8 refine ps ?_
    refine ag ?_;refine an ?_;go_step;refine cx ?_;refine bN a [3] (λi _=>match i with|3=>J R fG|_=>a1) (λ_ _=>emp) (λ_=>[]) (λ|1=>[0]|2=>[0]|6=>[1]|_=>[]) (λ_=>[]) [0,1,5] (λy=>?_);refine aJ ?_;refine dl 0 1 ?_;refine eO 0 #[J R m.k,J R m.to,J R m.fr,J R m.n,ae b m.data.length c] ?_;refine dh (λj Fr a=>(t j).mono ?_) ?_;·rintro e A ⟨rfl,g⟩;exact⟨{},aa,(a.aH g).dM⟩
    refine aK _ (λ_ _ _=>mw 3 _ _ 3 aa _ _ (m.to+fG) aa aa ad ad ad) ?_;refine aJ ?_;refine dl 0 1 ?_ (hv:=il);refine aK (ai ao) (λ_ _ _=>by(have h:=f.out;go_simp;try omega)) ?_;refine bQ λV a=>?_;replace a:=a.drop 2;go_step;refine ah ?_;refine ag ?_;refine an ?_;go_wp2_with fail;go_ret;exact⟨aa,a.only⟩
 .rw[if_pos x];have C:=hid x;clear x hz ho;go_enter GI,GK;have a:=a8 w;go_step;refine ah ?_;refine bL a (ar _) (λr Y a=>?_);refine bL (cs:=#[J _ _,J _ _,J _ _,J _ _,ae b _ c]) a _ (λs Z a=>?_);refine ag ?_;refine an ?_;go_step;refine ah ?_;refine bh a 0 #[J R m.k,J R m.to,J R m.fr,J R m.n,ae b m.data.length c] ?_;refine aR (l _) ?_;rintro e Bx ⟨rfl,g⟩;replace a:=a.aH g;refine aT ?_;refine ag ?_;refine an ?_;go_step;refine ah ?_;refine ag ?_;refine dp C (ai az) ?_;refine an ?_;go_step;refine ah ?_;refine v2 ?_;refine an ?_;go_wp2_with fail;go_ret;exact⟨aa,a.only⟩
end
section
attribute [local irreducible] wpList cM
def wh(ms:List bO):Nat->Int
 |0=>0
 |t+1=>match ms[t]? with|some m=>m.to+cD m|none=>0
def oh(n:Int)(ms:List bO)(t:Nat):Bool:=decide (wh ms t<n)&&decide (tl ms (wh ms t)<0)
structure oM (o n:Int) (ms:List bO):Prop where
 bd:(0<=o/\0<=n)/\o<=4611686018427387903/\n<=4611686018427387903
 bE:∀m∈ms,zF o n m=0
 ap:∀(i j:Nat) (x y:bO),j<i->ms[i]?=ab x->ms[j]?=ab y->meets (cm x) (cm y)=ao
 aaJ:∀t,t<=ms.length->oh n ms t=ao
def Gp7(n:Int)(ms:List bO)(t:Nat)(a:Int):Prop:=(a=-1/\∀s,s<t->oh n ms s=ao)\/(0<=a/\∃s,s<t/\oh n ms s=az)
def Gp7.nG{n ms t a}(h:Gp7 n ms t a)(hb:oh n ms t=ao):Gp7 n ms (t+1) a:=by
 rcases h with⟨h1,b⟩|⟨h1,s,b,c⟩;·exact .inl ⟨h1,λs d=>aG⟩
 .exact .inr ⟨h1,s,ad,c⟩
theorem Gp7.bad{n ms t a}(h1:0<=a)(hb:oh n ms t=az):Gp7 n ms (t+1) a:=.inr ⟨h1,t,Nat.lt_succ_self _,hb⟩
def gJ.Gj{m}(h:gJ m):eX (Go.Proofs.YtcmhplknoglbkaaGreat.cm m):=⟨h.cm.1,Int.le_of_lt h.cm.2.1,h.cm.2.2⟩
set_option maxHeartbeats 16000000 in
def avY(o n)(g1 g2)A c ms w(B:cZ w A ms)(f':ms.length<=1048576)(hv:∀m∈ms,gJ m):
 aC ax 239 #[eN o n g1 g2 (ae A ms.length c)] w λe w'=>∃d,e=aB (J R d)/\Gp7 n ms (ms.length+1) d/\au w w':=by
 have Q:=hid B;have V:=hid hv;have Q:=hid B;have V:=hid hv;have P:=hid (λW off y=>afE o n g1 g2 A c ms off W (B.aH y) f' (λm z=>(hv m z).Gj));clear B hv;go_enter func239,ntmps239;have a:=a8 w;go_step;refine ah ?_;refine bL a (ar _) (λdE w1 a=>?_);refine ag ?_;refine an ?_;go_step;refine ah ?_;refine ag ?_;refine an ?_;go_step;refine ah ?_;refine ag ?_;refine an ?_;have U:=a.pk [0];go_wp2_with fail;go_loopw [3,4] (λep L wr=>∃(t:Nat) (d:Int),t<=ms.length+1/\ep=J R d/\L=J R ((t:Int) -1)/\aE (Gp7 n ms t d)/\ak w (λ_=>False) wr [aj dE (a' o n g1 g2 (ae A ms.length c)) 26]) (λep L wr=>ms.length+1 -(c' L+1).toNat);case atStart=>exact⟨0,-1,cB _,aa,aa,hid (.inl ⟨rfl,λs h=>absurd h (Ao _)⟩),U⟩
 case round=>
  clear a U;obtain⟨t,d,ht,rfl,rfl,r,a⟩:=hrel;by_cases hlt:t<=ms.length
  .have cf:((t:Int) -1)<(ms.length:Int):=ad;obtain⟨off,C⟩:=ex (wh ms t);have v:=hid C;cases t with
   |zero=>
    have K:(0:Int)=off:=C;subst K;have I:(0:Int)<=0:=Int.le_refl _;clear C;go_step;refine ah ?_;iterate 2 refine ag ?_
    refine pl a 0 66 ?_ (hv:=fi);refine ag ?_;refine a7 (ai az) ?_;refine an ?_;go_step;refine ah ?_;refine ag ?_;refine an ?_;go_step;refine ah ?_;refine ag ?_;refine pk (ai ao) ?_;refine an ?_;by_cases k:0<n
    .have b:=hid k;obtain⟨G,u⟩:=ex (tl ms 0);have p:=hid (λW y=>by have q:=P W 0 y;rwa [u]at q);have x:=hid u;clear k u;by_cases l:G<0
     .have f:=hid l;have j:aE (oh n ms 0=az):=hid (by unfold oh;rw[v,x];simp[b.out,f.out]);clear l;rcases r.out with⟨rfl,H⟩|⟨eS,_⟩
      .clear H;go_step;refine ah ?_;iterate 2 refine ag ?_
       refine pl a 0 1 ?_ (hv:=il);refine aI (ai az) (by(have h:=b.out;go_simp;try omega)) ?_;refine ag ?_;refine bh a 0 (a' o n g1 g2 (ae A ms.length c)) ?_ (hv:=(e4 _)) (hk:=by omega) (hz:=(by rw[bD];rfl));refine ag ?_;refine aR (p _ a.only) ?_;rintro e aU ⟨rfl,g⟩;replace a:=a.aH g;refine aT ?_;refine aI (ai az) (by(have h:=f.out;go_simp;try omega)) ?_;iterate 3 refine ag ?_
       refine pk (ai az) ?_;refine ag ?_;iterate 3 refine ps ?_
       iterate 2 refine ag ?_
       refine an ?_;go_step;refine ah ?_;iterate 2 refine ag ?_
       refine an ?_;go_step;refine ah ?_;refine ag ?_;refine pad _ 1 (((0+1:Nat):Int) -1) ?_;refine ag ?_;refine an ?_;go_wp2_with fail;go_roundw;case rel=>grind[hid,Gp7.bad]
       case measure=>grind[c']
      .omega
     .have f:=hid l;have j:aE (oh n ms 0=ao):=hid (by unfold oh;rw[v,x];simp[f.out]);clear l;go_step;refine ah ?_;iterate 2 refine ag ?_
      refine pl a 0 1 ?_ (hv:=il);refine aI (ai az) (by(have h:=b.out;go_simp;try omega)) ?_;refine ag ?_;refine bh a 0 (a' o n g1 g2 (ae A ms.length c)) ?_ (hv:=(e4 _)) (hk:=by omega) (hz:=(by rw[bD];rfl));refine ag ?_;refine aR (p _ a.only) ?_;rintro e cE ⟨rfl,g⟩;replace a:=a.aH g;refine aT ?_;refine aI (ai ao) (by(have h:=f.out;go_simp;try omega)) ?_;iterate 2 refine ag ?_
      iterate 7 refine ps ?_
      refine ag ?_;refine an ?_;go_step;refine ah ?_;refine ag ?_;refine pad _ 1 (((0+1:Nat):Int) -1) ?_;refine ag ?_;refine an ?_;go_wp2_with fail;go_roundw;case rel=>exact⟨_,d,ad,aa,aa,hid (r.out.nG j),a.pick [0]⟩
      case measure=>grind[c']
    .have b:=hid k;have j:aE (oh n ms 0=ao):=hid (by unfold oh;rw[v];simp[b.out]);clear k;go_step;refine ah ?_;iterate 2 refine ag ?_
     refine pl a 0 1 ?_ (hv:=il);refine aI (ai ao) (by(have h:=b.out;go_simp;try omega)) ?_;refine ag ?_;iterate 4 refine ps ?_
     iterate 2 refine ag ?_
     iterate 7 refine ps ?_
     refine ag ?_;refine an ?_;go_step;refine ah ?_;refine ag ?_;refine pad _ 1 (((0+1:Nat):Int) -1) ?_;refine ag ?_;refine an ?_;go_wp2_with fail;go_roundw;case rel=>exact⟨_,d,ad,aa,aa,hid (r.out.nG j),a.pick [0]⟩
     case measure=>grind[c']
   |succ s=>
    obtain⟨m,z⟩:∃m,ms[s]?=ab m:=⟨_,cF ad⟩;have lu:=V m (cW z);have rz:=lu.Gj;obtain⟨v1,v2,v3⟩:=rz;have v1:0<=m.to:=v1;have v2:0<=cD m:=v2;have v3:m.to+cD m<=4611686018427387903:=v3;have K:m.to+cD m=off:=by grind[wh]
    obtain⟨F,M,aW,aZ,X,eA,Y⟩:=cZ.jt Q z;have N:=hid X;have O:=hid Y;have S:aE (∀W,aC _ _ #[ar _] W λe w'=>e=aB _/\au W w'):=hid (λW=>Js m aW aZ W);obtain⟨fG,k3⟩:=ex (cD m);rw[k3]at S v2 v3 K;have I:0<=off:=ad;clear X eA Y z C lu k3;have Z:s<ms.length:=ad;have hs1:(((s+1:Nat):Int) -1)=(s:Int):=ad;rw[hs1];go_step;refine ah ?_;iterate 2 refine ag ?_
    refine pl a 0 66 ?_ (hv:=fi);refine ag ?_;refine a7 (ai az) ?_;refine an ?_;go_step;refine ah ?_;refine ag ?_;refine an ?_;go_step;refine ah ?_;refine ag ?_;refine a7 (ai az) ?_;refine an ?_;go_step;refine cx ?_;refine bN a [11] (λi _=>match i with|11=>J R fG|_=>a1) (λ_ _=>emp) (λ_=>[]) (λ|1=>[0]|7=>[0]|_=>[]) (λ_=>[]) [0,12] (λus=>?_);refine aJ ?_;refine dl 0 66 ?_ (hv:=fi);refine aJ ?_;refine aK _ (λ_ _ _=>b4 24 73 5 _ _ aa ey aw F M _ c s _ (by show ae A _ _=_;rw[N]) aa Z aa) ?_;refine aJ ?_;refine aK _ (λ_ _ a=>mc aa aa (O _ a.only 1 _ aa) aw) ?_;refine aJ ?_;refine dl 0 66 ?_ (hv:=fi);refine aJ ?_;refine aK _ (λ_ _ _=>b4 24 73 5 _ _ aa ey aw F M _ c s _ (by show ae A _ _=_;rw[N]) aa Z aa) ?_;refine aK _ (λ_ _ a=>e5 73 (bj 24) aa F (M+s*5) aa _ (O _ a.only) gi aa aw) ?_;refine dh (λwl Fr a=>(S wl).mono ?_) ?_;·rintro e dr ⟨rfl,g⟩;exact⟨{},aa,(a.aH g).dM⟩
    refine aK _ (λ_ _ _=>mw 3 _ _ 3 aa _ _ off aa aa ad ad ad) ?_;refine aJ ?_;refine bQ λcV a=>?_;replace a:=a.drop 1;by_cases k:off<n
    .have b:=hid k;obtain⟨G,u⟩:=ex (tl ms off);have p:=hid (λW y=>by have q:=P W off y;rwa [u]at q);have x:=hid u;clear k u;by_cases l:G<0
     .have f:=hid l;have j:aE (oh n ms _=az):=hid (by unfold oh;rw[v,x];simp[b.out,f.out]);clear l;rcases r.out with⟨rfl,H⟩|⟨eS,_⟩
      .clear H;go_step;refine ah ?_;iterate 2 refine ag ?_
       refine pl a 0 1 ?_ (hv:=il);refine aI (ai az) (by(have h:=b.out;go_simp;try omega)) ?_;refine ag ?_;refine bh a 0 (a' o n g1 g2 (ae A ms.length c)) ?_ (hv:=(e4 _)) (hk:=by omega) (hz:=(by rw[bD];rfl));refine ag ?_;refine aR (p _ a.only) ?_;rintro e dJ ⟨rfl,g⟩;replace a:=a.aH g;refine aT ?_;refine aI (ai az) (by(have h:=f.out;go_simp;try omega)) ?_;iterate 3 refine ag ?_
       refine pk (ai az) ?_;refine ag ?_;iterate 3 refine ps ?_
       iterate 2 refine ag ?_
       refine an ?_;go_step;refine ah ?_;iterate 2 refine ag ?_
       refine an ?_;go_step;refine ah ?_;refine ag ?_;refine pad _ 1 (((s+1+1:Nat):Int) -1) ?_;refine ag ?_;refine an ?_;go_wp2_with fail;go_roundw;case rel=>exact⟨_,_,ad,aa,congrArg _ ad,hid (Gp7.bad I j),a.pick [0]⟩
       case measure=>grind[c']
      .have T:aE (¬d<0):=hid ad;by_cases D:off<d
       .have E:=hid D;clear D;go_step;refine ah ?_;iterate 2 refine ag ?_
        refine pl a 0 1 ?_ (hv:=il);refine aI (ai az) (by(have h:=b.out;go_simp;try omega)) ?_;refine ag ?_;refine bh a 0 (a' o n g1 g2 (ae A ms.length c)) ?_ (hv:=(e4 _)) (hk:=by omega) (hz:=(by rw[bD];rfl));refine ag ?_;refine aR (p _ a.only) ?_;rintro e dB ⟨rfl,g⟩;replace a:=a.aH g;refine aT ?_;refine aI (ai az) (by(have h:=f.out;go_simp;try omega)) ?_;iterate 3 refine ag ?_
        refine aI (ai ao) (by(have h:=T.out;go_simp;try omega)) ?_;iterate 3 refine ag ?_
        refine aI (ai az) (by(have h:=E.out;go_simp;try omega)) ?_;iterate 2 refine ag ?_
        refine an ?_;go_step;refine ah ?_;iterate 2 refine ag ?_
        refine an ?_;go_step;refine ah ?_;refine ag ?_;refine pad _ 1 (((s+1+1:Nat):Int) -1) ?_;refine ag ?_;refine an ?_;go_wp2_with fail;go_roundw;case rel=>exact⟨_,_,ad,aa,congrArg _ ad,hid (Gp7.bad I j),a.pick [0]⟩
        case measure=>grind[c']
       .have E:=hid D;clear D;go_step;refine ah ?_;iterate 2 refine ag ?_
        refine pl a 0 1 ?_ (hv:=il);refine aI (ai az) (by(have h:=b.out;go_simp;try omega)) ?_;refine ag ?_;refine bh a 0 (a' o n g1 g2 (ae A ms.length c)) ?_ (hv:=(e4 _)) (hk:=by omega) (hz:=(by rw[bD];rfl));refine ag ?_;refine aR (p _ a.only) ?_;rintro e eZ ⟨rfl,g⟩;replace a:=a.aH g;refine aT ?_;refine aI (ai az) (by(have h:=f.out;go_simp;try omega)) ?_;iterate 3 refine ag ?_
        refine aI (ai ao) (by(have h:=T.out;go_simp;try omega)) ?_;iterate 3 refine ag ?_
        refine aI (ai ao) (by(have h:=E.out;go_simp;try omega)) ?_;iterate 2 refine ag ?_
        refine an ?_;go_step;refine ah ?_;refine ag ?_;refine pad _ 1 (((s+1+1:Nat):Int) -1) ?_;refine ag ?_;refine an ?_;go_wp2_with fail;go_roundw;case rel=>exact⟨_,d,ad,aa,congrArg _ ad,hid (Gp7.bad eS j),a.pick [0]⟩
        case measure=>grind[c']
     .have f:=hid l;have j:aE (oh n ms _=ao):=hid (by unfold oh;rw[v,x];simp[f.out]);clear l;go_step;refine ah ?_;iterate 2 refine ag ?_
      refine pl a 0 1 ?_ (hv:=il);refine aI (ai az) (by(have h:=b.out;go_simp;try omega)) ?_;refine ag ?_;refine bh a 0 (a' o n g1 g2 (ae A ms.length c)) ?_ (hv:=(e4 _)) (hk:=by omega) (hz:=(by rw[bD];rfl));refine ag ?_;refine aR (p _ a.only) ?_;rintro e gV ⟨rfl,g⟩;replace a:=a.aH g;refine aT ?_;refine aI (ai ao) (by(have h:=f.out;go_simp;try omega)) ?_;iterate 2 refine ag ?_
      iterate 7 refine ps ?_
      refine ag ?_;refine an ?_;go_step;refine ah ?_;refine ag ?_;refine pad _ 1 (((s+1+1:Nat):Int) -1) ?_;refine ag ?_;refine an ?_;go_wp2_with fail;go_roundw;case rel=>exact⟨_,d,ad,aa,congrArg _ ad,hid (r.out.nG j),a.pick [0]⟩
      case measure=>grind[c']
    .have b:=hid k;have j:aE (oh n ms _=ao):=hid (by unfold oh;rw[v];simp[b.out]);clear k;go_step;refine ah ?_;iterate 2 refine ag ?_
     refine pl a 0 1 ?_ (hv:=il);refine aI (ai ao) (by(have h:=b.out;go_simp;try omega)) ?_;refine ag ?_;iterate 4 refine ps ?_
     iterate 2 refine ag ?_
     iterate 7 refine ps ?_
     refine ag ?_;refine an ?_;go_step;refine ah ?_;refine ag ?_;refine pad _ 1 (((s+1+1:Nat):Int) -1) ?_;refine ag ?_;refine an ?_;go_wp2_with fail;go_roundw;case rel=>exact⟨_,d,ad,aa,congrArg _ ad,hid (r.out.nG j),a.pick [0]⟩
     case measure=>grind[c']
  .have cf:¬((t:Int) -1)<(ms.length:Int):=ad;obtain rfl:t=ms.length+1:=ad;go_step;refine ah ?_;iterate 2 refine ag ?_
   refine pl a 0 66 ?_ (hv:=fi);refine ag ?_;refine a7 (ai ao) ?_;refine an ?_;go_step;refine ah ?_;iterate 2 refine ag ?_
   refine an ?_;go_wp2_with fail;go_ret;exact⟨d,aa,r,a.only⟩
end
section
attribute [local irreducible] wpList cM
def ago{o n m}(h:zF o n m=0):gJ m/\(m.k=1->m.fr+m.n<=o)/\m.to+cD m<=n:=by grind[zF,RG]
def auJ{a b}:(0<(mh a b).2)↔meets a b=true:=by grind[mh,meets]
def ux(ms:List bO):Bool:=ms.all (λm=>decide (m.data.length<=300))&&decide (ms.length<=40)
set_option maxHeartbeats 16000000 in
def avu(o n)(g1 g2)A c ms w(hl:cZ w A ms)(f':ms.length<=1048576)(ho:∀m∈ms,pF m):
 aC ax 161 #[eN o n g1 g2 (ae A ms.length c)] w λe w'=>∃bF,(∃Y1,e=aB (bo #[J R bF,J R Y1]))/\(bF=0↔oM o n ms)/\au w w':=by
 have cO:=hid hl;have ff:=hid ho;have O:aE (∀W,aC _ _ _ W λe w'=>e=aB _/\au W w'):=hid (λW=>(FT W).mono λ_ _ ⟨h1,Y⟩=>⟨h1,Y▸av.refl _ _⟩);have Em:aE (∀W m F I,m∈ms->aC _ _ #[eN o n g1 g2 _,ar _] W λe w'=>e=aB _/\au W w'):=hid (λW m F I k=>awi o n g1 g2 (ae A ms.length c) aa m F I W (ho m k));have akH:=hid (λW hg hv=>avY o n g1 g2 A c ms W (hl.aH hg) f' hv);clear hl ho;by_cases h1:o<0
 .have G:=hid h1;go_enter KL,KP;have d:=a8 w;go_step;refine ah ?_;refine bL d (ar _) (λC w1 d=>?_);refine v2 ?_;refine an ?_;go_step;refine cx ?_;refine bN d [] (λ_ _=>a1) (λ_ _=>emp) (λ_=>[]) (λ|1=>[0]|_=>[]) (λ_=>[]) [0] (λB=>?_);refine aJ ?_;refine dl 0 0 ?_ (hv:=kE);refine aK (ai az) (λ_ _ _=>by(have h:=G.out;go_simp;try omega)) ?_;refine aJ ?_;iterate 3 refine ds ?_
  refine bx ?_;iterate 4 refine ds ?_
  refine bx ?_;iterate 4 refine ds ?_
  refine aJ ?_;refine bQ λaU d=>?_;go_step;refine ah ?_;refine v2 ?_;refine an ?_;go_wp2_with fail;go_ret2;exact⟨2,⟨-1,aa⟩,⟨λh=>absurd h aS,λh=>absurd h.bd ad⟩,d.only⟩
 .have G:=hid h1;by_cases Y:n<0
  .have L:=hid Y;go_enter KL,KP;have d:=a8 w;go_step;refine ah ?_;refine bL d (ar _) (λC bI d=>?_);refine v2 ?_;refine an ?_;go_step;refine cx ?_;refine bN d [] (λ_ _=>a1) (λ_ _=>emp) (λ_=>[]) (λ|1=>[0]|5=>[0]|_=>[]) (λ_=>[]) [0] (λB=>?_);refine aJ ?_;refine dl 0 0 ?_ (hv:=kE);refine aK (ai ao) (λ_ _ _=>by(have h:=G.out;go_simp;try omega)) ?_;refine bx ?_;refine dl 0 1 ?_ (hv:=il);refine aK (ai az) (λ_ _ _=>by(have h:=L.out;go_simp;try omega)) ?_;refine bx ?_;iterate 4 refine ds ?_
   refine bx ?_;iterate 4 refine ds ?_
   refine aJ ?_;refine bQ λb9 d=>?_;go_step;refine ah ?_;refine v2 ?_;refine an ?_;go_wp2_with fail;go_ret2;exact⟨2,⟨-1,aa⟩,⟨λh=>absurd h aS,λh=>absurd h.bd ad⟩,d.only⟩
  .have L:=hid Y;by_cases h3:o>4611686018427387903
   .have V:=hid h3;go_enter KL,KP;have d:=a8 w;go_step;refine ah ?_;refine bL d (ar _) (λC cE d=>?_);refine v2 ?_;refine an ?_;go_step;refine cx ?_;refine bN d [11] (λi _=>match i with|11=>J R 4611686018427387903|_=>a1) (λ_ _=>emp) (λ_=>[]) (λ|1=>[0]|5=>[0]|10=>[0]|_=>[]) (λ_=>[]) [0,12] (λB=>?_);refine aJ ?_;refine dl 0 0 ?_ (hv:=kE);refine aK (ai ao) (λ_ _ _=>by(have h:=G.out;go_simp;try omega)) ?_;refine bx ?_;refine dl 0 1 ?_ (hv:=il);refine aK (ai ao) (λ_ _ _=>by(have h:=L.out;go_simp;try omega)) ?_;refine c5 ?_;refine dl 0 0 ?_ (hv:=kE);refine dh (λf Fr d=>(O f).mono ?_) ?_;·rintro e p ⟨rfl,g⟩;exact⟨{},aa,(d.aH g).dM⟩
    refine aK (ai az) (λ_ _ _=>by(have h:=V.out;go_simp;try omega)) ?_;refine bx ?_;iterate 4 refine ds ?_
    refine aJ ?_;refine bQ λcV d=>?_;replace d:=d.drop 1;go_step;refine ah ?_;refine v2 ?_;refine an ?_;go_wp2_with fail;go_ret2;exact⟨2,⟨-1,aa⟩,⟨λh=>absurd h aS,λh=>absurd h.bd ad⟩,d.only⟩
   .have V:=hid h3;by_cases h4:n>4611686018427387903
    .have ib:=hid h4;go_enter KL,KP;have d:=a8 w;go_step;refine ah ?_;refine bL d (ar _) (λC dJ d=>?_);refine v2 ?_;refine an ?_;go_step;refine cx ?_;refine bN d [11,17] (λi _=>match i with|11=>J R 4611686018427387903|17=>J R 4611686018427387903|_=>a1) (λ_ _=>emp) (λ_=>[]) (λ|1=>[0]|5=>[0]|10=>[0]|16=>[0]|_=>[]) (λ_=>[]) [0,12,18] (λB=>?_);refine aJ ?_;refine dl 0 0 ?_ (hv:=kE);refine aK (ai ao) (λ_ _ _=>by(have h:=G.out;go_simp;try omega)) ?_;refine bx ?_;refine dl 0 1 ?_ (hv:=il);refine aK (ai ao) (λ_ _ _=>by(have h:=L.out;go_simp;try omega)) ?_;refine c5 ?_;refine dl 0 0 ?_ (hv:=kE);refine dh (λf Fr d=>(O f).mono ?_) ?_;·rintro e p ⟨rfl,g⟩;exact⟨{},aa,(d.aH g).dM⟩
     refine aK (ai ao) (λ_ _ _=>by(have h:=V.out;go_simp;try omega)) ?_;refine c5 ?_;refine dl 0 1 ?_ (hv:=il);refine dh (λf Fr d=>(O f).mono ?_) ?_;·rintro e p ⟨rfl,g⟩;exact⟨{},aa,(d.aH g).dM⟩
     refine aK (ai az) (λ_ _ _=>by(have h:=ib.out;go_simp;try omega)) ?_;refine aJ ?_;refine bQ λdB d=>?_;replace d:=d.drop 1;replace d:=d.drop 1;go_step;refine ah ?_;refine v2 ?_;refine an ?_;go_wp2_with fail;go_ret2;exact⟨2,⟨-1,aa⟩,⟨λh=>absurd h aS,λh=>absurd h.bd ad⟩,d.only⟩
    .have ib:=hid h4;go_enter KL,KP;have d:=a8 w;go_step;refine ah ?_;refine bL d (ar _) (λC eZ d=>?_);refine v2 ?_;refine an ?_;go_step;refine cx ?_;refine bN d [11,17] (λi _=>match i with|11=>J R 4611686018427387903|17=>J R 4611686018427387903|_=>a1) (λ_ _=>emp) (λ_=>[]) (λ|1=>[0]|5=>[0]|10=>[0]|16=>[0]|_=>[]) (λ_=>[]) [0,12,18] (λB=>?_);refine aJ ?_;refine dl 0 0 ?_ (hv:=kE);refine aK (ai ao) (λ_ _ _=>by(have h:=G.out;go_simp;try omega)) ?_;refine bx ?_;refine dl 0 1 ?_ (hv:=il);refine aK (ai ao) (λ_ _ _=>by(have h:=L.out;go_simp;try omega)) ?_;refine c5 ?_;refine dl 0 0 ?_ (hv:=kE);refine dh (λf Fr d=>(O f).mono ?_) ?_;·rintro e p ⟨rfl,g⟩;exact⟨{},aa,(d.aH g).dM⟩
     refine aK (ai ao) (λ_ _ _=>by(have h:=V.out;go_simp;try omega)) ?_;refine c5 ?_;refine dl 0 1 ?_ (hv:=il);refine dh (λf Fr d=>(O f).mono ?_) ?_;·rintro e p ⟨rfl,g⟩;exact⟨{},aa,(d.aH g).dM⟩
     refine aK (ai ao) (λ_ _ _=>by(have h:=ib.out;go_simp;try omega)) ?_;refine aJ ?_;refine bQ λgV d=>?_;replace d:=d.drop 1;replace d:=d.drop 1;go_step;refine ah ?_;refine ag ?_;refine an ?_;have u:=d.pk [0];go_wp2_with fail;go_loopw [4] (λE wr=>∃j:Nat,j<=ms.length/\E=J R (j:Int)/\aE (∀(i:Nat) (x:bO),i<j->ms[i]?=ab x->zF o n x=0)/\ak w (λ_=>False) wr [aj C (a' o n g1 g2 (ae A ms.length c)) 26]) (λE wr=>ms.length -(c' E).toNat);case atStart=>exact⟨0,cB _,aa,hid (λi x h=>absurd h (Ao _)),u⟩
     case round=>
      clear d u;obtain⟨j,hj,rfl,mR,d⟩:=hrel;by_cases hlt:j<ms.length
      .have cf:(j:Int)<(ms.length:Int):=ad;obtain⟨m,k⟩:∃m,ms[j]?=ab m:=⟨_,cF hlt⟩;obtain⟨r,U,F,I,P,Q,S⟩:=cZ.jt cO k;have M:=hid P;have iV:=hid Q;have N:=hid S;have D:=hid k;clear P Q S k;obtain⟨z,hz⟩:=ex (zF o n m);have e1:=hid hz;have Yd:aE (∀W,aC _ _ _ W λe w'=>e=aB (J _ z)/\au W w'):=hid (λW=>by rw[<-hz];exact Em W m F I (cW D));clear hz;go_step;refine ah ?_;refine v2 ?_;refine pl d 0 66 ?_ (hv:=fi);refine ag ?_;refine a7 (ai az) ?_;refine an ?_;by_cases hz0:z=0
       .subst hz0;go_step;refine cx ?_;refine bN d [6] (λi _=>match i with|6=>J R 0|_=>a1) (λ_ _=>emp) (λ_=>[]) (λ|0=>[0]|2=>[0]|_=>[]) (λ_=>[]) [0,7] (λB=>?_);refine eO 0 (a' o n g1 g2 (ae A ms.length c)) ?_ (hv:=(e4 _)) (hk:=by omega) (hz:=(by rw[bD];rfl));refine aJ ?_;refine dl 0 66 ?_ (hv:=fi);refine aJ ?_;refine aK _ (λ_ _ _=>b4 24 73 5 _ _ aa ey aw r U _ c j _ (by show ae A _ _=_;rw[M]) aa hlt aa) ?_;refine aK _ (λ_ _ d=>by(refine e5 73 _ aa r _ aa _ (N _ d.only) gi aa aw)) ?_;refine dh (λf Fr d=>(Yd f).mono ?_) ?_;·rintro e p ⟨rfl,g⟩;exact⟨{},aa,(d.aH g).dM⟩
        refine aJ ?_;refine bQ λhZ d=>?_;replace d:=d.drop 1;go_step;refine ah ?_;refine ag ?_;refine pk (ai ao) ?_;refine an ?_;go_step;refine ah ?_;refine ag ?_;refine pad _ 1 ((j+1:Nat):Int) ?_;refine ag ?_;refine an ?_;go_wp2_with fail;go_roundw;case rel=>exact⟨j+1,ad,aa,hid (λi y hi l=>by rcases vz.1 hi with h|rfl;exact mR i y h l;rw[D]at l;cases l;exact e1),d.pick [0]⟩
        case measure=>grind[c']
       .have QM:=hid hz0;go_step;refine cx ?_;refine bN d [6] (λi _=>match i with|6=>J R z|_=>a1) (λ_ _=>emp) (λ_=>[]) (λ|0=>[0]|2=>[0]|_=>[]) (λ_=>[]) [0,7] (λB=>?_);refine eO 0 (a' o n g1 g2 (ae A ms.length c)) ?_ (hv:=(e4 _)) (hk:=by omega) (hz:=(by rw[bD];rfl));refine aJ ?_;refine dl 0 66 ?_ (hv:=fi);refine aJ ?_;refine aK _ (λ_ _ _=>b4 24 73 5 _ _ aa ey aw r U _ c j _ (by show ae A _ _=_;rw[M]) aa hlt aa) ?_;refine aK _ (λ_ _ d=>by(refine e5 73 _ aa r _ aa _ (N _ d.only) gi aa aw)) ?_;refine dh (λf Fr d=>(Yd f).mono ?_) ?_;·rintro e p ⟨rfl,g⟩;exact⟨{},aa,(d.aH g).dM⟩
        refine aJ ?_;refine bQ λjQ d=>?_;replace d:=d.drop 1;go_step;refine ah ?_;refine ag ?_;refine dp QM (ai az) ?_;refine an ?_;go_step;refine ah ?_;refine v4 ?_;refine an ?_;go_wp2_with fail;go_ret2;exact⟨z,⟨_,aa⟩,⟨λh=>absurd h QM,λh=>absurd (h.bE m (cW D)) (by rw[e1];exact QM)⟩,d.only⟩
      .have cf:¬(j:Int)<(ms.length:Int):=ad;obtain rfl:j=ms.length:=ad;have Yb:=hid (λm k=>by obtain⟨i,hi⟩:=p6.1 k;exact mR i m (eM.1 hi).1 hi);have QI:=hid (λm k=>(ago (Yb m k)).1);go_step;refine ah ?_;refine v2 ?_;refine pl d 0 66 ?_ (hv:=fi);refine ag ?_;refine a7 (ai ao) ?_;refine an ?_;go_step;refine ah ?_;refine ag ?_;refine an ?_;have u:=d;go_wp2_with fail;go_loopw [6] (λE wr=>∃i:Nat,i<=ms.length/\E=J R (i:Int)/\aE (∀(a b:Nat) (x y:bO),b<a->a<i->ms[a]?=ab x->ms[b]?=ab y->meets (cm x) (cm y)=ao)/\ak w (λ_=>False) wr [aj C (a' o n g1 g2 (ae A ms.length c)) 26]) (λE wr=>ms.length -(c' E).toNat);case atStart=>exact⟨0,cB _,aa,hid (λa b x y _ h=>absurd h (Ao _)),u⟩
       case round=>
        clear d u;obtain⟨i,hi,rfl,yp,d⟩:=hrel;by_cases hlt:i<ms.length
        .have cf:(i:Int)<(ms.length:Int):=ad;obtain⟨m,k⟩:∃m,ms[i]?=ab m:=⟨_,cF hlt⟩;obtain⟨r,U,F,I,P,Q,S⟩:=cZ.jt cO k;have M:=hid P;have iV:=hid Q;have N:=hid S;have D:=hid k;clear P Q S k;go_step;refine ah ?_;refine v2 ?_;refine pl d 0 66 ?_ (hv:=fi);refine ag ?_;refine a7 (ai az) ?_;refine an ?_;go_step;refine ah ?_;refine ag ?_;refine an ?_;have u:=d;go_wp2_with fail;go_loopw [7] (λiO wr=>∃j:Nat,j<=i/\iO=J R (j:Int)/\aE (∀(b:Nat) (y:bO),b<j->ms[b]?=ab y->meets (cm m) (cm y)=ao)/\ak w (λ_=>False) wr [aj C (a' o n g1 g2 (ae A ms.length c)) 26]) (λiO wr=>i -(c' iO).toNat);case atStart=>exact⟨0,cB _,aa,hid (λb y h=>absurd h (Ao _)),u⟩
         case round=>
          clear d u;obtain⟨j,hj,rfl,Xw,d⟩:=hrel;by_cases C2:j<i
          .have arp:(j:Int)<(i:Int):=ad;have SR:j<ms.length:=ad;obtain⟨y,l⟩:∃y,ms[j]?=ab y:=⟨_,cF SR⟩;obtain⟨X,uS,ahI,sd,aaR,_,xh⟩:=cZ.jt cO.out l;have Xu:=hid aaR;have XA:=hid xh;have ny:=hid l;have M':=(QI m (cW D)).Gj;have adf:=(QI y (cW l)).Gj;obtain⟨gr,v,T⟩:∃a b,mh (cm m) (cm y)=(a,b):=⟨_,_,aa⟩;have H:aE (∀W,aC _ _ _ W λe w'=>e=aB (ar #[J _ gr,J _ v])/\au W w'):=hid (λW=>by have q:=av4 _ _ _ _ W M' adf;rw[show mh (m.to,cD m) (y.to,cD y)=(gr,v)from T]at q;exact q);have XX:aE ((0<v)↔meets _ _=az):=hid (by have q:=auJ (a:=cm m) (b:=cm y);rw[T]at q;exact q);have En:=hid (λW=>Jv m F I W);have Eo:=hid (λW=>Jv y ahI sd W);clear l aaR xh M' adf T;obtain⟨t1,Dd⟩:=ex (cD m);obtain⟨t2,IS⟩:=ex (cD y);rw[Dd]at H En;rw[IS]at H Eo;clear Dd IS;go_step;refine ah ?_;refine v2 ?_;refine a7 (ai az) ?_;refine an ?_;by_cases K:0<v
           .have b1:=hid K;have Qq:=hid (XX.1 K);clear K;go_step;refine cx ?_;refine bN d [5,11,12] (λi _=>match i with|5=>ar #[J R m.to,J R t1]|11=>ar #[J R y.to,J R t2]|12=>ar #[J R gr,J R v]|_=>a1) (λ_ _=>emp) (λ_=>[]) (λ|1=>[0]|7=>[0]|_=>[]) (λ_=>[]) [0,6,12,13] (λB=>?_);refine aJ ?_;refine dl 0 66 ?_ (hv:=fi);refine aJ ?_;refine aK _ (λ_ _ _=>b4 24 73 5 _ _ aa ey aw r U _ c i _ (by show ae A _ _=_;rw[M]) aa hlt aa) ?_;refine aK _ (λ_ _ d=>by(refine e5 73 _ aa r _ aa _ (N _ d.only) gi aa aw)) ?_;refine dh (λf Fr d=>(En f).mono ?_) ?_;·rintro e p ⟨rfl,g⟩;exact⟨{},aa,(d.aH g).dM⟩
            refine aJ ?_;refine dl 0 66 ?_ (hv:=fi);refine aJ ?_;refine aK _ (λ_ _ _=>b4 24 73 5 _ _ aa ey aw X uS _ c j _ (by show ae A _ _=_;rw[Xu]) aa SR aa) ?_;refine aK _ (λ_ _ d=>e5 73 (bj 68) aa X (uS+j*5) aa _ (XA _ d.only) gi aa aw) ?_;refine dh (λf Fr d=>(Eo f).mono ?_) ?_;·rintro e p ⟨rfl,g⟩;exact⟨{},aa,(d.aH g).dM⟩
            refine dh (λf Fr d=>(H f).mono ?_) ?_;·rintro e p ⟨rfl,g⟩;exact⟨{},aa,(d.aH g).dM⟩
            refine fJ (J R v) ?_;refine aK (ai az) (λ_ _ _=>by(have h:=b1.out;go_simp;try omega)) ?_;refine bQ λke d=>?_;replace d:=d.drop 1;replace d:=d.drop 1;replace d:=d.drop 1;go_step;refine ah ?_;refine v3 ?_;refine an ?_;go_wp2_with fail;go_ret2;exact⟨4,⟨_,aa⟩,⟨λh=>absurd h aS,λh=>absurd (h.ap i j m y C2 D ny) (by rw[Qq];decide)⟩,d.only⟩
           .have b1:=hid K;have Qq:aE (meets _ _=ao):=hid (by cases hq:meets (cm m) (cm y)with|false=>rfl|true=>exact absurd (XX.2 hq) K);clear K;go_step;refine cx ?_;refine bN d [5,11,12] (λi _=>match i with|5=>ar #[J R m.to,J R t1]|11=>ar #[J R y.to,J R t2]|12=>ar #[J R gr,J R v]|_=>a1) (λ_ _=>emp) (λ_=>[]) (λ|1=>[0]|7=>[0]|_=>[]) (λ_=>[]) [0,6,12,13] (λB=>?_);refine aJ ?_;refine dl 0 66 ?_ (hv:=fi);refine aJ ?_;refine aK _ (λ_ _ _=>b4 24 73 5 _ _ aa ey aw r U _ c i _ (by show ae A _ _=_;rw[M]) aa hlt aa) ?_;refine aK _ (λ_ _ d=>by(refine e5 73 _ aa r _ aa _ (N _ d.only) gi aa aw)) ?_;refine dh (λf Fr d=>(En f).mono ?_) ?_;·rintro e p ⟨rfl,g⟩;exact⟨{},aa,(d.aH g).dM⟩
            refine aJ ?_;refine dl 0 66 ?_ (hv:=fi);refine aJ ?_;refine aK _ (λ_ _ _=>b4 24 73 5 _ _ aa ey aw X uS _ c j _ (by show ae A _ _=_;rw[Xu]) aa SR aa) ?_;refine aK _ (λ_ _ d=>e5 73 (bj 68) aa X (uS+j*5) aa _ (XA _ d.only) gi aa aw) ?_;refine dh (λf Fr d=>(Eo f).mono ?_) ?_;·rintro e p ⟨rfl,g⟩;exact⟨{},aa,(d.aH g).dM⟩
            refine dh (λf Fr d=>(H f).mono ?_) ?_;·rintro e p ⟨rfl,g⟩;exact⟨{},aa,(d.aH g).dM⟩
            refine fJ (J R v) ?_;refine aK (ai ao) (λ_ _ _=>by(have h:=b1.out;go_simp;try omega)) ?_;refine bQ λk8 d=>?_;replace d:=d.drop 1;replace d:=d.drop 1;replace d:=d.drop 1;go_step;refine ah ?_;refine ag ?_;refine pad _ 1 ((j+1:Nat):Int) ?_;refine ag ?_;refine an ?_;go_wp2_with fail;go_roundw;case rel=>exact⟨j+1,ad,aa,hid (λb x hb hx=>by rcases vz.1 hb with h|rfl;exact Xw b x h hx;rw[ny]at hx;cases hx;exact Qq),d.pick [0]⟩
            case measure=>simp[c']<;>omega
          .have arp:¬(j:Int)<(i:Int):=ad;obtain rfl:j=i:=ad;go_step;refine ah ?_;refine v2 ?_;refine a7 (ai ao) ?_;refine an ?_;go_step;refine ah ?_;refine ag ?_;refine pad _ 1 ((j+1:Nat):Int) ?_;refine ag ?_;refine an ?_;go_wp2_with fail;go_roundw;case rel=>exact⟨j+1,ad,aa,hid (λa b x y Z ha hx l=>by rcases vz.1 ha with h|rfl;exact yp a b x y Z h hx l;rw[D]at hx;cases hx;exact Xw b y Z l),d.pick [0]⟩
           case measure=>simp[c']<;>omega
        .have cf:¬(i:Int)<(ms.length:Int):=ad;obtain rfl:i=ms.length:=ad;go_step;refine ah ?_;refine v2 ?_;refine pl d 0 66 ?_ (hv:=fi);refine ag ?_;refine a7 (ai ao) ?_;refine an ?_;go_step;refine ah ?_;refine bh d 0 (a' o n g1 g2 (ae A ms.length c)) ?_ (hv:=(e4 _)) (hk:=by omega) (hz:=(by rw[bD];rfl));refine aR (akH _ d.only QI) ?_;rintro e mn ⟨eE,rfl,abW,g⟩;replace d:=d.aH g;refine aT ?_;refine ag ?_;refine an ?_;rcases abW with⟨rfl,hb⟩|⟨T,s,hs,hb⟩;·have HB:=hid hb;clear hb;go_step;refine ah ?_;refine ag ?_;refine pk (ai ao) ?_;refine an ?_;go_step;refine ah ?_;refine v2 ?_;refine an ?_;go_wp2_with fail;go_ret2;exact⟨0,⟨_,aa⟩,⟨λ_=>⟨⟨⟨ad,ad⟩,ad,ad⟩,Yb,λa b x y Z hx l=>yp a b x y Z (eM.1 hx).1 hx l,λt ht=>HB t ad⟩,λ_=>aa⟩,d.only⟩
         .have HB:=hid hb;have H:=hid T;clear hb;go_step;refine ah ?_;refine ag ?_;refine aI (ai az) (by(have h:=H.out;go_simp;try omega)) ?_;refine an ?_;go_step;refine ah ?_;refine v3 ?_;refine an ?_;go_wp2_with fail;go_ret2;exact⟨3,⟨_,aa⟩,⟨λh=>absurd h aS,λh=>absurd (h.aaJ s ad) (by rw[HB];decide)⟩,d.only⟩
end
section
attribute [local irreducible] wpList cM
def afV(o n)(g1 g2)A c ms w(f:cZ w A ms)(k:ms.length<=1048576)(ho:∀m∈ms,pF m)b(hb:b=az↔oM o n ms):
 aC ax 75 #[eN o n g1 g2 (ae A ms.length c)] w λe w'=>e=aB (ai b)/\au w w':=by
 have i:=hid (λW g=>avu o n g1 g2 A c ms W (f.aH g) k ho);have d:=hid hb;clear f ho hb;go_enter func75,ntmps75;have a:=a8 w;go_step;refine ah ?_;refine bL a (ar _) (λl w1 a=>?_);refine ed ?_;refine bh a 0 (a' o n g1 g2 (ae A ms.length c)) ?_ (hv:=(e4 _)) (hk:=by omega) (hz:=(by rw[bD];rfl));refine aR (i _ a.only) ?_;rintro e q ⟨bF,⟨p,rfl⟩,hv,g⟩;replace a:=a.aH g;refine aT ?_;refine v5 ?_;refine an ?_
 have j:aE ((bF==0)=b):=hid (by cases b with
  |true=>exact beq_iff_eq.2 (hv.2 (d.1 aa))
  |false=>exact beq_eq_false_iff_ne.2 (λh=>by have:=d.2 (hv.1 h);cases this));clear hv;refine b5 ?_;refine dp j (ai b) ?_;refine bU ?_;go_wp2_with fail;go_ret;exact⟨aa,a.only⟩
def afD(o n)(g1 g2)A c ms w(E:cZ w A ms)(P:ms.length<=1048576):
 aC ax 74 #[eN o n g1 g2 (ae A ms.length c)] w λe w'=>e=aB (ai (ux ms))/\au w w':=by
 have G:=hid E;clear E;go_enter func74,ntmps74;have a:=a8 w;go_step;refine ah ?_;refine bL a (ar _) (λF w1 a=>?_);refine ag ?_;refine ah ?_;refine ag ?_;refine an ?_;have z:=a;go_wp2_with fail;go_loopw [3] (λp wr=>∃j:Nat,j<=ms.length/\p=J R (j:Int)/\aE (∀(i:Nat) (x:bO),i<j->ms[i]?=ab x->x.data.length<=300)/\ak w (λ_=>False) wr [aj F (a' o n g1 g2 (ae A ms.length c)) 26]) (λp wr=>ms.length -(c' p).toNat);case atStart=>exact⟨0,cB _,aa,hid (λi x h=>absurd h (Ao _)),z⟩
 case round=>
  clear a z;obtain⟨j,O,rfl,s,a⟩:=hrel;by_cases hlt:j<ms.length
  .have I:(j:Int)<(ms.length:Int):=ad;obtain⟨m,d⟩:∃m,ms[j]?=ab m:=⟨_,cF hlt⟩;obtain⟨M,Q,K,N,B,C,D⟩:=cZ.jt G d;have q:=hid B;have L:=hid C;have t:=hid D;have v:=hid d;clear B C D d;go_step;refine ah ?_;refine v2 ?_;refine pl a 0 66 ?_ (hv:=fi);refine ag ?_;refine a7 (ai az) ?_;refine an ?_;by_cases f:m.data.length>300;·have b:(m.data.length:Int)>300:=ad;have g:=hid b;have k:=hid f;clear f b;refine b5 ?_;refine pl a 0 66 ?_ (hv:=fi);refine ag ?_;refine aI _ (b4 24 73 5 _ _ aa ey aw _ _ _ _ _ _ (by show ae A _ _=_;rw[q]) aa hlt aa) ?_;refine ag ?_;refine aI _ (mc aa aa (t _ a.only 4 _ aa) aw) ?_;refine ag ?_;refine aI (ai az) (by(have h:=g.out;go_simp;try omega)) ?_;refine ah ?_;refine ag ?_;refine an ?_;go_wp2_with fail;go_ret;exact⟨by rw[show ux ms=ao from by unfold ux;rw[show ms.all (λm=>decide _)=ao from List.all_eq_false.2 ⟨m,cW v,by have:=k.out;simp;omega⟩];rfl];rfl,a.only⟩
   .have b:¬(m.data.length:Int)>300:=ad;have g:=hid b;have k:=hid f;clear f b;refine b5 ?_;refine pl a 0 66 ?_ (hv:=fi);refine ag ?_;refine aI _ (b4 24 73 5 _ _ aa ey aw _ _ _ _ _ _ (by show ae A _ _=_;rw[q]) aa hlt aa) ?_;refine ag ?_;refine aI _ (mc aa aa (t _ a.only 4 _ aa) aw) ?_;refine ag ?_;refine aI (ai ao) (by(have h:=g.out;go_simp;try omega)) ?_;refine b5 ?_;refine pad (j:Int) 1 ((j+1:Nat):Int) ?_;refine bU ?_;go_wp2_with fail;go_roundw;case rel=>exact⟨j+1,ad,aa,hid (λi y hi l=>by rcases vz.1 hi with h|rfl;exact s i y h l;rw[v]at l;cases l;have:=k.out;omega),a.pick [0]⟩
    case measure=>simp[c']<;>omega
  .have I:¬(j:Int)<(ms.length:Int):=ad;obtain rfl:j=ms.length:=ad;have u:aE (ux ms=decide ((ms.length:Int)<=40)):=hid (by unfold ux;rw[show ms.all (λm=>decide _)=az from Ce.2 (λm d=>by obtain⟨i,hi⟩:=p6.1 d;exact decide_eq_true (s i m (eM.1 hi).1 hi)),Bool.true_and];congr 1;rw[eq_iff_iff];omega);obtain⟨r,hr⟩:=ex (decide ((ms.length:Int)<=40));have H:=hid hr;rw[hr]at u;clear hr;go_step;refine ah ?_;refine v2 ?_;refine pl a 0 66 ?_ (hv:=fi);refine ag ?_;refine a7 (ai ao) ?_;refine b5 ?_;refine pl a 0 66 ?_ (hv:=fi);refine ag ?_;refine dp H (ai r) ?_;refine bU ?_;go_wp2_with fail;go_ret;exact⟨by rw[u];rfl,a.only⟩
def avW s(ol b0)(o n)(g1 g2)A c ms w(p:cZ w A ms)(q:ms.length<=1048576)(ho:∀m∈ms,pF m)b(hb:b=az↔oM o n ms):
 aC ax 25 #[ae s ol b0,eN o n g1 g2 (ae A ms.length c)] w λe w'=>e=aB (ai (ux ms&&b&&decide (o=(ol:Int))&&decide (n<=3000)))/\au w w':=by
 obtain⟨f,l⟩:=ex (ux ms);have h:aE (∀W,au w W->aC _ 74 _ W λe w'=>e=aB (ai f)/\au W w'):=hid (λW g=>by rw[<-l];exact afD o n g1 g2 A c ms W (p.aH g) q);have k:=hid (λW g=>afV o n g1 g2 A c ms W (p.aH g) q ho b hb);rw[l];clear p ho hb l;cases f with
 |false=>
  go_enter Pl,Pr;have a:=a8 w;go_step;refine ah ?_;refine bL a (ar _) (λi w1 a=>?_);refine ed ?_;refine bh a 0 (a' o n g1 g2 (ae A ms.length c)) ?_ (hv:=(e4 _)) (hk:=by omega) (hz:=(by rw[bD];rfl));refine bH (h _ a.only) a (λx a=>?_);refine ag ?_;iterate 2 refine ps ?_
  refine v2 ?_;iterate 5 refine ps ?_
  refine v2 ?_;iterate 3 refine ps ?_
  refine eg ?_;go_wp2_with fail;go_ret;exact⟨aa,a.only⟩
 |true=>
  cases b with
  |false=>
   go_enter Pl,Pr;have a:=a8 w;go_step;refine ah ?_;refine bL a (ar _) (λi y a=>?_);refine ed ?_;refine bh a 0 (a' o n g1 g2 (ae A ms.length c)) ?_ (hv:=(e4 _)) (hk:=by omega) (hz:=(by rw[bD];rfl));refine bH (h _ a.only) a (λz a=>?_);refine ag ?_;refine bh a 0 (a' o n g1 g2 (ae A ms.length c)) ?_ (hv:=(e4 _)) (hk:=by omega) (hz:=(by rw[bD];rfl));refine bH (k _ a.only) a (λB a=>?_);refine v2 ?_;iterate 5 refine ps ?_
   refine v2 ?_;iterate 3 refine ps ?_
   refine eg ?_;go_wp2_with fail;go_ret;exact⟨aa,a.only⟩
  |true=>
   by_cases d:o=(ol:Int);·have j:=hid (beq_iff_eq.2 d);rw[show decide _=az from decide_eq_true d];clear d;obtain⟨r,hr⟩:=ex (decide (n<=3000));have t:=hid hr;rw[hr];clear hr;go_enter Pl,Pr;have a:=a8 w;go_step;refine ah ?_;refine bL a (ar _) (λi C a=>?_);refine ed ?_;refine bh a 0 (a' o n g1 g2 (ae A ms.length c)) ?_ (hv:=(e4 _)) (hk:=by omega) (hz:=(by rw[bD];rfl));refine bH (h _ a.only) a (λD a=>?_);refine ag ?_;refine bh a 0 (a' o n g1 g2 (ae A ms.length c)) ?_ (hv:=(e4 _)) (hk:=by omega) (hz:=(by rw[bD];rfl));refine bH (k _ a.only) a (λE a=>?_);refine v3 ?_;refine pl a 0 0 ?_ (hv:=kE);refine v2 ?_;refine dp j (ai az) ?_;refine v3 ?_;refine pl a 0 1 ?_ (hv:=il);refine dp t (ai r) ?_;refine eg ?_;go_wp2_with fail;go_ret;exact⟨aa,a.only⟩
   .have j:=hid (beq_eq_false_iff_ne.2 d);rw[show decide _=ao from decide_eq_false d];clear d;go_enter Pl,Pr;have a:=a8 w;go_step;refine ah ?_;refine bL a (ar _) (λi F a=>?_);refine ed ?_;refine bh a 0 (a' o n g1 g2 (ae A ms.length c)) ?_ (hv:=(e4 _)) (hk:=by omega) (hz:=(by rw[bD];rfl));refine bH (h _ a.only) a (λu a=>?_);refine ag ?_;refine bh a 0 (a' o n g1 g2 (ae A ms.length c)) ?_ (hv:=(e4 _)) (hk:=by omega) (hz:=(by rw[bD];rfl));refine bH (k _ a.only) a (λv a=>?_);refine v3 ?_;refine pl a 0 0 ?_ (hv:=kE);refine v2 ?_;refine dp j (ai ao) ?_;refine v2 ?_;iterate 3 refine ps ?_
    refine eg ?_;go_wp2_with fail;go_ret;exact⟨aa,a.only⟩
end
section
attribute [local irreducible] wpList cM
def Cv(old:List Int)(i:Int)(m:bO):Int:=if m.k=1 then old[(m.fr+i -m.to).toNat]?.getD 0 else m.data[(i -m.to).toNat]?.getD 0
def lS(old:List Int)(ms:List bO)(i:Int):Int:=match ms.find? (λm=>hasB m i)with|some m=>Cv old i m|none=>0
def xM(old:List Int)(ms:List bO)(n:Nat):List Int:=(dU n).map (λi:Nat=>lS old ms (i:Int))
def avn old ms n:(xM old ms n).length=n:=by simp[xM]
theorem avo old ms n:xM old ms (n+1)=xM old ms n++[lS old ms (n:Int)]:=by simp[xM,List.range_succ]
theorem aar{ms m x}(a:m∈ms)(hx:hasB m x=az):∃j y,tl ms x=((j:Nat):Int)/\ms[j]?=ab y/\hasB y x=az/\∀old,lS old ms x=Cv old x y:=by
 unfold tl lS;cases h:ms.findIdx? (λm=>hasB m x)with
 |none=>grind
 |some j=>grind[List.findIdx?_eq_some_iff_getElem,List.find?_eq_some_iff_getElem]
def avr(E A)(b0 c n)o(g1 g2)old ms w(hold:bX w E old)(M:cZ w A ms)(f':ms.length<=1048576)(gU:old.length<=1048576)(hn:n<=1048576)(hv:∀m∈ms,gJ m)(lr:∀m∈ms,m.k=1->m.fr+m.n<=(old.length:Int))(MC:∀i:Nat,i<n->∃m∈ms,hasB m (i:Int)=az):
 aC ax 27 #[ae E old.length b0,eN o (n:Int) g1 g2 (ae A ms.length c)] w λe w'=>∃S Z,e=aB (ae S n Z)/\cj w w' (bg S n Z 5 1 ((xM old ms n).map a6)):=by
 have cO:=hid M;have B6:=hid hold;have cP:=hid hv;have qY:=hid lr;have K6:=hid MC;have La:=hid (λW off g=>afE o n g1 g2 A c ms off W (M.aH g) f' (λm x=>(hv m x).Gj));clear M hold hv lr MC;go_enter func27,ntmps27;have a:=a8 w;go_step;refine ah ?_;refine bL a (ar _) (λcg w1 a=>?_);refine bU ?_;replace a:=a.new (bg af 0 0 5 1 []) ⟨av.refl _ _,Row.nil _ _ _ _,λb ⟨_,_,e⟩=>aG⟩;refine ah ?_;refine ag ?_;refine ah ?_;refine ag ?_;refine an ?_;have Y:=a.pk [0,1];go_wp2_with fail;go_loopw [5,6] (λep P wr=>∃(i:Nat) (aL:Option Addr) (c2:Nat),i<=n/\ep=ae aL i c2/\P=J R (i:Int)/\ak w (λ_=>False) wr [bg aL i c2 5 1 ((xM old ms i).map a6),aj cg (a' o (n:Int) g1 g2 (ae A ms.length c)) 26]) (λep P wr=>n -(c' P).toNat);case atStart=>exact⟨0,_,0,cB _,aa,aa,Y⟩
 case round=>
  clear a Y;obtain⟨i,aL,c2,hi,rfl,rfl,a⟩:=hrel;by_cases hlt:i<n
  .have cf:(i:Int)<(n:Int):=ad;obtain⟨m0,vU,hx0⟩:=K6 i hlt;obtain⟨j,d,abU,r,abA,k0⟩:=aar vU hx0;have L:=(eM.1 r).1;have V:=hid (λW g=>by have q:=La W (i:Int) g;rwa [abU]at q);obtain⟨m,x⟩:∃m,ms[j]?=ab m:=⟨_,cF L⟩;obtain⟨C,D,F,K,bB,eA,dg⟩:=cZ.jt cO x;have T:=hid bB;have iV:=hid eA;have U:=hid dg;have cn:=hid x;clear bB eA dg x;obtain rfl:d=m:=by have h:=cn.out;rw[r]at h;cases h;rfl
   have X:aE (xM old ms (i+1)=xM old ms i++[Cv old (i:Int) d]):=hid (by grind[avo]);have hb2:=of_decide_eq_true abA;have z:=cP d (cW r);clear vU hx0 abU k0 abA m0;go_step;refine ah ?_;refine v2 ?_;refine pl a 1 1 ?_ (hv:=il);refine a7 (ai az) ?_;refine an ?_;by_cases hk:d.k=1
   .obtain⟨f1,f2,f3,_⟩:=z.copy hk;have gU:=qY d (cW r) hk;have k3:cD d=d.n:=if_pos hk;rw[k3]at hb2;obtain⟨p,N⟩:∃p:Nat,d.fr+(i:Int) -d.to=(p:Int):=⟨(d.fr+(i:Int) -d.to).toNat,ad⟩;have hpl:p<old.length:=ad;obtain⟨kk,B,v,hc0⟩:=B6 ad;have G:=hid v;have s:=hid (hc0 p hpl);obtain⟨t,l⟩:=ex (old[p]?.getD 0);rw[l]at s;have H:aE (Cv _ _ d=t):=hid (by unfold Cv;rw[if_pos hk,N,p3];exact l);have O:=z.cm;rw[k3]at O;have I:=hid hk;clear hk z l v hc0 r;refine cx ?_;refine bN a [4,7,8] (λi u=>match i with|4=>J R (j:Int)|7=>ay (ab ⟨u.b,0,af⟩)|_=>a1) (λf=>λ|7=>aj ((f 7).b) #[J R 0,J R 0,J R 0,J R 0,ae af 0 0] 73|8=>aj ((f 7).b) #[J R d.k,J R d.to,J R d.fr,J R d.n,ae F d.data.length K] 73|_=>emp) (λ|8=>[9]|_=>[]) (λ|1=>[1]|2=>[1]|_=>[]) (λ|7=>[7]|8=>[7]|_=>[]) [0,1,6,10] (λf=>?_);refine aJ ?_;refine dl 0 66 ?_ (hv:=fi);refine eO 0 (a' o (n:Int) g1 g2 (ae A ms.length c)) ?_ (hv:=(e4 _)) (hk:=by omega) (hz:=(by rw[bD];rfl));refine aJ ?_;refine dA (λQ _ a=>V Q a.only) ?_;refine aK _ (λ_ _ _=>b4 24 73 5 _ _ aa ey aw C D _ c j _ (by show ae A _ _=_;rw[T]) aa L aa) ?_;refine aK _ (λ_ _ a=>e5 73 (bj 19) aa C (D+j*5) aa _ (U _ a.only) gi aa aw) ?_;refine se _ ?_;refine fY _ ?_;refine bQ λaU a=>?_;generalize (f 7).b=fQ at a⊢;replace a:=a.drop 2;refine b5 ?_;refine pl a 2 0 ?_;refine dp I (ai az) ?_;refine jk ?_;refine pl a 2 2 ?_;refine ag ?_;refine pad _ _ (d.fr+(i:Int)) ?_;refine ag ?_;refine pl a 2 1 ?_;refine j0 _ _ _ ?_;refine aI _ (b4 22 5 1 _ _ aa dK aw kk B _ b0 p ((B+p)) (by show ae E _ _=_;rw[G]) aa hpl ad) ?_;refine aI _ (mc aa aa (a.only.cell s (λh=>h)) aw) ?_;refine e' a #[J dR t] 5 (λazu bI a=>?_);refine kd (m:=1) a 1 1 (aX.cellsOf (m:=1) (a.aV 0) aa) (by intro u y;simp at y;subst y;rfl) (λVq Zj b9 a=>?_) (hby:=by omega);refine cA ?_;refine pad (i:Int) 1 ((i+1:Nat):Int) ?_;refine bU ?_;go_wp2_with fail;go_roundw;case rel=>exact⟨_,_,_,ad,aa,aa,by rw[X,fR,H];exact a.pick [1,2]⟩
    case measure=>simp[c']<;>omega
   .have hk2:cD d=(d.data.length:Int):=if_neg hk;rw[hk2]at hb2;obtain⟨p,N⟩:∃p:Nat,(i:Int) -d.to=(p:Int):=⟨((i:Int) -d.to).toNat,ad⟩;have hpl:p<d.data.length:=ad;obtain⟨kk,B,v,hc0⟩:=(iV w (av.refl _ _)).1 ad;have G:=hid v;have s:=hid (hc0 p hpl);obtain⟨t,l⟩:=ex (d.data[p]?.getD 0);rw[l]at s;have H:aE (Cv old _ d=t):=hid (by unfold Cv;rw[if_neg hk,N,p3];exact l);have O:=z.cm;rw[hk2]at O;have I:=hid hk;clear hk z l v hc0 r;refine cx ?_;refine bN a [4,7,8] (λi u=>match i with|4=>J R (j:Int)|7=>ay (ab ⟨u.b,0,af⟩)|_=>a1) (λf=>λ|7=>aj ((f 7).b) #[J R 0,J R 0,J R 0,J R 0,ae af 0 0] 73|8=>aj ((f 7).b) #[J R d.k,J R d.to,J R d.fr,J R d.n,ae F d.data.length K] 73|_=>emp) (λ|8=>[9]|_=>[]) (λ|1=>[1]|2=>[1]|_=>[]) (λ|7=>[7]|8=>[7]|_=>[]) [0,1,6,10] (λf=>?_);refine aJ ?_;refine dl 0 66 ?_ (hv:=fi);refine eO 0 (a' o (n:Int) g1 g2 (ae A ms.length c)) ?_ (hv:=(e4 _)) (hk:=by omega) (hz:=(by rw[bD];rfl));refine aJ ?_;refine dA (λQ _ a=>V Q a.only) ?_;refine aK _ (λ_ _ _=>b4 24 73 5 _ _ aa ey aw C D _ c j _ (by show ae A _ _=_;rw[T]) aa L aa) ?_;refine aK _ (λ_ _ a=>e5 73 (bj 19) aa C (D+j*5) aa _ (U _ a.only) gi aa aw) ?_;refine se _ ?_;refine fY _ ?_;refine bQ λcE a=>?_;generalize (f 7).b=fQ at a⊢;replace a:=a.drop 2;refine b5 ?_;refine pl a 2 0 ?_;refine dp I (ai ao) ?_;refine gW ?_;refine pl a 2 4 ?_;refine v2 ?_;refine pl a 2 1 ?_;refine j0 _ _ _ ?_;refine aI _ (b4 22 5 1 _ _ aa dK aw kk B _ K p ((B+p)) (by show ae F _ _=_;rw[G]) aa hpl ad) ?_;refine aI _ (mc aa aa (a.only.cell s (λh=>h)) aw) ?_;refine e' a #[J dR t] 5 (λOZ cV a=>?_);refine kd (m:=1) a 1 1 (aX.cellsOf (m:=1) (a.aV 0) aa) (by intro u y;simp at y;subst y;rfl) (λrS r' dJ a=>?_) (hby:=by omega);refine cA ?_;refine pad (i:Int) 1 ((i+1:Nat):Int) ?_;refine bU ?_;go_wp2_with fail;go_roundw;case rel=>exact⟨_,_,_,ad,aa,aa,by rw[X,fR,H];exact a.pick [1,2]⟩
    case measure=>simp[c']<;>omega
  .have cf:¬(i:Int)<(n:Int):=ad;obtain rfl:i=n:=ad;go_step;refine ah ?_;refine v2 ?_;refine pl a 1 1 ?_ (hv:=il);refine a7 (ai ao) ?_;refine ah ?_;refine eg ?_;go_wp2_with fail;go_ret;exact⟨aL,c2,aa,a.fresh 0⟩
end
section
attribute [local irreducible] wpList cM
def HM(ms:List bO)(i j:Nat):Bool:=match ms[i]?,ms[j]? with
 |some m,ab y=>decide (i≠j)&&(decide (m.k=1)&&meets (src m) (cm y))
 |_,_=>ao
def afK(ms:List bO)(i j:Nat):List (Int×Int):=((dU j).filter (HM ms i)).map (λj:Nat=>((i:Int),(j:Int)))
def Jp(ms:List bO)(i:Nat):List (Int×Int):=(dU i).flatMap (λi=>afK ms i ms.length)
end
end Go.Proofs.YtcmhplknoglbkaaGreat
