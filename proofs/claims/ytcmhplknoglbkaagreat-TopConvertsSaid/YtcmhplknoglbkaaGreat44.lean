/- Part 44 of the proof of TopConvertsSaid. -/
import Derived.Shelf.Bytes.SlIndexWhole
import Derived.Test.YtcmhplknoglbkaaGreatProg
import Derived.Test.YtcmhplknoglbkaaGreat0
import Derived.Test.YtcmhplknoglbkaaGreat6
import Derived.Test.YtcmhplknoglbkaaGreat37
set_option linter.all false
set_option maxRecDepth 100000
set_option maxHeartbeats 4000000
open Go.Proofs.Tryz
open Array renaming size->jD
open Bool renaming false->au,true->aB
open Go renaming Calls->aD,undef->aZ,wpList_nil->ak,wp_region_lit->ar
open Go.Ending renaming returned->aA
open Go.IntKind renaming i64->R
open Go.Lib renaming add_plain'->afV,bytesOf->FC,index->UN
open Go.Proofs.Lays renaming n185->aw1
open Go.Proofs.Tryz renaming func188->agf,func99->Ve,ntmps99->ahv,prog->ax,underlying22->dJ
open Go.RowKit renaming intOf->cx
open Go.Value renaming bool->aj,int->J,pointer->ay,slice->ad
open List renaming drop_of_length_le->Gq,length_append->dw,map_append->gy
open Nat renaming le_refl->cp,zero_le->cQ
open Option renaming none->af,some->ab
namespace Go.Proofs.YtcmhplknoglbkaaGreat
open Go.Shelf
def Tryz.aqj:Go.Shelf.Ren:=⟨λ|185=>189|187=>257|115=>258|253=>259|224=>260|254=>261|255=>314|291=>315|n=>n,λ|37=>22|3=>3|4=>4|0=>0|5=>5|46=>311|9=>9|146=>418|51=>315|n=>n,λ|1=>0|n=>n⟩
def Tryz.aqi:aw1 ax Tryz.aqj:={
 mixed:=aT
 f115:=func258.trans (congrArg ab aT)
 f185:=func189.trans (congrArg ab aT)
 f187:=func257.trans (congrArg ab aT)
 f224:=func260.trans (congrArg ab aT)
 f253:=func259.trans (congrArg ab aT)
 f254:=func261.trans (congrArg ab aT)
 f255:=func314.trans (congrArg ab aT)
 f291:=func315.trans (congrArg ab aT)
 t0:=Tryz.underlying0
 a0:=Tryz.isAgg0
 z0:=Tryz.sizeOf0
 v0:=Tryz.zeroValue0
 t3:=Tryz.underlying3
 a3:=Tryz.isAgg3
 z3:=Tryz.sizeOf3
 v3:=Tryz.zeroValue3
 t4:=Tryz.underlying4
 a4:=Tryz.isAgg4
 z4:=Tryz.sizeOf4
 v4:=Tryz.zeroValue4
 t5:=Tryz.underlying5
 a5:=Tryz.isAgg5
 z5:=Tryz.sizeOf5
 v5:=Tryz.zeroValue5
 t9:=Tryz.underlying9
 a9:=Tryz.isAgg9
 z9:=Tryz.sizeOf9
 v9:=Tryz.zeroValue9
 t37:=dJ
 a37:=isAgg22
 z37:=sizeOf22
 v37:=zeroValue22
 t46:=Tryz.underlying311
 a46:=Tryz.isAgg311
 z46:=Tryz.sizeOf311
 v46:=Tryz.zeroValue311
 t51:=Tryz.underlying315
 a51:=Tryz.isAgg315
 z51:=Tryz.sizeOf315
 v51:=Tryz.zeroValue315
 t146:=underlying418
 a146:=isAgg418
 z146:=sizeOf418
 v146:=zeroValue418
 g1:=by kernel_rfl}
open Go.RowKit Go.MapKept
def jG(l:List Int):Prop:=∀x∈l,0<=x/\x<256
def jG.drop{l}(h:jG l)n:jG (l.drop n):=λx hx=>h x (List.mem_of_mem_drop hx)
def jG.take{l}(h:jG l)n:jG (l.take n):=λx hx=>h x (List.mem_of_mem_take hx)
def w3(xs cq:List Int):Int:=UN (FC xs) (FC cq)
def apB(a aK)(c1 c2)(xs cq)w m(h1:bT w a xs)(b:bT w aK cq)(f:0<xs.length)(g:0<cq.length)(eS:jG xs)(eZ:jG cq)(hc:xs.length<=c1)(j:xs.length<=1048576)(hs2:cq.length<=1048576)(c:w.cell? ⟨0,0,af⟩=ab (J R m)):
 aD ax 189 #[ad a xs.length c1,ad aK cq.length c2] w λe w'=>e=aA (J R (w3 xs cq))/\ao w w':=by
 obtain⟨g1,fb,rfl,k⟩:=h1 f;obtain⟨g2,d,rfl,l⟩:=b g;exact(Any.bytes_Index_at Tryz.aqi ⟨g1,fb,af⟩ ⟨g2,d,af⟩ xs.length c1 cq.length c2 xs cq m w aa aa eS eZ (λi hi=>by grind[afV]) (λi hi=>by grind[afV]) hc ae ae c).mono λe w' ⟨h,q,b9⟩=>⟨h,b9▸aq.drewN _ _⟩
def apt(xs cq):-1<=w3 xs cq/\w3 xs cq<=xs.length:=by
 refine⟨Lib.index_ge _ _,?_⟩;unfold w3;rw[<-Lib.bytesOf_length xs];generalize FC xs=l;generalize FC cq=s;induction l with
 |nil=>grind[UN]
 |cons b l a=>grind[UN]
def oX:List Int->List Int->Nat
 |x::xs,y::cq=>if x=y then oX xs cq+1 else 0
 |_,_=>0
def amU{b o:List Int}{n k}(h:n<b.length)(a:k<o.length):oX (b.drop n) (o.drop k)=if b[n]?.getD 0=o[k]?.getD 0 then oX (b.drop (n+1)) (o.drop (k+1))+1 else 0:=by grind[List.drop_eq_getElem_cons,oX]
def amS{b o:List Int}{n k}(h:b.length<=n):oX (b.drop n) (o.drop k)=0:=by grind[Gq,oX]
def amT{b o:List Int}{n k}(h:o.length<=k):oX (b.drop n) (o.drop k)=0:=by grind[Gq,oX]
def nN(old b:List Int)(blk:Nat):Int×Int:=
 if b.length<blk then(-1,0)else if w3 old (b.take blk)<0 then(-1,0)else(w3 old (b.take blk),((blk+oX (b.drop blk) (old.drop ((w3 old (b.take blk)).toNat+blk)):Nat):Int))
def aqM(da jN blk:Nat)(d aK)(c1 c2)(old b)Z w(hblk:1<=blk/\blk<=1048576)(hop:0<old.length)(hN:old.length<=1048576)(ZV:b.length<=1048576)(hc2:old.length<=c2)(hc1:b.length<=c1)(Q:bT w d b)(hold:bT w aK old)(N:jG b)(O:jG old)(hb1:aX w da #[J R (blk:Int)] 3)(hb2:aX w jN #[ad aK old.length c2] 22)(P:w.cell? ⟨0,0,af⟩=ab (J R Z)):
 aD ax 188 #[ad d b.length c1,ay (ab ⟨da,0,af⟩),ay (ab ⟨jN,0,af⟩)] w λe w'=>e=aA (.tuple #[J R (nN old b blk).1,J R (nN old b blk).2])/\ao w w':=by
 have F:=hid Q;have G:=hid hold;have f:=hid hb1;have j:=hid hb2;have bX:=hid P;obtain⟨hb0,zP⟩:=hblk;have O8:=hid N;have O9:=hid O;clear Q hold hb1 hb2 P N O;go_enter agf,ntmps188;have a:=bg w;go_upto_region 0 with fail;refine ar ?_;refine dQ ?_;by_cases hbl:b.length<blk;·have Lf:(blk:Int)>(b.length:Int):=ae;have c:=hid (show nN old b _=(-1,0)from if_pos hbl);refine aF ?_;refine iL f.out a.only ?_;refine cd (aj au) ?_;refine ag ?_;refine iL f a.only ?_;refine v2 ?_;refine cd (aj aB) ?_;refine pk (aj aB) ?_;refine aF ?_;refine dQ ?_;go_wp2_with fail;go_ret2;exact⟨by rw[c];rfl,a.only⟩
 .have Lf:¬(blk:Int)>(b.length:Int):=ae;refine aF ?_;refine iL f.out a.only ?_;refine cd (aj au) ?_;refine ag ?_;refine iL f a.only ?_;refine v2 ?_;refine cd (aj au) ?_;refine pk (aj au) ?_;refine ak ?_;have X:(b.take blk).length=blk:=aG
  have z:=hid (λW g=>by have h:=apB aK d c2 c1 _ (b.take blk) W Z (G.out.aI g) ((F.out.aI g).Fo ae) hop ae O9 (O8.out.take _) hc2 ae ae (GJ g bX);rw[X]at h;exact h);clear X;have V:=apt old (b.take blk);have l:nN _ b _=if w3 _ _<0 then(-1,0)else(w3 old _,((blk+oX _ _:Nat):Int)):=if_neg hbl;obtain⟨q,T⟩:=ex (w3 old (b.take blk));rw[T]at V z l;obtain⟨nM,mI⟩:=V;clear T;by_cases U:q<0;·rw[if_pos U]at l;have c:=hid l;clear l;refine dh ?_;refine bP a [4] (λi _=>match i with|4=>J R q|_=>aZ) (λ_ _=>emp) (λ_=>[]) (λ_=>[]) (λ_=>[]) [4] (λm=>?_);refine aM (ad aK _ c2) (λ_ _ a=>fz aa aa (aX.aI j a.only) aa aw) ?_;refine aL ?_;refine aM (J _ _) (λ_ _ a=>fz aa aa (aX.aI f a.only) aa aw) ?_;refine aM _ (λ_ _ _=>qV 22 5 1 _ _ aa dJ aw d _ c1 blk aa aa ae) ?_;refine dE (λ_ _ a=>z _ a.only) ?_;refine aL ?_;refine bS λw1 a=>?_;replace a:=a.drop 0;refine b6 ?_;refine cd (aj aB) ?_;refine aF ?_;refine dQ ?_;go_wp2_with fail;go_ret2;exact⟨by rw[c];rfl,a.only⟩
  .rw[if_neg U]at l;have c:=hid l;clear l;refine dh ?_;refine bP a [4] (λi _=>match i with|4=>J R q|_=>aZ) (λ_ _=>emp) (λ_=>[]) (λ_=>[]) (λ_=>[]) [4] (λm=>?_);refine aM (ad aK _ c2) (λ_ _ a=>fz aa aa (aX.aI j a.only) aa aw) ?_;refine aL ?_;refine aM (J _ _) (λ_ _ a=>fz aa aa (aX.aI f a.only) aa aw) ?_;refine aM _ (λ_ _ _=>qV 22 5 1 _ _ aa dJ aw d _ c1 blk aa aa ae) ?_;refine dE (λ_ _ a=>z _ a.only) ?_;refine aL ?_;refine bS λaS a=>?_;replace a:=a.drop 0;obtain⟨q,rfl⟩:=Int.eq_ofNat_of_zero_le (show 0<=q by omega);refine b6 ?_;refine cd (aj au) ?_;refine aF ?_;refine iL f.out a.only ?_;refine bR ?_;rw[show((q:Int)).toNat+blk=q+blk from aU]at c;obtain⟨p,v,K,M⟩:=F (show 0<b.length by omega);obtain⟨r,o5,L,S⟩:=G hop;have D:=hid K;have E:=hid L;have ahV:=hid M;have aiu:=hid S;clear K L M S;have H:=a;go_wp2_with fail;go_loopw [7] (λC wr=>∃n:Nat,blk<=n/\n<=b.length/\C=J R (n:Int)/\Hid (blk+oX (b.drop blk) (old.drop (q+blk))=n+oX (b.drop n) (old.drop (q+n)))/\ai w (λ_=>False) wr []) (λC wr=>b.length -(cx C).toNat);case atStart=>exact⟨_,cp _,ae,aa,hid aa,H⟩
   case round=>
    clear a H;obtain⟨n,nJ,vu,rfl,o,a⟩:=hrel;by_cases s:n<b.length
    .have hnz:(n:Int)<(b.length:Int):=ae;by_cases t:q+n<old.length
     .have uf:((q+n:Nat):Int)<(old.length:Int):=ae;have A:Hid (∀W,ao w W->W.cell? _=ab _):=hid (λW g=>GJ g (ahV n s));have B:Hid (∀W,ao w W->W.cell? _=ab _):=hid (λW g=>GJ g (aiu _ t));have hst:=amU (k:=_) s t;obtain⟨x,hx⟩:=ex (b[n]?.getD 0);obtain⟨y,Y⟩:=ex (old[q+n]?.getD 0);rw[hx]at hst A;rw[Y]at hst B;have I:=hid hst;clear hst hx Y;by_cases u:x=y
      .
       go_upto_region 7 with fail;refine bP a [] (λ_ _=>aZ) (λ_ _=>emp) (λ_=>[]) (λ_=>[]) (λ_=>[]) [] (λm=>?_);refine c7 ?_;refine aM (aj aB) (λ_ _ _=>by(go_simp;try omega)) ?_;refine c7 ?_;refine aM _ (λ_ _ _=>lK 3 _ _ 3 aa _ _ ((q+n:Nat):Int) aa aa ae ae ae) ?_;refine aM (ad aK _ c2) (λ_ _ a=>fz aa aa (aX.aI j a.only) aa aw) ?_;refine aL ?_;refine aM (aj aB) (λ_ _ _=>by(go_simp;try omega)) ?_;refine gC (aj aB) ?_;refine c7 ?_;refine aM _ (λ_ _ _=>cI 22 5 1 _ _ aa dJ aw p v _ c1 n ((v+n)) (by show ad d _ _=_;rw[D]) aa s ae) ?_;refine aM _ (λ_ _ a=>EI 5 _ aa p _ aa (A _ a.only) aw) ?_;refine aM (ad aK _ c2) (λ_ _ a=>fz aa aa (aX.aI j a.only) aa aw) ?_;refine br ?_;refine aM _ (λ_ _ _=>lK 3 _ _ 3 aa _ _ ((q+n:Nat):Int) aa aa ae ae ae) ?_;refine aM _ (λ_ _ _=>cI 22 5 1 _ (.tmp 44) aa dJ aw r o5 _ c2 ((q+n)) ((o5+(q+n))) (by show ad aK _ _=_;rw[E]) aa t ae) ?_;refine aM _ (λ_ _ a=>EI 5 _ aa r _ aa (B _ a.only) aw) ?_;refine aM (aj aB) (λ_ _ _=>by(go_simp;try exact u)) ?_;refine gC (aj aB) ?_;refine bS λbN a=>?_;refine b6 ?_;refine pad (n:Int) 1 ((n+1:Nat):Int) ?_;refine bR ?_;go_wp2_with fail;go_roundw;case rel=>exact⟨n+1,ae,ae,aa,hid (by rw[o,I,if_pos u];show _=n+1+oX _ (old.drop (q+n+1));omega),a⟩
       case measure=>simp[cx]<;>omega
      .
       go_upto_region 7 with fail;refine bP a [] (λ_ _=>aZ) (λ_ _=>emp) (λ_=>[]) (λ_=>[]) (λ_=>[]) [] (λm=>?_);refine c7 ?_;refine aM (aj aB) (λ_ _ _=>by(go_simp;try omega)) ?_;refine c7 ?_;refine aM _ (λ_ _ _=>lK 3 _ _ 3 aa _ _ ((q+n:Nat):Int) aa aa ae ae ae) ?_;refine aM (ad aK _ c2) (λ_ _ a=>fz aa aa (aX.aI j a.only) aa aw) ?_;refine aL ?_;refine aM (aj aB) (λ_ _ _=>by(go_simp;try omega)) ?_;refine gC (aj aB) ?_;refine c7 ?_;refine aM _ (λ_ _ _=>cI 22 5 1 _ _ aa dJ aw p v _ c1 n ((v+n)) (by show ad d _ _=_;rw[D]) aa s ae) ?_;refine aM _ (λ_ _ a=>EI 5 _ aa p _ aa (A _ a.only) aw) ?_;refine aM (ad aK _ c2) (λ_ _ a=>fz aa aa (aX.aI j a.only) aa aw) ?_;refine br ?_;refine aM _ (λ_ _ _=>lK 3 _ _ 3 aa _ _ ((q+n:Nat):Int) aa aa ae ae ae) ?_;refine aM _ (λ_ _ _=>cI 22 5 1 _ (.tmp 44) aa dJ aw r o5 _ c2 ((q+n)) ((o5+(q+n))) (by show ad aK _ _=_;rw[E]) aa t ae) ?_;refine aM _ (λ_ _ a=>EI 5 _ aa r _ aa (B _ a.only) aw) ?_;refine aM (aj au) (λ_ _ _=>by(go_simp;try exact u)) ?_;refine gC (aj au) ?_;refine bS λcc a=>?_;refine aF ?_;refine v4 ?_;refine ak ?_;go_wp2_with fail;go_ret2;exact⟨by rw[c,o,I,if_neg u];rfl,a.only⟩
     .have uf:¬((q+n:Nat):Int)<(old.length:Int):=ae;go_upto_region 7 with fail;refine bP a [] (λ_ _=>aZ) (λ_ _=>emp) (λ_=>[]) (λ_=>[]) (λ_=>[]) [] (λm=>?_);refine c7 ?_;refine aM (aj aB) (λ_ _ _=>by(go_simp;try omega)) ?_;refine c7 ?_;refine aM _ (λ_ _ _=>lK 3 _ _ 3 aa _ _ ((q+n:Nat):Int) aa aa ae ae ae) ?_;refine aM (ad aK _ c2) (λ_ _ a=>fz aa aa (aX.aI j a.only) aa aw) ?_;refine aL ?_;refine aM (aj au) (λ_ _ _=>by(go_simp;try omega)) ?_;refine gC (aj au) ?_;refine aL ?_;iterate 11 refine ds ?_
      refine gC (aj au) ?_;refine bS λcG a=>?_;refine aF ?_;refine v4 ?_;refine ak ?_;go_wp2_with fail;go_ret2;exact⟨by rw[c,o,amT (n:=n) (k:=_) ae];rfl,a.only⟩
    .have hnz:¬(n:Int)<(b.length:Int):=ae;go_upto_region 7 with fail;refine bP a [] (λ_ _=>aZ) (λ_ _=>emp) (λ_=>[]) (λ_=>[]) (λ_=>[]) [] (λm=>?_);refine c7 ?_;refine aM (aj au) (λ_ _ _=>by(go_simp;try omega)) ?_;refine aL ?_;iterate 6 refine ds ?_
     refine gC (aj au) ?_;refine aL ?_;iterate 11 refine ds ?_
     refine gC (aj au) ?_;refine bS λc6 a=>?_;refine aF ?_;refine v4 ?_;refine ak ?_;go_wp2_with fail;go_ret2;exact⟨by rw[c,o,amS (n:=n) (k:=_) ae];rfl,a.only⟩
def nH(new:List Int)(ms:List bI)(fr p:Nat):List bI:=if fr<p then ms++[⟨2,(fr:Int),0,0,(new.drop fr).take (p -fr)⟩]else ms
def Y1 new ms(fr p):(nH new ms fr p).length<=ms.length+1:=by grind[nH]
def Y0{new ms fr p}(h:∀m∈ms,m.data.length<=new.length):∀m∈nH new ms fr p,m.data.length<=new.length:=by grind[nH,List.mem_singleton]
def xa(old new:List Int)(blk:Nat):Nat->Nat->Nat->List bI->List bI
 |0,p,fr,ms=>nH new ms fr p
 |k+1,p,fr,ms=>if p<new.length then(if(nN old (new.drop p) blk).1<0 then xa old new blk k (p+1) fr ms
  else xa old new blk k (p+(nN old (new.drop p) blk).2.toNat) (p+(nN old (new.drop p) blk).2.toNat) (nH new ms fr p++[⟨1,(p:Int),(nN old (new.drop p) blk).1,(nN old (new.drop p) blk).2,[]⟩]))else nH new ms fr p
theorem YU:∀(xs cq),oX xs cq<=xs.length
 |[],_=>by simp[oX]
 |x::xs,[]=>by simp[oX]
 |x::xs,y::cq=>by rw[oX];have:=YU xs cq;split<;>simp<;>omega
def aqL{old b blk}(hb:1<=blk)(h:¬(nN old b blk).1<0):∃n:Nat,(nN old b blk).2=(n:Int)/\1<=n/\n<=b.length:=by
 unfold nN at h⊢;split at h;·omega
 .split at h;·omega
  .rename_i h1 a;rw[if_neg h1,if_neg a];refine⟨_,aa,ae,?_⟩;grind[YU]
def Y4(v r t fr p n c c1:Nat)(A k)new l(an w)FX F(T:fr<=p)(hpl:p<=new.length)(hc1:new.length<=c1)(V:new.length<=1048576)(U:n<=1048576)(B:(l.map (·.1)).length=n)(C:∀W,aq FX an W->bT W k new)(f:ai an FX w [ah v #[J R (fr:Int)] 3,ah r #[ad A n c] 24,bp A n c 73 5 (cA l),gD l,ah t #[ad k new.length c1] 22,F]):
 aD ax 99 #[J R (p:Int),ay (ab ⟨v,0,af⟩),ay (ab ⟨r,0,af⟩),ay (ab ⟨t,0,af⟩)] w λe w'=>e=aA (.tuple #[])/\∃o s l',l'.map (·.1)=nH new (l.map (·.1)) fr p/\(l'.map (·.1)).length=(nH new (l.map (·.1)) fr p).length/\ai an FX w' [ah v #[J R (fr:Int)] 3,ah r #[ad o (nH new (l.map (·.1)) fr p).length s] 24,bp o ((nH new (l.map (·.1)) fr p).length) s 73 5 (cA l'),gD l',ah t #[ad k new.length c1] 22,F]:=by
 have G:=hid C;have y:=hid B;clear C B;by_cases S:fr<p
 .have L:(p:Int)>(fr:Int):=ae;obtain⟨d,z⟩:=ex ((new.drop fr).take (p -fr));have Q:d.length=p -fr:=aG;have H:=hid (λW g=>by have h:=(G W g).win (i:=fr) (q:=p) hc1 hpl;rwa [z]at h);have j:Hid (nH new (l.map (·.1)) fr p=l.map (·.1)++[⟨2,(fr:Int),0,0,d⟩]):=hid (by grind[nH]);clear z;go_enter Ve,ahv;go_upto_region 0 with fail;refine ar ?_;refine ag ?_;refine pl f 0 0 ?_;refine cd (aj aB) ?_;refine dh ?_;refine bP f [6,7,8,9,10] (λi u=>match i with|6=>ad (ab ⟨u.b,0,af⟩) 1 1|7=>.agg #[J R 2,J R (fr:Int),J R 0,J R 0,ad u.A d.length u.c]|8=>ad (ab ⟨u.b,0,af⟩) 1 1|9=>ad u.A (n+1) u.c|_=>aZ) (λa=>λ|6=>ah ((a 6).b) #[ad (fF k c1 fr 1) d.length (c1 -fr)] 22|7=>cf ((a 7).A) ((a 7).c) d|8=>ah ((a 8).b) #[J R 2,J R (fr:Int),J R 0,J R 0,ad (a 7).A d.length (a 7).c] 73|9=>bp ((a 9).A) (n+1) ((a 9).c) 73 5 ((cA l)++(jk ⟨2,(fr:Int),0,0,d⟩ (a 7).A (a 7).c))|10=>ah r #[ad (a 9).A (n+1) (a 9).c] 24|_=>emp) (λ|9=>[2]|10=>[1]|_=>[]) (λ|0=>[1]|1=>[0]|2=>[4]|3=>[0]|7=>[12]|9=>[14]|_=>[]) (λ|6=>[6]|7=>[7]|8=>[7,8]|9=>[7,9]|10=>[9]|_=>[]) [0,3,4,5,12,13,14,15,16] (λa=>?_);refine dl 0 0 ?_;refine dl 0 0 ?_;refine dl 0 0 ?_;refine dl 0 0 ?_;refine aL ?_;refine aM _ (λ_ _ _=>IA 22 5 1 _ _ _ aa dJ aw k _ c1 fr p d.length aa aa aa ae ae) ?_;refine lM _ 22 ?_;refine df (λN Fr f=>(SQ _ _ _ _ d N ((f.a1 0).cell 0 aa) (H _ f.only) ae).mono ?_) ?_;·rintro e X ⟨o,s,rfl,M,g⟩;exact⟨{A:=o,c:=s},aa,f.js g M⟩
  refine lM #[J _ 2,J R _,J R 0,J _ 0,ad (a 7).A _ (a 7).c] 73 ?_;refine tN (m:=1) 56 (λ_ _ f=>aX.cellsOf (m:=1) (f.a1 1) aa) (DK ⟨2,_,0,0,d⟩ _ _) ?_ (hby:=by omega);refine fZ _ ?_;refine bS λw1 f=>?_;generalize (a 6).b=O at f⊢;generalize (a 7).A=D at f⊢;generalize (a 7).c=I at f⊢;generalize (a 8).b=P at f⊢;generalize (a 9).A=E at f⊢;generalize (a 9).c=K at f⊢;have x:=f.pk [1,5,0,8,7,2,3];replace x:=ai.KQ (m:=⟨2,(fr:Int),0,0,d⟩) x;go_wp2_with fail;first|go_end0|refine bodyPost_ret (results_none rfl _ _ _) rfl ?_
  refine⟨aa,E,K,l++[(⟨2,_,0,0,d⟩,D,I)],by rw[j,gy];rfl,by rw[j];simp,?_⟩;rw[j,dw,y,Bu,DR];exact x.pick [1,2,3,0,4,5]
 .have L:¬(p:Int)>(fr:Int):=ae;have j:Hid (nH new (l.map (·.1)) fr p=l.map (·.1)):=hid (by grind[nH]);go_enter Ve,ahv;go_upto_region 0 with fail;refine ar ?_;refine ag ?_;refine pl f 0 0 ?_;refine cd (aj au) ?_;refine ak ?_;go_wp2_with fail;first|go_end0|refine bodyPost_ret (results_none rfl _ _ _) rfl ?_
  refine⟨aa,A,c,l,j.out.symm,by rw[j];simp,?_⟩;rw[j,y];exact f
def aqN A(c n blk:Nat)w:
 aD ax 98 #[ad A c n,J R (blk:Int)] w λe w'=>∃da jN,e=aA (.func (.func 188) #[] #[ay (ab ⟨da,0,af⟩),ay (ab ⟨jN,0,af⟩)])/\ai w (λ_=>False) w' [ah da #[J R (blk:Int)] 3,ah jN #[ad A c n] 22]:=by
 go_enter func98,ntmps98;have a:=bg w;go_upto_region 0 with fail;refine ar ?_;refine bO a (ad A c n) (λb w1 a=>?_);refine bO a (J _ _) (λd f a=>?_);refine ag ?_;refine aF ?_;refine dQ ?_;go_wp2_with fail;go_ret;exact⟨_,_,aa,(a.pick (l':=_) [0,1])⟩
def alP{N ms}{m:bI}(h:∀x∈ms,x.data.length<=N)(a:m.data.length<=N):∀x∈ms++[m],x.data.length<=N:=aG
def aqW{old new blk k p fr ms}(h:p<new.length)(hk:new.length -p<=k+1):xa old new blk (k+1) p fr ms=if(nN old (new.drop p) blk).1<0 then xa old new blk k (p+1) fr ms
 else xa old new blk k (p+(nN old (new.drop p) blk).2.toNat) (p+(nN old (new.drop p) blk).2.toNat) (nH new ms fr p++[⟨1,(p:Int),(nN old (new.drop p) blk).1,(nN old (new.drop p) blk).2,[]⟩]):=by grind[xa]
def aqV{old new blk k p fr ms}(h:¬p<new.length):xa old new blk k p fr ms=nH new ms fr p:=by
 cases k with
 |zero=>rfl
 |succ k=>grind[xa]
def EM(old new:List Int)(blk:Nat):List bI:=xa old new blk new.length 0 0 []
def aqI(d aK)(c1 c2 blk:Nat)(old new)p2 w(hblk:1<=blk/\blk<=1048576)(hop:0<old.length)(hN:old.length<=1048576)(hM:new.length<=9)(hc2:old.length<=c2)(hc1:new.length<=c1)(lS:bT w d new)(hold:bT w aK old)(Hy:nB w d)(k0:nB w aK)(He:jG new)(Hf:jG old)(X:w.cell? ⟨0,0,af⟩=ab (J R p2)):
 aD ax 44 #[ad aK old.length c2,ad d new.length c1,J R (blk:Int)] w λe w'=>∃az aC t,e=aA (dD (old.length:Int) (new.length:Int) (iV old) (iV new) (ad az (EM old new blk).length aC))/\b5 w w' t/\hE t az aC (EM old new blk):=by
 have V:=hid lS;have dv:=hid hold;have gx:=hid Hy;have rr:=hid k0;have bX:=hid X;have O8:=hid He;have O9:=hid Hf;have ah3:Hid (∀args w,(callFunc 188 _).run _ w=.ok (.enter 188 args) w):=hid (λargs w=>enters_of agf aw aa _ w);have Wt:Hid (∀args w,(callFunc 99 _).run _ w=.ok (.enter 99 _) w):=hid (λargs w=>enters_of Ve aw aa args w);clear lS hold Hy k0 X He Hf;go_enter func44,ntmps44;have a:=bg w;go_upto_region 0 with fail;refine ar ?_;refine bO a (ad d _ c1) (λo w1 a=>?_);refine bA a (a6 0 0 dY.zero dY.zero _) (λM aS a=>?_);refine ak ?_;go_upto_region 1 with fail;refine ar ?_;refine v2 ?_;refine a7 (aqN aK _ c2 blk _) ?_;rintro e bN ⟨NX,NY,rfl,Pw⟩;replace a:=a.new _ (((Pw.fC 2)).fresh 0);refine bb ?_;refine ag ?_;refine ak ?_;go_upto_region 2 with fail;refine ar ?_;refine bA a #[ad _ 0 0] (λf cc a=>?_);refine ak ?_;go_upto_region 3 with fail;refine ar ?_;refine bA a #[J _ 0] (λr cG a=>?_);refine ba a 0 (J _ 0) (λc6 a=>?_);refine ak ?_;go_upto_region 4 with fail;refine ar ?_;refine v2 ?_;refine ak ?_;go_upto_region 5 with fail;refine ar ?_;refine ag ?_;refine ak ?_;replace a:=a.new (bp af 0 0 73 5 []) ⟨aq.refl _ _,Row.nil _ _ _ _,λb ⟨_,_,e⟩=>aG⟩;replace a:=a.KR;have ca:ai w (λ_=>False) _ [ah r #[J R (((0:Nat):Int):Int)] 3,ah f #[ad af (([]:List (bI×Option Addr×Nat)).map (·.1)).length 0] 24,bp af ((([]:List (bI×Option Addr×Nat)).map (·.1)).length) 0 73 5 (cA ([]:List _)),gD _,ah o #[ad d new.length c1] 22,bQ [ah NX _ 3,ah NY _ 22],ah M _ 26]:=a.pick [2,3,1,0,6,4,5];go_wp2_with fail;go_loopw [11] (λaW wr=>∃(p fr Q:Nat) (A:Option Addr) (c:Nat) (l:List (bI×Option Addr×Nat)),fr<=p/\p<=new.length/\new.length -p<=Q/\(l.map (·.1)).length<=2*p/\aW=J R (p:Int)/\Hid (xa old new blk Q p fr (l.map (·.1))=EM old new blk)/\Hid (∀m∈l.map (·.1),m.data.length<=new.length)/\ai w (λ_=>False) wr [ah r #[J R (fr:Int)] 3,ah f #[ad A (l.map (·.1)).length c] 24,bp A ((l.map (·.1)).length) c 73 5 (cA l),gD l,ah o #[ad d new.length c1] 22,bQ [ah NX #[J R (blk:Int)] 3,ah NY #[ad aK old.length c2] 22],ah M (a6 0 0 dY.zero dY.zero (ad af 0 0)) 26]) (λaW wr=>new.length -(cx aW).toNat);case atStart=>exact⟨0,0,_,_,0,[],cp _,cQ _,ae,aU,aa,hid aa,hid (λ_ h=>(List.not_mem_nil h).elim),ca⟩
 case round=>
  clear a ca;obtain⟨p,fr,Q,A,c,l,yo,yw,zV,d',rfl,b0,U,a⟩:=hrel;obtain⟨ms,eg⟩:=ex (l.map (·.1));rw[eg]at d' b0 U a;obtain⟨n,hn⟩:=ex ms.length;rw[hn]at d' a;have D:=hid eg;have O:=hid hn;clear eg hn;by_cases hlt:p<new.length
  .have cJ:(p:Int)<(new.length:Int):=ae;obtain⟨Z,rfl⟩:∃Z,Q=Z+1:=⟨Q -1,ae⟩;have hstep:=aqW (old:=old) (blk:=blk) (fr:=fr) (ms:=ms) hlt zV;rw[b0]at hstep;obtain⟨tS,iH⟩:=ex ((new.drop p).length);have ayU:p+tS=new.length:=aG;have Pt:=hid (λW g eS eZ=>aqM NX NY blk (fF d c1 p 1) aK (c1 -p) c2 old (new.drop p) p2 W hblk hop hN ae hc2 ae ((V.out.aI g).Fp hc1) (dv.out.aI g) (O8.out.drop p) O9.out eS eZ (GJ g bX.out));have Y:=λh=>aqL (old:=old) (b:=new.drop p) (blk:=_) hblk.1 h;obtain⟨q,hq⟩:=ex ((nN old (new.drop p) blk).1);obtain⟨z,hz⟩:=ex ((nN old (new.drop p) blk).2);rw[hq,hz]at hstep Pt;rw[hq,hz]at Y;rw[iH]at Pt Y;clear hq hz iH;go_upto_region 6 with fail;refine ar ?_;refine ag ?_;refine pl a 4 0 ?_;refine v2 ?_;refine ak ?_;go_upto_region 7 with fail;refine ar ?_;refine ag ?_;refine pl a 4 0 ?_;refine ag ?_;refine aJ _ (Au 22 5 1 _ _ aa dJ aw d _ c1 p tS aa aa ae ae) ?_;have aaJ:=a.at 5;refine a7 (Pt.out _ a.only aaJ.1 aaJ.2.1.1) ?_ (hr:=by(first|(go_simp;done)|(go_simp;exact ah3.out _ _)));rintro e dX ⟨rfl,g⟩;replace a:=a.aI g;refine bb ?_;refine v5 ?_;refine ak ?_;by_cases T:q<0
   .rw[if_pos T]at hstep;have eK:=hid hstep;clear hstep;go_upto_region 8 with fail;refine ar ?_;refine ag ?_;refine aJ (aj aB) (by(go_simp;try exact T)) ?_;refine ak ?_;go_upto_region 9 with fail;refine ar ?_;refine ag ?_;refine pad _ 1 ((p+1:Nat):Int) ?_;refine ag ?_;refine ak ?_;go_wp2_with fail;go_roundw;case rel=>exact⟨p+1,fr,Z,A,c,l,ae,ae,ae,by rw[D,O];omega,aa,hid (by rw[D,<-eK]),hid (by rw[D];exact U),by rw[D,O];exact a.pick [0,1,2,3,4,5,6]⟩
    case measure=>simp[cx]<;>omega
   .rw[if_neg T]at hstep;obtain⟨s,rfl,hz1,hz2⟩:=Y T;rw[show((s:Int)).toNat=s from aa]at hstep;have eK:=hid hstep;clear hstep Y;go_upto_region 8 with fail;refine ar ?_;refine ag ?_;refine aJ (aj au) (by(go_simp;try exact T)) ?_;refine ak ?_;go_upto_region 10 with fail;refine ar ?_;refine v2 ?_;have S:=ai.tail [ah r _ 3,ah f _ 24,bp A n c 73 5 (cA l),gD l,ah o _ 22] [bQ _,ah M _ 26] (a.pick [0,1,2,3,4,5,6]);refine a7 (Y4 r f o fr p n c c1 A d new l w _ (λ_=>False) _ ae ae hc1 ae ae (by rw[D,O]) (λW g=>V.out.aI g) S) ?_ (hr:=by(first|(go_simp;done)|(go_simp;exact Wt.out _ _)));rintro e dH ⟨rfl,L,P,j,y,B,a⟩;clear S;rw[D]at y B a;obtain⟨m4,I⟩:=ex (nH new ms fr p);have H:=Y1 new ms fr p;have G:=Y0 (fr:=fr) (p:=p) U;have Ps:=hid I;rw[I]at y B a H G;rw[O]at H;obtain⟨E,K⟩:=ex m4.length;rw[K]at B a H;have F:=hid K;have N:=hid y;have Pd:=hid G;clear I K y B G;replace a:ai _ _ _ [ah r _ 3,ah f _ 24,bp L E P 73 5 (cA j),gD j,ah o _ 22,bQ _,ah M _ 26]:=ai.iv [ah r _ 3,ah f _ 24,bp L E P 73 5 (cA j),gD j,ah o _ 22] _ a;refine bb ?_;refine ak ?_;go_upto_region 11 with fail;refine bP a [4,5,6,7] (λi u=>match i with|4=>.agg #[J R 1,J R (p:Int),J R q,J R (s:Int),ad af 0 0]|5=>ad (ab ⟨u.b,0,af⟩) 1 1|6=>ad u.A (E+1) u.c|_=>aZ) (λC=>λ|5=>ah ((C 5).b) #[J R 1,J R (p:Int),J R q,J R (s:Int),ad af 0 0] 73|6=>bp ((C 6).A) (E+1) ((C 6).c) 73 5 ((cA j)++(jk ⟨1,(p:Int),q,(s:Int),[]⟩ af 0))|7=>ah f #[ad (C 6).A (E+1) (C 6).c] 24|_=>emp) (λ|6=>[2]|7=>[1]|_=>[]) (λ|0=>[1]|6=>[12]|_=>[]) (λ|5=>[5]|6=>[6]|7=>[6]|_=>[]) [0,3,4,5,6,11,12,13,14] (λC=>?_);refine dl 0 0 ?_;refine c7 ?_;refine df (λwl Fr a=>(Ye (p:Int) q _ _).mono ?_) ?_;·rintro e dn ⟨rfl,g⟩;exact⟨{},aa,(a.aI g).dT⟩
    refine lM _ 73 ?_;refine tN (m:=1) 56 (λ_ _ a=>aX.cellsOf (m:=1) (a.a1 1) aa) (DK ⟨1,_,q,_,[]⟩ _ 0) ?_ (hby:=by omega);refine fZ _ ?_;refine bS λe9 a=>?_;generalize (C 5).b=awM at a⊢;generalize (C 6).A=awj at a⊢;generalize (C 6).c=axz at a⊢;replace a:=a.drop 5;replace a:=a.pk [1,0,2,3,4,5,6,7];replace a:=ai.al6 (m:=⟨1,(p:Int),q,(s:Int),[]⟩) aa a;go_upto_region 12 with fail;refine ar ?_;refine v2 ?_;refine pad _ _ ((p+s:Nat):Int) ?_;refine ag ?_;refine ak ?_;go_upto_region 13 with fail;refine ar ?_;refine ag ?_;refine ba a 1 (J _ ((p+s:Nat):Int)) (λhT a=>?_);refine ak ?_;go_wp2_with fail;go_roundw;case rel=>exact⟨p+s,p+s,Z,_,_,j++[(⟨1,_,q,_,[]⟩,af,0)],ae,ae,ae,by rw[gy,N,dw,F];simp;omega,aa,hid (by rw[gy,N,eK,Ps];rfl),hid (by rw[gy,N];exact alP Pd (cQ _)),by rw[gy,N.out,dw,F.out,Bu,DR];exact a.pick [1,7,6,0,2,3,4]⟩
    case measure=>grind[cx]
  .have cJ:¬(p:Int)<(new.length:Int):=ae;have hend:=aqV (old:=old) (blk:=blk) (k:=Q) (fr:=fr) (ms:=ms) hlt;rw[b0]at hend;have ah4:=hid hend;clear hend;go_upto_region 6 with fail;refine ar ?_;refine ag ?_;refine pl a 4 0 ?_;refine v2 ?_;refine ak ?_;go_upto_region 14 with fail;refine ar ?_;refine v2 ?_;have S:=ai.tail [ah r #[J R (fr:Int)] 3,ah f #[ad A n c] 24,bp A n c 73 5 (cA l),gD l,ah o #[ad d new.length c1] 22] [bQ _,ah M (a6 0 0 dY.zero dY.zero (ad af 0 0)) 26] (a.pick [0,1,2,3,4,5,6]);refine a7 (Y4 r f o fr p n c c1 A d new l w _ (λ_=>False) _ ae ae hc1 ae ae (by rw[D,O]) (λW g=>V.out.aI g) S) ?_ (hr:=by(first|(go_simp;done)|(go_simp;exact Wt.out _ _)));rintro e i' ⟨rfl,L,P,j,y,B,a⟩;clear S;rw[D]at y B a;obtain⟨m4,I⟩:=ex (nH new ms fr p);have H:=Y1 new ms fr p;have G:=Y0 (fr:=fr) (p:=p) U;have Ps:=hid I;rw[I]at y B a H G;rw[O]at H;obtain⟨E,K⟩:=ex m4.length;rw[K]at B a H;have F:=hid K;have N:=hid y;have Pd:=hid G;clear I K y B G;replace a:ai _ _ _ [ah r _ 3,ah f _ 24,bp L E P 73 5 (cA j),gD j,ah o _ 22,bQ _,ah M _ 26]:=ai.iv [ah r _ 3,ah f _ 24,bp L E P 73 5 (cA j),gD j,ah o _ 22] _ a;refine bb ?_;refine ak ?_;have mG:m4=EM old new blk:=by rw[<-Ps,ah4]
   subst mG;go_upto_region 15 with fail;refine ar ?_;refine ag ?_;refine pl a 4 0 ?_;refine pl a 1 0 ?_;refine a7 ((by have h:=Yx c2 c1 aK d L P old new (EM old new blk) _ hN ae (dv.out.aI a.only) (rr.out.aI a.only) (V.out.aI a.only) (gx.out.aI a.only) (ael (a.atR 2) N.out F.out.symm (λx hx=>(a.at 3 aa x hx).cmd)) (by rw[F];omega) (λm X=>Nat.le_trans (Pd.out m X) ae);rw[F.out]at h;exact h)) ?_;rintro e ks ⟨hB,gI,bG,rfl,hF,j4⟩;replace a:=a.new _ hF;refine bb ?_;refine ba a 7 (.agg _) (λlf a=>?_) (hk:=by show 0+jD (a6 _ _ _ _ _)<=_;simp only[cN];decide) (hz:=by show _=ab (jD (a6 _ _ _ _ _));rw[cN];rfl) (h1:=(vg aa)) (hc:=vD);refine ak ?_;go_wp2_with fail;refine bodyPost_ret (v:=_) (results_cell_row aa _ _ _ _ _ _ _ aa (a.a1 7) Tryz.underlying26 aa (by rw[cN];rfl)) aa (⟨hB,gI,by rw[F],bG,a.fresh 0,j4⟩)
end Go.Proofs.YtcmhplknoglbkaaGreat
