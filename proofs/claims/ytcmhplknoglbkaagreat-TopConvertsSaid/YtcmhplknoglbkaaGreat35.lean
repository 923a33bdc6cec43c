/- Part 35 of the proof of TopConvertsSaid. -/
import Derived.Test.YtcmhplknoglbkaaGreat0
import Derived.Test.YtcmhplknoglbkaaGreat6
import Derived.Test.YtcmhplknoglbkaaGreat31
import Derived.Test.YtcmhplknoglbkaaGreat33
import Derived.Test.YtcmhplknoglbkaaGreat34
set_option linter.all false
set_option maxRecDepth 100000
set_option maxHeartbeats 4000000
open Go.Proofs.Tryz
open Bool renaming false->au,true->aB
open Go renaming Addr->bW,Calls->aD,Value->aP,wpList_nil->ak,wp_region_lit->ar
open Go.Ending renaming returned->aA
open Go.IntKind renaming i64->R
open Go.Operand renaming tmp->bc
open Go.Proofs.Tryz renaming func104->af3,ntmps104->agS,prog->ax,underlying24->eB,underlying73->fX
open Go.Proofs renaming intOf->cg
open Go.RowKit renaming Hid->aE
open Go.Value renaming agg->av,bool->aj,int->J,pointer->ay,slice->ad,tuple->bh
open List renaming append_assoc->j5,append_nil->j6,ext_getElem?->wy,filter_append->pz,filter_eq_self->zo,getElem?_append_left->tB,getElem?_append_right->oa,getElem?_eq_getElem->cm,getElem?_eq_some_iff->eR,length_append->dw,length_map->gW,length_nil->l2,length_take->oP,map_append->gy,mem_cons->gz,mem_of_getElem?->cM,mem_or_eq_of_mem_set->ajh,not_mem_nil->gb,range_succ->pB,size_toArray->iR,take_add_one->fv,take_append->Xf,take_append_drop->oR,take_length->il,take_of_length_le->tC,take_take->ajl
open Nat renaming le_refl->cp,min_eq_left->zt,mul_le_mul->Kc,zero_le->cQ
open Option renaming none->af,some->ab,toList_some->xX
namespace Go.Proofs.YtcmhplknoglbkaaGreat
open Go.RowKit Go.MapKept
structure FA (ms:List bI):Prop where
 en:ms.length<=1000
 right:zw (ms.map b')
 src:∀m∈ms,m.k=1->eE (m.fr,m.n)
def E2(i:Nat)(m:bI)(S:List jQ):List (Int×Int):=((parts (m.fr,m.n) S).map (·.1)).map (λj=>((i:Int),j))
def QJ{ms S i m}(h:ms[i]?=ab m)(hk:m.k=1):x8 ms S i=E2 i m S:=by grind[x8,E2]
theorem QK{ms S i m}(h:ms[i]?=ab m)(hk:m.k≠1):x8 ms S i=[]:=by grind[x8]
def Kr n:∀(l E),(G.jj n E l).length<=E.length+l.length
 |[],E=>cp _
 |e::l,E=>by
  have h:=Kr n l (G.pF n E e)
  have a:(G.pF n E e).length<=E.length+1:=by
   unfold G.pF;split;·simp
   .exact Nat.le_succ _
  have b9:G.jj n E (e::l)=G.jj n (G.pF n E e) l:=rfl;rw[b9,List.length_cons];omega
def akI A c ms w(hl:cD w A ms)(hv:FA ms):
 aD ax 91 #[ad A ms.length c] w λe w'=>∃b F S,S.Perm (iG (ms.map b'))/\jS S/\e=aA (ay (ab ⟨b,0,af⟩))/\b5 w w' (wN F b ms.length (sF ms S)):=by
 have M:=hid hl;have cB:=hid hv.right;have qn:=hid hv.src;have eg:=hv.en;go_enter func91,ntmps91;have a:=bg w;go_upto_region 0 with fail;refine ar ?_;refine ag ?_;refine ak ?_;go_upto_region 1 with fail;refine ar ?_;refine v2 ?_;refine a7 (anm ms.length _ ae) ?_;rintro e w1 ⟨b,F,rfl,s⟩;replace a:=a.new _ s;refine bb ?_;refine ag ?_;refine ak ?_;go_upto_region 2 with fail;refine ar ?_;refine ag ?_;refine a7 (auL A c ms _ (M.out.aI a.only) cB.out ae) ?_;rintro e aS ⟨p,S,v,Y,rfl,I,fG,s⟩;replace a:=a.new _ s;refine bb ?_;refine ag ?_;refine ak ?_;have T:S.length=ms.length:=by rw[v.length_eq,zJ,gW]
 have V:=QL (S:=S) T;have bK:=hid v;have L:=hid Y;have Z:∀e,∀j∈(parts e S).map (·.1),0<=j/\j<((ms.map b').length:Int):=λe j hj=>amA v hj;have rn:=hid Z;have uR:aE (∀i,i<=ms.length->(G.jj ms.length [] (l5 ms S i)).length<=1000000):=hid (λi hi=>by have h1:=Kr ms.length (l5 ms S i) [];have Q:=V i;have h3:i*ms.length<=1000*1000:=Kc ae ae;simp only[l2]at h1;omega);clear v Y V Z hv hl;go_upto_region 3 with fail;refine ar ?_;refine v3 ?_;refine ak ?_;have r:=a.pk [1,0];go_wp2_with fail;go_loopw [18] (λo wr=>∃(j:Nat) (F:Nat->Prop),j<=ms.length/\o=J R (j:Int)/\ai w (λ_=>False) wr [wN F b ms.length (G.jj ms.length [] (l5 ms S j)),Ca p I fG S]) (λo wr=>ms.length -(cg o).toNat);case atStart=>exact⟨0,F,cQ _,aa,r⟩
 case round=>
  clear a r;obtain⟨j,F,hj,rfl,a⟩:=hrel;by_cases hlt:j<ms.length
  .have cJ:(j:Int)<(ms.length:Int):=ae;obtain⟨m,D⟩:∃m,ms[j]?=ab m:=⟨_,cm hlt⟩;obtain⟨C,y,f,l,u,U,X⟩:=cD.ia M.out D;have b7:=hid u;have gT:=hid U;have dk:=hid X;have B:=hid D;clear u U X D;go_upto_region 4 with fail;refine ar ?_;refine cd (aj aB) ?_;refine ak ?_;go_upto_region 5 with fail;refine ar ?_;refine ag ?_;refine aJ (ay (ab ⟨C,(y+j*5),af⟩)) (cI 24 73 5 (bc 16) (bc 18) aa eB aw C y (ms.length) c j ((y+j*5)) (by show ad A _ _=_;rw[b7.out]) aa hlt aa) ?_;refine aJ (av #[J R m.k,J R m.to,J R m.fr,J R m.n,ad f m.data.length l]) (by(refine e7 73 (bc 21) aa C (y+j*5) aa ([J R m.k,J R m.to,J R m.fr,J R m.n,ad f m.data.length l]:List aP) (dk.out _ a.only) fX aa aw)) ?_;refine bA a #[J R 0,J R 0,J R 0,J R 0,ad af 0 0] (λeJ bN a=>?_);refine ag ?_;refine ba a 0 (av #[J R m.k,J R m.to,J R m.fr,J R m.n,ad f m.data.length l]) (λcc a=>?_);refine ak ?_;by_cases hk:m.k=1
   .have ahX:aE (l5 ms S (j+1)=l5 ms S j++E2 j m S):=hid (by rw[QM,QJ B.out hk]);have PN:=hid (qn.out m (cM B.out) hk);have gn:=hid hk;clear hk;go_upto_region 6 with fail;refine ar ?_;refine bt a 0 #[J R m.k,J R m.to,J R m.fr,J R m.n,ad f m.data.length l] ?_;refine a7 ((show aD ax 79 #[av #[J R m.k,J R m.to,J R m.fr,J R m.n,ad f m.data.length l]] _ λe w'=>_ from by rw[gn.out];exact yP m.to m.fr m.n f m.data.length l _)) ?_;rintro e cG ⟨rfl,g⟩;replace a:=a.aI g;refine bb ?_;refine v3 ?_;refine bA a #[J R 0,J R 0] (λfM c6 a=>?_);refine ba a 0 (av #[J R m.fr,J R m.n]) (λdX a=>?_);refine ag ?_;refine ak ?_;go_upto_region 7 with fail;refine ar ?_;refine ag ?_;refine ak ?_;obtain⟨d,t⟩:=ex ((parts (m.fr,m.n) S).map (·.1));have Pw:aE (∀W,n' W p S->aD ax 181 #[ay (ab ⟨p,0,af⟩),av #[J R m.fr,J R m.n]] W λe w'=>∃H N,e=aA (ad H d.length N)/\b5 W w' (bp H d.length N 3 1 (d.map (J R)))):=hid (λW h=>by rw[<-t];exact aqQ p S m.fr m.n W h L.out PN.out);have aif:=hid t;have kJ:d.length<=ms.length:=by rw[<-t,gW,<-T];exact ac6 _ _
    have aie:aE (∀x∈d,0<=x/\x<(ms.length:Int)):=hid (λx hx=>by have h:=rn.out (m.fr,m.n) x (by rw[t];exact hx);rwa [gW]at h);clear t;go_upto_region 8 with fail;refine ar ?_;refine ag ?_;refine bt a 0 #[J R m.fr,J R m.n] ?_;refine a7 (Pw.out _ (Ca.is (a.at 3))) ?_;rintro e dH ⟨lh,O,rfl,s⟩;replace a:=a.new _ s;refine bb ?_;refine v2 ?_;refine ak ?_;have r:=a.pk [3,4,0];go_wp2_with fail;go_loopw [33] (λo wr=>∃(q:Nat) (F:Nat->Prop),q<=d.length/\o=J R (q:Int)/\ai w (λ_=>False) wr [wN F b ms.length (G.jj ms.length [] (l5 ms S j++(d.take q).map (λx=>((j:Int),x)))),Ca p I fG S,bp lh d.length O 3 1 (d.map (J R))]) (λo wr=>d.length -(cg o).toNat);case atStart=>exact⟨0,F,cQ _,aa,by rw[List.take_zero,List.map_nil,j6];exact r⟩
    case round=>
     clear a r;obtain⟨q,F,hq,rfl,a⟩:=hrel;by_cases Hz:q<d.length
     .have aoG:(q:Int)<(d.length:Int):=ae;obtain⟨x,hx⟩:∃x,d[q]?=ab x:=⟨_,cm Hz⟩;have dP:=hid hx;have B9:=aie.out x (cM hx);have E:(d.map (J R))[q]?=ab (J R x):=by rw[List.getElem?_map,hx];rfl
      have ai1:=hid E;obtain⟨P,u,_⟩:=(a.atR 2).cell E;subst u;have jF:aE (l5 ms S j++(d.take (q+1)).map (λx=>((j:Int),x))=(l5 ms S j++(d.take q).map (λx=>((j:Int),x)))++[((j:Int),x)]):=hid (by rw[fv,hx,xX,gy,j5];rfl);have rm:aE ((G.jj ms.length [] (l5 ms S j++(d.take q).map (λx=>((j:Int),x)))).length<=1048576):=hid (by have h1:=uR.out j ae;have Q:=Kr ms.length ((d.take q).map (λx=>((j:Int),x))) (G.jj ms.length [] (l5 ms S j));rw[<-Xv,gW,oP]at Q;omega);clear hx E;go_upto_region 9 with fail;refine ar ?_;refine cd (aj aB) ?_;refine ak ?_;go_upto_region 10 with fail;refine ar ?_;refine aJ (ay (ab ⟨P,q,af⟩)) (cI 82 3 1 (bc 31) (bc 33) aa Tryz.underlying82 aw P 0 (d.length) O q q aa aa Hz ae) ?_;refine aJ (J R x) (TG (a.atR 2) ai1.out aa aa aw) ?_;refine ag ?_;refine ak ?_;go_upto_region 11 with fail;refine ar ?_;refine v4 ?_;refine ga a #[J R (j:Int),J R x] 192 (λK e9 a=>?_);refine a7 (anl b ms.length (j:Int) x _ F K _ (a.has 1 aa) (a.a1 0) (λh=>a.ne (i:=1) (j:=0) aa aa bj K h aa) (by unfold db;omega) (by unfold db;omega) rm.out) ?_;rintro e hT ⟨v5,UH,rfl,bH⟩;replace a:=a.eG 1 bH;refine bb ?_;refine ak ?_;go_upto_region 12 with fail;refine ar ?_;refine pad (q:Int) 1 ((q+1:Nat):Int) ?_;refine ag ?_;refine ak ?_;go_wp2_with fail;go_roundw;case rel=>exact⟨q+1,_,ae,aa,by rw[jF.out,Xv];exact a.pick [1,2,3]⟩
      case measure=>simp[cg]<;>omega
     .have aoG:¬(q:Int)<(d.length:Int):=ae;obtain rfl:q=d.length:=ae;have z:aE (l5 ms S (j+1)=l5 ms S j++(d.take d.length).map (λx=>((j:Int),x))):=hid (by rw[ahX.out,E2,aif.out,il]);go_upto_region 9 with fail;refine ar ?_;refine cd (aj au) ?_;refine ak ?_;go_upto_region 13 with fail;refine ar ?_;refine pad (j:Int) 1 ((j+1:Nat):Int) ?_;refine ag ?_;refine ak ?_;go_wp2_with fail;go_roundw;case rel=>exact⟨j+1,_,ae,aa,by rw[z.out];exact a.pick [0,1]⟩
      case measure=>simp[cg]<;>omega
   .have z:aE (l5 ms S (j+1)=l5 ms S j):=hid (by rw[QM,QK B.out hk,j6]);go_upto_region 6 with fail;refine ar ?_;refine bt a 0 #[J R m.k,J R m.to,J R m.fr,J R m.n,ad f m.data.length l] ?_;refine a7 (yQ m.k m.to m.fr m.n f m.data.length l _ hk) ?_;rintro e i' ⟨rfl,g⟩;replace a:=a.aI g;refine bb ?_;refine v3 ?_;refine bA a #[J R 0,J R 0] (λfM ks a=>?_);refine ba a 0 (av #[J R 0,J R 0]) (λlf a=>?_);refine ag ?_;refine ak ?_;go_upto_region 7 with fail;refine ar ?_;refine ag ?_;refine ak ?_;go_upto_region 13 with fail;refine ar ?_;refine pad (j:Int) 1 ((j+1:Nat):Int) ?_;refine ag ?_;refine ak ?_;go_wp2_with fail;go_roundw;case rel=>exact⟨j+1,_,ae,aa,by rw[z.out];exact a.pick [2,3]⟩
    case measure=>grind[cg]
  .have cJ:¬(j:Int)<(ms.length:Int):=ae;obtain rfl:j=ms.length:=ae;go_upto_region 4 with fail;refine ar ?_;refine cd (aj au) ?_;refine ak ?_;go_upto_region 14 with fail;refine ar ?_;refine v2 ?_;refine ak ?_;go_wp2_with fail;go_ret;exact⟨b,F,S,bK.out,L.out,aa,a.fresh 0⟩
def k9(A:Option bW)(xs:List Int):bu:=⟨λb=>0<xs.length/\dV A b,λw=>cX w A xs,λw w' h c d a=>by obtain⟨b,off,rfl,hc⟩:=d a;have hb:=h b ⟨a,_,_,aa⟩ (c b ⟨a,_,_,aa⟩);grind[World.cell?_of_block]⟩
def adM{w w' A xs}(g:ao w w')(h:cX w' A xs)(c:∀k off,A=ab ⟨k,off,af⟩->w.heap.size<=k):b5 w w' (k9 A xs):=⟨g,h,λb hb=>by obtain⟨a,o,d,e⟩:=hb;obtain⟨k,off,b9,hc⟩:=h a;rw[e]at b9;cases b9;exact⟨c _ _ e,World.block_lt_of_cell? w' _ (hc 0 a)⟩⟩
def isLit(ms:List bI)(i:Nat):Bool:=match ms[i]? with|some m=>decide (m.k=2)|none=>au
def jX(ms:List bI)(j:Nat):List Int:=((List.range j).filter (isLit ms)).map (λi:Nat=>(i:Int))
def aqv{ms j m}(h:ms[j]?=ab m)(hk:m.k=2):jX ms (j+1)=jX ms j++[(j:Int)]:=by grind[isLit,jX,pB]
def aqu{ms j m}(h:ms[j]?=ab m)(hk:m.k≠2):jX ms (j+1)=jX ms j:=by grind[isLit,jX,pB]
theorem L5 ms j:(jX ms j).length<=j:=by grind[jX]
def ab9 A(c b)ms w(E:cD w A ms)(Q:ms.length<=1000):
 aD ax 177 #[av #[ad A ms.length c,ay (ab ⟨b,0,af⟩)]] w λe w'=>∃l q,e=aA (ad l (jX ms ms.length).length q)/\b5 w w' (bp l (jX ms ms.length).length q 3 1 ((jX ms ms.length).map (J R))):=by
 have B:=hid E;go_enter func177,ntmps177;have a:=bg w;go_step;refine aF ?_;refine bO a (av _) (λI w1 a=>?_);refine ag ?_;refine ak ?_;go_step;refine aF ?_;refine ag ?_;refine ak ?_;replace a:=a.new (bp _ 0 0 3 1 []) ⟨aq.refl _ _,Row.nil _ _ _ _,λb ⟨_,_,e⟩=>aG⟩;go_step;refine aF ?_;refine ag ?_;refine pl a 1 0 ?_;refine v2 ?_;refine ak ?_;have p:=a.pk [0];go_wp2_with fail;go_loopw [3,9] (λx i wr=>∃(j n:Nat) (aK:Option bW) (c2:Nat),j<=ms.length/\aE ((jX ms j).length=n)/\n<=j/\x=ad aK n c2/\i=J R (j:Int)/\ai w (λ_=>False) wr [bp aK n c2 3 1 ((jX ms j).map (J R))]) (λx i wr=>ms.length -(cg i).toNat);case atStart=>exact⟨0,0,_,0,cQ _,aa,cp _,aa,aa,p⟩
 case round=>
  clear a p;obtain⟨j,n,aK,c2,P,f,S,rfl,rfl,a⟩:=hrel;by_cases hlt:j<ms.length
  .have F:(j:Int)<(ms.length:Int):=ae;obtain⟨m,h⟩:∃m,ms[j]?=ab m:=⟨_,cm hlt⟩;obtain⟨D,T,H,O,r,s,t⟩:=cD.ia B h;have y:=hid r;have M:=hid s;have z:=hid t;have o:=hid h;clear r s t h;go_step;refine aF ?_;refine cd (aj aB) ?_;refine ak ?_;go_step;refine aF ?_;refine ag ?_;refine aJ _ (cI 24 73 5 _ _ aa eB aw _ _ _ _ _ _ (by show ad A _ _=_;rw[y]) aa hlt aa) ?_;refine aJ _ (by(refine e7 73 _ aa D _ aa _ (z _ a.only) fX aa aw)) ?_;refine bA a #[J _ 0,J _ 0,J _ 0,J _ 0,ad _ 0 0] (λL U a=>?_);refine ag ?_;refine ba a 0 (av _) (λV a=>?_);refine ak ?_;by_cases hk:m.k=2
   .have d:=hid (aqv o hk);have C:aE ((jX ms _).length=n+1):=hid (by rw[d,dw,f];rfl);have g:=hid hk;clear hk;go_step;refine aF ?_;refine ag ?_;refine pl a 0 0 ?_;refine dt g (aj aB) ?_;refine ak ?_;go_step;refine aF ?_;refine v2 ?_;refine ga a #[J R (j:Int)] 3 (λK W a=>?_);refine np (m:=1) a 2 8 (aX.cellsOf (m:=1) (a.a1 0) aa) (by intro u v;simp only[gz,gb,or_false]at v;subst v;rfl) (λG N X a=>?_) (hby:=by omega);refine ag ?_;refine ak ?_;go_step;refine aF ?_;refine pad _ 1 ((j+1:Nat):Int) ?_;refine ag ?_;refine ak ?_;go_wp2_with fail;go_roundw;case rel=>exact⟨_,_,_,_,ae,C,ae,aa,aa,by rw[d,gy];exact a.pick [2]⟩
    case measure=>grind[cg]
   .have d:=hid (aqu o hk);have g:=hid hk;clear hk;go_step;refine aF ?_;refine ag ?_;refine pl a 0 0 ?_;refine dt g (aj au) ?_;refine ak ?_;go_step;refine aF ?_;refine pad _ 1 ((j+1:Nat):Int) ?_;refine ag ?_;refine ak ?_;go_wp2_with fail;go_roundw;case rel=>exact⟨j+1,n,_,_,ae,hid (by rw[d];exact f),ae,aa,aa,by rw[d];exact a.pick [1]⟩
    case measure=>grind[cg]
  .have F:¬(j:Int)<(ms.length:Int):=ae;obtain rfl:j=ms.length:=ae;go_step;refine aF ?_;refine cd (aj au) ?_;refine ak ?_;go_step;refine aF ?_;refine v2 ?_;refine ak ?_;go_wp2_with fail;go_ret;exact⟨aK,c2,by rw[f];rfl,by rw[f];exact a.fresh 0⟩
def akP A(c b)ms E F o w(l:cD w A ms)(eg:ms.length<=1000)(Z:E.length<=1048576)(hx:G.wx E (ms.map (·.n)) (jX ms ms.length) o [])(H:G.gV w F b ms.length E):
 aD ax 175 #[av #[ad A ms.length c,ay (ab ⟨b,0,af⟩)]] w λe w'=>∃d f,e=aA (ad d o.length f)/\b5 w w' (k9 d o):=by
 have P:=hid l;have v:aE (∀W,aq (λ_=>False) w W->aD _ _ _ W λe w'=>∃d f,e=aA _/\b5 W w' _):=hid (λW g=>ab9 A c b ms W (l.aI g) eg)
 have t:aE (∀W gM ib fR gB,aq (λ_=>False) w W->cX W gM (ms.map (·.n))->cX W fR _->aD ax 249 _ W λe w'=>∃d f,e=aA (bh #[ad d o.length f,aj aB])/\b5 W w' (k9 d o)):=hid (λW gM ib fR gB g z T=>by have Rc:=z;have q:=G.akM b _ E F gM ib _ fR gB _ W (G.gV.aI H g) z T aG (by grind[L5]) Z o [] hx aB aa;rw[gW]at q;refine q.mono λe w' hq=>?_;obtain⟨d,f,U,V,_,X,Y⟩:=hq;exact⟨d,f,U,adM Y V X⟩);have gd:=L5 ms ms.length;obtain⟨lt,I⟩:=ex (jX ms ms.length);rw[I]at v t gd;clear l hx I H;go_enter func175,ntmps175;have a:=bg w;go_step;refine aF ?_;refine bO a (av _) (λM w1 a=>?_);refine ag ?_;refine ak ?_;go_step;refine aF ?_;refine ag ?_;refine ak ?_;replace a:=a.new (bp _ 0 0 3 1 []) ⟨aq.refl _ _,Row.nil _ _ _ _,λb ⟨_,_,e⟩=>aG⟩;go_step;refine aF ?_;refine ag ?_;refine pl a 1 0 ?_;refine v2 ?_;refine ak ?_;have x:=a.pk [0,1];go_wp2_with fail;go_loopw [3,11] (λL r wr=>∃(j:Nat) (aK:Option bW) (c2:Nat),j<=ms.length/\L=ad aK j c2/\r=J R (j:Int)/\ai w (λ_=>False) wr [bp aK j c2 3 1 (((ms.take j).map (·.n)).map (J R)),ah M #[ad A ms.length c,ay (ab ⟨b,0,af⟩)] 181]) (λL r wr=>ms.length -(cg r).toNat);case atStart=>exact⟨0,_,0,cQ _,aa,aa,x⟩
 case round=>
  clear a x;obtain⟨j,aK,c2,hj,rfl,rfl,a⟩:=hrel;by_cases hlt:j<ms.length
  .have cJ:(j:Int)<(ms.length:Int):=ae;obtain⟨m,p⟩:∃m,ms[j]?=ab m:=⟨_,cm hlt⟩;obtain⟨y,bM,aQ,aR,B,C,D⟩:=cD.ia P p;have N:=hid B;have gT:=hid C;have O:=hid D;have Q:=hid p;clear B C D p;have S:aE ((ms.take _).map (·.n)=(ms.take j).map _++[m.n]):=hid (by rw[fv,Q,xX,gy];rfl);go_step;refine aF ?_;refine cd (aj aB) ?_;refine ak ?_;go_step;refine aF ?_;refine aJ _ (cI 24 73 5 _ _ aa eB aw y bM _ c j _ (by show ad A _ _=_;rw[N]) aa hlt aa) ?_;refine aJ _ (by(refine e7 73 _ aa y _ aa _ (O _ a.only) fX aa aw)) ?_;refine bA a #[J _ 0,J _ 0,J _ 0,J _ 0,ad _ 0 0] (λeL aS a=>?_);refine ba a 0 (av _) (λbN a=>?_);refine ak ?_;go_step;refine aF ?_;refine v2 ?_;refine pl a 0 3 ?_;refine ga a #[J R m.n] 3 (λN2 cc a=>?_);refine np (m:=1) a 2 8 (aX.cellsOf (m:=1) (a.a1 0) aa) (by intro u K;simp only[gz,gb,or_false]at K;subst K;rfl) (λI1 Ky cG a=>?_) (hby:=by omega);refine ag ?_;refine ak ?_;go_step;refine aF ?_;refine pad _ 1 ((j+1:Nat):Int) ?_;refine ag ?_;refine ak ?_;go_wp2_with fail;go_roundw;case rel=>exact⟨_,_,_,ae,aa,aa,by rw[S,gy];exact a.pick [2,3]⟩
   case measure=>grind[cg]
  .have cJ:¬(j:Int)<(ms.length:Int):=ae;obtain rfl:j=ms.length:=ae;rw[il]at a;go_step;refine aF ?_;refine cd (aj au) ?_;refine ak ?_;go_step;refine dh ?_;refine bP a [4,5] (λi u=>match i with|4=>ad u.A lt.length u.c|5=>bh #[ad u.A o.length u.c,aj aB]|_=>undef) (λh=>λ|4=>bp ((h 4).A) lt.length ((h 4).c) 3 1 (lt.map (J R))|5=>k9 (h 5).A o|_=>emp) (λ_=>[]) (λ|1=>[1]|3=>[1]|5=>[0,6]|_=>[]) (λ|4=>[4]|5=>[5]|_=>[]) [0,1,6,7] (λh=>?_);refine aL ?_;refine dl 0 1 ?_;refine aL ?_;refine eb 0 #[ad A ms.length c,ay (ab ⟨b,0,af⟩)] ?_;refine df (λs Fr a=>(v s a.only).mono ?_) ?_;·rintro e dn ⟨d,f,rfl,k⟩;exact⟨{A:=d,c:=f},aa,a.new _ k⟩
   refine df (λs Fr a=>(t s aK c2 _ _ a.only (Row.MS (a.atR 0)) (Row.MS (a.atR 1))).mono ?_) ?_;·rintro e dn ⟨d,f,rfl,k⟩;exact⟨{A:=d,c:=f},aa,a.new _ k⟩
   refine oI ?_;refine bS λc6 a=>?_;generalize (h 4).A=awg at a⊢;generalize (h 4).c=axw at a⊢;generalize (h 5).A=I3 at a⊢;generalize (h 5).c=KA at a⊢;go_step;refine aF ?_;refine v2 ?_;refine ak ?_;go_wp2_with fail;go_ret;exact⟨_,⟨_,aa⟩,a.fresh 3⟩
def ak1{ms S}(hv:FA ms)(a:S.Perm (iG (ms.map b'))):(sF ms S).length<=1000000:=by have h1:=Kr ms.length (l5 ms S ms.length) [];have b:=QL (ms:=ms) (S:=S) (by rw[a.length_eq,zJ,gW]) ms.length;have c:=Kc hv.en hv.en;simp only[l2]at h1;unfold sF;omega
structure Conv (ms:List bI) (S:List jQ) (o od:List Int):Prop where
 ok:FA ms
 perm:S.Perm (iG (ms.map b'))
 ox:jS S
 ch:G.wx (sF ms S) (ms.map (·.n)) (jX ms ms.length) o []
 ord:G.mx (sF ms S) ms.length (jX ms ms.length++o) od
 all:G.kp ms.length (jX ms ms.length++o) od=[]
 DZ:o.length<=1048576
def QI A c ms S(o od)w(r:cD w A ms)(hc:Conv ms S o od):
 aD ax 88 #[ad A ms.length c] w λe w'=>∃b k n C U,e=aA (av #[ad A ms.length c,ay (ab ⟨b,0,af⟩),ad k o.length n,ad C od.length U])/\b5 w w' (bQ [k9 k o,k9 C od]):=by
 have N:=hc.ok.en;have cw:=hid r;have c0:=hid hc;have I:aE (∀b W,aq (λ_=>False) w W->aD _ _ _ W λe w'=>∃f j,e=aA _/\b5 W w' _):=hid (λb W g=>ab9 A c b ms W (r.aI g) N);have D:aE (∀W,aq (λ_=>False) w W->aD _ 91 _ W λe w'=>∃b F,e=aA _/\b5 W w' (wN F b _ (sF ms S))):=hid (λW g=>(akI A c ms W (r.aI g) hc.ok).mono λe w' ⟨b,F,Qf,h1,x,V,y⟩=>⟨b,F,V,by rw[anq (hc.perm.trans h1.symm) hc.ox x];exact y⟩);have eV:=ak1 hc.ok hc.perm;have H:aE (∀W b F,aq (λ_=>False) w W->(wN F b _ _).p W->aD _ _ _ W λe w'=>∃f j,e=aA _/\b5 W w' _):=hid (λW b F g hg=>akP A c b ms _ F o W (r.aI g) N ae hc.ch hg)
 have t:aE (∀W b F s cs,(wN F b ms.length (sF ms S)).p W->cX W s _->aD ax 176 _ W λe w'=>∃f j,e=aA (bh #[ad f od.length j,aj aB])/\b5 W w' (k9 f od)):=hid (λW b F s cs h1 x=>by have z:=L5 ms ms.length;have L:=hc.DZ;have q:=G.arK b _ _ F s cs _ W h1 x aG ae od hc.ord aB (by rw[hc.all];rfl);rw[dw]at q;refine q.mono λe w' hq=>?_;obtain⟨f,j,y,X,Y,Z⟩:=hq;exact⟨f,j,y,adM Z X Y⟩);have z:=L5 ms ms.length;have L:=hc.DZ;obtain⟨lt,M⟩:=ex (jX ms ms.length);rw[M]at I t z;have Q:aE ((lt.length+o.length)*8<=140737488355328):=hid ae;obtain⟨E,K⟩:=ex (sF ms S);rw[K]at D H t;clear r M K eV z L hc;go_enter func88,ntmps88;have a:=bg w;go_step;refine aF ?_;refine bA a #[ad _ 0 0,ay _,ad _ 0 0,ad _ 0 0] (λcz w1 a=>?_);refine jb ?_;refine a7 (D.out _ a.only) ?_;rintro e aS ⟨b,F,rfl,l⟩;replace a:=a.new _ l;refine bb ?_;refine v2 ?_;refine bA a #[ad _ 0 0,ay _,ad _ 0 0,ad _ 0 0] (λP bN a=>?_);refine ba a 0 (av _) (λcc a=>?_);refine b6 ?_;refine bt a 0 #[ad A ms.length c,ay (ab ⟨b,0,af⟩)] ?_;refine a7 (H _ b F a.only (a.at 1)) ?_;rintro e cG ⟨k,n,rfl,l⟩;replace a:=a.new _ l;refine bb ?_;refine ag ?_;refine ba a 1 (ad k _ n) (λc6 a=>?_);refine dh ?_;refine bP a [5,8,9,14] (λi u=>match i with|5=>ad u.A lt.length u.c|8=>ad u.A (lt.length+o.length) u.c|9=>bh #[ad u.A od.length u.c,aj aB]|_=>undef) (λd=>λ|5=>bp ((d 5).A) lt.length ((d 5).c) 3 1 (lt.map (J R))|8=>bp ((d 8).A) (lt.length+o.length) ((d 8).c) 3 1 ((lt.map (J R))++(o.map (J R)))|9=>k9 (d 9).A od|14=>ah P #[ad A ms.length c,ay (ab ⟨b,0,af⟩),ad k o.length n,ad (d 9).A od.length (d 9).c] 183|_=>emp) (λ|8=>[9]|14=>[1]|_=>[]) (λ|2=>[1]|4=>[1]|7=>[1]|8=>[0]|9=>[2,12]|_=>[]) (λ|5=>[5]|8=>[8]|9=>[9]|14=>[9]|_=>[]) [0,2,3,12,13,18] (λd=>?_);refine br ?_;refine dl 0 1 ?_;refine aL ?_;refine eb 0 #[ad A ms.length c,ay (ab ⟨b,0,af⟩)] ?_;refine df (λB Fr a=>(I b B a.only).mono ?_) ?_;·rintro e dn ⟨f,j,rfl,l⟩;exact⟨{A:=f,c:=j},aa,a.new _ l⟩
 refine aL ?_;refine dl 0 2 ?_;refine tN (m:=_) 8 (λ_ _ a=>cX.cells (a.at 1)) (S' o) ?_ (hby:=Q);refine df (λB Fr a=>(t B b F _ _ (a.at 0) (by have h:=a.atR 1;rw[<-gy]at h;exact Row.MS h)).mono ?_) ?_;·rintro e dn ⟨f,j,rfl,l⟩;exact⟨{A:=f,c:=j},aa,a.new _ l⟩
 refine ix ?_;refine fZ _ ?_;refine bS λdX a=>?_;generalize (d 5).A=I1 at a⊢;generalize (d 5).c=Ky at a⊢;generalize (d 8).A=Uo at a⊢;generalize (d 8).c=XX at a⊢;generalize (d 9).A=O at a⊢;generalize (d 9).c=T at a⊢;refine aF ?_;refine bt a 5 #[ad A ms.length c,ay (ab ⟨b,0,af⟩),ad k o.length n,ad O od.length T] ?_;refine ba a 2 (av _) (λdH a=>?_);refine ak ?_;go_wp2_with fail;refine bodyPost_ret (v:=_) (results_cell_row aa _ _ _ _ _ _ _ aa (a.a1 2) underlying183 aa aw) aa (⟨b,k,n,_,_,aa,((a.pick (l':=[k9 k o,k9 _ od]) [0,4]).fC 2).fresh 0⟩)
abbrev jP:=bI×Option bW×Nat
theorem GL(L:List jP):(cA L).length=L.length*5:=by
 induction L with
 |nil=>rfl
 |cons x L a=>show((([J R x.1.k,J R x.1.to,J R x.1.fr,J R x.1.n,ad x.2.1 x.1.data.length x.2.2]:List aP):List aP)++cA L).length=_;rw[dw,a];simp;omega
def DM(L a:List jP):cA (L++a)=cA L++cA a:=List.flatMap_append
def QG(x:jP):cA [x]=([J R x.1.k,J R x.1.to,J R x.1.fr,J R x.1.n,ad x.2.1 x.1.data.length x.2.2]:List aP):=rfl
def akX(L:List jP)j x(hx:L[j]?=ab x):cA L=cA (L.take j)++(([J R x.1.k,J R x.1.to,J R x.1.fr,J R x.1.n,ad x.2.1 x.1.data.length x.2.2]:List aP)++cA (L.drop (j+1))):=by obtain⟨a,hx⟩:=eR.1 hx;rw[<-QG,<-DM,<-DM];congr 1;subst hx;simp
def akU(L:List jP)j x(hx:L[j]?=ab x):∀(i) v,(([J R x.1.k,J R x.1.to,J R x.1.fr,J R x.1.n,ad x.2.1 x.1.data.length x.2.2]:List aP):List aP)[i]?=ab v->(cA L)[j*5+i]?=ab v:=λi v hv=>by
 have b:=(eR.1 hx).1;have hi:i<5:=(eR.1 hv).1;have a:(cA (L.take j)).length=j*5:=by grind[GL]
 rw[akX L j x hx,oa ae,a,show j*5+i -j*5=i by omega,tB ae];exact hv
def x7(L:List jP)(p:jP->Bool):Int:=match L.findIdx? p with|some k=>(k:Int)|none=>-1
def akW A (c g:Nat) lb (L:List jP) p w (I:L.length<=1073741824) (hr:Row 0 w A L.length c 73 5 (cA L)) (s:∀args w,(callFunc g args).run ax w=.ok (.enter g args) w)
 (hp:∀x W,x∈L->ao w W->aD ax g (#[av #[J R x.1.k,J R x.1.to,J R x.1.fr,J R x.1.n,ad x.2.1 x.1.data.length x.2.2]]++lb) W λe w'=>e=aA (aj (p x))/\ao W w'):
 aD ax 191 #[ad A L.length c,.func (.func g) #[] lb] w λe w'=>e=aA (J R (x7 L p))/\ao w w':=by
 have G:=hr;obtain⟨hlen,_⟩:=G;have B:=hid s;have C:=hid hp;have r:aE (∀W,ao w W->Row 0 W A L.length c 73 5 (cA L)):=hid (λW g=>Ik hr g);clear hr s hp hlen;go_enter func191,ntmps191;have a:=bg w;go_upto_region 0 with fail;refine ar ?_;refine ag ?_;refine aF ?_;refine v3 ?_;refine ak ?_;go_wp2_with fail;go_loopw [8] (λl wr=>∃j:Nat,j<=L.length/\l=J R (j:Int)/\(∀(i:Nat) (x:jP),i<j->L[i]?=ab x->p x=au)/\ai w (λ_=>False) wr []) (λl wr=>L.length -(cg l).toNat);case atStart=>grind
 case round=>
  clear a;obtain⟨j,K,rfl,u,a⟩:=hrel;by_cases hlt:j<L.length
  .have F:(j:Int)<(L.length:Int):=ae;obtain⟨x,hx⟩:∃x,L[j]?=ab x:=⟨_,cm hlt⟩;obtain⟨d,cur,t,E,_,_,_,_⟩:=(r.out _ a.only).blk ae;obtain⟨iL,z⟩:=ex (p x);have H:=cM hx;have D:=hid (akU L j x hx);have q:=hid hx;have b:=hid z;have o:=hid u;have m:=hid t;clear hx z u E t;go_upto_region 2 with fail;refine ar ?_;refine ag ?_;refine aF ?_;refine v2 ?_;refine jt ?_;refine aJ (ay (ab ⟨d,(j*5),af⟩)) (cI 24 73 5 (bc 12) (bc 13) aa eB aw d 0 (L.length) c j ((j*5)) (by show ad A _ _=_;rw[m.out]) aa hlt ae) ?_;refine aJ _ (by(refine e7 73 _ aa d _ aa _ (Row.range (r.out _ a.only) m.out (λi v hi=>D.out i v hi)) fX aa aw)) ?_;refine bC ((by have h:=C.out x _ H a.only;rw[b.out]at h;exact h)) a (λw1 a=>?_) (hr:=by(go_simp;exact B.out _ _));refine ak ?_;cases iL with
   |true=>
    refine aF ?_;refine dQ ?_;go_wp2_with fail;go_ret;exact⟨by rw[show x7 L p=(j:Int)from by unfold x7;rw[show L.findIdx? p=ab j from KW q.out b.out o.out]];rfl,a.only⟩
   |false=>
    refine aF ?_;refine pad (j:Int) 1 ((j+1:Nat):Int) ?_;refine bR ?_;go_wp2_with fail;go_roundw;case rel=>exact⟨j+1,ae,rfl,λi y hi f=>by rcases Nat.lt_succ_iff_lt_or_eq.1 hi with h|rfl;exact o.out i y h f;rw[q.out]at f;cases f;exact b.out,a⟩
    case measure=>simp[cg]<;>omega
  .have F:¬(j:Int)<(L.length:Int):=ae;obtain rfl:j=L.length:=ae;go_upto_region 2 with fail;refine ar ?_;refine ag ?_;refine aF ?_;refine ag ?_;refine ak ?_;go_wp2_with fail;go_ret;exact⟨by rw[show x7 L p=-1 from by grind[x7,KV]];rfl,a.only⟩
def akV A (c g:Nat) lb (L:List jP) (p:jP->Bool) w (cj:L.length<=1073741824) (hr:Row 0 w A L.length c 73 5 (cA L)) (B:∀args w,(callFunc g args).run ax w=.ok (.enter g args) w)
 (hp:∀x W,x∈L->aq (dV A) w W->aD ax g (#[av #[J R x.1.k,J R x.1.to,J R x.1.fr,J R x.1.n,ad x.2.1 x.1.data.length x.2.2]]++lb) W λe w'=>e=aA (aj (p x))/\ao W w'):
 aD ax 104 #[ad A L.length c,.func (.func g) #[] lb] w λe w'=>∃P,e=aA (ad P (L.filter (λx=>!p x)).length c)/\Turned w w' (bp A L.length c 73 5 (cA L)) (bp P (L.filter (λx=>!p x)).length c 73 5 (cA (L.filter (λx=>!p x)))):=by
 have U:=hid B;have D:0<L.length->_:=λh=>hr.blk h;obtain⟨N,K⟩:=ex (x7 L p);have X:aE (∀W,aq (dV A) w W->Row 0 W A L.length c 73 5 (cA L)->aD ax 191 #[ad A L.length c,.func (.func g) #[] lb] W λe w'=>e=aA (J R N)/\ao W w'):=hid (λW o h=>by have q:=akW A c g lb L p W cj h B (λx fw hx g2=>hp x fw hx (o.trans g2.to (λ_ _ h=>h)));rw[K]at q;exact q);have Y:=hid hp;have hr1:=hid hr;have HR:=hid (λb (hb:dV A b)=>(Row.lt hr hb).2);by_cases B2:N=-1;clear B hp
 .subst B2;have hno:L.filter (λx=>!p x)=L:=by grind[zo,x7]
  rw[hno];clear hno K D hr;go_enter af3,agS;have a:=ai.start (t:=bp A L.length c 73 5 (cA L)) ⟨hr1.out,HR.out⟩;go_upto_region 0 with fail;refine ar ?_;refine ku ?_;refine bC (X.out _ a.only (a.at 0)) a (λw1 a=>?_);refine cK ?_;refine pk (aj aB) ?_;refine aF ?_;refine dQ ?_;go_wp2_with fail;go_ret;exact⟨A,aa,a.gj 0⟩
 .obtain⟨d,pR⟩:∃d,L.findIdx? p=ab d:=by grind[x7]
  have RO:N=(d:Int):=by grind[x7]
  subst RO;obtain⟨jm,ud,hb1⟩:=List.findIdx?_eq_some_iff_getElem.1 pR;obtain⟨G,cur,rfl,kI,iI,hcm,hcs,E⟩:=D ae;have aoQ:¬(d:Int)=-1:=ae;have RL:(L.take d).filter (λx=>!p x)=L.take d:=by grind[zo,List.mem_iff_getElem?]
  have hx1:L[d]?=ab L[d]:=cm jm
  have hst:∃f fc,cur=(cA ((L.take (d+1)).filter (λx=>!p x))++(f++(cA (L.drop (d+1))++fc))).toArray/\f.length=5/\((L.take (d+1)).filter (λx=>!p x)).length=d:=by
   have bD:(L.take (d+1)).filter (λx=>!p x)=L.take d:=by grind[fv]
   refine⟨cA [L[d]],cur.toList.drop (L.length*5),?_,aT,aG⟩;rw[bD,<-j5,<-j5,<-DM,<-DM,show L.take d++[L[d]]++L.drop _=L by simp,<-E,oR]
  obtain⟨f,fc,Hi,fm,l⟩:=hst;have anO:∀b,dV (ab (⟨G,0,af⟩:bW)) b->b=G:=λb ⟨off,sp,e⟩=>by grind
  have hsz:cur.size=c*5:=hcs;have jK:fc.length+L.length*5=c*5:=by grind[GL]
  have PK:=hid jK;have r:=hid iI;have Q:=hid hcm;have qo:=hid hsz;have mv:=hid Hi;have Pc:=hid E;have ln:=hid kI;clear jK K pR hb1 RL ud hx1 iI hcm hcs E D hr kI hsz Hi;go_enter af3,agS;have a:ai w (dV (ab (⟨G,0,af⟩:bW))) w [ah G cur 73]:=(ai.start (t:=bp (ab (⟨G,0,af⟩:bW)) L.length c 73 5 (cA L)) ⟨hr1.out,HR.out⟩).as 0 aa _ (λ_=>ln.out) (λb hb=>⟨0,af,by rw[show b=G from hb]⟩);go_upto_region 0 with fail;refine ar ?_;refine ku ?_;refine bC (X.out _ a.only (by have h:=Iw (n:=L.length) (a.a1 0) r.out Q.out qo.out;rw[show cur.toList.take (L.length*5)=cA L from Pc.out]at h;exact h)) a (λaS a=>?_);refine cK ?_;refine cd (aj au) ?_;refine b6 ?_;refine pad (d:Int) 1 ((d+1:Nat):Int) ?_;refine bR ?_;have ca:=a;rw[mv.out]at a;go_wp2_with fail;go_loopw [5,6] (λaW O wr=>∃(i j:Nat) (f:List aP),i<j/\j<=L.length/\aW=J R (i:Int)/\O=J R (j:Int)/\((L.take j).filter (λx=>!p x)).length=i/\f.length+i*5=j*5/\ai w (dV (ab (⟨G,0,af⟩:bW))) wr [ah G (cA ((L.take j).filter (λx=>!p x))++(f++(cA (L.drop j)++fc))).toArray 73]) (λaW O wr=>L.length -(cg O).toNat);case atStart=>exact⟨d,d+1,_,ae,ae,aa,aa,l,ae,a⟩
  case round=>
   clear a ca l fm;obtain⟨i,j,f,hL,hj,rfl,rfl,l,fm,a⟩:=hrel;by_cases hlt:j<L.length
   .have cJ:(j:Int)<(L.length:Int):=ae;obtain⟨x,hx⟩:∃x,L[j]?=ab x:=⟨_,cm hlt⟩;have kK:=cM hx;obtain⟨iL,oA⟩:=ex (p x);have hdr:cA (L.drop j)=([J R x.1.k,J R x.1.to,J R x.1.fr,J R x.1.n,ad x.2.1 x.1.data.length x.2.2]:List aP)++cA (L.drop (j+1)):=by rw[<-QG,<-DM];congr 1;obtain⟨h1,rfl⟩:=eR.1 hx;simp
    obtain⟨pre,M⟩:=ex (cA ((L.take j).filter (λx=>!p x)));have Sf:pre.length=i*5:=by grind[GL]
    obtain⟨eb,I⟩:=ex (cA (L.drop (j+1)));rw[hdr,M,I]at a
    have w0:∀(k:Nat) (v:aP),(([J R x.1.k,J R x.1.to,J R x.1.fr,J R x.1.n,ad x.2.1 x.1.data.length x.2.2]:List aP):List aP)[k]?=ab v->(pre++(f++(([J R x.1.k,J R x.1.to,J R x.1.fr,J R x.1.n,ad x.2.1 x.1.data.length x.2.2]:List aP)++eb++fc)))[j*5+k]?=ab v:=λk v hk=>by have aos:k<5:=(eR.1 hk).1;rw[oa ae,oa ae,j5,tB (by show _<5;omega),show j*5+k -pre.length -f.length=k by omega];exact hk
    have Z:=hid Sf;have tx:=hid w0;have u:=hid hx;have s:=hid oA;have wu:=hid M;have T:=hid I;have m:=hid l;have ah1:=hid hdr;clear hx oA M I hdr w0 l;go_upto_region 5 with fail;refine ar ?_;refine v4 ?_;refine jb ?_;refine aJ (ay (ab ⟨G,(j*5),af⟩)) (cI 24 73 5 (bc 22) (bc 23) aa eB aw G 0 (L.length) c j ((j*5)) aa aa hlt ae) ?_;refine aJ _ (by(refine e7 73 _ aa G (j*5) aa _ ((a.a1 0).rangeAt (j*5) _ (λk v hk=>by rw[List.getElem?_toArray];exact tx.out k v hk)) fX aa aw)) ?_;refine bA a #[J R 0,J R 0,J R 0,J R 0,ad af 0 0] (λfM bN a=>?_);refine ba a 0 (av #[J R x.1.k,J R x.1.to,J R x.1.fr,J R x.1.n,ad x.2.1 x.1.data.length x.2.2]) (λcc a=>?_);refine ak ?_;cases iL with
    |true=>
     refine b6 ?_;refine bt a 0 #[J R x.1.k,J R x.1.to,J R x.1.fr,J R x.1.n,ad x.2.1 x.1.data.length x.2.2] ?_;refine bC ((by have h:=Y.out x _ kK a.only;rw[s.out]at h;exact h)) a (λcG a=>?_) (hr:=by(first|(go_simp;done)|(go_simp;exact U.out _ _)));refine cK ?_;refine pad (j:Int) 1 ((j+1:Nat):Int) ?_;refine bR ?_;go_wp2_with fail;go_roundw;case rel=>exact⟨i,j+1,f++([J R _,J R _,J R _,J R x.1.n,ad _ _ x.2.2]:List _),ae,ae,aa,aa,by rw[show(L.take _).filter (λx=>!p x)=(L.take j).filter (λx=>!p x)from by rw[fv,u.out,pz];simp[s.out]];exact m.out,by rw[dw];show f.length+5+_=_;omega,by rw[show(L.take _).filter (λx=>!p x)=(L.take j).filter (λx=>!p x)from by rw[fv,u.out,pz];simp[s.out],wu.out,T.out];have h:ai _ _ _ [ah G (pre++(f++(([J R x.1.k,J R x.1.to,J R x.1.fr,J R x.1.n,ad x.2.1 x.1.data.length x.2.2]:List aP)++eb++fc))).toArray 73]:=a.pick [1];simpa using h⟩
     case measure=>simp[cg]<;>omega
    |false=>
     refine b6 ?_;refine bt a 0 #[J R x.1.k,J R x.1.to,J R x.1.fr,J R x.1.n,ad x.2.1 x.1.data.length x.2.2] ?_;refine bC ((by have h:=Y.out x _ kK a.only;rw[s.out]at h;exact h)) a (λc6 a=>?_) (hr:=by(first|(go_simp;done)|(go_simp;exact U.out _ _)));refine ku ?_;refine bt a 0 #[J R x.1.k,J R x.1.to,J R x.1.fr,J R x.1.n,ad x.2.1 x.1.data.length x.2.2] ?_;refine aJ _ (cI 24 73 5 _ _ aa eB aw G 0 _ c i ((i*5)) aa aa ae ae) ?_;refine My a 1 (Fi (cs':=(pre++(([J R x.1.k,J R x.1.to,J R x.1.fr,J R x.1.n,ad x.2.1 x.1.data.length x.2.2]:List aP)++(f++(([J R x.1.k,J R x.1.to,J R x.1.fr,J R x.1.n,ad x.2.1 x.1.data.length x.2.2]:List aP)++eb++fc)).drop 5)).toArray) (av #[J R x.1.k,J R x.1.to,J R x.1.fr,J R x.1.n,ad x.2.1 x.1.data.length x.2.2]) aa aa aa (a.a1 1) (by show i*5+5<=_;rw[iR,dw,dw,dw,dw,Z.out];show _<=_+(_+(5+_+_));omega) aw aw (by have e:=Cc ([J R x.1.k,J R x.1.to,J R x.1.fr,J R x.1.n,ad x.2.1 x.1.data.length x.2.2]:List aP) pre (f++(([J R x.1.k,J R x.1.to,J R x.1.fr,J R x.1.n,ad x.2.1 x.1.data.length x.2.2]:List aP)++eb++fc)) (by rw[dw,dw,dw];show 5<=_+(5+_+_);omega);rw[Z.out]at e;exact e)) (λdX a=>?_);refine b6 ?_;refine pad (i:Int) 1 ((i+1:Nat):Int) ?_;refine cK ?_;refine pad (j:Int) 1 ((j+1:Nat):Int) ?_;refine bR ?_;go_wp2_with fail;go_roundw;case rel=>exact⟨i+1,j+1,(f++([J R x.1.k,J R x.1.to,J R x.1.fr,J R x.1.n,ad x.2.1 x.1.data.length x.2.2]:List aP)).drop 5,ae,ae,aa,aa,by rw[(show(L.take _).filter (λx=>!p x)=(L.take j).filter (λx=>!p x)++[x]from by rw[fv,u.out,pz];simp[s.out]),dw,m.out];rfl,by rw[List.length_drop,dw];show f.length+5 -5+_=_;omega,by rw[(show(L.take _).filter (λx=>!p x)=(L.take j).filter (λx=>!p x)++[x]from by rw[fv,u.out,pz];simp[s.out]),DM,wu.out,QG,T.out];have h:ai _ _ _ [ah G (pre++(([J R x.1.k,J R x.1.to,J R x.1.fr,J R x.1.n,ad x.2.1 x.1.data.length x.2.2]:List aP)++(f++(([J R x.1.k,J R x.1.to,J R x.1.fr,J R x.1.n,ad x.2.1 x.1.data.length x.2.2]:List aP)++eb++fc)).drop 5)).toArray 73]:=a.pick [1];rw[show pre++(([J R x.1.k,J R x.1.to,J R x.1.fr,J R x.1.n,ad x.2.1 x.1.data.length x.2.2]:List aP)++(f++(([J R x.1.k,J R x.1.to,J R x.1.fr,J R x.1.n,ad x.2.1 x.1.data.length x.2.2]:List aP)++eb++fc)).drop 5)=pre++([J R x.1.k,J R x.1.to,J R x.1.fr,J R x.1.n,ad x.2.1 x.1.data.length x.2.2]:List aP)++((f++([J R x.1.k,J R x.1.to,J R x.1.fr,J R x.1.n,ad x.2.1 x.1.data.length x.2.2]:List aP)).drop 5++(eb++fc))from by rw[j5,j5,<-j5 f,List.drop_append_of_le_length (by rw[dw];show 5<=_+5;omega)]]at h;exact h⟩
     case measure=>simp[cg]<;>omega
   .have cJ:¬(j:Int)<(L.length:Int):=ae;obtain rfl:j=L.length:=ae;rw[il]at a l;rw[List.drop_length]at a;have m:=hid l;clear l;go_upto_region 5 with fail;refine ar ?_;refine v4 ?_;refine ak ?_;obtain⟨cu,z⟩:=ex ((cA (L.filter (λx=>!p x))++(f++(cA []++fc))).toArray);have Hj:cu.size=c*5:=by rw[<-z,iR,dw,dw,dw,GL,m.out];have:=PK.out;show _+(_+(0+_))=_;omega
    have hcut:cu.toList.take (i*5)=cA (L.filter (λx=>!p x)):=by rw[<-z,<-m.out,<-GL];simp
    rw[z]at a;have S:=hid Hj;have Da:=hid hcut;clear z Hj hcut;refine jb ?_;refine aJ (ad (ab ⟨G,i*5,af⟩) (L.length -i) (c -i)) (aep 24 73 5 (bc 36) (bc 37) aa eB aw G L.length c i (L.length -i) aa aa ae r.out (by have:=r.out;omega)) ?_;refine ac1 (C:=λy=>y.size=cu.size/\y.toList.take (i*5)=cu.toList.take (i*5)) a 0 (adX (sz:=5) aa aT eB aT aT aw ae (a.a1 0) (by rw[S.out];have:=r.out;omega)) (λi' y RA a=>?_);refine ak ?_;obtain⟨F,H⟩:=RA;rw[Da.out]at H;rw[S.out]at F;replace a:ai _ _ _ [ah G y 73]:=a;have PT:=hid F;have uZ:=hid H;clear F H;refine jb ?_;refine aJ (ad (ab (⟨G,0,af⟩:bW)) i c) (qV 24 73 5 (bc 39) (bc 40) aa eB aw (ab (⟨G,0,af⟩:bW)) L.length c i aa aa (by have:=r.out;omega)) ?_;refine bR ?_;have V:=a.Az 0 i c 5 (cA (L.filter (λx=>!p x))) uZ.out (by have:=r.out;omega) Q.out PT.out;rw[<-m.out]at V;go_wp2_with fail;go_ret;exact⟨_,by rw[m.out];rfl,V.gj 0⟩
def jJ(old:List Int)(ev:List Int)(i:Nat)(m:bI):bI:=if m.k=1/\(i:Int)∈ev then⟨2,m.to,0,0,(old.drop m.fr.toNat).take m.n.toNat⟩else m
def uC(old ev:List Int)(ms:List bI)(j:Nat):List bI:=ms.mapIdx (λi m=>if i<j then jJ old ev i m else m)
def kd(old ev:List Int)(ms:List bI):List bI:=ms.mapIdx (jJ old ev)
theorem auP(old ev)ms:uC old ev ms 0=ms:=by unfold uC;refine wy λi=>?_;rw[List.getElem?_mapIdx];cases ms[i]?<;>simp
def auO(old ev)ms:uC old ev ms ms.length=kd old ev ms:=by unfold uC kd;refine wy λi=>?_;grind
def aeN(old ev)ms j:(uC old ev ms j).length=ms.length:=by simp[uC]
def aeM{old ev ms j m}(h:ms[j]?=ab m):(uC old ev ms j)[j]?=ab m:=by grind[uC]
def TV{old ev ms j m}(h:ms[j]?=ab m):uC old ev ms (j+1)=(uC old ev ms j).set j (jJ old ev j m):=by have a:=(eR.1 h).1;refine wy λi=>?_;grind[uC]
def aed{a:Type}{l:List a}{j x}(h:l[j]?=ab x):l.set j x=l:=by grind[List.set_getElem_self]
def als{an w FX A n c}{l:List jP}{L}(h:ai an FX w (Bv A n c l::L)):ai an FX w (bp A n c 73 5 (cA l)::gD l::L):=by
 refine(h.as 0 aa (both (bp A n c 73 5 (cA l)) (gD l)) (λa=>⟨a.1,a.2,λb hb d=>?_⟩) (λb hb=>hb)).fi;obtain⟨x,hx,o,f,d⟩:=d;obtain⟨k,m,hb⟩:=hb;obtain⟨_,cs,i⟩:=(a.2 x hx).2.1 b o f d;rcases a.1.2 with⟨e,_⟩|⟨g,cap,cur,e,_,j,_⟩;·grind
 .grind
def ai.al7{an w FX L}{l:List jP}{m A c}j(h:ai an FX w (gD l::cf A c m.data::L)):ai an FX w (gD (l.set j (m,A,c))::L):=by
 refine h.star.as 0 aa _ (λa x hx=>?_) (λb hb=>?_)
 .rcases ajh hx with hx|rfl;·exact a.1 x hx
  .exact a.2.1
 .obtain⟨x,hx,hb⟩:=hb;rcases ajh hx with hx|rfl;·exact .inl ⟨x,hx,hb⟩
  .exact .inr hb
def Yo:∀{l:List jP} {j x},j<l.length->cA (l.set j x)=(cA l).take (j*5)++(jk x.1 x.2.1 x.2.2++(cA l).drop (j*5+5))
 |[],_,_,h=>absurd h (Nat.not_lt_zero _)
 |y::l,0,x,_=>aa
 |y::l,j+1,x,h=>by have b:=Yo (l:=l) (j:=j) (x:=x) aG;have bD:∀(a:jP) (k:List jP),cA (a::k)=jk a.1 a.2.1 a.2.2++cA k:=λ_ _=>aa;have b9:(jk y.1 y.2.1 y.2.2).length=5:=rfl;have t1:(jk y.1 y.2.1 y.2.2).take (j*5+5)=jk y.1 y.2.1 y.2.2:=tC ae;have t2:(jk y.1 y.2.1 y.2.2).drop (j*5+5+5)=[]:=List.drop_eq_nil_of_le ae;rw[List.set_cons_succ,bD,bD,b,Nat.succ_mul,Xf,List.drop_append,b9,t1,t2,show j*5+5 -5=j*5 by omega,show j*5+5+5 -5=j*5+5 by omega,List.nil_append,j5]
def atp{P o}{a:Act}{w g n c j}{l:List jP}{x p q}(h:Row 0 w (ab ⟨g,0,af⟩) n c 73 5 (cA l))(D:j<n)(F:l.length=n)(z:o.op=.store 73 p q)(hx:a.eval p=ay (ab ⟨g,j*5,af⟩))(A:a.eval q=av (jk x.1 x.2.1 x.2.2).toArray)(hi:(P.info? 73).map (·.size)=ab 5):
 ∃w',(execOp a.eval o).run P w=.ok .skip w'/\Turned w w' (bp (ab ⟨g,0,af⟩) n c 73 5 (cA l)) (bp (ab ⟨g,0,af⟩) n c 73 5 (cA (l.set j x))):=by
 obtain⟨G,cur,t,y,m,hcm,hcs,u⟩:=h.blk ae;cases t;have E:j*5+5<=n*5:=ae;have H:n*5<=c*5:=Nat.mul_le_mul_right _ m;obtain⟨w',h1,f,s,B⟩:=MP (P:=P) (k:=j*5) (v:=av (jk x.1 x.2.1 x.2.2).toArray) z hx A y (by show j*5+5<=_;omega) (by rw[hi];rfl) aw;refine⟨w',h1,s.mono (G:=dV (ab ⟨g,0,af⟩)) (λi _ e=>⟨0,af,aU⟩),?_,λb hb=>?_⟩
 .have C:cur.toList.length=c*5:=ae;have d:(jk x.1 x.2.1 x.2.2).length=5:=rfl
  have e:lay cur (j*5) (jk x.1 x.2.1 x.2.2)=(cur.toList.take (j*5)++(jk x.1 x.2.1 x.2.2++(cur.toList.drop (j*5)).drop 5)).toArray:=by have q:=Cc (jk x.1 x.2.1 x.2.2) (cur.toList.take (j*5)) (cur.toList.drop (j*5)) aG;rw[oR,oP,zt ae,d]at q;exact q
  have r:aX w' g (cur.toList.take (j*5)++(jk x.1 x.2.1 x.2.2++(cur.toList.drop (j*5)).drop 5)).toArray 73:=by rw[<-e];exact f
  have hr:=Iw (n:=n) (c:=c) (sz:=5) r m hcm aG
  have hx2:(cur.toList.take (j*5)++(jk x.1 x.2.1 x.2.2++(cur.toList.drop (j*5)).drop 5)).take (n*5)=cA (l.set j x):=by rw[Yo ae,<-u,Xf,oP,zt ae,ajl,Xf,d,List.drop_drop,ajl,List.drop_take,Nat.min_eq_right ae,zt ae,tC (l:=jk x.1 x.2.1 x.2.2) ae];congr 2
  show Row 0 w' _ _ _ _ _ _;rw[<-hx2];exact hr
 .obtain⟨I,J,e⟩:=hb;cases e;exact⟨aX.lt f,.inl ⟨_,_,aa⟩⟩
end Go.Proofs.YtcmhplknoglbkaaGreat
