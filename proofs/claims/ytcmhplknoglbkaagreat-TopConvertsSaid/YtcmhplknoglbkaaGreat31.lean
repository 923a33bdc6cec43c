/- Part 31 of the proof of TopConvertsSaid. -/
import Derived.Test.YtcmhplknoglbkaaGreat0
import Derived.Test.YtcmhplknoglbkaaGreat6
import Derived.Test.YtcmhplknoglbkaaGreat15
import Derived.Test.YtcmhplknoglbkaaGreat19
import Derived.Test.YtcmhplknoglbkaaGreat28
import Derived.Test.YtcmhplknoglbkaaGreat29
import Derived.Test.YtcmhplknoglbkaaGreat30
set_option linter.all false
set_option maxRecDepth 100000
set_option maxHeartbeats 4000000
open Go.Proofs.Tryz
open Bool renaming false->au
open Go renaming Calls->aD,bodyPost_ret->dp,results_cell_row->je,wpList_nil->ak,wp_region_lit->ar
open Go.Ending renaming returned->aA
open Go.IntKind renaming i64->R
open Go.Operand renaming tmp->bc
open Go.Proofs.Tryz renaming func246->agu,func33->agC,ntmps33->ahl,prog->ax,underlying24->eB,underlying49->xE,underlying73->fX
open Go.RowKit renaming Hid->aE,intOf->cx
open Go.Value renaming agg->av,int->J,pointer->ay,slice->ad
open List renaming getElem?_eq_getElem->cm,length_append->dw,length_map->gW,length_singleton->wA,map_append->gy,map_cons->jx,map_nil->kC,map_toArray->ob,mem_cons->gz,mem_map->gN,mem_of_getElem?->cM,not_mem_nil->gb,range->dG,range_succ->pB,take_add_one->fv
open Nat renaming zero_le->cQ
open Option renaming none->af,some->ab
namespace Go.Proofs.YtcmhplknoglbkaaGreat
open Go.RowKit Go.MapKept
def L9(ms:List bI)(x:Nat):Int:=((ms[x]?).map cS).getD 0
def hR(ms:List bI):List (Nat×Int×Int):=(lX ms).map (λi=>(i,mR ms i,L9 ms i))
def aez ms:(hR ms).length=ms.length:=by grind[hR,Mt]
def cD.Kv{FX an A ms}(h:∀W,aq FX an W->cD W A ms){W}(g:aq FX an W){j m}(e:ms[j]?=ab m):∃a b c d,A=ab ⟨a,b,af⟩/\W.rangeAt a (b+j*5) [J R m.k,J R m.to,J R m.fr,J R m.n,ad c m.data.length d]:=by grind[cD.ia,aq.refl]
def aev(fS da G)A c ms an FX(O:∀W,aq FX an W->cD W A ms)(eg:ms.length<=20):
 xZ ax 278 #[ay (ab ⟨fS,0,af⟩),ay (ab ⟨da,0,af⟩)] (λx:Nat×Int×Int=>#[J R (x.1:Int),gJ x.2]) an FX (bQ [ah fS #[ad (ab ⟨G,0,af⟩) ms.length ms.length] 82,ah da #[ad A ms.length c] 24,ah G (er (lX ms)) 3]) (λ_=>True) (hR ms):=by
 intro l S gO W F t bL I a;have B:=hid O;obtain⟨n,d⟩:=ex ms.length;have P:(lX ms).length=n:=by rw[Mt,d]
 have Q:(hR ms).length=n:=by rw[aez,d]
 rw[d]at a eg;have C:=hid d;have Py:=hid P;have wv:=hid Q;clear O d P Q;go_enter Tryz.func278,ntmps278;replace a:ai an FX W [ah fS #[ad (ab ⟨G,0,af⟩) n n] 82,ah da #[ad A n c] 24,ah G (er (lX ms)) 3,t,F]:=a.kq;go_upto_region 0 with fail;refine ar ?_;refine pl a 0 0 ?_;refine dQ ?_;go_wp2_with fail;go_loopw [8] (λv wr=>∃(j:Nat) (t:bu),j<=n/\v=J R (j:Int)/\S ((hR ms).take j) t/\ai an FX wr [ah fS #[ad (ab ⟨G,0,af⟩) n n] 82,ah da #[ad A n c] 24,ah G (er (lX ms)) 3,t,F]) (λv wr=>n -(cx v).toNat);case atStart=>exact⟨0,t,cQ _,aa,I,a⟩
 case round=>
  clear a I;obtain⟨j,t,hj,rfl,p,a⟩:=hrel;by_cases hlt:j<n
  .have cJ:(j:Int)<(n:Int):=ae;have N:j<(lX ms).length:=by rw[Py.out];exact hlt
   obtain⟨i,hi⟩:∃i,(lX ms)[j]?=ab i:=⟨_,cm N⟩;have M:i<n:=by rw[<-C.out];exact acQ (cM hi)
   obtain⟨m,f⟩:∃m,ms[i]?=ab m:=⟨_,cm (by rw[C.out];exact M)⟩;have apo:(hR ms)[j]?=ab (i,m.to,cS m):=by rw[hR,List.getElem?_map,hi];simp[mR,L9,f]
   have u:(hR ms).take (j+1)=(hR ms).take j++[(i,m.to,cS m)]:=by grind[fv]
   have s:(hR ms).take j++[(i,m.to,cS m)]<+:hR ms:=aG;have aid:aE ((er (lX ms))[j]?=ab (J R (i:Int))):=hid (by grind[SZ]);obtain⟨o,U,y,H,K,_⟩:=cD.Kv B.out a.only f
   have Z:aE (∀W,aq FX an W->∃y H,W.rangeAt o (U+i*5) [J R m.k,J R m.to,J R m.fr,J R m.n,ad y m.data.length H]):=hid (λW g=>by obtain⟨eZ,eu,aK,c2,h1,h2⟩:=cD.Kv B.out g f;grind);obtain⟨w,E,L⟩:=Z.out _ a.only;obtain⟨T,r⟩:=ex (cS m);rw[r]at s u;have px:aE (∀W,aD ax 136 #[av #[J R m.k,J R m.to,J R m.fr,J R m.n,ad w m.data.length E]] W λe w'=>e=aA (av #[J R m.to,J R T])/\ao W w'):=hid (λW=>by rw[<-r];exact uB _ _ _ _ w _ E W);have Y:=hid L;have X:=hid K;have D:=hid s;have PR:=hid u;clear hi f apo u s K N L r;go_upto_region 1 with fail;refine ar ?_;refine dR ?_;refine aJ (ay (ab ⟨G,j,af⟩)) (cI 82 3 1 (bc 6) (bc 8) aa Tryz.underlying82 aw G 0 n n j j aa aa hlt ae) ?_;refine aJ _ (fz aa aa (a.a1 2) aid.out aw) ?_;refine ih ?_;refine Nc 7 ?_;refine v2 ?_;refine pl a 1 0 ?_;refine ag ?_;refine aJ _ (cI 24 73 5 _ _ aa eB aw o U n c i _ (by show ad A _ _=_;rw[X.out]) aa M aa) ?_;refine aJ _ (by(refine e7 73 _ aa o _ aa _ Y.out fX aa aw)) ?_;refine bC (px.out _) a (λw1 a=>?_);refine ak ?_;have z:=(a.pick (l':=[t,ah fS #[ad (ab ⟨G,0,af⟩) n n] 82,ah da #[ad A n c] 24,ah G (er (lX ms)) 3,F]) [3,0,1,2,4]).GG;refine IU (bL ((hR ms).take j) (i,m.to,T) _ _ _ D.out p z) (λb aS hb=>?_) (λ_ _ he=>he.elim (λh=>⟨_,h.1⟩) (λh=>⟨_,h.1⟩)) (GX aa aa (by simp only[ob,jx,kC];rfl));clear z a;rcases II hb with⟨rfl,V,q,a⟩|⟨rfl,V,q,a⟩
   .clear hb;replace a:=a.xk;refine vF ?_;refine dR ?_;refine pad (j:Int) 1 ((j+1:Nat):Int) ?_;refine bR ?_;go_wp2_with fail;go_roundw;case rel=>exact⟨j+1,_,ae,aa,by rw[PR.out];exact q,a.pick [1,2,3,0,4]⟩
    case measure=>simp[cx]<;>omega
   .clear hb;replace a:=a.xk;refine vF ?_;refine bR ?_;go_wp2_with fail;first|go_end0|refine bodyPost_ret (results_none rfl _ _ _) rfl ?_
    exact vb.cut D.out q (((a.pick (l':=[ah fS _ 82,ah da _ 24,ah G _ 3,V,F]) [1,2,3,0,4]).fC 3).pick [1,0,2])
  .have cJ:¬(j:Int)<(n:Int):=ae;have hJ:(hR ms).take j=hR ms:=List.take_of_length_le (by rw[wv.out];omega);rw[hJ]at p;go_upto_region 1 with fail;refine ar ?_;refine bR ?_;go_wp2_with fail;first|go_end0|refine bodyPost_ret (results_none rfl _ _ _) rfl ?_
   exact vb.all p trivial ((a.fC 3).pick [1,0,2])
def xg(ms:List bI)(i:Nat):Bool:=match ms[i]? with|some m=>Cu m ((ms.take i).map b')|none=>au
def qQ(ms:List bI):Nat:=(dG ms.length).findIdx (xg ms)
def asz{ms j}(h:j<ms.length)(h1:xg ms j=true)(b:∀i,i<j->xg ms i=au):qQ ms=j:=by unfold qQ;have a:j<(dG ms.length).length:=aG;refine(List.findIdx_eq a).2 ⟨aG,λk hk=>aG⟩
def adn{ms}(h:∀i,i<ms.length->xg ms i=au):qQ ms=ms.length:=by grind[qQ,List.length_range]
def QC E x:im (E++[x])=im E++[J R x.1,J R x.2]:=by simp[im]
abbrev DC:=Nat×Option Addr×Nat
def tF(ms:List bI)(l:List DC):Prop:=l.map (·.1)=dG l.length/\l.length<=ms.length
def tF.snoc{ms l j A c}(h:tF ms l)(a:l.length=j)(b:j<ms.length):tF ms (l++[(j,A,c)]):=by subst a;refine⟨?_,aG⟩;rw[gy,h.1,dw,wA,pB];rfl
def tF.last{ms l x}(h:tF ms (l++[x])):x.1=l.length/\l.length<ms.length:=by obtain⟨h1,a⟩:=h;rw[gy,dw,wA,pB]at h1;grind[List.append_inj_right']
def H9(ms:List bI)(x:DC):bu:=bp x.2.1 x.1 x.2.2 35 2 (im ((ms.take x.1).map b'))
def auA da A c ms an FX(Q:∀W,aq FX an W->cD W A ms)(eg:ms.length<=1048576):
 Kh ax 246 #[ay (ab ⟨da,0,af⟩)] (λx:DC=>#[J R (x.1:Int),ad x.2.1 x.1 x.2.2]) an FX (ah da #[ad A ms.length c] 24) (λ_=>True) (tF ms) (λl=>tF ms l/\l.length=ms.length) (H9 ms):=by
 intro l S gO W F t N z a;have w:=hid Q;go_enter agu,ntmps246;go_step;refine aF ?_;refine ag ?_;refine ak ?_;go_step;refine aF ?_;refine pl a 0 0 ?_;iterate 2 refine ag ?_
 refine ak ?_;replace a:=a.new (bp _ 0 0 35 2 []) ⟨aq.refl _ _,Row.nil _ _ _ _,λb ⟨_,_,e⟩=>aG⟩;go_wp2_with fail;go_loopw [3,8] (λH r wr=>∃(j:Nat) (aK:Option Addr) (c2:Nat) (pre:List DC) (t:bu),j<=ms.length/\pre.length=j/\aE (tF ms pre)/\H=ad aK j c2/\r=J R (j:Int)/\S pre t/\ai an FX wr [bp aK j c2 35 2 (im ((ms.take j).map b')),ah da #[ad A ms.length c] 24,t,F]) (λH r wr=>ms.length -(cx r).toNat);case atStart=>exact⟨0,_,0,[],t,cQ _,aa,hid ⟨aa,cQ _⟩,aa,aa,z,a⟩
 case round=>
  clear a z;obtain⟨j,aK,c2,pre,t,hj,hpl,s,rfl,rfl,C,a⟩:=hrel;by_cases hlt:j<ms.length
  .have T:(j:Int)<(ms.length:Int):=ae;obtain⟨m,i⟩:∃m,ms[j]?=ab m:=⟨_,cm hlt⟩;obtain⟨y,U,_,_,B,_⟩:=cD.Kv w.out a.only i
   have L:aE (∀W,aq FX an W->∃d f,W.rangeAt y (U+j*5) [J R m.k,J R m.to,J R m.fr,J R m.n,ad d m.data.length f]):=hid (λW g=>by obtain⟨eZ,eu,aK,c2,h1,h2⟩:=cD.Kv w g i;grind);obtain⟨d,f,E⟩:=L _ a.only;have D:=s.out.snoc (A:=aK) (c:=c2) hpl hlt;have p:=hid D;have O:aE ((ms.take (j+1)).map b'=(ms.take j).map b'++[b' m]):=hid (by grind[fv]);have Z:=hid i;have I:=hid B;have K:=hid E;have M:aE ((pre++[(j,aK,c2)]).length=j+1):=hid aG;clear i B E D;go_step;refine aF ?_;refine ag ?_;refine ak ?_;go_step;refine aF ?_;refine ag ?_;refine aJ _ (cI 24 73 5 _ _ aa eB aT _ _ _ _ _ _ (by show ad A _ _=_;rw[I]) aa hlt aa) ?_;refine aJ _ (by(refine e7 73 _ aa y _ aa _ K.out fX aa aT)) ?_;refine bA a #[J _ 0,J _ 0,J _ 0,J _ 0,ad _ 0 0] (λY w1 a=>?_);refine ag ?_;refine ba a 0 (av _) (λaS a=>?_);refine ak ?_;replace a:=a.pick (l':=[bp aK j c2 35 2 _,ah _ _ 73,ah da _ 24,t,F]) [1,0,2,3,4];go_step;refine dh ?_;refine Nc 3 ?_;iterate 3 refine ag ?_
   refine ak ?_;have v:=(a.pick (l':=[t,bp aK j c2 35 2 _,ah _ _ 73,ah da _ 24,F]) [3,0,1,2,4]).GG;refine IU (N _ _ _ _ _ p C v) (λb bN hb=>?_) (λ_ _ P=>P.elim (λh=>⟨_,h.1⟩) (λh=>⟨_,h.1⟩)) (GX aa aa (by simp only[ob,jx,kC];rfl));clear v a;rcases II hb with⟨rfl,o,q,a⟩|⟨rfl,o,q,a⟩
   .clear hb;replace a:ai _ _ _ [o,bp aK j c2 35 2 (im ((ms.take j).map _)),ah _ _ 73,ah da _ 24,F]:=a.xk;refine vF ?_;refine ag ?_;refine ak ?_;go_step;refine aF ?_;refine ag ?_;refine bt a 2 #[J R m.k,J R m.to,J R m.fr,J R m.n,ad d m.data.length f] ?_;refine a7 (uB m.k m.to m.fr m.n d _ f _) ?_;rintro e cc ⟨rfl,g⟩;replace a:=a.aI g;refine bb ?_;refine ga a #[J R m.to,J R (cS m)] 35 (λX cG a=>?_);refine np (m:=1) a 2 16 (aX.cellsOf (m:=1) (a.a1 0) aa) (by intro u G;simp only[gz,gb,or_false]at G;rcases G with rfl|rfl<;>rfl) (λV XX c6 a=>?_) (hby:=by omega);refine ag ?_;refine ak ?_;go_step;refine aF ?_;refine aJ _ (lK 3 _ _ 3 aa _ 1 ((j+1:Nat):Int) aa aa ae ae ae) ?_;refine ag ?_;refine ak ?_;go_wp2_with fail;go_roundw;case rel=>exact⟨_,_,_,_,_,ae,M,p,aa,aa,q,by rw[O,QC];exact a.pick [2,4,1,5]⟩
    case measure=>grind[cx]
   .clear hb;replace a:ai _ _ _ [o,bp aK j c2 35 2 (im ((ms.take j).map _)),ah _ _ 73,ah da _ 24,F]:=a.xk;refine vF ?_;refine ag ?_;refine ak ?_;go_wp2_with fail;first|go_end0|refine bodyPost_ret (results_none rfl _ _ _) rfl ?_
    exact wD.cut p q (((a.pick (l':=[ah da _ 24,bp aK j c2 35 2 _,o,F]) [3,1,0,4]).fC 2).pick [1,0,2])
  .have T:¬(j:Int)<(ms.length:Int):=ae;go_step;refine aF ?_;refine ag ?_;refine ak ?_;go_wp2_with fail;first|go_end0|refine bodyPost_ret (results_none rfl _ _ _) rfl ?_
   exact wD.all (Fin:=λl=>tF ms l/\l.length=ms.length) ⟨s,ae⟩ C trivial (((a.pick (l':=[ah da _ 24,bp aK j c2 35 2 _,t,F]) [1,0,2,3]).fC 2).pick [1,0,2])
def auw A(n c)w:
 aD ax 172 #[ad A n c] w λe w'=>∃da,e=aA (.func (.func 246) #[] #[ay (ab ⟨da,0,af⟩)])/\b5 w w' (ah da #[ad A n c] 24):=by
 go_enter func172,ntmps172;have a:=bg w;go_step;refine aF ?_;refine bO a (ad A n c) (λb w1 a=>?_);refine ag ?_;refine aF ?_;refine dQ ?_;go_wp2_with fail;go_ret;exact⟨_,aa,a.fresh 0⟩
def prefix_at A c ms w(v:cD w A ms)(hv:∀m∈ms,hY m)(eg:ms.length<=1048576):
 aD ax 84 #[ad A ms.length c] w λe w'=>e=aA (J R (qQ ms:Int))/\ao w w':=by
 have Y:=hid v;have I:=hid hv;have s:∀da,Kh ax 246 #[ay (ab ⟨da,0,af⟩)] (λx:DC=>#[J R (x.1:Int),ad x.2.1 x.1 x.2.2]) w (λ_=>False) (ah da #[ad A ms.length c] 24) (λ_=>True) (tF ms) (λl=>tF ms l/\l.length=ms.length) (H9 ms):=λda=>auA da A c ms w _ (λW g=>v.aI g) eg;clear v hv;refine Bq func84 aa ?_;simp only[ntmps84,List.size_toArray,List.length_cons,List.length_nil,Array.replicate_succ,Array.replicate_zero,List.push_toArray,List.append_toArray,List.nil_append,List.cons_append];have a:=bg w;go_upto_region 0 with fail;refine ar ?_;refine bO a (ad A ms.length c) (λd w1 a=>?_);refine bA a #[J R 0] (λf aS a=>?_);refine ak ?_;go_upto_region 1 with fail;refine ar ?_;refine pl a 1 0 ?_;refine a7 (auw A _ c _) ?_;rintro e bN ⟨U,rfl,Z⟩;replace a:=a.new _ Z;refine bb ?_;refine ak ?_;go_wp2_with fail;have H:ai _ _ _ [ah U #[ad A ms.length c] 24,bQ [ah d #[ad A ms.length c] 24,ah f #[J R 0] 3],bQ []]:=ai.DI (a.pick [0,2,1]);refine afi (encs:=(λx:DC=>#[J R (x.1:Int),ad x.2.1 x.1 x.2.2])) aa (enters_of agu aT aa) (λ_=>aa) (s _) (λpre t=>aE (∀i,i<pre.length->xg ms i=au)/\t=bQ _) (λbq pre t=>(match bq with|.ret=>∃j:Nat,aE (qQ ms=j)/\t=bQ [ah d #[ad A ms.length c] 24,ah f #[J R (j:Int)] 3]|_=>False)) (⟨hid (λi hi=>absurd hi (Nat.not_lt_zero _)),aa⟩) H ?_ ?_ ?_;all_goals clear H a
 .rintro l rd pre ⟨j,aK,c2⟩ W t F P pY ⟨p,rfl⟩ a;obtain⟨hx1,iJ⟩:=tF.last P;simp only at hx1;have z:j<ms.length:=ae;have K:=hid hx1;clear hx1 iJ;replace a:=a.lE;repeat((fail_if_success (with_reducible refine at_region ?_));gi_step)
  refine ke ?_;refine ag ?_;refine ak ?_;repeat((fail_if_success (with_reducible refine at_region ?_));gi_step)
  refine ke ?_;refine ag ?_;refine ak ?_;first|refine wpIn_skip ?_|skip
  simp only[Exit.then];refine Bk a 2 pY (λcc a=>?_);replace a:ai _ _ _ [ah d #[ad A ms.length c] 24,ah f #[J R 0] 3,obj l (.loop {rd with state:=.busy}),both (H9 ms (j,aK,c2)) F]:=a;replace a:=(a.pk [3,0,1,2]).fi;obtain⟨m,B⟩:∃m,ms[j]?=ab m:=⟨_,cm z⟩;obtain⟨L,T,o,q,M,_,N⟩:=cD.ia Y.out B;have S:=I.out m (cM B);have Q:xg ms j=Cu m ((ms.take j).map b'):=by grind[xg]
  have O:((ms.take j).map b').length=j:=aG
  have G:aE (∀W,Row 0 W aK j c2 35 2 (im ((ms.take j).map b'))->aD ax 173 #[av #[J R m.k,J R m.to,J R m.fr,J R m.n,ad o m.data.length q],ad aK j c2] W λe w'=>e=aA (.bool (xg ms j))/\ao W w'):=hid (λW hr=>by
   obtain⟨_,hs⟩:=Row.TO hr
   have h:=asU aK o c2 q m ((ms.take j).map b') W S ae hs (λe he=>by obtain⟨y,hy,rfl⟩:=gN.1 he;have:=(I.out y (List.mem_of_mem_take hy)).b';exact⟨this.1,Int.le_of_lt this.2.1,this.2.2⟩);rw[O,<-Q]at h;exact h);have X:=hid N;have V:=hid M;obtain⟨Iq,C⟩:=ex (xg ms j);rw[C]at G;have E:=hid C;clear B M N S Q O C s;repeat((fail_if_success (with_reducible refine at_region ?_));gi_step)
  refine ke ?_;refine pl a 2 0 ?_;refine ag ?_;refine aJ (ay (ab ⟨L,(T+j*5),af⟩)) (cI 24 73 5 (bc 9) (bc 10) aa eB aT _ _ _ _ _ _ (by show ad A _ _=_;rw[V.out]) aa z aa) ?_;refine aJ (av #[J R m.k,J R m.to,J R m.fr,J R m.n,ad o m.data.length q]) (by(refine e7 73 (bc 11) aa L (T+j*5) aa ([J R m.k,J R m.to,J R m.fr,J R m.n,ad o m.data.length q]:List Value) (X.out _ a.only) fX aa aT)) ?_;refine ag ?_;refine a7 (G.out _ (a.atR 0)) ?_;rintro e cG ⟨rfl,g⟩;replace a:=a.aI g;refine bb ?_;refine ak ?_;cases Iq with
  |false=>
   replace a:=(a.pk [0,1,2,3,4]).star;repeat gi_step
   have b:=a.pk [1,2,3,0];replace b:ai _ _ _ [bQ [ah d #[ad A ms.length c] 24,ah f #[J R 0] 3],obj l (.loop {rd with state:=.busy}),both (H9 ms (j,aK,c2)) F]:=b.fC 2;refine⟨_,?_,b⟩;exact⟨hid (λi hi=>by rw[dw,wA]at hi;rcases Nat.lt_succ_iff_lt_or_eq.1 hi with h|h;exact p.out i h;rw[h,<-K.out];exact E.out),aa⟩
  |true=>
   repeat((fail_if_success (with_reducible refine at_region ?_));gi_step)
   refine ke ?_;refine ag ?_;refine ba a 3 (J R (j:Int)) (λc6 a=>?_);refine ak ?_;replace a:=(a.pk [0,1,2,3,4]).star;repeat gi_step
   have b:=a.pk [1,2,3,0];replace b:ai _ _ _ [bQ [ah d #[ad A ms.length c] 24,ah f #[J R (j:Int)] 3],obj l (.loop {rd with state:=.busy}),both (H9 ms (j,aK,c2)) F]:=b.fC 2;refine⟨_,?_,b⟩;exact⟨j,hid (asz z E.out (λi hi=>p.out i (by rw[<-K.out];exact hi))),aa⟩
 .rintro D xs t u W hJ ⟨p,rfl⟩ hu a;replace a:=a.lE;replace a:=(a.pk [4,0,1,2,3]).lE;have r:=hid (adn (ms:=ms) (λi hi=>p.out i ae));clear hJ s;go_upto_region 6 with fail;refine ar ?_;refine pl a 0 0 ?_;refine ag ?_;refine ba a 1 (J R (ms.length:Int)) (λdX a=>?_);refine ak ?_;go_wp2_with fail;refine yF a 3 (λw' a=>⟨E8 aa aa (a.a1 1) aw,by rw[r.out],a.only⟩)
 .rintro D bq pre t u W P h a;cases bq with
  |ret=>
   obtain⟨j,r,rfl⟩:=h;replace a:=a.lE;go_wp2_with fail;refine yF a 3 (λw' a=>⟨E8 aa aa (a.a1 1) aw,by rw[r.out],a.only⟩)
  |_=>exact h.elim
def Ap(ms:List bI):Int×Int:=if qQ ms<ms.length then(16,(qQ ms:Int))else(0,0)
def ad3 A c ms w(d:cD w A ms)(hv:∀m∈ms,hY m)(j:ms.length<=1048576):
 aD ax 33 #[ad A ms.length c] w λe w'=>e=aA (av #[J R (Ap ms).1,J R (Ap ms).2])/\ao w w':=by
 have b:=hid (λW g=>prefix_at A c ms W (d.aI g) hv j);obtain⟨q,f⟩:=ex (qQ ms);unfold Ap;rw[f]at b⊢;clear d hv f;by_cases h:q<ms.length;·have k:(q:Int)<(ms.length:Int):=ae;rw[if_pos h];go_enter agC,ahl;have a:=bg w;go_step;refine aF ?_;refine bA a #[J _ 0,J _ 0] (λi w1 a=>?_);refine b6 ?_;refine bC (b.out _ a.only) a (λl a=>?_);refine ag ?_;refine aF ?_;refine v4 ?_;refine jb ?_;refine ba a 0 (av #[J R 16,J R (q:Int)]) (λn a=>?_);refine ak ?_;go_wp2_with fail;refine dp (v:=_) (je aa _ _ _ _ _ _ _ aa (a.a1 0) xE aa aw) aa (⟨aa,a.only⟩)
 .have k:¬(q:Int)<(ms.length:Int):=ae;rw[if_neg h];go_enter agC,ahl;have a:=bg w;go_step;refine aF ?_;refine bA a #[J _ 0,J _ 0] (λi o a=>?_);refine b6 ?_;refine bC (b.out _ a.only) a (λp a=>?_);refine ag ?_;refine aF ?_;refine v4 ?_;refine b6 ?_;refine ba a 0 (av #[J R 0,J R 0]) (λr a=>?_);refine ak ?_;go_wp2_with fail;refine dp (v:=_) (je aa _ _ _ _ _ _ _ aa (a.a1 0) xE aa aw) aa (⟨aa,a.only⟩)
def acZ{w w':World}{base e sz:Nat}{v m xs}{c5:Nat->Prop}(h:w.ownsRow base e sz v m xs)(c:∀b,c5 b->b<w.heap.size->w'.heap[b]?=w.heap[b]?)(a:∀g,v.ownBlock=ab g->c5 g):w'.ownsRow base e sz v m xs:=by
 refine⟨h.1,?_⟩;rcases h.2 with h2|⟨g,cap,cur,rfl,hb,hh,r⟩;·grind
 .exact .inr ⟨g,_,_,aa,hb,Ck c (a g aa) hh,r⟩
def dZ.same{fe w w' b enc}{ok:fe->Prop}{a}{c5:Nat->Prop}(h:dZ w b enc ok a)(e:∀b,c5 b->b<w.heap.size->w'.heap[b]?=w.heap[b]?)(d:c5 b):dZ w' b enc ok a:=by obtain⟨c,f,hb,r⟩:=h;exact⟨c,_,Ck e d hb,r⟩
def wN(F:Nat->Prop)(b:Nat)(n:Int)(E:List (Int×Int)):bu:=⟨F,λw=>G.gV w F b n E,λw w' h _ c=>by obtain⟨⟨fJ,cW,fA,eQ,eO,g⟩,r⟩:=c;refine⟨⟨fJ,cW,fA,eQ,eO,{g with blk:=Ck h g.xy g.blk,mB:=g.mB.same h g.CU,out:=g.out.same h g.CW,mL:=g.mL.same h g.CV,p6:=λu=>⟨λv hv=>acZ ((g.p6 u).1 v hv) h (λq a=>g.xA _ (rV hv) q a),(g.p6 u).2⟩,p4:=λu=>⟨λv hv=>acZ ((g.p4 u).1 v hv) h (λq a=>g.xz _ (rV hv) q a),(g.p4 u).2⟩}⟩,r⟩⟩
def anm(n:Nat)w(h1:n<=1048576):
 aD ax 179 #[J R (n:Int)] w λe w'=>∃b F,e=aA (ay (ab ⟨b,0,af⟩))/\b5 w w' (wN F b (n:Int) []):=
 (G.acs (n:Int) w ae ae).mono λe w' ⟨b,c,a,g⟩=>⟨b,_,c,g,a,λ_ h=>h⟩
def anl b(n i j)E F B w(d:Has w (wN F b n E))(hb:aX w B #[J R i,J R j] 192)(p:¬F B)(hi:db i)(l:db j)(o:E.length<=1048576):
 aD ax 182 #[ay (ab ⟨b,0,af⟩),ad (ab ⟨B,0,af⟩) 1 1] w λe w'=>∃v f,e=aA v/\Turned w w' (wN F b n E) (wN f b n (G.jj n E [(i,j)])):=by
 have m:jy w (ab ⟨B,0,af⟩) [(i,j)]:=λ_=>⟨B,0,rfl,λk hk=>by obtain rfl:k=0:=aG;exact⟨hb.cell 0 aa,hb.cell 1 aa⟩⟩;exact(G.Xw b n E F (ab ⟨B,0,af⟩) 1 [(i,j)] w d.1 m (λe a=>by obtain rfl:=List.mem_singleton.1 a;exact⟨hi,l⟩) aG (λblk off e=>aG)).mono λe w' ⟨a,g,c⟩=>⟨_,_,a,c,g,λb h=>⟨h.elim (λh=>Nat.lt_of_lt_of_le (d.2 _ h) c.size) (λh=>h.2),h.elim .inl (λh=>.inr h.1)⟩⟩
def Ca(p:Nat)(A:Option Addr)(c:Nat)(S:List jQ):bu:=⟨λb=>b=p\/(0<S.length/\dV A b),λw=>w.heap[p]?=ab (.cells #[ad A S.length c] 411 (0,0))/\nb w A S/\S.length<=1048576,λw w' h g i=>by obtain⟨h1,d,f⟩:=i;refine⟨Ck h (.inl rfl) h1,λa=>?_,f⟩;obtain⟨b,off,e,hc⟩:=d a;have hb:w'.heap[b]?=w.heap[b]?:=h b (.inr ⟨a,off,af,e⟩) (g b (.inr ⟨a,off,af,e⟩));grind[World.cell?_of_block]⟩
def Ca.is{p A c S w}(h:(Ca p A c S).p w):n' w p S:=⟨A,c,h.1,h.2.1,h.2.2⟩
def apC A c l w(q:jy w A l)(s:∀e∈l,qN e)(r:l.length<=1048576)(hr:zw l):
 aD ax 251 #[ad A l.length c] w λe w'=>∃p S,S.Perm (iG l)/\jS S/\e=aA (ay (ab ⟨p,0,af⟩))/\∃d f,b5 w w' (Ca p d f S):=
 (aq2 A c l w q s r hr).mono λe w' ⟨p,S,n,h1,i,⟨d,f,j,h,k,u,m⟩,g⟩=>⟨p,S,h1,i,n,d,f,g,⟨j,h,k⟩,λb hb=>by
  rcases hb with rfl|⟨hS,o,sp,e⟩;·grind
  .obtain⟨t,off,a,hc⟩:=h hS;rw[e]at a;injection a with a;injection a with bD b9 fH;subst bD b9 fH;exact⟨m _ _ e,World.block_lt_of_cell? w' _ (hc 0 hS).1⟩⟩
def aqQ p S(c d)w(j:n' w p S)(k:jS S)(l:eE (c,d)):
 aD ax 181 #[ay (ab ⟨p,0,af⟩),av #[J R c,J R d]] w λe w'=>∃f h,e=aA (ad f ((parts (c,d) S).map (·.1)).length h)/\b5 w w' (bp f ((parts (c,d) S).map (·.1)).length h 3 1 (((parts (c,d) S).map (·.1)).map (J R))):=
 (aqO p S c d w j k l).mono λe w' ⟨v,i,a,g⟩=>by
  have m:(parts (c,d) S).length=((parts (c,d) S).map (·.1)).length:=aU;have n:(parts (c,d) S).map (λx=>J R x.1)=((parts (c,d) S).map (·.1)).map (J R):=aU;rw[m,n]at a;rcases a.2 with⟨rfl,hz⟩|⟨q,cap,cur,rfl,hb,r⟩;·rw[hz]at a⊢;exact⟨af,0,i,g,Co a (cQ _),λ_ ⟨_,_,e⟩=>aG⟩
  .exact⟨ab ⟨q,0,af⟩,cap,i,g,Co a (cQ _),λb ⟨o,s,e⟩=>aG⟩
def x8(ms:List bI)(S:List jQ)(i:Nat):List (Int×Int):=match ms[i]? with
 |some m=>if m.k=1 then((parts (m.fr,m.n) S).map (·.1)).map (λj=>((i:Int),j))else[]
 |none=>[]
def l5(ms:List bI)(S:List jQ)(i:Nat):List (Int×Int):=(dG i).flatMap (x8 ms S)
def sF(ms:List bI)(S:List jQ):List (Int×Int):=G.jj (ms.length:Int) [] (l5 ms S ms.length)
def QM ms S i:l5 ms S (i+1)=l5 ms S i++x8 ms S i:=by simp[l5,pB]
def Xv n(E a b):G.jj n E (a++b)=G.jj n (G.jj n E a) b:=by grind[G.jj]
def amA{l S}(h:S.Perm (iG l)){e j}(a:j∈(parts e S).map (·.1)):0<=j/\j<(l.length:Int):=by grind[parts,Ab]
def QL{ms S}(a:S.length=ms.length):∀i,(l5 ms S i).length<=i*ms.length
 |0=>by simp[l5]
 |i+1=>by
  rw[QM,dw,Nat.succ_mul];have h1:=QL a i
  have b:(x8 ms S i).length<=ms.length:=by
   unfold x8;split
   .split;·rw[gW,gW,<-a];exact ac6 _ _
    .exact cQ _
   .exact cQ _
  omega
def arp{e}(h:eE e):qN e:=by obtain⟨h1,a,b⟩:=h;exact⟨by grind[db],by grind[db]⟩
def auL A c ms w(N:cD w A ms)(hv:zw (ms.map b'))(Y:ms.length<=1048576):
 aD ax 180 #[ad A ms.length c] w λe w'=>∃p S,S.Perm (iG (ms.map b'))/\jS S/\e=aA (ay (ab ⟨p,0,af⟩))/\∃z I,b5 w w' (Ca p z I S):=by
 have E:=hid N;have q:=hid hv;go_enter func180,ntmps180;have a:=bg w;go_upto_region 0 with fail;refine ar ?_;refine ag ?_;refine aF ?_;refine ag ?_;refine ak ?_;replace a:=a.new (bp af 0 0 35 2 []) ⟨aq.refl _ _,Row.nil _ _ _ _,λb ⟨_,_,e⟩=>aG⟩;go_upto_region 2 with fail;refine ar ?_;refine v3 ?_;refine ak ?_;have o:=a.pk [0];go_wp2_with fail;go_loopw [3,8] (λy i wr=>∃(j:Nat) (aK:Option Addr) (c2:Nat),j<=ms.length/\y=ad aK j c2/\i=J R (j:Int)/\ai w (λ_=>False) wr [bp aK j c2 35 2 (im ((ms.take j).map b'))]) (λy i wr=>ms.length -(intOf i).toNat);case atStart=>exact⟨0,_,0,cQ _,aa,aa,o⟩
 case round=>
  clear a o;obtain⟨j,aK,c2,X,rfl,rfl,a⟩:=hrel;by_cases hlt:j<ms.length
  .have O:(j:Int)<(ms.length:Int):=ae;obtain⟨m,d⟩:∃m,ms[j]?=ab m:=⟨_,cm hlt⟩;obtain⟨g,l,f,h,r,s,t⟩:=cD.ia E.out d;have C:=hid r;have V:=hid s;have D:=hid t;have G:=hid d;clear r s t d;have H:aE (im ((ms.take (j+1)).map b')=im ((ms.take j).map b')++[J R m.to,J R (cS m)]):=hid (by rw[fv,G.out,Option.toList_some,gy,List.map_singleton,QC];rfl);go_upto_region 3 with fail;refine ar ?_;refine cd (.bool true) ?_;refine aF ?_;refine aJ (ay (ab ⟨g,(l+j*5),af⟩)) (cI 24 73 5 (bc 6) (bc 8) aa eB aw g l (ms.length) c j ((l+j*5)) (by show ad A _ _=_;rw[C.out]) aa hlt aa) ?_;refine aJ _ (by(refine e7 73 _ aa g _ aa _ (D.out _ a.only) fX aa aw)) ?_;refine bA a #[J R 0,J R 0,J R 0,J R 0,ad af 0 0] (λU w1 a=>?_);refine ba a 0 (av #[J R m.k,J R m.to,J R m.fr,J R m.n,ad f m.data.length h]) (λZ a=>?_);refine b6 ?_;refine bt a 0 #[J R m.k,J R m.to,J R m.fr,J R m.n,ad f m.data.length h] ?_;refine bC (uB m.k m.to m.fr m.n f m.data.length h _) a (λbN a=>?_);refine ga a #[J R m.to,J R (cS m)] 35 (λT cc a=>?_);refine np (m:=1) a 2 16 (aX.cellsOf (m:=1) (a.a1 0) aa) (by intro u x;simp only[gz,gb,or_false]at x;rcases x with rfl|rfl<;>rfl) (λQ W cG a=>?_) (hby:=by omega);refine dR ?_;refine pad (j:Int) 1 ((j+1:Nat):Int) ?_;refine bR ?_;go_wp2_with fail;go_roundw;case rel=>exact⟨_,_,_,ae,aa,aa,by rw[H.out];exact a.pick [2]⟩
   case measure=>grind[intOf]
  .have O:¬(j:Int)<(ms.length:Int):=ae;obtain rfl:j=ms.length:=ae;have v:ms.take ms.length=ms:=List.take_length;rw[v]at a;have F:aE (ms.length=(ms.map b').length):=hid aU;clear v;go_upto_region 3 with fail;refine ar ?_;refine cd (.bool au) ?_;refine b6 ?_;refine a7 ((show aD ax 251 #[ad aK ms.length c2] _ λe w'=>_ from by rw[F.out];exact apC aK c2 (ms.map b') _ (Row.TO (a.atR 0)).2 (λe L=>by obtain⟨m,d,rfl⟩:=gN.1 L;exact arp (q.out.1 _ (List.mem_map_of_mem d)).1) aG q.out)) ?_;rintro e c6 ⟨p,S,P,M,rfl,B,fG,K⟩;replace a:=a.new _ K;refine Fu ?_;go_wp2_with fail;go_ret;exact⟨p,S,P,M,aa,B,fG,a.fresh 0⟩
end Go.Proofs.YtcmhplknoglbkaaGreat
