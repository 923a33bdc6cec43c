/- Part 8 of the proof of TopMemorySaid. -/
import Derived.Test.YtcmhplknoglbkaaGreatQm0
import Derived.Test.YtcmhplknoglbkaaGreatQm3
import Derived.Test.YtcmhplknoglbkaaGreatQm4
import Derived.Test.YtcmhplknoglbkaaGreatQm5
set_option linter.all false
set_option maxRecDepth 100000
set_option maxHeartbeats 4000000
open Go.Proofs.Tryz
open Array renaming replicate_succ->pV,replicate_zero->pW,size->gw
open Bool renaming false->ao,true->az
open Decidable renaming of_not_not->DL
open Go renaming Addr->bT,Calls->aD,Oper->cS,PanicEntry->rV,Program->ew,Value->aP,World->aQ,bodyPost_ret->c',callFunc->kB,execOp->bA,madeCells->GK,results_cell_row->gG,undef->a7,wpList->cN,wpList_nil->an,yielded->cZ
open Go.Calls renaming mono->Kp
open Go.Ending renaming panicked->Kr,returned->aB
open Go.Exit renaming panic->tD
open Go.Fn renaming func->ed
open Go.IntKind renaming i64->R,u64->aF
open Go.LoopState renaming busy->sJ
open Go.Next renaming value->dc
open Go.Obj renaming loop->ga
open Go.Oper renaming wp->iy
open Go.Operand renaming const->p1,tmp->bj
open Go.Proofs.Tryz renaming func108->O4,func145->O6,func228->VM,func278->VS,ntmps108->V',ntmps145->Wb,ntmps228->Wf,prog->ax,underlying23->sK,underlying24->ee,underlying26->GG,underlying49->x5,underlying5->mm,underlying73->fO,underlying82->jo
open Go.Proofs renaming enters_of->lf
open Go.Region renaming wanted->c9
open Go.Result renaming ok->bf
open Go.RowKit renaming Hid->aE,intOf->bQ
open Go.Sem renaming run_bind->gx
open Go.Value renaming agg->ar,bool->ai,func->dI,iface->vc,int->J,pointer->ay,slice->ae,tuple->bn
open Int renaming eq_ofNat_of_zero_le->wW
open List renaming append_assoc->kD,append_nil->kE,append_toArray->p7,cons_append->pj,getElem?_append_right->pn,getElem?_eq_getElem->cE,getElem?_eq_some_iff->eJ,getElem?_map->j4,getElem_mem->El,length_append->c7,length_cons->jQ,length_filterMap_le->Yd,length_map->hB,length_nil->mq,length_range->Em,length_set->tT,mem_cons->gy,mem_of_getElem?->cX,nil_append->lJ,not_mem_nil->fQ,push_toArray->qa,range->dQ,replicate->dZ,size_toArray->iK,take_add_one->gq,take_append_drop->oa,take_of_length_le->tU
open Min renaming min->gI
open Nat renaming add_sub_cancel_left->tV,div_le_iff_le_mul_add_pred->alZ,le_of_eq->QR,le_refl->b9,le_trans->dT,mul_le_mul_right->tW,zero_le->cC
open Option renaming map_some->q6,none->af,some->ab
open Option.some renaming injEq->w2
open Or renaming inl->b1
open Prod.mk renaming injEq->pq
namespace Go.Proofs.YtcmhplknoglbkaaGreat
open Go.RowKit Go.MapKept
def sink(lt:Nat->Nat->Bool):Nat->List Nat->List Nat
 |0,L=>L
 |j+1,L=>if lt (L[j+1]?.getD 0) (L[j]?.getD 0)=az then sink lt j ((L.set (j+1) (L[j]?.getD 0)).set j (L[j+1]?.getD 0))else L
def lv(lt:Nat->Nat->Bool)(L:List Nat):Nat->List Nat
 |0=>L
 |i+1=>sink lt i (lv lt L i)
def afT lt:∀j L,(sink lt j L).length=L.length
 |0,_=>aa
 |j+1,L=>by
  unfold sink;split;·rw[afT lt j];simp
  .rfl
def agi{L:List Nat}{j}(a:j+1<L.length){x}(h:x∈(L.set (j+1) (L[j]?.getD 0)).set j (L[j+1]?.getD 0)):x∈L:=aH
def afU lt:∀j L x,j<L.length->x∈sink lt j L->x∈L
 |0,_,_,_,h=>h
 |j+1,L,x,a,h=>by
  unfold sink at h;split at h;·exact agi a (afU lt j _ x (by simp;omega) h)
  .exact h
theorem Fv lt L:∀i,(lv lt L i).length=L.length
 |0=>aa
 |i+1=>by rw[lv,afT,Fv lt L i]
def Tj lt L:∀i x,i<=L.length->x∈lv lt L i->x∈L
 |0,_,_,h=>h
 |i+1,x,hi,h=>Tj lt L i x ad (afU lt i _ x (by grind[Fv]) h)
theorem TE{L j}(h:j<L.length):(eD L)[j]?=ab (J R ((L[j]?.getD 0:Nat):Int)):=by grind[eD]
def TF L:(eD L).size=L.length:=by simp[eD]
def Tp L(j y:Nat):lay (eD L) j [J R (y:Int)]=eD (L.set j y):=by grind[lay,eD]
def asx (G c g:Nat) lb L lt (k:Nat->Nat->Int) w (hb:aX w G (eD L) 3) (cv:L.length<=1048576) (hc:L.length<=c) (U:∀x y,lt x y=decide (k x y<0)) (C:∀args w,(kB g args).run ax w=bf (.enter g args) w)
 (hp:∀x y W,x∈L->y∈L->av (λb=>b=G) w W->aD ax g (#[J R (x:Int),J R (y:Int)]++lb) W λe w'=>e=aB (J R (k x y))/\au W w'):
 aD ax 355 #[ae (ab ⟨G,0,af⟩) L.length c,J R (0:Int),J R (L.length:Int),dI (ed g) #[] lb] w λe w'=>e=aB (bn #[])/\Turned w w' (aj G (eD L) 3) (aj G (eD (lv lt L L.length)) 3):=by
 have K:=hid C;have M:=hid hp;have Z:=hid cv;clear C hp;go_enter Tryz.func355,Tryz.ntmps355;have a:ak w (λb=>b=G) w [aj G (eD L) 3]:=ak.start (t:=aj G (eD L) 3) ⟨hb,λb h=>by rw[show b=G from h];exact aX.lt hb⟩;go_step;refine ah ?_;refine v3 ?_;refine an ?_;go_wp2_with fail;go_loopw [8] (λp wr=>∃i:Nat,1<=i/\(i<=L.length\/i=1)/\p=J R (i:Int)/\ak w (λb=>b=G) wr [aj G (eD (lv lt L i)) 3]) (λp wr=>L.length -(bQ p).toNat);case atStart=>exact⟨1,b9 _,.inr aa,aa,a⟩
 case round=>
  clear a;obtain⟨i,abG,xk,rfl,a⟩:=hrel;by_cases hlt:i<L.length
  .have X:(i:Int)<(L.length:Int):=ad;go_step;refine ah ?_;refine v3 ?_;refine ah ?_;refine dU ?_;go_wp2_with fail;go_loopw [9] (λr wr=>∃(j:Nat) (d:List Nat),j<=i/\r=J R (j:Int)/\d.length=L.length/\(∀x∈d,x∈L)/\sink lt j d=lv lt L (i+1)/\ak w (λb=>b=G) wr [aj G (eD d) 3]) (λr wr=>(bQ r).toNat);case atStart=>exact⟨i,lv lt L i,b9 _,rfl,Fv lt L i,λx hx=>Tj lt L i x ad hx,aa,a⟩
   case round=>
    clear a;obtain⟨j,d,hj,rfl,T,m,hsk,a⟩:=hrel;by_cases Q:j=0
    .subst Q;have l:aE (d=lv lt L (i+1)):=hid hsk;clear hsk;go_step;refine cy ?_;refine bR a [] (λ_ _=>a7) (λ_ _=>emp) (λ_=>[]) (λ_=>[]) (λ_=>[]) [0] (λI=>?_);refine bG ?_;refine aL (ai ao) (λ_ _ _=>by(go_simp;try omega)) ?_;refine aJ ?_;iterate 12 refine ds ?_
     refine fT (ai ao) ?_;refine bW λw1 a=>?_;refine b5 ?_;refine pad (i:Int) 1 ((i+1:Nat):Int) ?_;refine bX ?_;go_wp2_with fail;go_roundw;case rel=>exact⟨i+1,ad,b1 ad,aa,by rw[<-l];exact a.pick [0]⟩
     case measure=>simp[bQ]<;>omega
    .obtain⟨q,rfl⟩:∃q,j=q+1:=⟨j -1,ad⟩;obtain⟨x,hx⟩:=ex (d[q+1]?.getD 0);obtain⟨y,f⟩:=ex (d[q]?.getD 0);have n:q+1<d.length:=ad;have A:aE ((eD d)[q+1]?=ab (J R (x:Int))):=hid (by rw[TE n,hx]);have B:aE ((eD d)[q]?=ab (J R (y:Int))):=hid (by rw[TE ad,f]);have F:=m x (by rw[<-hx,cE n];exact El _);have H:=m y (by rw[<-f,cE (show q<d.length by omega)];exact El _);have hsw:∀z∈(d.set (q+1) y).set q x,z∈L:=λz hz=>m z (by rw[<-hx,<-f]at hz;exact agi n hz);have E:(if lt x y=az then sink lt q ((d.set (q+1) y).set q x)else d)=lv lt L (i+1):=by rw[<-hsk,sink,hx,f]
     have P:=hid hsw;have v:=hid E;obtain⟨du,hcb⟩:=ex (lt x y);have u:aE (decide (k x y<0)=du):=hid (by rw[<-U,hcb]);have s:=hid hcb;obtain⟨iL,hcv⟩:=ex (k x y);have Y:=hid hcv;have N:aE (∀W,av (λb=>b=G) w W->aD ax g (#[J R (x:Int),J R (y:Int)]++lb) W λe w'=>e=aB (J R iL)/\au W w'):=hid (λW o=>by have q:=M x y W F H o;rw[hcv]at q;exact q);rw[hcv]at u;clear hx f F H hsw hsk E hcb hcv;go_step;refine cy ?_;refine bR a [14] (λi _=>match i with|14=>J R iL|_=>a7) (λ_ _=>emp) (λ_=>[]) (λ|8=>[0]|13=>[0]|_=>[]) (λ_=>[]) [0,15] (λI=>?_);refine bG ?_;refine aL (ai az) (λ_ _ _=>by(go_simp;try omega)) ?_;refine hW ?_;refine aL (ay (ab ⟨G,(q+1),af⟩)) (λ_ _ _=>b4 82 3 1 (bj 23) (bj 24) aa jo aw G 0 (L.length) c ((q+1)) ((q+1)) aa aa ad ad) ?_;refine aL (J R (x:Int)) (λ_ _ a=>fH aa aa (a.aW 0) A aw) ?_;refine bG ?_;refine aL (J R (q:Int)) (λ_ _ _=>ra 3 (bj 28) (p1 (J R 1)) 3 aa (((q+1:Nat):Int)) 1 (q:Int) aa aa ad ad ad) ?_;refine aL (ay (ab ⟨G,q,af⟩)) (λ_ _ _=>b4 82 3 1 (bj 27) (bj 29) aa jo aw G 0 (L.length) c q q aa aa ad ad) ?_;refine aL (J R (y:Int)) (λ_ _ a=>fH aa aa (a.aW 0) B aw) ?_;refine dK (λ_ _ a=>N.out _ a.only) ?_ (hr:=by(intro _;first|(go_simp;done)|(go_simp;exact K _ _)));refine aL (ai du) (λ_ _ _=>by(have h:=u.out;first|(go_simp;done)|(go_simp;rw[<-h];done)|(go_simp;simp[<-h]))) ?_;refine fT (ai du) ?_;refine bW λaT a=>?_;replace a:=a.drop 1;cases du with
     |false=>
      have l:aE (d=lv lt L (i+1)):=hid (by have h:=v.out;rw[s]at h;simpa using h);refine b5 ?_;refine pad (i:Int) 1 ((i+1:Nat):Int) ?_;refine bX ?_;go_wp2_with fail;go_roundw;case rel=>exact⟨i+1,ad,b1 ad,aa,by rw[<-l];exact a.pick [0]⟩
      case measure=>simp[bQ]<;>omega
     |true=>
      have O:aE (sink lt q ((d.set (q+1) y).set q x)=lv lt L (i+1)):=hid (by have h:=v.out;rw[s]at h;simpa using h);refine cy ?_;refine bR a [15,17] (λ_ _=>a7) (λ_=>λ|15=>aj G (eD (d.set (q+1) y)) 3|17=>aj G (eD ((d.set (q+1) y).set q x)) 3|_=>emp) (λ|15=>[0]|17=>[16]|_=>[]) (λ|9=>[0]|13=>[0]|_=>[]) (λ_=>[]) [18] (λI=>?_);refine hW ?_;refine aL (J R (q:Int)) (λ_ _ _=>ra 3 (bj 40) (p1 (J R 1)) 3 aa (((q+1:Nat):Int)) 1 (q:Int) aa aa ad ad ad) ?_;refine bG ?_;refine aL (J R (q:Int)) (λ_ _ _=>ra 3 (bj 43) (p1 (J R 1)) 3 aa (((q+1:Nat):Int)) 1 (q:Int) aa aa ad ad ad) ?_;refine aL (ay (ab ⟨G,q,af⟩)) (λ_ _ _=>b4 82 3 1 (bj 42) (bj 44) aa jo aw G 0 (L.length) c q q aa aa ad ad) ?_;refine aL (J R (y:Int)) (λ_ _ a=>fH aa aa (a.aW 0) B aw) ?_;refine bG ?_;refine aL (ay (ab ⟨G,(q+1),af⟩)) (λ_ _ _=>b4 82 3 1 (bj 47) (bj 48) aa jo aw G 0 (L.length) c ((q+1)) ((q+1)) aa aa ad ad) ?_;refine aL (J R (x:Int)) (λ_ _ a=>fH aa aa (a.aW 0) A aw) ?_;refine aL (ay (ab ⟨G,(q+1),af⟩)) (λ_ _ _=>b4 82 3 1 (bj 37) (bj 38) aa jo aw G 0 (L.length) c ((q+1)) ((q+1)) aa aa ad ad) ?_;refine L3 (λ_ _ a=>F9 (J R (y:Int)) aa aa aa (a.aW 0) (by show(q+1)+1<=(eD d).size;rw[TF];(try simp only[tT]);omega) aw aw (Tp d (q+1) y)) ?_;refine aL (ay (ab ⟨G,q,af⟩)) (λ_ _ _=>b4 82 3 1 (bj 39) (bj 41) aa jo aw G 0 (L.length) c q q aa aa ad ad) ?_;refine L3 (λ_ _ a=>F9 (J R (x:Int)) aa aa aa (a.aW 0) (by show q+1<=(eD (d.set (q+1) y)).size;rw[TF];(try simp only[tT]);omega) aw aw (Tp (d.set (q+1) y) q x)) ?_;refine bW λbF a=>?_;refine b5 ?_;refine jW ((q+1:Nat):Int) 1 (q:Int) ?_;refine bX ?_;go_wp2_with fail;go_roundw;case rel=>exact⟨q,(d.set (q+1) y).set q x,ad,aa,by simpa using T,P,O,a.pick [0]⟩
      case measure=>simp[bQ]<;>omega
  .have X:¬(i:Int)<(L.length:Int):=ad
   have D:lv lt L i=lv lt L L.length:=by
    by_cases V:i=L.length;·rw[V]
    .have h1:i=1:=ad;have S:L.length=0:=ad;rw[h1,S];rfl
   rw[D]at a;clear D;go_step;refine ah ?_;refine v3 ?_;refine an ?_;go_wp2_with fail;first|go_end0|refine bodyPost_ret (results_none rfl _ _ _) rfl ?_
   exact⟨aa,a.gl 0⟩
def asw(G n c g a:Nat)lb(f:a<=1048576)w:
 aD ax 355 #[ae (ab ⟨G,0,af⟩) n c,J R (a:Int),J R (a:Int),dI (ed g) #[] lb] w λe w'=>e=aB (bn #[])/\au w w':=by
 go_enter Tryz.func355,Tryz.ntmps355;have b:=a8 w;go_step;refine ah ?_;refine ag ?_;refine pad _ 1 ((a+1:Nat):Int) ?_;refine bX ?_;go_wp2_with fail;go_loopw [8] (λd wr=>d=J R ((a+1:Nat):Int)/\ak w (λ_=>False) wr []) (λd wr=>0);case atStart=>grind
 case round=>
  clear b;obtain⟨rfl,b⟩:=hrel;go_step;refine ah ?_;refine v2 ?_;refine a1 (ai ao) ?_;refine an ?_;go_wp2_with fail;first|go_end0|refine bodyPost_ret (results_none rfl _ _ _) rfl ?_
  exact⟨aa,b.only⟩
def axr (G c g:Nat) lb L lt (j:Nat->Nat->Int) w (hb:aX w G (eD L) 3) (cv:L.length<=20) (hc:L.length<=c) (p:∀x y,lt x y=decide (j x y<0)) (m:∀args w,(kB g args).run ax w=bf (.enter g args) w)
 (hp:∀x y W,x∈L->y∈L->av (λb=>b=G) w W->aD ax g (#[J R (x:Int),J R (y:Int)]++lb) W λe w'=>e=aB (J R (j x y))/\au W w'):
 aD ax 322 #[ae (ab ⟨G,0,af⟩) L.length c,J R (L.length:Int),dI (ed g) #[] lb] w λe w'=>e=aB (bn #[])/\Turned w w' (aj G (eD L) 3) (aj G (eD (lv lt L L.length)) 3):=by
 obtain⟨n,hn⟩:=ex L.length;have l:aE (∀W,av (λb=>b=G) w W->aX W G (eD L) 3->aD ax 355 #[ae (ab ⟨G,0,af⟩) n c,J R (0:Int),J R (n:Int),dI (ed g) #[] lb] W λe w'=>e=aB (bn #[])/\Turned W w' (aj G (eD L) 3) (aj G (eD (lv lt L n)) 3)):=hid (λW o h=>by have q:=asx G c g lb L lt j W h ad hc p m (λx y r hx u v=>hp x y r hx u (o.trans v (λ_ _ h=>h)));rw[hn]at q;exact q);rw[hn]at cv⊢;clear m hp p hn hc;go_enter func322,ntmps322;have a:ak w (λb=>b=G) w [aj G (eD L) 3]:=ak.start (t:=aj G (eD L) 3) ⟨hb,λb h=>by rw[show b=G from h];exact aX.lt hb⟩;go_step;refine ah ?_;refine ag ?_;refine an ?_;go_step;refine ah ?_;refine v3 ?_;refine an ?_;go_wp2_with fail;go_loopw [7,8] (λi f wr=>((i=J R ((0:Nat):Int)/\f=J R ((20:Nat):Int)/\ak w (λb=>b=G) wr [aj G (eD L) 3])\/(n=20/\i=J R ((20:Nat):Int)/\f=J R ((40:Nat):Int)/\ak w (λb=>b=G) wr [aj G (eD (lv lt L n)) 3]))) (λi f wr=>40 -(bQ f).toNat);case atStart=>grind
 case round=>
  clear a;rcases hrel with⟨rfl,rfl,a⟩|⟨rfl,rfl,rfl,a⟩
  .by_cases s:n=20
   .subst s;go_step;refine ah ?_;refine v2 ?_;refine a1 (ai az) ?_;refine an ?_;go_step;refine ah ?_;refine v4 ?_;refine aR (l _ a.only (a.aW 0)) ?_;rintro e w1 ⟨rfl,k⟩;replace a:=a.eP 0 k;refine aU ?_;refine an ?_;go_step;refine ah ?_;refine v2 ?_;refine an ?_;go_step;refine ah ?_;refine v2 ?_;refine pad _ 20 ((40:Nat):Int) ?_;refine ag ?_;refine an ?_;go_wp2_with fail;go_roundw;case rel=>grind
    case measure=>grind[bQ]
   .have hz:¬(20:Int)<=(n:Int):=ad;go_step;refine ah ?_;refine v2 ?_;refine a1 (ai ao) ?_;refine an ?_;go_step;refine ah ?_;refine v4 ?_;refine aR (l _ a.only (a.aW 0)) ?_;rintro e A ⟨rfl,k⟩;replace a:=a.eP 0 k;refine aU ?_;refine an ?_;go_wp2_with fail;go_loopw [6] (λd wr=>d=J R 20/\ak w (λb=>b=G) wr [aj G (eD (lv lt L n)) 3]) (λd wr=>0);case atStart=>grind
    case round=>
     clear a;obtain⟨rfl,a⟩:=hrel;go_step;refine ah ?_;refine v2 ?_;refine a1 (ai ao) ?_;refine an ?_;go_wp2_with fail;first|go_end0|refine bodyPost_ret (results_none rfl _ _ _) rfl ?_
     exact⟨aa,a.gl 0⟩
  .
   have z:True:=trivial;go_step;refine ah ?_;refine v2 ?_;refine a1 (ai ao) ?_;refine an ?_;go_step;refine ah ?_;refine v4 ?_;refine aR (asw G 20 c g 20 lb ad _) ?_;rintro e B ⟨rfl,g⟩;replace a:=a.aI g;refine aU ?_;refine an ?_;go_wp2_with fail;go_loopw [6] (λd wr=>d=J R 20/\ak w (λb=>b=G) wr [aj G (eD (lv lt L 20)) 3]) (λd wr=>0);case atStart=>grind
   case round=>
    clear a;obtain⟨rfl,a⟩:=hrel;go_step;refine ah ?_;refine v2 ?_;refine a1 (ai ao) ?_;refine an ?_;go_wp2_with fail;first|go_end0|refine bodyPost_ret (results_none rfl _ _ _) rfl ?_
    exact⟨aa,a.gl 0⟩
def axf (G c g:Nat) lb L lt (d:Nat->Nat->Int) w (hb:aX w G (eD L) 3) (cv:L.length<=20) (hc:L.length<=c) (i:∀x y,lt x y=decide (d x y<0)) (f:∀args w,(kB g args).run ax w=bf (.enter g args) w)
 (hp:∀x y W,x∈L->y∈L->av (λb=>b=G) w W->aD ax g (#[J R (x:Int),J R (y:Int)]++lb) W λe w'=>e=aB (J R (d x y))/\au W w'):
 aD ax 276 #[ae (ab ⟨G,0,af⟩) L.length c,dI (ed g) #[] lb] w λe w'=>e=aB (bn #[])/\Turned w w' (aj G (eD L) 3) (aj G (eD (lv lt L L.length)) 3):=by
 have j:aE (∀W,av (λb=>b=G) w W->aX W G (eD L) 3->aD ax 322 #[ae (ab ⟨G,0,af⟩) L.length c,J R (L.length:Int),dI (ed g) #[] lb] W λe w'=>e=aB (bn #[])/\Turned W w' (aj G (eD L) 3) (aj G (eD (lv lt L L.length)) 3)):=hid (λW o h=>axr G c g lb L lt d W h cv hc i f (λx y k hx m n=>hp x y k hx m (o.trans n (λ_ _ h=>h))));clear f hp i;go_enter func276,ntmps276;have a:ak w (λb=>b=G) w [aj G (eD L) 3]:=ak.start (t:=aj G (eD L) 3) ⟨hb,λb h=>by rw[show b=G from h];exact aX.lt hb⟩;go_step;refine ah ?_;refine v4 ?_;refine aR (j _ a.only (a.aW 0)) ?_;rintro e w1 ⟨rfl,l⟩;replace a:=a.eP 0 l;refine xT ?_;go_wp2_with fail;first|go_end0|refine bodyPost_ret (results_none rfl _ _ _) rfl ?_
 exact⟨aa,a.gl 0⟩
section
def Fu x w:
 aD ax 194 #[J R x] w λe w'=>e=aB (ai ao)/\au w w':=by
 go_enter Tryz.func194,ntmps194;have a:=a8 w;go_step;refine ah ?_;refine kg ?_;refine aG (ai ao) (by(go_simp;try simp)) ?_;refine bX ?_;go_wp2_with fail;go_ret;exact⟨aa,a.only⟩
def qg(x y:Int):Int:=if x<y then -1 else if y<x then 1 else 0
def anQ(x y)w:
 aD ax 108 #[J R x,J R y] w λe w'=>e=aB (J R (qg x y))/\au w w':=by
 have bE:x<y->qg x y=-1:=λh=>if_pos h;have cr:¬x<y->y<x->qg x y=1:=λh c=>by grind[qg]
 have b:¬x<y->¬y<x->qg x y=0:=λh c=>by grind[qg]
 obtain⟨z,hz⟩:=ex (qg x y);rw[hz]at bE cr b⊢;clear hz;by_cases h1:x<y;·obtain rfl:z=-1:=bE h1;clear bE cr b;go_enter O4,V';have a:=a8 w;go_step;refine ah ?_;refine ag ?_;refine an ?_;go_step;refine ah ?_;refine ag ?_;refine aR (Fu x _) ?_;rintro e w1 ⟨rfl,g⟩;replace a:=a.aI g;refine aU ?_;refine ag ?_;refine an ?_;go_step;refine ah ?_;refine ag ?_;refine aR (Fu y _) ?_;rintro e d ⟨rfl,g⟩;replace a:=a.aI g;refine aU ?_;refine ag ?_;refine an ?_;go_step;refine ah ?_;refine ag ?_;refine an ?_;go_step;refine ah ?_;refine ag ?_;refine an ?_;go_step;refine ah ?_;refine v2 ?_;refine a1 (ai az) ?_;refine an ?_;go_step;refine ah ?_;refine ag ?_;refine an ?_;go_wp2_with fail;go_ret;exact⟨aa,a.only⟩
 .by_cases c:y<x;·obtain rfl:z=1:=cr h1 c;clear bE cr b;go_enter O4,V';have a:=a8 w;go_step;refine ah ?_;refine ag ?_;refine an ?_;go_step;refine ah ?_;refine ag ?_;refine aR (Fu x _) ?_;rintro e f ⟨rfl,g⟩;replace a:=a.aI g;refine aU ?_;refine ag ?_;refine an ?_;go_step;refine ah ?_;refine ag ?_;refine aR (Fu y _) ?_;rintro e i ⟨rfl,g⟩;replace a:=a.aI g;refine aU ?_;refine ag ?_;refine an ?_;go_step;refine ah ?_;refine ag ?_;refine an ?_;go_step;refine ah ?_;refine ag ?_;refine an ?_;go_step;refine ah ?_;refine v2 ?_;refine a1 (ai ao) ?_;refine an ?_;go_step;refine ah ?_;refine v2 ?_;refine a1 (ai az) ?_;refine an ?_;go_step;refine ah ?_;refine ag ?_;refine an ?_;go_wp2_with fail;go_ret;exact⟨aa,a.only⟩
  .obtain rfl:z=0:=b h1 c;clear bE cr b;go_enter O4,V';have a:=a8 w;go_step;refine ah ?_;refine ag ?_;refine an ?_;go_step;refine ah ?_;refine ag ?_;refine aR (Fu x _) ?_;rintro e j ⟨rfl,g⟩;replace a:=a.aI g;refine aU ?_;refine ag ?_;refine an ?_;go_step;refine ah ?_;refine ag ?_;refine aR (Fu y _) ?_;rintro e k ⟨rfl,g⟩;replace a:=a.aI g;refine aU ?_;refine ag ?_;refine an ?_;go_step;refine ah ?_;refine ag ?_;refine an ?_;go_step;refine ah ?_;refine ag ?_;refine an ?_;go_step;refine ah ?_;refine v2 ?_;refine a1 (ai ao) ?_;refine an ?_;go_step;refine ah ?_;refine v2 ?_;refine a1 (ai ao) ?_;refine an ?_;go_step;refine ah ?_;refine ag ?_;refine an ?_;go_wp2_with fail;go_ret;exact⟨aa,a.only⟩
section
variable {P:ew} {o:cS} {a:Act} {w:aQ}
def ato n:GK #[J R 0] n=eD (dZ n 0):=by
 apply Array.ext;·simp[GK,eD]
 grind[GK,eD]
def aua{t e:Nat}{x y}(n:Nat)(ho:o.op=.makeSlice t x y)(hx:a.eval x=J R (n:Int))(d:a.eval y=J R (n:Int))(c:P.underlying t=ab (.slice e))(hi:(P.info? e).map (λi=>(i.zero,i.size,i.bytes))=ab (ab (J R 0),1,8))(hn:n<=1048576):
 ∃B w',(bA a.eval o).run P w=bf (dc (ae (ab ⟨B,0,af⟩) n n)) w'/\cf w w' (aj B (eD (dZ n 0)) e):=by
 cases hq:P.info? e with
 |none=>grind
 |some i=>
  rw[hq]at hi;simp only[q6,w2,pq]at hi;obtain⟨h1,b,f⟩:=hi;have h:=run_make (P:=P) w t e i (J R 0) c hq h1 R R (n:Int) (n:Int) ad (Int.le_refl _) aH ad;refine⟨_,_,?_,yE (av.alloc _ _) (heap_alloc_new w _) (b9 _)⟩;rw[b,Nat.mul_one]at h;have hc:(J R 0).cells=#[J R 0]:=rfl;rw[hc,Int.toNat_natCast,ato]at h;unfold bA;simp only[ho,hx,d,gx,h,Result.andThen_ok,Sem.run_pure]
end
end
def nO(ms:List bO)(x:Nat):Int:=((ms[x]?).map (·.to)).getD 0
def FC{P o}{a:Act}{w}ty x(ho:o.op=.load ty x)(B k){v}(hx:a.eval x=ay (ab ⟨B,k,af⟩))(hc:w.cell? ⟨B,k,af⟩=ab v)(c:(P.underlying ty).map (λd=>d.isRow)=ab ao):
 (bA a.eval o).run P w=bf (dc v) w:=by
 cases hq:P.underlying ty with
 |none=>grind
 |some d=>
  have b:d.isRow=false:=aH
  have hagg:(isAgg ty).run P w=bf ao w:=by unfold isAgg;rw[gx,run_underlying hq w];cases d<;>simp_all
  unfold bA;simp[ho,hx,Instr.loadAt,Instr.sureAddr,loadVar,hagg,hc]
def axh(cM x y)A c ms w(hb:aX w cM #[ae A ms.length c] 24)(j:cU w A ms)(hx:x<ms.length)(q:y<ms.length)(E:ms.length<=1048576):
 aD ax 277 #[J R (x:Int),J R (y:Int),ay (ab ⟨cM,0,af⟩)] w λe w'=>e=aB (J R (qg (nO ms x) (nO ms y)))/\au w w':=by
 have z:=hid j;have n:=hid hb;obtain⟨m,k⟩:∃m,ms[x]?=ab m:=⟨_,cE hx⟩;obtain⟨h,l⟩:∃m,ms[y]?=ab m:=⟨_,cE q⟩;have e:qg (nO ms x) (nO ms y)=qg m.to h.to:=by simp[nO,k,l]
 rw[e];obtain⟨d,a,u,C,t,_,o⟩:=cU.jb j k;obtain⟨B,F,v,D,f,_,p⟩:=cU.jb j l;subst t;injection f with f;injection f with f R0;subst f;subst R0;have r:aE (∀W,au w W->W.cell? ⟨d,a+x*5+1,af⟩=ab (J R m.to)):=hid (λW g=>o W g 1 _ aa);have s:aE (∀W,au w W->W.cell? ⟨d,a+y*5+1,af⟩=ab (J R h.to)):=hid (λW g=>p W g 1 _ aa);clear j hb k l e o p;go_enter Tryz.func277,ntmps277;have b:=a8 w;go_step;refine ah ?_;refine hX ?_;refine bR b [10] (λi _=>match i with|10=>J R (qg m.to h.to)|_=>a7) (λ_ _=>emp) (λ_=>[]) (λ_=>[]) (λ_=>[]) [10] (λG=>?_);refine aL (ae (ab ⟨d,a,af⟩) ms.length c) (λ_ _ b=>fH aa aa (aX.aI n b.only) aa aw) ?_;refine aJ ?_;refine aL (ay (ab ⟨d,(a+x*5),af⟩)) (λ_ _ _=>b4 24 73 5 (bj 6) (bj 7) aa ee aw d a (ms.length) c x ((a+x*5)) aa aa hx aa) ?_;refine aL (ay (ab ⟨d,a+x*5+1,af⟩)) (λ_ _ _=>by(go_simp;try rfl)) ?_;refine aL (J R m.to) (λ_ _ b=>FC 3 (bj 9) aa d (a+x*5+1) aa (r _ b.only) aw) ?_;refine aL (ae (ab ⟨d,a,af⟩) ms.length c) (λ_ _ b=>fH aa aa (aX.aI n b.only) aa aw) ?_;refine aJ ?_;refine aL (ay (ab ⟨d,(a+y*5),af⟩)) (λ_ _ _=>b4 24 73 5 (bj 11) (bj 12) aa ee aw d a (ms.length) c y ((a+y*5)) aa aa q aa) ?_;refine aL (ay (ab ⟨d,a+y*5+1,af⟩)) (λ_ _ _=>by(go_simp;try rfl)) ?_;refine aL (J R h.to) (λ_ _ b=>FC 3 (bj 14) aa d (a+y*5+1) aa (s _ b.only) aw) ?_;refine dK (λ_ _ _=>anQ m.to h.to _) ?_;refine aJ ?_;refine bW λw1 b=>?_;replace b:=b.drop 0;go_wp2_with fail;go_ret;exact⟨aa,b.only⟩
def mb(ms:List bO):List Nat:=lv (λx y=>decide (qg (nO ms x) (nO ms y)<0)) (dQ ms.length) ms.length
theorem NA ms:(mb ms).length=ms.length:=by grind[mb,Fv]
def aex{ms x}(h:x∈mb ms):x<ms.length:=List.mem_range.1 (Tj _ _ _ _ bg h)
def wi(n j:Nat):List Nat:=dQ j++dZ (n -j) 0
theorem avm{n j}(h:j<n):(wi n j).set j j=wi n (j+1):=by unfold wi;rw[List.set_append_right _ _ bg,Em,Nat.sub_self,List.range_succ,kD];congr 1;rw[show n -j=(n -(j+1))+1 by omega,List.replicate_succ];rfl
def avl{n j}(h:j<=n):(wi n j).length=n:=by grind[wi]
def sorted_at A c ms w(p:cU w A ms)(E:ms.length<=20):
 aD ax 201 #[ae A ms.length c] w λe w'=>∃f' cM,e=aB (dI (ed 278) #[] #[ay (ab ⟨f',0,af⟩),ay (ab ⟨cM,0,af⟩)])/\∃G,cf w w' (bP [aj f' #[ae (ab ⟨G,0,af⟩) ms.length ms.length] 82,aj cM #[ae A ms.length c] 24,aj G (eD (mb ms)) 3]):=by
 have s:=hid p;obtain⟨n,hn⟩:=ex ms.length
 have t:aE (∀W cM G,au w W->w.heap.size<=G->aX W cM #[ae A n c] 24->¬cM=G->aX W G (eD (dQ n)) 3->aD ax 276 #[ae (ab ⟨G,0,af⟩) n n,dI (ed 277) #[] #[ay (ab ⟨cM,0,af⟩)]] W λe w'=>e=aB (bn #[])/\Turned W w' (aj G (eD (dQ n)) 3) (aj G (eD (mb ms)) 3)):=hid (λW cM G g H h1 hne u=>by
  have hr:(dQ n).length=n:=Em
  have q:=axf G n 277 #[ay (ab ⟨cM,0,af⟩)] (dQ n) (λx y=>decide (qg (nO ms x) (nO ms y)<0)) (λx y=>qg (nO ms x) (nO ms y)) W u ad ad (λ_ _=>aa) (lf Tryz.func277 aw aa) (λx y f hx I o=>by
   have g2:au w f:=((g.to (F:=λb=>b=G)).trans o (λ_ _ h=>h)).mono (λi hi h=>ad);have v:aX f cM #[ae A ms.length c] 24:=by rw[hn];exact o.heap h1 hne
   exact axh cM x y A c ms f v (s.out.aI g2) aH aH ad);rw[hr]at q;rw[mb,hn];exact q);rw[hn]at E⊢;clear p hn;go_enter func201,ntmps201;have a:=a8 w;go_step;refine ah ?_;refine bL a (ae A n c) (λl w1 a=>?_);refine dV ?_;refine pl a 0 0 ?_;refine ag ?_;refine NH a (aua n aa aa aa jo aw ad) (λd K a=>?_);refine bl a #[ae af 0 0] (λr L a=>?_);refine a' a 0 (ae (ab ⟨d,0,af⟩) n n) (λM a=>?_);refine ah ?_;refine pl a 0 0 ?_;refine dU ?_;have m:=a.pk [0,1,2];go_wp2_with fail;go_loopw [10] (λk wr=>∃j:Nat,j<=n/\k=J R (j:Int)/\ak w (λ_=>False) wr [aj r #[ae (ab ⟨d,0,af⟩) n n] 82,aj d (eD (wi n j)) 3,aj l #[ae A n c] 24]) (λk wr=>n -(bQ k).toNat);case atStart=>exact⟨0,cC _,aa,by rw[show wi n 0=dZ n 0 from bc];exact m⟩
 case round=>
  clear a m;obtain⟨j,B,rfl,a⟩:=hrel;by_cases hlt:j<n
  .have D:(j:Int)<(n:Int):=ad;go_step;refine ah ?_;refine ag ?_;refine ah ?_;refine v2 ?_;refine ah ?_;refine pl a 0 0 ?_;refine v2 ?_;refine aG _ (b4 82 3 1 _ _ aa jo aw d 0 n n j j aa aa hlt ad) ?_;refine NG a 1 (F9 (J R (j:Int)) aa aa aa (a.aW 1) (by show j+1<=(eD (wi n j)).size;rw[TF,avl B];omega) aw aw (Tp (wi n j) j j)) (λN a=>?_);refine ah ?_;refine pad (j:Int) 1 ((j+1:Nat):Int) ?_;refine bX ?_;go_wp2_with fail;go_roundw;case rel=>exact⟨j+1,ad,aa,by grind[avm]⟩
   case measure=>grind[bQ]
  .have D:¬(j:Int)<(n:Int):=ad;have C:j=n:=ad;rw[show wi n j=dQ n from by rw[C];simp[wi]]at a;go_step;refine ah ?_;refine dV ?_;refine pl a 0 0 ?_;refine ag ?_;refine aR (t _ _ d a.only ((a.low _ (cX (i:=1) aa) d aa).2.resolve_right (λh=>h)) (a.aW 2) (λh=>a.ne (i:=2) (j:=1) aa aa aS l aa h) (a.aW 1)) ?_;rintro e O ⟨rfl,z⟩;replace a:=a.eP 1 z;refine aU ?_;refine ah ?_;refine dU ?_;go_wp2_with fail;go_ret;exact⟨_,_,aa,d,((a.pick (l':=[aj _ _ 82,aj _ _ 24,aj d _ 3]) [0,2,1]).fh 3).fresh 0⟩
def Tu(ms:List bO)(x:Nat):Int:=((ms[x]?).map cG).getD 0
def ju(ms:List bO):List (Nat×Int×Int):=(mb ms).map (λi=>(i,nO ms i,Tu ms i))
def agb ms:(ju ms).length=ms.length:=by grind[ju,NA]
def cU.LJ{FX aq A ms}(h:∀W,av FX aq W->cU W A ms){W}(g:av FX aq W){j m}(e:ms[j]?=ab m):∃a b c d,A=ab ⟨a,b,af⟩/\W.rangeAt a (b+j*5) [J R m.k,J R m.to,J R m.fr,J R m.n,ae c m.data.length d]:=by grind[cU.jb,av.refl]
def af7(f' cM G)A c ms aq FX(N:∀W,av FX aq W->cU W A ms)(eR:ms.length<=20):
 yy ax 278 #[ay (ab ⟨f',0,af⟩),ay (ab ⟨cM,0,af⟩)] (λx:Nat×Int×Int=>#[J R (x.1:Int),gT x.2]) aq FX (bP [aj f' #[ae (ab ⟨G,0,af⟩) ms.length ms.length] 82,aj cM #[ae A ms.length c] 24,aj G (eD (mb ms)) 3]) (λ_=>True) (ju ms):=by
 intro l S gR W F t bV H a;have z:=hid N;obtain⟨n,hn⟩:=ex ms.length;have O:(mb ms).length=n:=by rw[NA,hn]
 have P:(ju ms).length=n:=by rw[agb,hn]
 rw[hn]at a eR;have B:=hid hn;have Qg:=hid O;have kj:=hid P;clear N hn O P;go_enter VS,ntmps278;replace a:ak aq FX W [aj f' #[ae (ab ⟨G,0,af⟩) n n] 82,aj cM #[ae A n c] 24,aj G (eD (mb ms)) 3,t,F]:=a.kd;go_step;refine ah ?_;refine pl a 0 0 ?_;refine dU ?_;go_wp2_with fail;go_loopw [8] (λu wr=>∃(j:Nat) (t:bq),j<=n/\u=J R (j:Int)/\S ((ju ms).take j) t/\ak aq FX wr [aj f' #[ae (ab ⟨G,0,af⟩) n n] 82,aj cM #[ae A n c] 24,aj G (eD (mb ms)) 3,t,F]) (λu wr=>n -(bQ u).toNat);case atStart=>exact⟨0,t,cC _,aa,H,a⟩
 case round=>
  clear a H;obtain⟨j,t,hj,rfl,o,a⟩:=hrel;by_cases hlt:j<n
  .have cb:(j:Int)<(n:Int):=ad;have M:j<(mb ms).length:=by rw[Qg];exact hlt
   obtain⟨i,hi⟩:∃i,(mb ms)[j]?=ab i:=⟨_,cE M⟩;have L:i<n:=by rw[<-B];exact aex (cX hi)
   obtain⟨m,d⟩:∃m,ms[i]?=ab m:=⟨_,cE (by rw[B];exact L)⟩;have asb:(ju ms)[j]?=ab (i,m.to,cG m):=by rw[ju,j4,hi];simp[nO,Tu,d]
   have s:(ju ms).take (j+1)=(ju ms).take j++[(i,m.to,cG m)]:=by grind[gq]
   have r:(ju ms).take j++[(i,m.to,cG m)]<+:ju ms:=aH;have Z:aE ((eD (mb ms))[j]?=ab (J R (i:Int))):=hid (by grind[TE]);obtain⟨f,T,w,E,I,_⟩:=cU.LJ z.out a.only d
   have Y:aE (∀W,av FX aq W->∃w E,W.rangeAt f (T+i*5) [J R m.k,J R m.to,J R m.fr,J R m.n,ae w m.data.length E]):=hid (λW g=>by obtain⟨eK,eZ,aK,c2,h1,h2⟩:=cU.LJ z g d;grind);obtain⟨v,D,K⟩:=Y _ a.only;obtain⟨Q,q⟩:=ex (cG m);rw[q]at r s;have sQ:aE (∀W,aD ax 136 #[ar #[J R m.k,J R m.to,J R m.fr,J R m.n,ae v m.data.length D]] W λe w'=>e=aB (ar #[J R m.to,J R Q])/\au W w'):=hid (λW=>by rw[<-q];exact tt _ _ _ _ v _ D W);have X:=hid K;have V:=hid I;have C:=hid r;have Qx:=hid s;clear hi d asb s r I M K q;go_step;refine ah ?_;refine dV ?_;refine aG (ay (ab ⟨G,j,af⟩)) (b4 82 3 1 (bj 6) (bj 8) aa jo aw G 0 n n j j aa aa hlt ad) ?_;refine aG _ (fH aa aa (a.aW 2) Z aw) ?_;refine hX ?_;refine JE 7 ?_;refine v2 ?_;refine pl a 1 0 ?_;refine ag ?_;refine aG _ (b4 24 73 5 _ _ aa ee aw f T n c i _ (by show ae A _ _=_;rw[V]) aa L aa) ?_;refine aG _ (by(refine eW 73 _ aa f _ aa _ X fO aa aw)) ?_;refine bC (sQ _) a (λw1 a=>?_);refine an ?_;have y:=(a.pick (l':=[t,aj f' #[ae (ab ⟨G,0,af⟩) n n] 82,aj cM #[ae A n c] 24,aj G (eD (mb ms)) 3,F]) [3,0,1,2,4]).Ey;refine Gh (bV ((ju ms).take j) (i,m.to,Q) _ _ _ C o y) (λb aT hb=>?_) (λ_ _ he=>he.elim (λh=>⟨_,h.1⟩) (λh=>⟨_,h.1⟩)) (EL aa aa (by simp only[List.map_toArray,List.map_cons,List.map_nil];rfl));clear y a;rcases Ga hb with⟨rfl,U,p,a⟩|⟨rfl,U,p,a⟩
   .clear hb;replace a:=a.u0;refine th ?_;refine dV ?_;refine pad (j:Int) 1 ((j+1:Nat):Int) ?_;refine bX ?_;go_wp2_with fail;go_roundw;case rel=>exact⟨j+1,_,ad,aa,by rw[Qx.out];exact p,a.pick [1,2,3,0,4]⟩
    case measure=>simp[bQ]<;>omega
   .clear hb;replace a:=a.u0;refine th ?_;refine bX ?_;go_wp2_with fail;first|go_end0|refine bodyPost_ret (results_none rfl _ _ _) rfl ?_
    exact vx.cut C p (((a.pick (l':=[aj f' _ 82,aj cM _ 24,aj G _ 3,U,F]) [1,2,3,0,4]).fh 3).pick [1,0,2])
  .have cb:¬(j:Int)<(n:Int):=ad;have hQ:(ju ms).take j=ju ms:=tU (by rw[kj];omega);rw[hQ]at o;go_step;refine ah ?_;refine bX ?_;go_wp2_with fail;first|go_end0|refine bodyPost_ret (results_none rfl _ _ _) rfl ?_
   exact vx.all o trivial ((a.fh 3).pick [1,0,2])
def ac9(n:Nat)(hn:(n:Int)<=4611686018427387903)w:
 aD ax 120 #[J R (n:Int)] w λe w'=>e=aB (ai az)/\au w w':=by
 go_enter func120,ntmps120;have a:=a8 w;go_step;refine ah ?_;refine kg ?_;refine bC (xM 0 (n:Int) _ ⟨ad,ad,ad⟩) a (λw1 a=>?_);refine bX ?_;go_wp2_with fail;go_ret;exact⟨aa,a.only⟩
def jZ(o n:Nat)(m:bO):Prop:=gd m/\(m.k=1->m.fr+m.n<=(o:Int))/\m.to+cG m<=(n:Int)
def awZ(o n)(g1 g2)f(B:f.oneCell'=az)m b c(h:jZ o n m)(C:(o:Int)<=4611686018427387903/\(n:Int)<=4611686018427387903)w:
 aD ax 121 #[eL (o:Int) (n:Int) g1 g2 f,ar #[J R m.k,J R m.to,J R m.fr,J R m.n,ae b m.data.length c]] w λe w'=>e=aB (J R 0)/\au w w':=by
 obtain⟨hv,l,y⟩:=h;obtain⟨d,g⟩:=ex (cG m);have s:=hv.ck;have hb:0<=m.to/\0<d/\m.to+d<=4611686018427387903:=ad;rw[g]at y;obtain⟨eF,eK,pt⟩:=hb;have q:aE (∀W,aD ax 200 #[ar #[J R m.k,J R m.to,J R m.fr,J R m.n,ae b m.data.length c]] W λe w'=>e=aB (J R 0)/\au W w'):=hid (λW=>anA m.k m.to m.fr m.n b m.data.length c W hv);have r:aE (∀W,aD ax 136 #[ar #[J R m.k,J R m.to,J R m.fr,J R m.n,ae b m.data.length c]] W λe w'=>e=aB (ar #[J R m.to,J R d])/\au W w'):=hid (λW=>by rw[<-g];exact tt _ _ _ _ b _ c W);by_cases hk:m.k=1
 .have hf2:=l hk;have x:0<=m.fr/\0<=m.n:=by rcases hv with⟨_,_,⟨z,A,_⟩,_⟩|⟨h2,_⟩;exact⟨z,A⟩;omega
  obtain⟨D,E⟩:=x;have j:aE (∀W,aD ax 79 #[ar #[J R m.k,J R m.to,J R m.fr,J R m.n,ae b m.data.length c]] W λe w'=>e=aB (bn #[ar #[J R m.fr,J R m.n],ai az])/\au W w'):=hid (λW=>by rw[hk];exact Bk _ _ _ b _ c W);clear hk l g hv s;go_enter Tryz.func121,Tryz.ntmps121;have a:=a8 w;go_step;refine ah ?_;refine bL a (ar (bb (o:Int) (n:Int) g1 g2 f)) (λt w1 a=>?_);refine bL a (ar #[J R m.k,J R m.to,J R m.fr,J R m.n,ae b m.data.length c]) (λu N a=>?_);refine dV ?_;refine bh a 0 #[J R m.k,J R m.to,J R m.fr,J R m.n,ae b m.data.length c] ?_;refine bC (q _) a (λO a=>?_);refine cB ?_;refine pk (ai ao) ?_;refine ah ?_;refine bh a 0 #[J R m.k,J R m.to,J R m.fr,J R m.n,ae b m.data.length c] ?_;refine bC (j _) a (λP a=>?_);refine v3 ?_;refine bl a #[J R 0,J R 0] (λv Q a=>?_);refine a' a 0 (ar #[J R m.fr,J R m.n]) (λS a=>?_);refine hX ?_;refine bR a [3] (λi _=>match i with|3=>J R (m.fr+m.n)|_=>a7) (λ_ _=>emp) (λ_=>[]) (λ|2=>[0]|5=>[2]|_=>[]) (λ_=>[]) [0,1,2,6] (λp=>?_);refine bG ?_;refine eM 0 #[J R m.fr,J R m.n] ?_;refine dK (λ_ _ _=>l1 m.fr _ _ ad ad ad) ?_;refine aJ ?_;refine dl 0 0 ?_ (hv:=kI);refine aL (ai ao) (λ_ _ _=>by(go_simp;try omega)) ?_;refine aJ ?_;refine bW λT a=>?_;replace a:=a.drop 3;refine cy ?_;refine bR a [1,2] (λi _=>match i with|1=>ar #[J R m.to,J R d]|2=>J R (m.to+d)|_=>a7) (λ_ _=>emp) (λ_=>[]) (λ|0=>[1]|4=>[2]|_=>[]) (λ_=>[]) [0,1,2,4,5] (λp=>?_);refine eM 0 #[J R m.k,J R m.to,J R m.fr,J R m.n,ae b m.data.length c] ?_;refine dK (λ_ _ _=>r _) ?_;refine dK (λ_ _ _=>l1 m.to d _ ad ad ad) ?_;refine aJ ?_;refine dl 0 1 ?_ (hv:=ih);refine aL (ai ao) (λ_ _ _=>by(go_simp;try omega)) ?_;refine bW λU a=>?_;replace a:=a.drop 3;replace a:=a.drop 3;refine ah ?_;refine ag ?_;refine an ?_;go_wp2_with fail;go_ret;exact⟨aa,a.only⟩
 .have j:aE (∀W,aD ax 79 #[ar #[J R m.k,J R m.to,J R m.fr,J R m.n,ae b m.data.length c]] W λe w'=>e=aB (bn #[ar #[J R 0,J R 0],ai ao])/\au W w'):=hid (λW=>Bl m.k m.to m.fr m.n b m.data.length c W hk);clear hk l g hv s;go_enter Tryz.func121,Tryz.ntmps121;have a:=a8 w;go_step;refine ah ?_;refine bL a (ar (bb (o:Int) (n:Int) g1 g2 f)) (λt V a=>?_);refine bL a (ar #[J R m.k,J R m.to,J R m.fr,J R m.n,ae b m.data.length c]) (λu F a=>?_);refine dV ?_;refine bh a 0 #[J R m.k,J R m.to,J R m.fr,J R m.n,ae b m.data.length c] ?_;refine bC (q _) a (λG a=>?_);refine cB ?_;refine pk (ai ao) ?_;refine ah ?_;refine bh a 0 #[J R m.k,J R m.to,J R m.fr,J R m.n,ae b m.data.length c] ?_;refine bC (j _) a (λH a=>?_);refine v3 ?_;refine bl a #[J R 0,J R 0] (λv I a=>?_);refine a' a 0 (ar #[J R 0,J R 0]) (λK a=>?_);refine hX ?_;refine bR a [] (λ_ _=>a7) (λ_ _=>emp) (λ_=>[]) (λ_=>[]) (λ_=>[]) [0,1,2] (λp=>?_);refine bG ?_;iterate 5 refine ds ?_
  refine aJ ?_;refine bW λL a=>?_;refine cy ?_;refine bR a [1,2] (λi _=>match i with|1=>ar #[J R m.to,J R d]|2=>J R (m.to+d)|_=>a7) (λ_ _=>emp) (λ_=>[]) (λ|0=>[1]|4=>[2]|_=>[]) (λ_=>[]) [0,1,2,4,5] (λp=>?_);refine eM 0 #[J R m.k,J R m.to,J R m.fr,J R m.n,ae b m.data.length c] ?_;refine dK (λ_ _ _=>r _) ?_;refine dK (λ_ _ _=>l1 _ d _ ad ad ad) ?_;refine aJ ?_;refine dl 0 1 ?_ (hv:=ih);refine aL (ai ao) (λ_ _ _=>by(go_simp;try omega)) ?_;refine bW λM a=>?_;replace a:=a.drop 3;replace a:=a.drop 3;refine ah ?_;refine ag ?_;refine an ?_;go_wp2_with fail;go_ret;exact⟨aa,a.only⟩
def iM(l:List (Nat×Int×Int)):Int:=l.foldl (λe x=>e+x.2.2) 0
theorem ZK l x:iM (l++[x])=iM l+x.2.2:=by grind[iM]
structure Lu (n:Nat) (ms:List bO):Prop where
 next:∀pre x,pre++[x]<+:ju ms->x.2.1=iM pre/\0<=iM pre/\0<=x.2.2/\iM pre+x.2.2<=4611686018427387903
 all:iM (ju ms)=(n:Int)
def axJ n A c ms w(k:cU w A ms)(y:ms.length<=20)(f:Lu n ms):
 aD ax 122 #[ae A ms.length c] w λe w'=>e=aB (bn #[J R (n:Int),ai ao])/\au w w':=by
 have j:=hid f;have o:=λW g=>sorted_at A c ms W (k.aI g) y;have p:∀f' cM G,yy ax 278 #[ay (ab ⟨f',0,af⟩),ay (ab ⟨cM,0,af⟩)] (λx:Nat×Int×Int=>#[J R (x.1:Int),gT x.2]) w (λ_=>False) (bP [aj f' #[ae (ab ⟨G,0,af⟩) ms.length ms.length] 82,aj cM #[ae A ms.length c] 24,aj G (eD (mb ms)) 3]) (λ_=>True) (ju ms):=λf' cM G=>af7 f' cM G A c ms w _ (λW g=>k.aI g) y;have N:=hid o;obtain⟨xs,C⟩:=ex (ju ms);have m:=f.next;have hall:=f.all;rw[C]at p m hall;have L:=hid m;have K:=hid hall;clear o f k m hall C;refine Aq func122 aa ?_;simp only[ntmps122,iK,jQ,mq,pV,pW,qa,p7,lJ,pj];have a:=a8 w;go_step;refine ah ?_;refine bl a #[J R 0] (λE w1 a=>?_);refine bl a #[ai ao] (λH aT a=>?_);refine an ?_;go_step;refine ah ?_;refine bl a #[J R 0] (λb bF a=>?_);refine bl a #[J R 0] (λd b8 a=>?_);refine a' a 1 (J R 0) (λcA a=>?_);refine a' a 0 (J R (-1)) (λcR a=>?_);refine an ?_;go_step;refine ah ?_;refine ag ?_;refine aR (N _ a.only) ?_;rintro e dz ⟨f',cM,rfl,G,P⟩;replace a:=a.new _ P;refine aU ?_;refine an ?_;go_wp2_with fail;have j:ak _ _ _ [bP [aj f' #[ae (ab ⟨G,0,af⟩) ms.length ms.length] 82,aj cM #[ae A ms.length c] 24,aj G (eD (mb ms)) 3],bP [aj b #[J R 0] 3,aj d #[J R (-1)] 3],bP [aj H #[ai ao] 4,aj E #[J R 0] 3]]:=ak.Cr (a.pick [0,2,1,3,4]);refine JF (encs:=(λx:Nat×Int×Int=>#[J R (x.1:Int),gT x.2])) aa (lf VS bc aa) (λ_=>aa) (p _ _ _) (λpre t=>t=bP [aj b #[J R (iM pre)] 3,aj d _ 3]) (λ_ _ _=>False) aa j ?_ ?_ ?_;all_goals clear j a
 .rintro l rd pre x W t F z Q rfl a;replace a:=a.kM;repeat((fail_if_success (with_reducible refine at_region ?_));gi_step)
  refine jX ?_;refine bl a #[J R 0,J R 0] (λI dv a=>?_);refine a' a 0 (ar #[J R x.2.1,J R x.2.2]) (λeU a=>?_);refine an ?_;first|refine wpIn_skip ?_|skip
  simp only[Exit.then];refine Am a 3 Q (λU a=>?_);replace a:ak _ _ _ [aj I #[J R x.2.1,J R x.2.2] 35,aj b #[J R (iM pre)] 3,aj d #[J R (-1)] 3,obj l (ga {rd with state:=sJ}),F]:=a;obtain⟨h1,r,O,s⟩:=L pre x z;obtain⟨S,v⟩:=ex (iM pre);have B:iM (pre++[x])=x.2.1+x.2.2:=by grind[ZK]
  have M:=hid B;rw[v]at h1 r s a;have hx1:0<=x.2.1:=ad;have hx2:x.2.1+x.2.2<=4611686018427387903:=ad;have q:=hid h1;clear B v h1 r s z;repeat((fail_if_success (with_reducible refine at_region ?_));gi_step)
  refine jX ?_;refine ag ?_;refine pl a 0 0 ?_;refine pl a 1 0 ?_;refine aG (ai ao) (by(have h:=q.out;go_simp;try omega)) ?_;refine an ?_;repeat((fail_if_success (with_reducible refine at_region ?_));gi_step)
  refine jX ?_;refine ag ?_;refine pl a 0 0 ?_;refine pl a 1 0 ?_;refine aG (ai ao) (by(have h:=q.out;go_simp;try omega)) ?_;refine ag ?_;iterate 2 refine ps ?_
  refine pk (ai ao) ?_;refine an ?_;repeat((fail_if_success (with_reducible refine at_region ?_));gi_step)
  refine jX ?_;refine bh a 0 #[J R x.2.1,J R x.2.2] ?_;refine aR (l1 _ _ _ hx1 O hx2) ?_;rintro e V ⟨rfl,g⟩;replace a:=a.aI g;refine aU ?_;refine a' a 1 (J R (x.2.1+x.2.2)) (λX a=>?_);refine an ?_;repeat gi_step
  have i:=a.pk [1,2,3,4];replace i:ak _ _ _ [bP [aj b #[J R (x.2.1+x.2.2)] 3,aj d #[J R (-1)] 3],obj l (ga {rd with state:=sJ}),F]:=i.fh 2;refine⟨_,?_,i⟩;exact(by show _=_;rw[M])
 .rintro D t u W rfl T a;replace a:=a.kM;replace a:=(a.pk [4,0,1,2,3]).kM;rw[K]at a;go_step;refine ah ?_;refine pl a 3 0 ?_;refine pk (ai ao) ?_;refine an ?_;go_step;refine ah ?_;refine pl a 2 0 ?_;refine a' a 1 (J R (n:Int)) (λY a=>?_);refine a' a 0 (ai ao) (λZ a=>?_);refine an ?_;go_wp2_with fail;refine zc a 5 (λw' a=>⟨afk aa aa (a.aW 1) aw aa (a.aW 0) aw,aa,a.only⟩)
 .simp
structure r5 (o n:Nat) (ms:List bO):Prop where
 gC:(o:Int)<=4611686018427387903
 mI:(n:Int)<=4611686018427387903
 fits:∀m∈ms,jZ o n m
 tiled:Lu n ms
 dM:ms.length<=20
def Zx(o n)(g1 g2)A c ms w(h:cU w A ms)(hv:r5 o n ms):
 aD ax 50 #[eL (o:Int) (n:Int) g1 g2 (ae A ms.length c)] w λe w'=>e=aB (ar #[J R 0,J R 0])/\au w w':=by
 have E:=hid h;have I:=hid hv;have O:=hv.dM;have x:(o:Int)<=4611686018427387903/\(n:Int)<=4611686018427387903:=⟨hv.gC,hv.mI⟩;have G:=hid x;obtain⟨Q,P⟩:=x;have H:aE (∀W,au w W->aD ax 122 #[ae A ms.length c] W λe w'=>e=aB (bn #[J R (n:Int),ai ao])/\au W w'):=hid (λW g=>axJ n A c ms W (h.aI g) hv.dM hv.tiled);clear h hv;go_enter func50,ntmps50;have a:=a8 w;go_step;refine ah ?_;refine bL a (ar (bb (o:Int) (n:Int) g1 g2 (ae A ms.length c))) (λy w1 a=>?_);refine bl a #[J R 0,J R 0] (λz S a=>?_);refine b5 ?_;refine pl a 1 0 ?_ (hv:=kI);refine bC (ac9 o ad _) a (λT a=>?_);refine v3 ?_;refine pl a 1 1 ?_ (hv:=ih);refine bC (ac9 n ad _) a (λU a=>?_);refine DG ?_;refine pl a 1 66 ?_ (hv:=e');refine dU ?_;have q:=a.pk [1,0];go_wp2_with fail;go_loopw [22] (λl wr=>∃j:Nat,j<=ms.length/\l=J R (j:Int)/\ak w (λ_=>False) wr [aj y (bb (o:Int) (n:Int) g1 g2 (ae A ms.length c)) 26,aj z #[J R 0,J R 0] 49]) (λl wr=>ms.length -(bQ l).toNat);case atStart=>exact⟨0,cC _,aa,q⟩
 case round=>
  clear a q;obtain⟨j,N,rfl,a⟩:=hrel;by_cases hlt:j<ms.length
  .have K:(j:Int)<(ms.length:Int):=ad;obtain⟨m,i⟩:∃m,ms[j]?=ab m:=⟨_,cE hlt⟩;obtain⟨d,p,b,f,r,s,t⟩:=cU.jb E i;have B:=hid r;have M:=hid s;have C:=hid t;have F:=hid i;clear r s t i;have u:=I.out.fits m (cX F);have D:=hid u;clear u;go_step;refine ah ?_;refine cB ?_;refine aG (ay (ab ⟨d,(p+j*5),af⟩)) (b4 24 73 5 (bj 20) (bj 22) aa ee aw d p (ms.length) c j ((p+j*5)) (by show ae A _ _=_;rw[B]) aa hlt aa) ?_;refine aG _ (by(refine eW 73 _ aa d _ aa _ (C _ a.only) fO aa aw)) ?_;refine bl a #[J R 0,J R 0,J R 0,J R 0,ae af 0 0] (λL V a=>?_);refine ag ?_;refine a' a 0 (ar #[J R m.k,J R m.to,J R m.fr,J R m.n,ae b m.data.length f]) (λX a=>?_);refine ah ?_;refine bh a 1 (bb (o:Int) (n:Int) g1 g2 (ae A ms.length c)) ?_ (hv:=(e6 _)) (hk:=by omega) (hz:=(by rw[bH];rfl));refine bh a 0 #[J R m.k,J R m.to,J R m.fr,J R m.n,ae b m.data.length f] ?_;refine bC (awZ o n g1 g2 (ae A ms.length c) aa m b f D G _) a (λY a=>?_);refine cB ?_;refine pk (ai ao) ?_;refine ah ?_;refine pad (j:Int) 1 ((j+1:Nat):Int) ?_;refine bX ?_;go_wp2_with fail;go_roundw;case rel=>exact⟨j+1,ad,aa,a.pick [1,2]⟩
   case measure=>simp[bQ]<;>omega
  .have K:¬(j:Int)<(ms.length:Int):=ad;go_step;refine ah ?_;refine cB ?_;refine pl a 0 66 ?_ (hv:=e');refine bC (H _ a.only) a (λZ a=>?_);refine v5 ?_;refine ah ?_;refine kg ?_;refine pl a 0 1 ?_ (hv:=ih);refine a1 (ai ao) ?_;refine b5 ?_;refine a' a 1 (ar #[J R 0,J R 0]) (λeU a=>?_);refine an ?_;go_wp2_with fail;refine c' (v:=_) (gG aa _ _ _ _ _ _ _ aa (a.aW 1) x5 aa aw) aa (⟨aa,a.only⟩)
def o8(ms:List bO):List bO:=(mb ms).filterMap (λi=>ms[i]?)
def tr(ms:List bO)(l:List (Nat×Int×Int)):List bO:=l.filterMap (λx=>ms[x.1]?)
def awS{ms l x m}(h:ms[x.1]?=ab m):tr ms (l++[x])=tr ms l++[m]:=by grind[tr]
def awQ ms:tr ms (ju ms)=o8 ms:=by unfold tr ju o8;rw[List.filterMap_map];rfl
def awR ms l:(tr ms l).length<=l.length:=Yd _ _
def F8{ms m}(h:m∈o8 ms):m∈ms:=by obtain⟨i,_,hi⟩:=List.mem_filterMap.1 h;exact cX hi
def Ux ms:(o8 ms).length<=ms.length:=dT (Yd _ _) (QR (NA ms))
def axp{ms x}(h:x∈ju ms):x.1<ms.length:=by obtain⟨i,hi,e⟩:=List.mem_map.1 h;subst e;exact aex hi
def afX{N n c w A ms l}(b:Row N w A n c 73 5 (cD l))(h1:l.map (·.1)=ms)(hn:n=ms.length)(d:∀x∈l,p0 w x.1 x.2.1 x.2.2):cU w A ms:=λo=>by
 rcases b.cases with⟨_,k,_,_⟩|⟨g,cur,e,_⟩;·omega
 .refine⟨g,0,e,λj m a=>?_⟩;subst h1;rw[j4]at a;cases hx:l[j]? with
  |none=>grind
  |some x=>
   rw[hx]at a;simp only[q6,w2]at a;subst a;have f:=Cz hx
   have hc:∀i v,(jt x.1 x.2.1 x.2.2)[i]?=ab v->w.cell? ⟨g,0+j*5+i,af⟩=ab v:=λi v hv=>by obtain⟨h,bE,cr⟩:=b.cell (f i v hv);grind
   exact⟨_,_,⟨hc 0 _ aa,hc 1 _ aa,hc 2 _ aa,hc 3 _ aa,hc 4 _ aa⟩,d x (cX hx)⟩
def EA m A c:∀u∈jt m A c,u.oneCell'=true:=by intro u a;simp only[jt,gy,fQ,or_false]at a;rcases a with rfl|rfl|rfl|rfl|rfl<;>rfl
def Cl(w:aQ)(l:List (bO×Option bT×Nat)):Prop:=∀x∈l,∀W,au w W->p0 W x.1 x.2.1 x.2.2
theorem Cl.nil w:Cl w []:=λ_ h=>(fQ h).elim
def Cl.snoc{w l m A c}(h:Cl w l)(a:∀W,au w W->p0 W m A c):Cl w (l++[(m,A,c)]):=λx hx=>by
 rcases List.mem_append.1 hx with hx|hx;·exact h x hx
 .grind
def af6(o n)(g h)A c ms w(z:cU w A ms)(L:ms.length<=20)(ql:∀m∈ms,m.data.length<=140737488355328):
 aD ax 166 #[eL o n g h (ae A ms.length c)] w λe w'=>∃O Y t,e=aB (eL o n g h (ae O (o8 ms).length Y))/\cf w w' t/\ia t O Y (o8 ms):=by
 have cK:=hid z;have T:=hid L;have sN:=hid ql;have V:=hid (λW g=>sorted_at A c ms W (z.aI g) L);have E:∀f' cM G,yy ax 278 #[ay (ab ⟨f',0,af⟩),ay (ab ⟨cM,0,af⟩)] (λx:Nat×Int×Int=>#[J R (x.1:Int),gT x.2]) w (λ_=>False) (bP [aj f' #[ae (ab ⟨G,0,af⟩) ms.length ms.length] 82,aj cM #[ae A ms.length c] 24,aj G (eD (mb ms)) 3]) (λ_=>True) (ju ms):=λf' cM G=>af7 f' cM G A c ms w _ (λW g=>z.aI g) L;have Q:=hid (awQ ms);clear z ql;refine Aq func166 aa ?_;simp only[ntmps166,iK,jQ,mq,pV,pW,qa,p7,lJ,pj];have a:=a8 w;go_step;refine ah ?_;refine bL a (ar (bb o n g h (ae A ms.length c))) (λv w1 a=>?_);refine bl a (bb 0 0 dq.zero dq.zero (ae af 0 0)) (λcp aT a=>?_);refine an ?_;go_step;refine ah ?_;refine bl a #[ae af 0 0] (λq bF a=>?_);refine an ?_;replace a:=a.new (ba af 0 0 73 5 []) ⟨av.refl _ _,Row.nil _ _ _ _,λb ⟨_,_,e⟩=>aH⟩;go_step;refine ah ?_;refine ag ?_;refine pl a 3 66 ?_ (hv:=e');refine aR (V _ a.only) ?_;rintro e b8 ⟨f',cM,rfl,G,K⟩;replace a:=a.new _ K;refine aU ?_;refine an ?_;go_wp2_with fail;have X:ak _ _ _ [bP [aj f' #[ae (ab ⟨G,0,af⟩) ms.length ms.length] 82,aj cM #[ae A ms.length c] 24,aj G (eD (mb ms)) 3],bP [aj v (bb o n g h (ae A ms.length c)) 26,aj q #[ae af 0 0] 24,ba af 0 0 73 5 []],bP [aj cp (bb 0 0 dq.zero dq.zero (ae af 0 0)) 26]]:=ak.Cr (a.pick [0,4,2,1,3]);refine JF (encs:=(λx:Nat×Int×Int=>#[J R (x.1:Int),gT x.2])) aa (lf VS bc aa) (λ_=>aa) (E _ _ _) (λpre t=>∃f c1 l,aE (l.map (·.1)=tr ms pre)/\aE (Cl w l)/\t=bP [aj v _ 26,aj q #[ae f (tr ms pre).length c1] 24,ba f ((tr ms pre).length) c1 73 5 (cD l)]) (λ_ _ _=>False) (⟨af,0,[],hid aa,hid (Cl.nil w),aa⟩) X ?_ ?_ ?_;all_goals clear X a
 .rintro l rd pre x W t F eN o1 ⟨f,c1,B,y,H,rfl⟩ a;replace a:=a.kM;repeat((fail_if_success (with_reducible refine at_region ?_));gi_step)
  refine jX ?_;refine ag ?_;refine an ?_;first|refine wpIn_skip ?_|skip
  simp only[Exit.then];refine Am a 3 o1 (λcA a=>?_);replace a:ak _ _ _ [aj v (bb o n g h (ae A ms.length c)) 26,aj q #[ae f (tr ms pre).length c1] 24,ba f ((tr ms pre).length) c1 73 5 (cD B),obj l (ga {rd with state:=sJ}),F]:=a;have hx1:x.1<ms.length:=axp (eN.subset bg);obtain⟨m,r⟩:∃m,ms[x.1]?=ab m:=⟨_,cE hx1⟩;obtain⟨I,M,j,p,bx,et,db⟩:=cU.jb cK r;have cq:=hid bx;have iz:=hid et;have S:=hid db;have U:=hid (awS (l:=pre) r);have iC:(tr ms pre).length<=20:=dT (awR ms pre) (dT aH (dT (QR (agb ms)) T));obtain⟨s,hn⟩:=ex ((tr ms pre).length);rw[hn]at iC a;have dm:=hid hn;obtain⟨N,M0⟩:=ex x.1;rw[M0]at hx1 S⊢;clear bx et db r eN hn M0 Q E;repeat((fail_if_success (with_reducible refine at_region ?_));gi_step)
  refine UR a [6,7,8] (λi u=>match i with|6=>ae (ab ⟨u.b,0,af⟩) 1 1|7=>ae u.A (s+1) u.c|_=>a7) (λd=>λ|6=>aj ((d 6).b) #[J R m.k,J R m.to,J R m.fr,J R m.n,ae j m.data.length p] 73|7=>ba ((d 7).A) (s+1) ((d 7).c) 73 5 ((cD B)++(jt m j p))|8=>aj q #[ae (d 7).A (s+1) (d 7).c] 24|_=>emp) (λ|7=>[2]|8=>[1]|_=>[]) (λ|0=>[1]|2=>[0]|7=>[11]|_=>[]) (λ|6=>[6]|7=>[7]|8=>[7]|_=>[]) [0,3,4,11,12,13] (λd=>?_);refine dl 0 0 ?_;refine aJ ?_;refine dl 0 66 ?_ (hv:=e');refine aJ ?_;refine aL (ay (ab ⟨I,(M+N*5),af⟩)) (λ_ _ _=>b4 24 73 5 (bj 12) (bj 13) aa ee bc I M _ c N _ (by show ae A _ _=_;rw[cq]) aa hx1 aa) ?_;refine aL (ar #[J R m.k,J R m.to,J R m.fr,J R m.n,ae j m.data.length p]) (λ_ _ a=>eW 73 (bj 14) aa I (M+N*5) aa ([J R m.k,J R m.to,J R m.fr,J R m.n,ae j m.data.length p]:List aP) (S _ a.only) fO aa bc) ?_;refine kH _ 73 ?_;refine ri (m:=1) 56 (λ_ _ a=>aX.cellsOf (m:=1) (a.aW 1) aa) (EA m j p) ?_ (hby:=by omega);refine fS _ ?_;refine bW λcR a=>?_;generalize (d 6).b=DJ at a⊢;generalize (d 7).A=P at a⊢;generalize (d 7).c=Z at a⊢;repeat gi_step
  have C:=a.pk [0,5,4,1,2];replace C:ak _ _ _ [bP [aj v (bb o n g h (ae A ms.length c)) 26,aj q #[ae P (s+1) Z] 24,ba P (s+1) Z 73 5 ((cD B)++(jt m j p))],obj l (ga {rd with state:=sJ}),F]:=C.fh 3;refine⟨_,?_,C⟩;exact⟨_,_,_,hid (by rw[List.map_append,y,U];rfl),hid (H.out.snoc iz),by rw[U.out,c7,dm.out,As,CA];rfl⟩
 .rintro D t u W ⟨f,c1,B,y,H,rfl⟩ hu a;replace a:=a.kM;replace a:=(a.pk [5,0,1,2,3,4]).kM;rw[Q]at a y;clear E V;go_step;refine ah ?_;refine bh a 1 (bb o n g h (ae A ms.length c)) ?_ (hv:=(e6 _)) (hk:=by omega) (hz:=(by rw[bH];rfl));refine pl a 2 0 ?_;refine aR (JB o n g h _ f c1 (o8 ms) _ aa (afX (a.atR 3) y aa (λx hx=>H x hx _ a.only)) (dT (Ux ms) (dT T aS)) (λm r=>sN m (F8 r))) ?_;rintro e dz ⟨aK,c2,bD,rfl,K,kS⟩;replace a:=a.new _ K;refine aU ?_;refine a' a 1 (ar (bb o n g h (ae aK (o8 ms).length c2))) (λdv a=>?_) (hk:=by show 0+gw (bb _ _ _ _ _)<=_;simp only[bH];decide) (hz:=by show _=ab (gw (bb _ _ _ _ _));rw[bH];rfl) (h1:=(sc aa)) (hc:=xr);refine an ?_;go_wp2_with fail;refine zc a 6 (λw' a=>⟨gG aa _ _ _ _ _ _ _ aa (a.aW 1) GG aa (by rw[bH];rfl),_,_,bD,aa,a.fresh 0,kS⟩)
 .simp
def ana(g b)(n0 b0 d c f q)cQ w(h1:f+q<=n0)(j:n0<=b0)(k:((f+q:Nat):Int)<=4611686018427387903):
 aD ax 87 #[ae g n0 b0,ar #[J R 1,J R cQ,J R (f:Int),J R (q:Int),ae b d c]] w λe w'=>e=aB (ae (fK g b0 f 1) q (b0 -f))/\au w w':=by
 go_enter Tryz.func87,Tryz.ntmps87;have a:=a8 w;go_step;refine ah ?_;refine bL a (ar #[J R 1,J R cQ,J R (f:Int),J R (q:Int),ae b d c]) (λh w1 a=>?_);refine dV ?_;refine bh a 0 #[J R 1,J R cQ,J R (f:Int),J R (q:Int),ae b d c] ?_;refine bC (Bk cQ (f:Int) (q:Int) b d c _) a (λl a=>?_);refine v3 ?_;refine bl a #[J R 0,J R 0] (λi m a=>?_);refine a' a 0 (ar #[J R (f:Int),J R (q:Int)]) (λn a=>?_);refine ag ?_;refine ah ?_;refine kg ?_;refine pl a 0 0 ?_;refine ag ?_;refine pl a 0 0 ?_;refine ag ?_;refine pl a 0 1 ?_;refine pad _ _ ((f+q:Nat):Int) ?_;refine aG _ (F7 22 5 1 _ _ _ aa Tryz.underlying22 aw g n0 b0 f (f+q) q aa aa aa ad ad) ?_;refine bX ?_;go_wp2_with fail;go_ret;exact⟨aa,a.only⟩
def anb(f b)(n0 b0 d c)(k cQ fr n)(hk:k≠1)w:
 aD ax 87 #[ae f n0 b0,ar #[J R k,J R cQ,J R fr,J R n,ae b d c]] w λe w'=>e=aB (ae b d c)/\au w w':=by
 go_enter Tryz.func87,Tryz.ntmps87;have a:=a8 w;go_step;refine ah ?_;refine bL a (ar #[J R k,J R cQ,J R fr,J R n,ae b d c]) (λg w1 a=>?_);refine dV ?_;refine bh a 0 #[J R k,J R cQ,J R fr,J R n,ae b d c] ?_;refine bC (Bl k cQ fr n b d c _ hk) a (λi a=>?_);refine v3 ?_;refine bl a #[J R 0,J R 0] (λh j a=>?_);refine a' a 0 (ar #[J R 0,J R 0]) (λl a=>?_);refine ag ?_;refine ayJ ?_;refine pl a 1 4 ?_;refine bX ?_;go_wp2_with fail;go_ret;exact⟨aa,a.only⟩
def nD(old:List Int)(m:bO):List Int:=if m.k=1 then(old.drop m.fr.toNat).take m.n.toNat else m.data
def gd.copy{m}(h:gd m)(hk:m.k=1):0<=m.fr/\0<m.n/\m.fr+m.n<=4611686018427387903/\m.data=[]:=by
 rcases h with⟨_,_,a,b,c⟩|⟨h1,_⟩;·obtain⟨d,e,f⟩:=a;grind
 .omega
def gd.lit{m}(h:gd m)(hk:m.k≠1):m.k=2/\m.fr=0/\m.n=0/\0<m.data.length:=by
 rcases h with⟨h1,_⟩|⟨h1,_,a,b,c⟩;·omega
 .omega
def am8{o n old m}(h:jZ o n m)(ho:old.length=o):((nD old m).length:Int)=cG m:=by
 unfold nD cG;by_cases hk:m.k=1;·obtain⟨h1,a,_⟩:=h.1.copy hk;have b:=h.2.1 hk;grind
 .grind
def am9(o n b0)(a c)d old m w(h:jZ o n m)(ho:old.length=o)(hc0:o<=b0)(v:m.data.length<=d):
 aD ax 87 #[ae a old.length b0,kW m c d] w λe w'=>∃g j,e=aB (ae g (nD old m).length j)/\(∀W,b2 W a old->b2 W c m.data->b2 W g (nD old m))/\(nD old m).length<=j/\(∀b,eh g b->eh a b\/eh c b)/\au w w':=by
 subst ho;have hlen:=am8 h aa;obtain⟨k,cQ,fr,q,ds⟩:=m;by_cases hk:k=1;·subst hk;obtain⟨h1,l,p,r⟩:=h.1.copy aa;have s:=h.2.1 aa;simp only at h1 l p r s;obtain⟨f,rfl⟩:=wW h1;obtain⟨q,rfl⟩:=wW (Int.le_of_lt l);have hb:nD old ⟨1,cQ,(f:Int),(q:Int),ds⟩=(old.drop f).take q:=bc;rw[hb]at hlen⊢;have u:((old.drop f).take q).length=q:=aH;rw[u];refine(ana a c old.length b0 ds.length d f q cQ w ad hc0 ad).mono λe w' h=>⟨_,_,h.1,λW hold _=>?_,ad,λb hb=>b1 (Tf hb),h.2⟩;have:=hold.win (i:=f) (q:=f+q) hc0 ad;rwa [show f+q -f=q by omega]at this
 .have hb:nD old ⟨k,cQ,fr,q,ds⟩=ds:=by grind[nD]
  rw[hb];exact(anb a c _ b0 _ d k cQ fr q hk w).mono λe w' h=>⟨_,_,h.1,λW _ t=>t,v,λb hb=>.inr hb,h.2⟩
def xD(old:List Int)(l:List bO)(j:Nat):List Int:=(l.take j).flatMap (nD old)
def A'(old:List Int)(ms:List bO):List Int:=(o8 ms).flatMap (nD old)
def au7{old l j m}(h:l[j]?=ab m):xD old l (j+1)=xD old l j++nD old m:=by grind[xD,gq]
def au6 old l j:(xD old l j).length<=(l.flatMap (nD old)).length:=by grind[xD,oa]
def au5 old l:xD old l l.length=l.flatMap (nD old):=by grind[xD]
def ak.old{w W:aQ}{l:List bq}{s:bq}{A:Option bT}(c:ak w (λ_=>False) W l)(i:Nat)(h:qb w A)(hi:l[i]?=ab s:=by rfl):∀b,eh A b->¬s.cT b:=λb hb d=>by
 have h1:=h b hb;have a:=(c.low s (cX hi) b d).2;rcases a with a|a;·omega
 .omega
def ax4(o n b0)(g1 g2)(d A)c old ms w(ho:old.length=o)(MF:o<=1048576)(hc0:o<=b0)(hold:b2 w d old)(qt:qb w d)(C:cU w A ms)(hv:r5 o n ms)(L:∀m∈ms,m.data.length<=140737488355328)(hg1:g1.l=ij old)(hg2:g2.l=ij (A' old ms))(x:(A' old ms).length<=1048576):
 aD ax 78 #[ae d o b0,eL (o:Int) (n:Int) g1 g2 (ae A ms.length c)] w λe w'=>e=aB (ar #[J R 0,J R 0])/\au w w':=by
 have hlen:o<=1048576:=ad;have cJ:=hid hv;have cK:=hid C;have X:=hid hold;have U:=hid qt;have T:=hid hg1;have G:=hid hg2;have H:=hid x;have c6:=hid (λW g=>Zx o n g1 g2 A c ms W (C.aI g) hv);have eg:=hid (λW g=>af6 (o:Int) (n:Int) g1 g2 A c ms W (C.aI g) hv.dM L);have D5:=hid L;have z:=hid ho;clear C hv hold qt hg1 hg2 x L ho;go_enter func78,ntmps78;have a:=a8 w;go_step;refine ah ?_;refine bL a (ar (bb (o:Int) (n:Int) g1 g2 (ae A ms.length c))) (λcj w1 a=>?_);refine bl a #[J R 0,J R 0] (λdw aT a=>?_);refine ah ?_;refine bh a 1 (bb (o:Int) (n:Int) g1 g2 (ae A ms.length c)) ?_ (hv:=(e6 _)) (hk:=by omega) (hz:=(by rw[bH];rfl));refine bC (c6 _ a.only) a (λbF a=>?_);refine bl a #[J R 0,J R 0] (λen b8 a=>?_);refine a' a 0 (ar #[J R 0,J R 0]) (λcA a=>?_);refine ah ?_;refine bh a 0 #[J R 0,J R 0] ?_;refine ag ?_;refine pk (ai ao) ?_;refine b5 ?_;refine pl a 2 0 ?_ (hv:=kI);refine v2 ?_;refine a1 (ai ao) ?_;refine hX ?_;refine bR a [1,2] (λi u=>match i with|1=>ae (ab ⟨u.b,0,af⟩) 1 1|2=>ar (aM a6 (ij old) [])|_=>a7) (λD=>λ|1=>aj ((D 1).b) #[ae d o b0] 22|_=>emp) (λ_=>[]) (λ|2=>[4]|4=>[2]|_=>[]) (λ|1=>[1]|_=>[]) [0,1,2,4,5] (λD=>?_);refine aJ ?_;refine kH _ 22 ?_;refine dK (λO _ a=>TP _ d b0 _ O 22 (by rw[z];omega) (by rw[z.out];exact a.aW 0) (X.out.aI a.only) (U.out.aI a.only)) ?_;refine aJ ?_;refine aL _ (λ_ _ a=>mH aa aa (a.aW 0) aoz (by rw[bH];simp[aM,g1.len]) aw (by simp only[aM,kE,iK,hB,g1.len];kernel_rfl)) ?_;refine aL (ai ao) (λ_ _ _=>by(refine(yC 23 5 32 _ _ 23 aa sK mm aw aw _ _ aa aa (by rw[<-T];exact g1.len) g1.len).trans ?_;rw[T];simp)) ?_;refine aJ ?_;refine bW λcR a=>?_;generalize (D 1).b=azg at a⊢;replace a:=a.drop 4;refine ah ?_;refine aR (A2 _) ?_;rintro e dz ⟨F,rfl,K⟩;replace a:=a.new _ K;refine aU ?_;refine dV ?_;refine bh a 3 (bb (o:Int) (n:Int) g1 g2 (ae A ms.length c)) ?_ (hv:=(e6 _)) (hk:=by omega) (hz:=(by rw[bH];rfl));refine aR (eg _ a.only) ?_;rintro e dv ⟨aK,c2,bD,rfl,K,kS⟩;replace a:=a.new _ K;refine aU ?_;refine aG _ (aer (ft:=24) (k:=66) 26 _ 4 aa aa aw aw e') ?_;refine dU ?_;obtain⟨l,t⟩:=ex (o8 ms);have aBh:l.length<=20:=by rw[<-t];exact dT (Ux ms) cJ.out.dM
 have zS:aE (∀m∈l,jZ o n m/\m.data.length<=140737488355328):=hid (λm q=>by rw[<-t]at q;exact⟨cJ.out.fits m (F8 q),D5 m (F8 q)⟩);rw[A',t]at H G;rw[t]at kS⊢;clear t;have Z:=a.pk [1,0,4,3];go_wp2_with fail;go_loopw [37] (λN wr=>∃(j:Nat) (y:Option bT),j<=l.length/\N=J R (j:Int)/\ak w (λ_=>False) wr [iE F y (xD old l j),bD,aj cj (bb (o:Int) (n:Int) g1 g2 (ae A ms.length c)) 26,aj dw #[J R 0,J R 0] 49]) (λN wr=>l.length -(bQ N).toNat);case atStart=>exact⟨0,_,cC _,aa,Z⟩
 case round=>
  clear a Z;obtain⟨j,y,hj,rfl,a⟩:=hrel;by_cases hlt:j<l.length
  .have cb:(j:Int)<(l.length:Int):=ad;obtain⟨m,q⟩:∃m,l[j]?=ab m:=⟨_,cE hlt⟩;obtain⟨f,s,CX,hcm⟩:=kS.cmd q;obtain⟨_,B,I,_⟩:=hcm _ (a.at 1)
   have dh:aE (∀W,bD.p W->W.rangeAt B (0+j*5) [J R m.k,J R m.to,J R m.fr,J R m.n,ae f m.data.length s]):=hid (λW M=>by obtain⟨_,il,bE,cr⟩:=hcm W M;rw[I]at bE;injection bE with bE;injection bE with bE;rw[<-bE]at cr;exact cr);have S:=hid (λW M=>(hcm W M).1);have cq:=hid I;have P7:=hid CX;have V:=hid q;clear I hcm CX q;have r:=au7 (old:=old) V;have hpl:=au6 old l (j+1);rw[r,c7]at hpl;have Y:=hid r;have x:=H.out;have acF:(xD old l j).length+(nD old m).length<=1048576:=ad;obtain⟨msg,Ik⟩:=ex (xD old l j);have xi:=zS m (cX V);have Q:aE (∀W,aD ax 87 #[ae d o b0,ar #[J R m.k,J R m.to,J R m.fr,J R m.n,ae f m.data.length s]] W λe w'=>∃E aC,e=aB (ae E (nD old m).length aC)/\(∀W,b2 W d old->b2 W f m.data->b2 W E (nD old m))/\(nD old m).length<=aC/\(∀b,eh E b->eh d b\/eh f b)/\au W w'):=hid (λW=>by have h:=am9 o n b0 d f s old m W xi.1 z hc0 (S _ (a.at 1)).2;rw[z]at h;exact h);rw[Ik]at acF r a;obtain⟨bs,iB⟩:=ex (nD old m);rw[iB]at acF Q r;have Y:=hid r;clear r hpl x xi Ik iB;go_step;refine ah ?_;refine dV ?_;refine aG (ay (ab ⟨B,(0+j*5),af⟩)) (b4 24 73 5 (bj 35) (bj 37) aa ee aw B 0 (l.length) c2 j ((0+j*5)) (by show ae aK _ _=_;rw[cq]) aa hlt aa) ?_;refine aG _ (eW 73 (bj 39) aa B (0+j*5) aa _ (dh _ (a.at 1)) fO aa aw) ?_;refine bl a #[J R 0,J R 0,J R 0,J R 0,ae af 0 0] (λep eU a=>?_);refine a' a 0 (ar #[J R m.k,J R m.to,J R m.fr,J R m.n,ae f m.data.length s]) (λgF a=>?_);refine gV ?_;refine bh a 0 #[J R m.k,J R m.to,J R m.fr,J R m.n,ae f m.data.length s] ?_;refine aR (Q _) ?_;rintro e hI ⟨P,dx,rfl,AU,hlc,hloc,g⟩;have ala:=hid AU;have akM:=hid hloc;clear AU hloc;replace a:=a.aI g;refine aU ?_;refine e7 a #[ae P bs.length dx] 22 (λKj jK a=>?_);refine aR (UX F _ 0 1 y P dx msg bs _ ad (a.has 2) ((a.aW 0).cell 0 aa) (ala _ (X.out.aI a.only) (S _ (a.at 3)).1) (λb hb=>(akM b hb).elim (a.old 2 U aa b) (λh=>a.ne (i:=3) (j:=2) aa aa aS b (P7 b h)))) ?_;rintro e ke ⟨Oz,rfl,bM⟩;replace a:=a.eP 2 bM;refine aU ?_;refine ah ?_;refine pad (j:Int) 1 ((j+1:Nat):Int) ?_;refine bX ?_;go_wp2_with fail;go_roundw;case rel=>exact⟨j+1,_,ad,aa,by rw[Y.out];exact a.pick [2,3,4,5]⟩
   case measure=>simp[bQ]<;>omega
  .have cb:¬(j:Int)<(l.length:Int):=ad;have td:j=l.length:=ad;rw[td,au5]at a;have x:=H.out;go_step;refine ah ?_;refine hX ?_;refine bR a [1] (λi _=>match i with|1=>ar (aM a6 (ij (l.flatMap (nD old))) [])|_=>a7) (λ_ _=>emp) (λ_=>[]) (λ|1=>[0]|3=>[2]|_=>[]) (λ_=>[]) [0,1,2,3,5] (λD=>?_);refine aJ ?_;refine dK (λO _ a=>zq F y (l.flatMap (nD old)) O ad (a.at 0)) ?_;refine aJ ?_;refine aL _ (λ_ _ a=>mH aa aa (a.aW 0) aoA (by rw[bH];simp[aM,g2.len]) aw (by simp only[aM,kE,iK,hB,g2.len];kernel_rfl)) ?_;refine aL (ai ao) (λ_ _ _=>by(refine(yC 23 5 32 _ _ 23 aa sK mm aw aw _ g2.l aa aa (by rw[<-G];exact g2.len) g2.len).trans ?_;rw[G];simp)) ?_;refine bW λk9 a=>?_;replace a:=a.drop 4;refine b5 ?_;refine a' a 3 (ar #[J R 0,J R 0]) (λmj a=>?_);refine an ?_;go_wp2_with fail;refine c' (v:=_) (gG aa _ _ _ _ _ _ _ aa (a.aW 3) x5 aa aw) aa (⟨aa,a.only⟩)
def FE{F:Type}(l:List F)(h:l.length=32):∃a cW bk iu hJ A B C D E b c d e f g i j k m n o p q r s t u v w x z,l=[a,cW,bk,iu,hJ,A,B,C,D,E,b,c,d,e,f,g,i,j,k,m,n,o,p,q,r,s,t,u,v,w,x,z]:=by
 rcases l with _|⟨a,l⟩;·grind
 rcases l with _|⟨cW,l⟩;·grind
 rcases l with _|⟨bk,l⟩;·grind
 rcases l with _|⟨iu,l⟩;·grind
 rcases l with _|⟨hJ,l⟩;·grind
 rcases l with _|⟨A,l⟩;·exact absurd h bg
 rcases l with _|⟨B,l⟩;·exact absurd h bg
 rcases l with _|⟨C,l⟩;·exact absurd h bg
 rcases l with _|⟨D,l⟩;·exact absurd h bg
 rcases l with _|⟨E,l⟩;·exact absurd h bg
 rcases l with _|⟨b,l⟩;·exact absurd h bg
 rcases l with _|⟨c,l⟩;·exact absurd h bg
 rcases l with _|⟨d,l⟩;·exact absurd h bg
 rcases l with _|⟨e,l⟩;·exact absurd h bg
 rcases l with _|⟨f,l⟩;·exact absurd h bg
 rcases l with _|⟨g,l⟩;·exact absurd h bg
 rcases l with _|⟨i,l⟩;·exact absurd h bg
 rcases l with _|⟨j,l⟩;·exact absurd h bg
 rcases l with _|⟨k,l⟩;·exact absurd h bg
 rcases l with _|⟨m,l⟩;·exact absurd h bg
 rcases l with _|⟨n,l⟩;·exact absurd h bg
 rcases l with _|⟨o,l⟩;·exact absurd h bg
 rcases l with _|⟨p,l⟩;·exact absurd h bg
 rcases l with _|⟨q,l⟩;·exact absurd h bg
 rcases l with _|⟨r,l⟩;·exact absurd h bg
 rcases l with _|⟨s,l⟩;·exact absurd h bg
 rcases l with _|⟨t,l⟩;·exact absurd h bg
 rcases l with _|⟨u,l⟩;·exact absurd h bg
 rcases l with _|⟨v,l⟩;·exact absurd h bg
 rcases l with _|⟨w,l⟩;·exact absurd h bg
 rcases l with _|⟨x,l⟩;·exact absurd h bg
 rcases l with _|⟨z,l⟩;·exact absurd h bg
 rcases l with _|⟨y,l⟩;·grind
 .exact absurd h bg
def oV(bs:List Int):dq:=⟨ij bs,s8 bs⟩
def awr(o n)(g h)w:(Instr.build 26 #[(0,J R o),(1,J R n),(2,ar (aM a6 g.l [])),(3,ar (aM a6 h.l []))]).run ax w=bf (eL o n g h (ae af 0 0)) w:=by obtain⟨a,bE⟩:=g;obtain⟨b,cr⟩:=h;obtain⟨c,cW,bk,iu,hJ,F,G,H,I,K,d,e,f,i,j,k,m,p,q,r,s,t,u,v,x,y,z,A,B,C,D,E,rfl⟩:=FE a bE;obtain⟨L,M,bG,da,hW,oz,J3,J4,Bx,J5,N,O,P,Q,S,T,U,V,W,X,Y,Z,ahh,ahi,ahj,ahk,ahl,ahm,ahn,aho,ahp,ahq,rfl⟩:=FE b cr;kernel_rfl
def am3{o}{a:Act}{w b cW bk iu p q eF eK}(ho:o.op=.build 26 #[(0,b),(1,cW),(2,bk),(3,iu)])(c:a.eval b=J R p)(h1:a.eval cW=J R q)(d:a.eval bk=ar (aM a6 (ij eF) []))(f:a.eval iu=ar (aM a6 (ij eK) [])):
 (bA a.eval o).run ax w=bf (dc (eL p q (oV eF) (oV eK) (ae af 0 0))) w:=by
 have h:=awr p q (oV eF) (oV eK) w;unfold bA;simp only[ho,gx];have e:(#[(0,b),(1,cW),(2,bk),(3,iu)].map λ(i,x)=>(i,a.eval x))=(#[(0,J R p),(1,J R q),(2,ar (aM a6 (oV eF).l [])),(3,ar (aM a6 (oV eK).l []))]:Array (Nat×aP)):=by grind[oV]
 rw[e,h];rfl
def aoO(b0 c1)(b d A)c(old new)ms w(ho:old.length<=1048576)(hn:new.length<=1048576)(hold:b2 w b old)(j:qb w b)(l:b2 w d new)(k:qb w d)(i:cU w A ms)(hv:ms.length<=20)(h:∀m∈ms,m.data.length<=140737488355328):
 aD ax 26 #[ae b old.length b0,ae d new.length c1,ae A ms.length c] w λe w'=>∃f g t,e=aB (eL (old.length:Int) (new.length:Int) (oV old) (oV new) (ae f ms.length g))/\cf w w' t/\ia t f g ms:=by
 have o:=hid i;have s:=hid hold;have q:=hid j;have r:=hid l;have p:=hid k;have x:=hid hv;have n:=hid h;clear i hold j l k h hv;go_enter func26,ntmps26;have a:=a8 w;go_step;refine ah ?_;refine bl a (bb 0 0 dq.zero dq.zero (ae af 0 0)) (λD w1 a=>?_);refine ah ?_;refine v5 ?_;refine e7 a #[ae b old.length b0] 22 (λB E a=>?_);refine bC (TP _ b b0 old _ 22 ad (a.aW 0) (s.out.aI a.only) (q.out.aI a.only)) a (λF a=>?_);refine ag ?_;refine e7 a #[ae d new.length c1] 22 (λC G a=>?_);refine bC (TP _ d c1 new _ 22 ad (a.aW 0) (r.out.aI a.only) (p.out.aI a.only)) a (λH a=>?_);refine aG (ar _) (am3 aa aa aa aa aa) ?_;refine ag ?_;refine aR (JB _ _ _ _ _ A c ms _ aa (o.out.aI a.only) (dT x aS) n) ?_;rintro e I ⟨aK,c2,z,rfl,y,u⟩;replace a:=a.new _ y;refine aU ?_;refine a' a 3 (ar (bb (old.length:Int) (new.length:Int) (oV old) (oV new) (ae aK ms.length c2))) (λJ a=>?_) (hk:=by show 0+gw (bb _ _ _ _ _)<=_;simp only[bH];decide) (hz:=by show _=ab (gw (bb _ _ _ _ _));rw[bH];rfl) (h1:=(sc aa)) (hc:=xr);refine an ?_;go_wp2_with fail;refine c' (v:=_) (gG aa _ _ _ _ _ _ _ aa (a.aW 3) GG aa (by rw[bH];rfl)) aa (⟨aK,c2,z,aa,a.fresh 0,u⟩)
section
def ud(bt:Int):List PanicEntry:=[{v:=vc 47 (J R bt),recovered:=ao}]
def se(bt:Int)(v:aP):Ending:=if bt=0 then aB v else Kr (ud bt)
def um:bq:=⟨λ_=>False,λ_=>False,λ_ _ _ _ h=>h⟩
section
variable {P:ew} {ops:Array cS} {rest:List cS} {Q:Exit->Act->aQ->Prop} {o:cS} {a:Act} {w:aQ}
def T2{f:FuncId}{args:Array aP}{b:aQ->Prop}{ch:List rV}(hc:aD P f args w (λe w'=>e=Kr ch/\b w'))(h:∀w',b w'->Q (tD ch) a w')(hr:(bA a.eval o).run P w=bf (.enter f args) w:=by(go_simp;try with_reducible rfl))(c:c9 o (cZ ops a.tmps)=true:=by kernel_rfl):
 cN P ops Q (o::rest) a w:=by
 unfold cN;rw[if_pos c];refine b1 ?_;unfold iy;rw[hr];exact Kp hc (λe w' ⟨d,h1⟩=>aH)
def NJ{t:TypeId}{u:aP}{x:Operand}(h:Q (tD [{v:=vc t u,recovered:=ao}]) a w)(ho:o.op=.panic x:=by rfl)(hx:a.eval x=vc t u:=by rfl)(b:c9 o (cZ ops a.tmps)=true:=by kernel_rfl):
 cN P ops Q (o::rest) a w:=by
 have hr:(bA a.eval o).run P w=.halt (.panic (vc t u)) w:=by unfold bA;simp[ho,hx,run_panic_iface]
 unfold cN;rw[if_pos b];refine b1 ?_;unfold iy;rw[hr];exact h
end
def Gg {P:ew} {ops:Array cS} {Q:Exit->Act->aQ->Prop} {aq:aQ} {FX:Nat->Prop} {bm:List bq} {f:Nat} {w:aQ} {a0:Act} (QP:List rV->aQ->Prop) (e:∀c a w,a.defers=a0.defers->QP c w->Q (tD c) a w) (b:ak aq FX w bm) (LE:List Nat) (bU:Nat->ff->aP) (out:(Nat->ff)->Nat->bq) (ins rd look:Nat->List Nat) (fin:List Nat)
 (kq:∀us,cL P ops Q (oP ops) LE bU aq FX bm out ins rd fin QP us 0 ops.toList a0)
 (hloc:Cf look out LE:=by(repeat' (first|exact trivial|refine And.intro (λus g h=>?_) ?_|rfl|(simp(disch:=decide) only[h];done))))
 (hm:P.follows .mixedOrders=true:=by kernel_rfl) (hk:EI ops (oP ops) (yO ops)=true:=by kernel_rfl) (hsz:((dQ ops.size).all λi=>match oP ops i with|some d=>decide (d<a0.tmps.size)|none=>LE.contains i)=true:=by kernel_rfl) (hs:F5 bm.length ops.size (yO ops) LE ins rd look fin=true:=by kernel_rfl):
 (Code.region f ops az).wp P Q a0 w:=wp_region_any hm (UQ b (yO ops) (oP ops) LE bU out ins rd look fin _ hk hsz hs e (hloc.spec) kq)
section
variable {P:ew} {ops:Array cS} {rest:List cS} {Q:Exit->Act->aQ->Prop} {o:cS} {a bu:Act} {aq:aQ} {FX:Nat->Prop} {dst:Nat->Option Tmp} {LE:List Nat} {bU:Nat->ff->aP} {bm:List bq} {out:(Nat->ff)->Nat->bq} {ins rd:Nat->List Nat} {fin:List Nat} {QP:List rV->aQ->Prop} {us:Nat->ff} {i:Nat}
def EF {f:FuncId} {args:Array aP} (hc:∀w (Fr:List bq),ak aq FX w ((ins i).map (dk bm out us)++((rd i).map (dk bm out us)++Fr))->aD P f args w λe w'=>∃ch,e=Kr ch/\QP ch w') (h:cL P ops Q dst LE bU aq FX bm out ins rd fin QP us (i+1) rest bu)
 (hr:∀w,(bA a.eval o).run P w=bf (.enter f args) w:=by(intro _;go_simp;try with_reducible rfl)) (hi:decide (i∈LE)=true:=by kernel_rfl) (hw:c9 o (cZ ops a.tmps)=true:=by kernel_rfl) (ha:a.put o.dst (bU i (us i))=bu:=by((try simp only[Act.put,List.setIfInBounds_toArray,List.set_cons_zero,List.set_cons_succ]);rfl)):cL P ops Q dst LE bU aq FX bm out ins rd fin QP us i (o::rest) a:=by
 refine w8 (λw Fr b K d=>?_) h hi ha;rw[if_pos hw];unfold iy;rw[hr];exact Kp (hc w Fr b) (λe w' ⟨ch,g,c⟩=>aH)
end
section
variable {hP S pl jp:aP} {bd pk o n st nx:Int} {g h:dq} {bI:Bool}
def q8(S pl jp:aP)(st nx:Int)(bI:Bool):List Value:=[S,pl,jp,J R st,J R nx,ai bI]
def tZ(hP:aP)(bd pk o n:Int):List Value:=[hP,J R bd,J R pk,J R o,J R n]
def hC(hP:aP)(bd pk:Int)(o n:Int)(g h:dq)(S pl jp:aP)(st nx:Int)(bI:Bool):Array Value:=(tZ hP bd pk o n++((g.l.map a6++h.l.map a6)++q8 S pl jp st nx bI)).toArray
theorem Q8(g h:dq):(g.l.map a6++h.l.map a6).length=64:=by simp[g.len,h.len]
def pr:(hC hP bd pk o n g h S pl jp st nx bI).size=75:=by simp[hC,tZ,q8,g.len,h.len]
def r6{j:Nat}{v}(hv:(tZ hP bd pk o n)[j]?=ab v):(hC hP bd pk o n g h S pl jp st nx bI)[j]?=ab v:=by grind[hC]
def fy{j v}(hv:(q8 S pl jp st nx bI)[j]?=ab v):(hC hP bd pk o n g h S pl jp st nx bI)[69+j]?=ab v:=by rw[hC,List.getElem?_toArray,pn (by show 5<=_;omega),show 69+j -(tZ hP bd pk o n).length=64+j by show 69+j -5=_;omega,pn (by grind[Q8]),Q8,tV];exact hv
def amu{v}:lay (hC hP bd pk o n g h S pl jp st nx bI) 2 [J R v]=hC hP bd v o n g h S pl jp st nx bI:=bc
def Q7{j}{T:List aP}{v a d b i c f}(p:j<6)(m:(q8 S pl jp st nx bI).take j++(v::(q8 S pl jp st nx bI).drop (j+1))=q8 a d b i c f):lay (hC hP bd pk o n g h S pl jp st nx bI) (69+j) [v]=hC hP bd pk o n g h a d b i c f:=by
 have e:=zb [v] (tZ hP bd pk o n++((g.l.map a6++h.l.map a6)++(q8 S pl jp st nx bI).take j)) ((q8 S pl jp st nx bI).drop j) (by show 1<=_;rw[List.length_drop];show 1<=6 -j;omega)
 have k:(tZ hP bd pk o n++((g.l.map a6++h.l.map a6)++(q8 S pl jp st nx bI).take j)).length=69+j:=by rw[c7,c7,Q8,List.length_take];show 5+(64+gI j 6)=_;omega
 rw[k]at e;have h1:tZ hP bd pk o n++((g.l.map a6++h.l.map a6)++(q8 S pl jp st nx bI).take j)++(q8 S pl jp st nx bI).drop j=tZ hP bd pk o n++((g.l.map a6++h.l.map a6)++q8 S pl jp st nx bI):=by grind[oa]
 grind[hC,List.drop_drop,List.length_singleton]
def LI{v}:lay (hC hP bd pk o n g h S pl jp st nx bI) 72 [J R v]=hC hP bd pk o n g h S pl jp v nx bI:=Q7 (T:=[]) (j:=3) aS aa
def YD{v}:lay (hC hP bd pk o n g h S pl jp st nx bI) 73 [J R v]=hC hP bd pk o n g h S pl jp st v bI:=Q7 (T:=[]) (j:=4) aS aa
def YE{v}:lay (hC hP bd pk o n g h S pl jp st nx bI) 74 [ai v]=hC hP bd pk o n g h S pl jp st nx v:=Q7 (T:=[]) (j:=5) aS aa
def Ma{L A B C:List aP}(cv:L=A++(B++C)){k m}(a:A.length=k)(b:B.length=m):L.toArray.extract k (k+m)=B.toArray:=aH
def amt:(hC hP bd pk o n g h S pl jp st nx bI).extract 3 (3+(bb o n g h S).size)=bb o n g h S:=by rw[bH];exact Ma (A:=[hP,J R bd,J R pk]) (B:=_) (C:=[pl,jp,J R st,J R nx,ai bI]) (by simp[tZ,q8]) aa (by simp[g.len,h.len])
def YC:(hC hP bd pk o n g h S pl jp st nx bI).extract 5 (5+(aM a6 g.l []).size)=aM a6 g.l []:=by
 have h1:(aM a6 g.l []).size=32:=by simp[aM,g.len]
 rw[h1];exact Ma (A:=tZ hP bd pk o n) (B:=_) (C:=h.l.map a6++q8 S pl jp st nx bI) bg aa (by simp[g.len])
def Hn:(hC hP bd pk o n g h S pl jp st nx bI).extract 37 (37+(aM a6 h.l []).size)=aM a6 h.l []:=by
 have h1:(aM a6 h.l []).size=32:=by simp[aM,h.len]
 rw[h1];exact Ma (A:=tZ hP bd pk o n++g.l.map a6) (B:=_) (C:=q8 S pl jp st nx bI) bg (by simp[tZ,g.len]) (by simp[h.len])
end
structure pT where
 B:Nat
 dj:Nat
 dC:Nat
 bd:Nat
 o:Nat
 n:Nat
 p:Nat
 c:Nat
 first:Nat
 id:Nat
 g1:dq
 g2:dq
 A:Option bT
 ms:List bO
def cH(E:pT)(pk st nx:Int)(bI:Bool):bq:=aj E.dj (hC (de E.B) (E.bd:Int) pk (E.o:Int) (E.n:Int) E.g1 E.g2 (ae E.A E.ms.length E.c) (ay (ab ⟨E.p,0,af⟩)) (ay (ab ⟨E.dC,0,af⟩)) st nx bI) 135
def cY(E:pT)(j:pg)(A:Option bT)(c:Nat):bq:=qx E.dC E.B E.first E.bd (E.id:Int) j A c
end
def Jr w:
 aD ax 226 #[J R 0] w λe w'=>e=aB (bn #[])/\au w w':=by
 go_enter Tryz.func226,Tryz.ntmps226;have a:=a8 w;go_step;refine ah ?_;refine ag ?_;refine pk (ai ao) ?_;refine an ?_;go_wp2_with fail;first|go_end0|refine bodyPost_ret (results_none rfl _ _ _) rfl ?_
 exact⟨aa,a.only⟩
def Jq bt(h:bt≠0)w:
 aD ax 226 #[J R bt] w λe w'=>e=Kr (ud bt)/\au w w':=by
 go_enter Tryz.func226,Tryz.ntmps226;have a:=a8 w;go_step;refine ah ?_;refine ag ?_;refine aG (ai az) (by(go_simp;try simp[h])) ?_;refine b5 ?_;refine pk (vc 47 (J R bt)) ?_;refine NJ ?_;exact⟨aa,aa,a.only⟩
def afb E(pk st nx)bI m d(a q)(aq w)FX F(k:dY d)(l:d.down=ao)(n:a+q<=d.bytes.length)(b:ak aq FX w [cH E pk st nx bI,aN E.B m d,F]):
 aD ax 225 #[ay (ab ⟨E.dj,0,af⟩),gT ((a:Int),(q:Int))] w λe w'=>∃g h,e=aB (ae g q h)/\ak aq FX w' [cx g h (pK d a q),cH E (max pk (q:Int)) st nx bI,aN E.B m d,F]:=by
 have o:=hid k;have p:=hid l;have r:=hid n;clear k l n;go_enter func225,ntmps225;go_step;refine ah ?_;refine bL b (ar #[J R (a:Int),J R (q:Int)]) (λx w1 b=>?_);refine hX ?_;refine bR b [5] (λi u=>match i with|5=>bn #[ae u.A q u.c,J R 0]|_=>a7) (λf=>λ|5=>cx ((f 5).A) ((f 5).c) (pK d a q)|_=>emp) (λ_=>[]) (λ|3=>[1]|4=>[0]|5=>[2]|_=>[]) (λ|5=>[5]|_=>[]) [0,1,2,3,9] (λf=>?_);refine da ?_;refine dl 0 0 ?_ (hv:=r6 (j:=0) aa);refine eM 0 #[J R (a:Int),J R (q:Int)] ?_;refine di (λt Fr b=>(aac E.B m d a q t (b.has 0) o p r).mono ?_) ?_;·rintro e G ⟨g,h,rfl,s⟩;exact⟨{A:=g,c:=h},aa,b.new _ s⟩
 refine oz ?_;refine bW λz b=>?_;generalize (f 5).A=v at b⊢;generalize (f 5).c=y at b⊢;refine b5 ?_;refine bC (Jr _) b (λC b=>?_);refine o9 ?_;refine pl b 1 2 ?_ (hv:=r6 (j:=2) aa);refine v2 ?_;refine aG _ (by(go_simp;try rfl)) ?_;refine v2 ?_;refine a' b 1 (J R (max pk (q:Int))) (λD b=>?_) (hk:=by show _+1<=_;rw[pr];decide) (hc:=amu);refine ah ?_;refine dU ?_;go_wp2_with fail;go_ret;exact⟨_,_,aa,b.pick [4,1,2,3]⟩
def T4{s}(d:1<=s):∀{f o n x},x∈rB s f o n->∃a q:Nat,x=((a:Int),(q:Int))/\o<=a/\1<=q/\q<=s/\a+q<=o+n
 |0,_,_,_,h=>(fQ h).elim
 |f+1,o,n,x,h=>by
  rw[rB]at h;split at h;·exact(fQ h).elim
  .rcases gy.1 h with rfl|h;·exact⟨o,gI s n,aa,ad,ad,ad,ad⟩
   .obtain⟨a,q,e,h1,b,c,g⟩:=T4 d h;exact⟨a,q,e,ad,b,c,ad⟩
def jI(d:dR)(l:List (Int×Int)):List Int:=l.flatMap (λx=>pK d x.1.toNat x.2.toNat)
def lM(pk:Int)(l:List (Int×Int)):Int:=l.foldl (λk x=>max k x.2) pk
theorem apM d l x:jI d (l++[x])=jI d l++pK d x.1.toNat x.2.toNat:=by simp[jI]
theorem apO pk l x:lM pk (l++[x])=max (lM pk l) x.2:=by simp[lM]
def HI{d}(a:dY d){s}(b:1<=s):∀(f o n),o+n<=d.bytes.length->(jI d (rB s f o n)).length<=n
 |0,_,_,_=>by simp[rB,jI]
 |f+1,o,n,h=>by
  rw[rB];split;·simp[jI]
  .have c:=HI a b f (o+gI s n) (n -gI s n) ad;have e:jI d (((o:Int),((gI s n:Nat):Int))::rB s f (o+gI s n) (n -gI s n))=pK d o (gI s n)++jI d (rB s f (o+gI s n) (n -gI s n)):=rfl;rw[e,c7,Bc a ad];omega
def apN d l j:(jI d (l.take j)).length<=(jI d l).length:=by grind[jI,oa]
def axD{a:Type}{l:List a}{j x}(h:l[j]?=ab x):l.take (j+1)=l.take j++[x]:=by grind[gq]
theorem apC l:(rj l).length=l.length*2:=by
 induction l with
 |nil=>rfl
 |cons x l a=>grind[rj]
def apB{l j x}(hx:l[j]?=ab x):∀(i) v,([J R x.1,J R x.2]:List aP)[i]?=ab v->(rj l)[j*2+i]?=ab v:=λi v hv=>by
 obtain⟨a,rfl⟩:=eJ.1 hx;have e:rj l=rj (l.take j)++([J R l[j].1,J R l[j].2]++rj (l.drop (j+1))):=by grind[List.drop_eq_getElem_cons,oa,rj]
 grind[apC,tV]
def apP E(pk st nx)bI m d(a q n)r msg(aq w)FX F(C:dY d)(Z:d.down=ao)(H:a+q<=d.bytes.length)(iO:1<=E.bd)(hb2:E.bd<=65536)(hq:a+q<=1048576)(G:msg.length<=1099511627776)(f:ak aq FX w [cH E pk st nx bI,iE n r msg,aN E.B m d,F]):
 aD ax 224 #[ay (ab ⟨E.dj,0,af⟩),ay (ab ⟨n,0,af⟩),gT ((a:Int),(q:Int))] w λe w'=>e=aB (bn #[])/\∃Gn,ak aq FX w' [cH E (lM pk (hU E.bd a q)) st nx bI,iE n Gn (msg++jI d (hU E.bd a q)),aN E.B m d,F]:=by
 have Q:=hid C;have mn:=hid Z;have S:=hid H;obtain⟨l,o⟩:=ex (hU E.bd a q);have zS:=hid (λ(x:Int×Int) (h:x∈l)=>by rw[<-o]at h;exact T4 (s:=_) iO h);have jJ:(jI d l).length<=q:=by rw[<-o];exact HI C iO q a q H
 have fY:l.length<=1048576:=by rw[<-o];have h:=T3 E.bd iO q a q (b9 _);have h2:(q+E.bd -1)/E.bd<=q:=(by rw[alZ ad];have:=tW q iO;omega);unfold hU;omega
 have U:=hid (λW=>axn a q E.bd ⟨ad,ad⟩ ad (by have h2:(q+E.bd -1)/E.bd<=q:=(by rw[alZ ad];have:=tW q iO;omega);omega) W);rw[o]at U⊢;have lW:=hid jJ;have akr:=hid (show d.bytes.length<=d.bytes.length from b9 _);clear C Z H o jJ akr;go_enter func224,ntmps224;go_step;refine ah ?_;refine bL f (ar #[J R (a:Int),J R (q:Int)]) (λen w1 f=>?_);refine cy ?_;refine bR f [5] (λi u=>match i with|5=>ae u.A l.length u.c|_=>a7) (λp=>λ|5=>ba ((p 5).A) l.length ((p 5).c) 35 2 (rj l)|_=>emp) (λ_=>[]) (λ|0=>[0]|4=>[1]|_=>[]) (λ|5=>[5]|_=>[]) [0,1,2,3,4,10] (λp=>?_);refine eM 0 #[J R (a:Int),J R (q:Int)] ?_;refine da ?_;refine dl 0 1 ?_ (hv:=r6 (j:=1) aa);refine di (λwl Fr f=>(U _).mono ?_) ?_;·rintro e dr ⟨aA,aC,rfl,fi,g⟩;exact⟨{A:=aA,c:=aC},aa,f.lA g fi⟩
 refine bG ?_;refine bW λaT f=>?_;generalize (p 5).A=L at f⊢;generalize (p 5).c=V at f⊢;have T:=f.pk [1,2,3,5,4];go_wp2_with fail;go_loopw [15] (λK wr=>∃(j:Nat) (r:Option bT),j<=l.length/\K=J R (j:Int)/\ak aq FX wr [cH E (lM pk (l.take j)) st nx bI,iE n r (msg++jI d (l.take j)),aN E.B m d,ba L l.length V 35 2 (rj l),F]) (λK wr=>l.length -(bQ K).toNat);case atStart=>exact⟨0,r,cC _,aa,by rw[show msg++jI d _=msg from by simp[jI]];exact T⟩
 case round=>
  clear f T;obtain⟨j,Oz,hj,rfl,f⟩:=hrel;by_cases hlt:j<l.length
  .have cb:(j:Int)<(l.length:Int):=ad;obtain⟨x,hx⟩:∃x,l[j]?=ab x:=⟨_,cE hlt⟩;obtain⟨k,c4,rfl,o0,nI,C8,acs⟩:=zS x (cX hx);obtain⟨z,Y⟩:=(f.atR 3).at ad;have pf:=hid (apB hx);have y6:=axD hx;have akA:aE (lM pk (l.take (j+1))=max (lM pk (l.take j)) (c4:Int)):=hid (by grind[apO]);have D:jI d (l.take (j+1))=jI d (l.take j)++pK d k c4:=by grind[apM]
   have k6:=apN d l (j+1);rw[D,c7]at k6;have zP:=hid D;have N:=hid Y;obtain⟨A8,I⟩:=ex (lM pk (l.take j));obtain⟨ad2,y⟩:=ex (msg++jI d (l.take j));have G:ad2.length+(pK d k c4).length<=70368744177664:=by rw[<-y,c7];have:=lW.out;omega
   obtain⟨bs,t⟩:=ex (pK d k c4);have hbl:bs.length=c4:=by rw[<-t];exact Bc Q (by have:=S.out;omega)
   rw[I,y]at f;rw[t]at G;have qZ:=hid I;have n1:=hid y;have P:=hid t;have lg:=hid hbl;clear hx Y y6 D k6 I y t hbl;go_step;refine ah ?_;refine dV ?_;refine aG (ay (ab ⟨z,(0+j*2),af⟩)) (b4 176 35 2 (bj 13) (bj 15) aa underlying176 aw z 0 (l.length) V j ((0+j*2)) (by show ae L _ _=_;rw[N]) aa hlt aa) ?_;refine aG _ (eW 35 (bj 17) aa z (0+j*2) aa _ (Row.range (f.atR 3) N (λi v hi=>by rw[Nat.zero_add];exact pf i v hi)) Tryz.underlying35 aa aw) ?_;refine bl f #[J R 0,J R 0] (λfl bF f=>?_);refine a' f 0 (ar #[J R (k:Int),J R (c4:Int)]) (λb8 f=>?_);refine gV ?_;refine bh f 0 #[J R (k:Int),J R (c4:Int)] ?_;have O:=(f.pk [1,3,0,2,4,5]).t2;refine aR (afb E _ st nx bI m d k c4 _ _ _ _ Q mn (by have:=S.out;omega) O) ?_;rintro e cA ⟨M,X,rfl,f⟩;clear O;rw[P]at f;replace f:=f.iu;refine aU ?_;refine e7 f #[ae M c4 X] 22 (λahO cR f=>?_);refine aR ((by have h:=UX n _ 0 1 Oz M X ad2 bs _ G (f.has 5) (by rw[lg.out];exact(f.aW 0).cell 0 aa) (f.lK 1).1 (λb hb=>f.ne (i:=1) (j:=5) aa aa aS b hb);exact h)) ?_;rintro e dz ⟨ay0,rfl,bM⟩;replace f:=f.eP 5 bM;refine aU ?_;refine ah ?_;refine pad (j:Int) 1 ((j+1:Nat):Int) ?_;refine bX ?_;go_wp2_with fail;go_roundw;case rel=>exact⟨j+1,_,ad,aa,by rw[akA.out,zP.out,qZ.out,<-kD,n1.out,P.out];exact f.pick [2,5,3,6,7]⟩
   case measure=>simp[bQ]<;>omega
  .have cb:¬(j:Int)<(l.length:Int):=ad;have td:l.take j=l:=tU ad;rw[td]at f;go_step;refine ah ?_;refine bX ?_;go_wp2_with fail;first|go_end0|refine bodyPost_ret (results_none rfl _ _ _) rfl ?_
   exact⟨aa,_,f.pick [0,1,2,4]⟩
def kf(d:dR)(a:Nat)(bs:List Int):Int×dR:=if(mA d a bs).1≠0 then mA d a bs else mz (mA d a bs).2
def uk{bt}(h:bt≠0)v:se bt v=Kr (ud bt):=if_neg h
def aag E(pk st nx)bI m d a c du bs(aq w)FX F(t:dY d)(v:d.down=ao)(x:a+bs.length<=d.bytes.length)(s:d.cache.length<=1000000000)(b:ak aq FX w [cH E pk st nx bI,cx c du bs,aN E.B m d,F]):
 aD ax 228 #[ay (ab ⟨E.dj,0,af⟩),J R (a:Int),ae c bs.length du] w λe w'=>e=se (kf d a bs).1 (bn #[])/\∃k,ak aq FX w' [cH E pk st nx bI,cx c du bs,aN E.B k (kf d a bs).2,F]:=by
 have K:=hid t;have L:=hid v;have M:=hid x;have I:=hid s;have z:=aae t x v s;obtain⟨c1,hc1⟩:=ex ((mA d a bs).1);obtain⟨g,u⟩:=ex ((mA d a bs).2);have hfw:mA d a bs=(c1,g):=aH;rw[u]at z;have N:=hid z
 have o:aE (∀W p,Has W (aN E.B m d)->aX W p #[ae c bs.length du] 22->b2 W c bs->¬(aN E.B m d).cT p->(∀y,eh c y->¬(aN E.B m d).cT y)->aD ax 291 #[de E.B,J R (a:Int),ae (ab ⟨p,0,af⟩) 1 1] W λe w'=>e=aB (J R c1)/\∃k,Turned W w' (aN E.B m d) (aN E.B k g)):=hid (λW p h P hb h1 O=>by have q:=aah E.B m d a p c du bs W h K L M I (P.cell 0 aa) h1 hb O;rw[hc1,u]at q;exact q);have n:=hid hfw;clear t v x s z hc1 u hfw;by_cases hz:c1=0
 .subst hz;have hwr:kf d a bs=mz g:=by unfold kf;rw[n];rfl
  rw[hwr];have l:=hid (λm W h=>ZC E.B m g W h N);obtain⟨c2,hc2⟩:=ex ((mz g).1);obtain⟨Q,G⟩:=ex ((mz g).2);rw[hc2,G]at l⊢;clear hwr hc2 G;by_cases hz2:c2=0
  .subst hz2;go_enter VM,Wf;go_step;refine ah ?_;refine v3 ?_;refine pl b 0 0 ?_ (hv:=r6 (j:=0) aa);refine v2 ?_;refine e7 b #[ae c bs.length du] 22 (λD w1 b=>?_);refine aR (o _ _ (b.has 3) (b.aW 0) (b.lK 2).1 (λh=>b.ne (i:=0) (j:=3) aa aa aS _ aa h) (b.ne (i:=2) (j:=3) aa aa aS)) ?_;rintro e U ⟨rfl,A,f⟩;replace b:=b.eP 3 f;refine aU ?_;refine bC (Jr _) b (λV b=>?_);refine jk ?_;refine pl b 1 0 ?_ (hv:=r6 (j:=0) aa);refine aR (l _ _ (b.has 3)) ?_;rintro e X ⟨rfl,C,f⟩;replace b:=b.eP 3 f;refine aU ?_;refine bC (Jr _) b (λY b=>?_);refine an ?_;go_wp2_with fail;first|go_end0|refine bodyPost_ret (results_none rfl _ _ _) rfl ?_
   exact⟨aa,C,b.pick [1,2,3,4]⟩
  .rw[uk hz2];go_enter VM,Wf;go_step;refine ah ?_;refine v3 ?_;refine pl b 0 0 ?_ (hv:=r6 (j:=0) aa);refine v2 ?_;refine e7 b #[ae c bs.length du] 22 (λD Z b=>?_);refine aR (o _ _ (b.has 3) (b.aW 0) (b.lK 2).1 (λh=>b.ne (i:=0) (j:=3) aa aa aS _ aa h) (b.ne (i:=2) (j:=3) aa aa aS)) ?_;rintro e dz ⟨rfl,A,f⟩;replace b:=b.eP 3 f;refine aU ?_;refine bC (Jr _) b (λdv b=>?_);refine jk ?_;refine pl b 1 0 ?_ (hv:=r6 (j:=0) aa);refine aR (l _ _ (b.has 3)) ?_;rintro e H ⟨rfl,C,f⟩;replace b:=b.eP 3 f;refine aU ?_;refine T2 (Jq c2 hz2 _) (λH r=>?_);replace b:=b.aI r;exact⟨aa,aa,C,b.pick [1,2,3,4]⟩
 .have hwr:kf d a bs=(c1,g):=by unfold kf;rw[if_pos (by rw[n];exact hz),n]
  rw[hwr];show aD _ _ _ _ λe w'=>e=se c1 _/\∃k,ak _ _ w' [_,_,aN E.B k g,_];rw[uk hz];go_enter VM,Wf;go_step;refine ah ?_;refine v3 ?_;refine pl b 0 0 ?_ (hv:=r6 (j:=0) aa);refine v2 ?_;refine e7 b #[ae c bs.length du] 22 (λD S b=>?_);refine aR (o _ _ (b.has 3) (b.aW 0) (b.lK 2).1 (λh=>b.ne (i:=0) (j:=3) aa aa aS _ aa h) (b.ne (i:=2) (j:=3) aa aa aS)) ?_;rintro e T ⟨rfl,A,f⟩;replace b:=b.eP 3 f;refine aU ?_;refine T2 (Jq c1 hz _) (λH r=>?_);replace b:=b.aI r;exact⟨aa,aa,A,b.pick [1,2,3,4]⟩
def Q6 E(pk st)(nx:Nat)bI(m:nT)(d:dR)(aq w)FX F(hn:nx<=1048576)(a:ak aq FX w [cH E pk st (nx:Int) bI,F]):
 aD ax 229 #[ay (ab ⟨E.dj,0,af⟩)] w λe w'=>e=aB (bn #[])/\ak aq FX w' [cH E pk 1 ((nx+1:Nat):Int) ao,F]:=by
 go_enter func229,ntmps229;go_step;refine ah ?_;refine v4 ?_;refine a' a 0 (J R 1) (λw1 a=>?_) (hk:=by show _+1<=_;rw[pr];decide) (hc:=LI);refine v2 ?_;refine a' a 0 (ai ao) (λb a=>?_) (hk:=by show _+1<=_;rw[pr];decide) (hc:=YE);refine jk ?_;refine pl a 0 73 ?_ (hv:=fy (j:=4) aa);refine pad _ 1 ((nx+1:Nat):Int) ?_;refine v2 ?_;refine a' a 0 (J R ((nx+1:Nat):Int)) (λc a=>?_) (hk:=by show _+1<=_;rw[pr];decide) (hc:=YD);refine an ?_;go_wp2_with fail;first|go_end0|refine bodyPost_ret (results_none rfl _ _ _) rfl ?_
 exact⟨aa,a⟩
def asD E (nx cu of k:Nat) j o p m d f du ds (aq w) FX F (A:j.next=(nx:Int)) (q:kC d E.first E.bd) (v:d.down=ao) (z:d.cache.length<=1000000000) (x:ds.length<=E.bd) (t:nx<18446744073709551616/\E.id<18446744073709551616/\cu<=4611686018427387903/\of<=4611686018427387903)
 (I:ak aq FX w [cY E j o p,aN E.B m d,cx f du ds,aj k #[ae f ds.length du] 22,F]):
 aD ax 227 #[ay (ab ⟨E.dC,0,af⟩),J R (cu:Int),J R (of:Int),ae (ab ⟨k,0,af⟩) 1 1] w λe w'=>∃c l n,e=aB (J R (jG d E.first E.bd E.id j nx cu of ds).1)/\ak aq FX w' [cY E (jG d E.first E.bd E.id j nx cu of ds).2.1 c l,aN E.B n (jG d E.first E.bd E.id j nx cu of ds).2.2,cx f du ds,aj k #[ae f ds.length du] 22,F]:=by
 have a:=I.star;have h1:=q.eK;refine(adi E.dC E.B E.first E.bd E.id nx cu of j o p m d ds _ w (a.has 0) A q v z x t (λW g=>?_)).mono λe w' ⟨y,c,l,n,u⟩=>⟨c,l,n,y,ak.fx (a.DA 0 aa u)⟩;have C:=(a.aW 2).cell 0 aa;have hb:=(a.lK 1).1;exact(Hv k f du ds W (g.cell C (λh=>a.ne (i:=2) (j:=0) aa aa aS k aa h)) (hb.only g (λb off e=>a.ne (i:=1) (j:=0) aa aa aS b ⟨_,_,e⟩)) ad).mono (λe w' ⟨c,l,h1,r,s⟩=>⟨c,l,h1,Row.nk r,s⟩)
def asC E (nx cu of:Nat) j f i m d (aq w) FX F (t:j.next=(nx:Int)) (s:kC d E.first E.bd) (p:d.down=ao) (r:d.cache.length<=1000000000) (n:nx<18446744073709551616/\E.id<18446744073709551616/\cu<=4611686018427387903/\of<=4611686018427387903)
 (I:ak aq FX w [cY E j f i,aN E.B m d,F]):
 aD ax 227 #[ay (ab ⟨E.dC,0,af⟩),J R (cu:Int),J R (of:Int),ae af 0 0] w λe w'=>∃a b c,e=aB (J R (jG d E.first E.bd E.id j nx cu of []).1)/\ak aq FX w' [cY E (jG d E.first E.bd E.id j nx cu of []).2.1 a b,aN E.B c (jG d E.first E.bd E.id j nx cu of []).2.2,F]:=by
 have h:=I.star;exact(adi _ _ _ _ _ nx cu of j f i m d [] _ w (h.has 0) t s p r (cC _) n (λW g=>(anU W).mono (λe w' ⟨a,b,h1,k,l⟩=>⟨a,b,h1,Row.nk k,l⟩))).mono λe w' ⟨q,a,b,c,o⟩=>⟨a,b,c,q,ak.fx (h.DA 0 aa o)⟩
def avH E(pk st)(nx:Nat)bI m d a j i k(aq w)FX F(u:dY d)(x:d.down=ao)(y:a+j.last.data.length<=d.bytes.length)(s:d.cache.length<=1000000000)(U:nx<=1048576)(hh:j.has=az)(L:j.last.off=(a:Int))(K:j.last.data.length<=140737488355328)(b:ak aq FX w [cH E pk st (nx:Int) bI,cY E j i k,aN E.B m d,F]):
 aD ax 144 #[ay (ab ⟨E.dj,0,af⟩)] w λe w'=>e=se (kf d a j.last.data).1 (bn #[])/\((kf d a j.last.data).1=0->∃c,ak aq FX w' [cH E pk 1 ((nx+1:Nat):Int) ao,cY E j i k,aN E.B c (kf d a j.last.data).2,F])/\((kf d a j.last.data).1≠0->∃c,ak aq FX w' [cH E pk st (nx:Int) bI,cY E j i k,aN E.B c (kf d a j.last.data).2,F]):=by
 have Q:=hid u;have S:=hid x;have T:=hid y;have P:=hid s;have D:aE (∀W,Has W (cY E j i k)->aD ax 58 #[ay (ab ⟨E.dC,0,af⟩)] W λe w'=>∃A I,e=aB (bn #[ar (recC j.last A I),ai az])/\cf W w' (cx A I j.last.data)):=hid (λW h=>by have q:=Tl E.dC E.B E.first E.bd (E.id:Int) j i k W h K;rw[hh]at q;exact q);obtain⟨bt,r⟩:=ex ((kf d a j.last.data).1);obtain⟨n,v⟩:=ex ((kf d a j.last.data).2);have H:aE (∀W l du F m,ak aq FX W [cH E pk st (nx:Int) bI,cx l du j.last.data,aN E.B m d,F]->aD ax 228 #[ay (ab ⟨E.dj,0,af⟩),J R (a:Int),ae l j.last.data.length du] W λe w'=>e=se bt (bn #[])/\∃c,ak aq FX w' [cH E pk st (nx:Int) bI,cx l du j.last.data,aN E.B c n,F]):=hid (λW l du F m h=>by have q:=aag E pk st nx bI m d a l du j.last.data aq W FX F u x y s h;rw[r,v]at q;exact q);rw[r,v];have G:=hid L;clear u x y s hh r v K L;by_cases hz:bt=0
 .subst hz;go_enter Tryz.func144,Tryz.ntmps144;go_step;refine ah ?_;refine v3 ?_;refine pl b 0 71 ?_ (hv:=fy (j:=2) aa);refine aR (D _ (b.has 1)) ?_;rintro e w1 ⟨f,g,rfl,p⟩;replace b:=b.new _ p;refine aU ?_;refine v3 ?_;refine bl b #[J aF 0,J aF 0,J R 0,J R 0,ae af 0 0] (λM X b=>?_);refine a' b 0 (ar #[J aF j.last.seq,J aF j.last.id,J R j.last.cur,J R j.last.off,ae f j.last.data.length g]) (λY b=>?_);refine hX ?_;refine bR b [7] (λ_ _=>a7) (λo=>λ|7=>aN E.B (o 7).m n|_=>emp) (λ|7=>[4]|_=>[]) (λ|4=>[0]|6=>[0]|7=>[2,1]|_=>[]) (λ|7=>[7]|_=>[]) [0,1,2,3,5,13] (λo=>?_);refine hW ?_;refine aL (J _ (a:Int)) (λ_ _ b=>by(rw[<-G.out];exact fH aa aa (b.aW 0) aa aw)) ?_;refine aJ ?_;refine dl 0 4 ?_;refine di (λz Fr b=>((H z f g (bP Fr) m (b.t3.pick [1,2,0,3]))).mono ?_) ?_;·rintro e dr ⟨rfl,c,b⟩;exact⟨{m:=c},aa,ak.iF [aN _ c n,cH E pk st _ bI,cx f g _] Fr (b.pick [2,0,1,3])⟩
  refine bW λZ b=>?_;generalize (o 7).m=V at b⊢;refine ah ?_;refine ag ?_;have C:=(b.pk [2,0,1,3,4,5]).t1;refine aR (Q6 E pk st nx bI m d _ _ _ _ ad C) ?_;rintro e cA ⟨rfl,b⟩;clear C;replace b:=b.cW;refine xT ?_;go_wp2_with fail;first|go_end0|refine bodyPost_ret (results_none rfl _ _ _) rfl ?_
  exact⟨rfl,λ_=>⟨_,b.pick [0,3,5,4]⟩,λh=>(h aa).elim⟩
 .have hz':=hz;go_enter Tryz.func144,Tryz.ntmps144;go_step;refine ah ?_;refine v3 ?_;refine pl b 0 71 ?_ (hv:=fy (j:=2) aa);refine aR (D _ (b.has 1)) ?_;rintro e cR ⟨f,g,rfl,p⟩;replace b:=b.new _ p;refine aU ?_;refine v3 ?_;refine bl b #[J aF 0,J aF 0,J R 0,J R 0,ae af 0 0] (λM dz b=>?_);refine a' b 0 (ar #[J aF j.last.seq,J aF j.last.id,J R j.last.cur,J R j.last.off,ae f j.last.data.length g]) (λdv b=>?_);refine hX ?_;refine Gg (λch w'=>ch=ud bt/\∃c Fr,ak aq FX w' ([cH E pk st (nx:Int) bI,cx f g j.last.data,aN E.B c n,cY E j i k,F]++Fr)) (λch a w' had O=>by obtain⟨rfl,c,Fr,b⟩:=O;exact⟨had,(uk hz _).symm,λh=>(hz h).elim,λ_=>⟨c,(ak.tail _ Fr b).pick [0,3,2,4]⟩⟩) b [7] (λ_ _=>a7) (λ_=>λ|7=>um|_=>emp) (λ_=>[]) (λ|4=>[0]|6=>[0]|7=>[2,1,4,3,5]|_=>[]) (λ_=>[]) [0,1,2,3,4,5,13] (λo=>?_);refine hW ?_;refine aL (J _ (a:Int)) (λ_ _ b=>by(rw[<-G.out];exact fH aa aa (b.aW 0) aa aw)) ?_;refine aJ ?_;refine dl 0 4 ?_;refine EF (λz Fr b=>(H z f g _ m (ak.tail [cH E pk st (nx:Int) bI,cx f g j.last.data,aN E.B m d] _ b)).mono λe w' ⟨N,c,b⟩=>⟨_,N.trans (uk hz _),aa,c,Fr,ak.iF [cH E pk st (nx:Int) bI,cx f g j.last.data,aN E.B c n] ([cY E j i k,F]++Fr) b⟩) ?_;refine pN (λeU b=>?_);exact(b.at (t:=um) 6).elim
structure kz (d cI:dR):Prop where
 ok:dY cI
 size:cI.size=d.size
 cnt:cI.cnt=d.cnt
theorem kz.refl{d}(h:dY d):kz d d:=⟨h,aa,aa⟩
theorem kz.trans{d cI a}(h:kz d cI)(k:kz cI a):kz d a:=⟨k.ok,k.size.trans h.size,k.cnt.trans h.cnt⟩
def kz.len{d cI}(h:kz d cI)(a:dY d):cI.bytes.length=d.bytes.length:=by rw[h.ok.len,a.len,h.size,h.cnt]
def ayA d i b:(jL d i b).2.size=d.size/\(jL d i b).2.cnt=d.cnt:=by
 unfold jL;split;·simp
 .split;·simp
  .split;·exact⟨aa,aa⟩
   .split<;>exact⟨aa,aa⟩
def avd(d:dR)(o n):(o6 d.size o n).length<=o+n+1:=by
 rw[o6,hB,Em];unfold eu;split;·omega
 .exact Nat.succ_le_succ (dT (Nat.sub_le _ _) (dT (Nat.div_le_self _ _) ad))
def aad{d o bs}(a:dY d)(hn:o+bs.length<=d.bytes.length)(f:d.down=ao)(i:d.cache.length<=1000000000):
 kz d (mA d o bs).2/\((mA d o bs).1=0->(mA d o bs).2.down=ao/\(mA d o bs).2.cache.length<=d.cache.length+(o+bs.length+1)):=by
 have hsm:d.bytes.length<=1048576:=by rw[a.len];exact a.small
 have j:=avd d o bs.length
 have key:∀(l:List (Nat×Nat×Nat)) (k:Nat) (cI:dR),Et d cI k->d.cache.length+k+l.length<1073741824->kz d (l.foldl (mM o bs) (0,cI)).2/\((l.foldl (mM o bs) (0,cI)).1=0->(l.foldl (mM o bs) (0,cI)).2.down=ao/\(l.foldl (mM o bs) (0,cI)).2.cache.length<=d.cache.length+(k+l.length)):=by
  intro l;induction l with
  |nil=>intro k cI h _;exact⟨⟨h.ok,h.size,h.cnt⟩,λ_=>⟨h.down,h.dM⟩⟩
  |cons x l m=>
   intro k cI h hk;rw[jQ]at hk;rw[List.foldl_cons];by_cases hx:(mM o bs (0,cI) x).1=0;·have g:=h.step ad hx;grind
   .rw[Oh l _ hx];refine⟨?_,λh=>absurd h hx⟩;have e:mM o bs (0,cI) x=jL cI (x.1:Int) (lB (nj cI x.1) (x.2.1 -x.1*cI.size) ((bs.drop (x.2.1 -o)).take x.2.2)):=bc;rw[e];have c:=ayA cI (x.1:Int) (lB (nj cI x.1) (x.2.1 -x.1*cI.size) ((bs.drop (x.2.1 -o)).take x.2.2));exact⟨UW h.ok _ _ (by have:=h.dM;omega),c.1.trans h.size,c.2.trans h.cnt⟩
 have h:=key (o6 d.size o bs.length) 0 d ⟨a,aa,aa,f,b9 _⟩ ad;exact⟨h.1,λb=>⟨(h.2 b).1,dT (h.2 b).2 ad⟩⟩
def aaa{d}(e:dY d):kz d (mz d).2/\((mz d).1=0->(mz d).2.down=ao/\(mz d).2.cache=[]):=by
 unfold mz;by_cases h:kn d 0≠0;·grind[kz.refl]
 .rw[if_neg h];have a:=T6 e (λ_=>az);refine⟨⟨⟨a.mL,a.vA,a.len,a.small,a.cache,a.dM,a.wr⟩,rfl,rfl⟩,λ_=>⟨?_,aa⟩⟩;have b:=DL h;unfold kn at b;split at b;·omega
  .rename_i c;show d.down=ao;simpa using c
def ag3{d o bs}(b:dY d)(hn:o+bs.length<=d.bytes.length)(c:d.down=ao)(e:d.cache.length<=1000000000):
 kz d (kf d o bs).2/\((kf d o bs).1=0->(kf d o bs).2.down=ao/\(kf d o bs).2.cache=[]):=by
 have h1:=aad b hn c e;unfold kf;by_cases h:(mA d o bs).1≠0;·grind
 .rw[if_neg h];have a:=aaa h1.1.ok;exact⟨h1.1.trans a.1,a.2⟩
def asF{d first bd}(a:kC d first bd):44+bd<=we d bd:=by have h:=Nat.lt_mul_div_succ (bd+43) (show 0<d.size from a.dev.mL);unfold we gE;rw[Nat.mul_comm];omega
theorem Q9{d first bd id nx cu of j ds}(c:kC d first bd)(f:d.down=ao)(g:d.cache.length<=1000000000)(k:ds.length<=bd):
 kz d (jG d first bd id j nx cu of ds).2.2/\((jG d first bd id j nx cu of ds).1=0->(jG d first bd id j nx cu of ds).2.2.down=ao/\(jG d first bd id j nx cu of ds).2.2.cache=[]/\(jG d first bd id j nx cu of ds).2.1=⟨aF.wrap ((nx:Int)+1),⟨(nx:Int),(id:Int),(cu:Int),(of:Int),ds⟩,az⟩)/\((jG d first bd id j nx cu of ds).1≠0->(jG d first bd id j nx cu of ds).2.1=j):=by
 have hb1:=c.eF
 have hroom:uJ d first bd (nx%2)+(vG nx id cu of ds).length<=d.bytes.length:=by have h1:=c.room (i:=nx%2) ad;have a:44+bd<=we d bd:=asF c;rw[ZP];omega
 have h1:=aad c.dev hroom f g;unfold jG;by_cases h:(mA d (uJ d first bd (nx%2)) (vG nx id cu of ds)).1≠0;·grind
 .simp only[if_neg h];have a:=aaa h1.1.ok;by_cases b:(mz (mA d (uJ d first bd (nx%2)) (vG nx id cu of ds)).2).1≠0;·simp only[if_pos b];exact⟨h1.1.trans a.1,λe=>absurd e b,λ_=>trivial⟩
  .simp only[if_neg b];exact⟨h1.1.trans a.1,λ_=>⟨(a.2 (DL b)).1,(a.2 (DL b)).2,trivial⟩,λe=>absurd aa e⟩
def kC.yQ{d cI first bd}(h:kC d first bd)(e:kz d cI):kC cI first bd:=⟨e.ok,h.eF,h.eK,by rw[e.size,e.cnt];exact h.fits⟩
def Uz bt(h:bt=0)w:aD ax 226 #[J R bt] w λe w'=>e=aB (bn #[])/\au w w':=by subst h;exact Jr w
def k1(d:dR)(bB:bO):List Int:=if bB.k=1 then pK d bB.fr.toNat bB.n.toNat else bB.data
def AD(pk:Int)(bB:bO):Int:=if bB.k=1 then max pk bB.n else pk
structure Gr (d:dR) (bd:Nat) (bB:bO) (t:Nat):Prop where
 cQ:bB.to=(t:Int)
 LX:bB.k=1->∃f q:Nat,bB.fr=(f:Int)/\bB.n=(q:Int)/\f+q<=d.bytes.length
 hD:(k1 d bB).length<=bd
 fit:t+(k1 d bB).length<=d.bytes.length
def l2(d:dR)(first bd id jn nx t:Nat)(j:pg)(bs:List Int):Int×pg×dR:=
 if(jG d first bd id j jn nx t bs).1≠0 then jG d first bd id j jn nx t bs
 else((kf (jG d first bd id j jn nx t bs).2.2 t bs).1,(jG d first bd id j jn nx t bs).2.1,(kf (jG d first bd id j jn nx t bs).2.2 t bs).2)
def apG E(pk st)(nx:Nat)bI m d(jn t:Nat)j N S bB G(aq w)FX F(bZ:sS G E.p E.bd E.ms)(ru:E.ms.length<=1048575)(fN:(ec E.bd E.ms).length<=1048576)(hst:(ec E.bd E.ms)[nx]?=ab bB)(hch:Gr d E.bd bB t)(j8:kC d E.first E.bd)(cV:d.down=ao)(gK:d.cache.length<=1000000000)(vL:j.next=(jn:Int))(h8:jn<18446744073709551616/\E.id<18446744073709551616)(g:ak aq FX w [cH E pk st (nx:Int) bI,cY E j N S,aN E.B m d,G,F]):
 aD ax 143 #[ay (ab ⟨E.dj,0,af⟩)] w λe w'=>e=se (l2 d E.first E.bd E.id jn nx t j (k1 d bB)).1 (bn #[])/\((l2 d E.first E.bd E.id jn nx t j (k1 d bB)).1=0->∃s v o,ak aq FX w' [cH E (AD pk bB) 1 ((nx+1:Nat):Int) ao,cY E (l2 d E.first E.bd E.id jn nx t j (k1 d bB)).2.1 s v,aN E.B o (l2 d E.first E.bd E.id jn nx t j (k1 d bB)).2.2,G,F])/\((l2 d E.first E.bd E.id jn nx t j (k1 d bB)).1≠0->∃s v o,ak aq FX w' [cH E (AD pk bB) st (nx:Int) bI,cY E (l2 d E.first E.bd E.id jn nx t j (k1 d bB)).2.1 s v,aN E.B o (l2 d E.first E.bd E.id jn nx t j (k1 d bB)).2.2,G,F]):=by
 have vh:aE (∀W,G.p W->aD ax 139 #[ay (ab ⟨E.p,0,af⟩),J R (nx:Int)] W λe w'=>∃(q:Nat) (s:Option bT) (v:Nat),e=aB (bn #[ar #[J R (nx:Int),J R (q:Int),J R bB.k,J R (t:Int),J R bB.fr,J R bB.n,ae s bB.data.length v],ai az])/\cf W w' (cx s v bB.data)):=hid (λW h=>(aeV E.p nx E.bd E.ms W (bZ W h) ru (eJ.1 hst).1).mono λe w' ⟨q,s,v,m2,h1,h2,h3,h4⟩=>by rw[hst]at h2;cases h2;rw[hch.cQ]at h1;exact⟨q,s,v,h1,cf.TO h4 h3⟩);have hbl:=hch.hD;have na:=hch.fit;have Ms:=hch.LX;have T:=Q9 (id:=E.id) (nx:=jn) (cu:=nx) (of:=t) (j:=j) j8 cV gK hbl;have eV:=hid j8.dev;have mn:=hid cV;have k6:t<=1048576:=by have:=j8.dev.small;rw[<-j8.dev.len]at this;omega
 have hR:nx<=1048576:=dT (Nat.le_of_lt (eJ.1 hst).1) fN;obtain⟨bs,iB⟩:=ex (k1 d bB);rw[iB]at hbl na T⊢;have rY:=hid iB;have vg:aE (∀W N S H du iw F m,ak aq FX W [cY E j N S,aN E.B m d,cx H du bs,aj iw #[ae H bs.length du] 22,F]->aD ax 227 #[ay (ab ⟨E.dC,0,af⟩),J R (nx:Int),J R (t:Int),ae (ab ⟨iw,0,af⟩) 1 1] W λe w'=>∃s v o,e=aB (J R (jG d E.first E.bd E.id j jn nx t bs).1)/\ak aq FX w' [cY E (jG d E.first E.bd E.id j jn nx t bs).2.1 s v,aN E.B o (jG d E.first E.bd E.id j jn nx t bs).2.2,cx H du bs,aj iw #[ae H bs.length du] 22,F]):=hid (λW N S H du iw F m h=>asD E jn nx t iw j N S m d H du bs aq W FX F vL j8 cV gK hbl ⟨h8.1,h8.2,ad,ad⟩ h);unfold l2;obtain⟨bt,y,z,hr⟩:∃bt y z,jG d E.first E.bd E.id j jn nx t bs=(bt,y,z):=⟨_,_,_,aa⟩;rw[hr]at vg T⊢;simp only at vg T⊢;obtain⟨T,abv,_⟩:=T;have arl:=T.len j8.dev;have sR:aE (bt=0->∀W H du F m pk,ak aq FX W [cH E pk st (nx:Int) bI,cx H du bs,aN E.B m z,F]->aD ax 228 #[ay (ab ⟨E.dj,0,af⟩),J R (t:Int),ae H bs.length du] W λe w'=>e=se (kf z t bs).1 (bn #[])/\∃o,ak aq FX w' [cH E pk st (nx:Int) bI,cx H du bs,aN E.B o (kf z t bs).2,F]):=hid (λh0 W H du F m pk h=>aag E pk st nx bI m z t H du bs aq W FX F T.ok (abv h0).1 ad aH h);obtain⟨c2,I,hr2⟩:∃c2 I,kf z t bs=(c2,I):=⟨_,_,aa⟩;rw[hr2]at sR⊢;simp only at sR⊢;obtain⟨ce,IM,aL,r⟩:∃ce IM aL,(if bt≠0 then(bt,y,z)else(c2,y,I))=(ce,IM,aL):=⟨_,_,_,aa⟩;rw[r];simp only;have ca:=hid r;clear T abv arl hr hr2 iB hch hst bZ ru j8 cV gK fN r;by_cases hk:bB.k=1
 .obtain⟨f,q,hf,K,CR⟩:=Ms hk;have CL:bs=pK d f q:=by rw[<-rY,k1,if_pos hk,hf,K];rfl
  have X:aE (AD pk bB=max pk (q:Int)):=hid (by grind[AD]);rw[hk,hf,K]at vh;have abc:bs.length=q:=by rw[CL];exact Bc eV CR
  have p3:=hid CL;have akn:=hid abc;clear CL abc hf K hk Ms;go_enter Tryz.func143,Tryz.ntmps143;go_step;refine cy ?_;refine bR g [8,12,13] (λi u=>match i with|8=>bn #[ar #[J R (nx:Int),J R (u.c2:Int),J R 1,J R (t:Int),J R (f:Int),J R (q:Int),ae u.A bB.data.length u.c],ai az]|12=>ay (ab ⟨u.b,0,af⟩)|_=>a7) (λl=>λ|8=>cx ((l 8).A) ((l 8).c) bB.data|12=>aj ((l 12).b) #[J R 0,J R 0,J R 0,J R 0,J R 0,J R 0,ae af 0 0] 253|13=>aj ((l 12).b) #[J R (nx:Int),J R ((l 8).c2:Int),J R 1,J R (t:Int),J R (f:Int),J R (q:Int),ae (l 8).A bB.data.length (l 8).c] 253|_=>emp) (λ|13=>[17]|_=>[]) (λ|3=>[0]|7=>[0]|8=>[3]|_=>[]) (λ|8=>[8]|12=>[12]|13=>[8,12]|_=>[]) [0,1,2,3,4,13,18] (λl=>?_);refine da ?_;refine dl 0 70 ?_ (hv:=fy (j:=1) aa);refine da ?_;refine dl 0 73 ?_ (hv:=fy (j:=4) aa);refine di (λx Fr g=>(vh x (g.at 0)).mono ?_) ?_;·rintro e U ⟨q,s,v,rfl,hF⟩;exact⟨{A:=s,c:=v,c2:=q},aa,g.new _ hF⟩
  refine da ?_;refine rh _ ?_;refine fS _ ?_;refine aJ ?_;refine bW λw1 g=>?_;generalize (l 8).A=C at g⊢;generalize (l 8).c=D at g⊢;generalize (l 8).c2=anh at g⊢;generalize (l 12).b=cp at g⊢;refine gV ?_;refine pl g 6 6 ?_;refine cB ?_;refine bh g 6 #[J R 1,J R (t:Int),J R (f:Int),J R (q:Int),ae C bB.data.length D] ?_;refine bC (Bk (t:Int) (f:Int) (q:Int) C bB.data.length D _) g (λaT g=>?_);refine v3 ?_;refine bl g #[J R 0,J R 0] (λen bF g=>?_);refine a' g 0 (ar #[J R (f:Int),J R (q:Int)]) (λb8 g=>?_);refine ag ?_;refine ah ?_;refine hX ?_;refine bR g [4] (λi u=>match i with|4=>ae u.A q u.c|_=>a7) (λl=>λ|4=>both (cH E (max pk (q:Int)) st (nx:Int) bI) (cx (l 4).A (l 4).c (pK d f q))|_=>emp) (λ|4=>[1]|_=>[]) (λ|3=>[0]|4=>[3]|_=>[]) (λ|4=>[4]|_=>[]) [0,2,3,4,5,6,7,12] (λl=>?_);refine da ?_;refine eM 0 #[J R (f:Int),J R (q:Int)] ?_;refine di (λx Fr g=>((afb E pk st nx bI m d f q aq x FX (bP Fr) eV mn CR g.t2)).mono ?_) ?_;·rintro e U ⟨s,v,rfl,g⟩;exact⟨{A:=s,c:=v},aa,(ak.iF [both _ _,aN _ m d] Fr ((g.pick [1,0,2,3]).star))⟩
  refine aJ ?_;refine bW λcA g=>?_;generalize (l 4).A=L at g⊢;generalize (l 4).c=P at g⊢;replace g:=(g.pk [7,0,1,2,3,4,6]).fx;rw[<-p3]at g;have AS:=akn.out;subst AS;by_cases hz:bt=0
  .have Y:=hid hz;clear hz;have B7:=sR Y;have r:=ca.out;rw[if_neg (λh=>h Y)]at r;simp only[pq]at r;obtain⟨bE,cr,fz⟩:=r;subst bE;subst cr;subst fz;replace g:=(g.pk [3,4,0,1,2,5,6,7]).star;refine cy ?_;refine bR g [12,13,14] (λi u=>match i with|12=>ae (ab ⟨u.b,0,af⟩) 1 1|13=>J R bt|_=>a7) (λl=>λ|12=>aj ((l 12).b) #[ae L bs.length P] 22|13=>both (cY E y (l 13).A (l 13).c) (aN E.B (l 13).m z)|_=>emp) (λ|13=>[0]|_=>[]) (λ|3=>[1]|7=>[1]|10=>[6]|13=>[2,19]|_=>[]) (λ|12=>[12]|13=>[13]|_=>[]) [1,2,3,4,5,6,19,20,21] (λl=>?_);refine da ?_;refine dl 0 71 ?_ (hv:=fy (j:=2) aa);refine da ?_;refine dl 0 73 ?_ (hv:=fy (j:=4) aa);refine bG ?_;refine dl 0 3 ?_;refine aJ ?_;refine kH _ 22 ?_;refine di (λx Fr g=>(vg x N S L P (l 12).b (bP Fr) m (g.t3.fx)).mono ?_) ?_;·rintro e U ⟨s,v,o,rfl,g⟩;exact⟨{A:=s,c:=v,m:=o},aa,ak.iF [both _ _,cx _ _ bs,aj _ _ 22] Fr g.star⟩
   refine dK (λ_ _ _=>(Uz bt Y _)) ?_;refine bW λcR g=>?_;generalize (l 12).b=OO at g⊢;generalize (l 13).A=M at g⊢;generalize (l 13).c=Q at g⊢;generalize (l 13).m=Df at g⊢;replace g:=g.drop 8;replace g:=(g.pk [7,0,1,2,3,4,5,6]).fx;by_cases hz2:c2=0
   .have Z:=hid hz2;clear hz2;refine cy ?_;refine bR g [7] (λ_ _=>a7) (λl=>λ|7=>aN E.B (l 7).m I|_=>emp) (λ|7=>[1]|_=>[]) (λ|5=>[7]|7=>[2,3]|_=>[]) (λ|7=>[7]|_=>[]) [0,2,3,4,5,6,7,8,16] (λl=>?_);refine oz ?_;refine dl 0 3 ?_;refine aJ ?_;refine di (λx Fr g=>((B7 x L P (bP Fr) Df (max pk (bs.length:Int)) (g.t3.pick [1,2,0,3]))).mono ?_) ?_;·rintro e U ⟨r,o,g⟩;rw[Z]at r;subst r;exact⟨{m:=o},aa,ak.iF [aN _ o I,cH E _ st _ bI,cx _ _ bs] Fr (g.pick [2,0,1,3])⟩
    refine bW λdz g=>?_;generalize (l 7).m=atl at g⊢;refine ah ?_;refine ag ?_;have HB:=(g.pk [1,0,2,3,4,5,6,7,8]).t1;refine aR (Q6 E _ st nx bI m d _ _ _ _ ad HB) ?_;rintro e dv ⟨rfl,g⟩;clear HB;replace g:=g.cW;refine xT ?_;go_wp2_with fail;first|go_end0|refine bodyPost_ret (results_none rfl _ _ _) rfl ?_
    exact⟨by rw[Z];rfl,λ_=>⟨_,_,_,by rw[X.out];exact g.pick [0,1,8,4,5]⟩,λh=>(h Z).elim⟩
   .have V:=hid hz2;clear hz2;refine cy ?_;refine Gg (λch w'=>ch=ud c2/\∃o Fr,ak aq FX w' ([cH E (max pk (bs.length:Int)) st (nx:Int) bI,cx L P bs,aN E.B o I,cY E y M Q,G,F]++Fr)) (λch a w' had K=>by obtain⟨rfl,o,Fr,g⟩:=K;exact⟨had,(uk V _).symm,λh=>(V h).elim,λ_=>⟨_,_,o,by rw[X.out];exact(ak.tail _ Fr g).pick [0,3,2,4,5]⟩⟩) g [7] (λ_ _=>a7) (λ_=>λ|7=>um|_=>emp) (λ_=>[]) (λ|5=>[7]|7=>[2,3,1,0,5,6]|_=>[]) (λ_=>[]) [0,1,2,3,4,5,6,7,8,16] (λl=>?_);refine oz ?_;refine dl 0 3 ?_;refine aJ ?_;refine EF (λx Fr g=>(B7 x L P (bP ([cY E y M Q,G,F]++Fr)) Df (max pk (bs.length:Int)) (ak.tail [cH E (max pk (bs.length:Int)) st (nx:Int) bI,cx L P bs,aN E.B Df z] ([cY E y M Q,G,F]++Fr) g)).mono λe w' ⟨r,o,g⟩=>⟨_,r.trans (uk V _),aa,o,Fr,ak.iF [cH E (max pk (bs.length:Int)) st (nx:Int) bI,cx L P bs,aN E.B o I] ([cY E y M Q,G,F]++Fr) g⟩) ?_;refine pN (λeU g=>?_);exact(g.at (t:=um) 9).elim
  .have O:=hid hz;clear hz;have r:=ca.out;rw[if_pos O.out]at r;simp only[pq]at r;obtain⟨bE,cr,fz⟩:=r;subst bE;subst cr;subst fz;replace g:=(g.pk [3,4,0,1,2,5,6,7]).star;refine cy ?_;refine Gg (λch w'=>ch=ud bt/\∃s v o Fr,ak aq FX w' [both (cY E y s v) (aN E.B o z),cH E (max pk (bs.length:Int)) st (nx:Int) bI,G,F,bP Fr]) (λch a w' had K=>by obtain⟨rfl,s,v,o,Fr,g⟩:=K;exact⟨had,(uk O _).symm,λh=>(O h).elim,λ_=>⟨_,_,o,by rw[X.out];exact g.fx.pick [2,0,1,3,4]⟩⟩) g [12,13,14] (λi u=>match i with|12=>ae (ab ⟨u.b,0,af⟩) 1 1|13=>J R bt|_=>a7) (λl=>λ|12=>aj ((l 12).b) #[ae L bs.length P] 22|13=>both (cY E y (l 13).A (l 13).c) (aN E.B (l 13).m z)|14=>um|_=>emp) (λ|13=>[0]|_=>[]) (λ|3=>[1]|7=>[1]|10=>[6]|13=>[2,19]|14=>[20,1,4,5]|_=>[]) (λ|12=>[12]|13=>[13]|_=>[]) [1,2,3,4,5,6,19,20,21] (λl=>?_);refine da ?_;refine dl 0 71 ?_ (hv:=fy (j:=2) aa);refine da ?_;refine dl 0 73 ?_ (hv:=fy (j:=4) aa);refine bG ?_;refine dl 0 3 ?_;refine aJ ?_;refine kH _ 22 ?_;refine di (λx Fr g=>(vg x N S L P (l 12).b (bP Fr) m (g.t3.fx)).mono ?_) ?_;·rintro e U ⟨s,v,o,rfl,g⟩;exact⟨{A:=s,c:=v,m:=o},aa,ak.iF [both _ _,cx _ _ bs,aj _ _ 22] Fr g.star⟩
   refine EF (λx Fr g=>(Jq bt O x).mono λe w' ⟨r,g9⟩=>⟨_,r,aa,_,_,_,Fr,ak.tail _ Fr (g.aI g9)⟩) ?_;refine pN (λgF g=>?_);exact(g.at (t:=um) 8).elim
 .have CL:bs=bB.data:=by rw[<-rY,k1,if_neg hk]
  have X:aE (AD pk bB=pk):=hid (by grind[AD]);have jx:=hid (λA c W=>Bl bB.k (t:Int) bB.fr bB.n A bB.data.length c W hk);rw[<-CL]at vh jx;clear CL Ms hk;go_enter Tryz.func143,Tryz.ntmps143;go_step;refine cy ?_;refine bR g [8,12,13] (λi u=>match i with|8=>bn #[ar #[J R (nx:Int),J R (u.c2:Int),J R bB.k,J R (t:Int),J R bB.fr,J R bB.n,ae u.A bs.length u.c],ai az]|12=>ay (ab ⟨u.b,0,af⟩)|_=>a7) (λl=>λ|8=>cx ((l 8).A) ((l 8).c) bs|12=>aj ((l 12).b) #[J R 0,J R 0,J R 0,J R 0,J R 0,J R 0,ae af 0 0] 253|13=>aj ((l 12).b) #[J R (nx:Int),J R ((l 8).c2:Int),J R bB.k,J R (t:Int),J R bB.fr,J R bB.n,ae (l 8).A bs.length (l 8).c] 253|_=>emp) (λ|13=>[17]|_=>[]) (λ|3=>[0]|7=>[0]|8=>[3]|_=>[]) (λ|8=>[8]|12=>[12]|13=>[8,12]|_=>[]) [0,1,2,3,4,13,18] (λl=>?_);refine da ?_;refine dl 0 70 ?_ (hv:=fy (j:=1) aa);refine da ?_;refine dl 0 73 ?_ (hv:=fy (j:=4) aa);refine di (λx Fr g=>(vh x (g.at 0)).mono ?_) ?_;·rintro e U ⟨q,s,v,rfl,hF⟩;exact⟨{A:=s,c:=v,c2:=q},aa,g.new _ hF⟩
  refine da ?_;refine rh _ ?_;refine fS _ ?_;refine aJ ?_;refine bW λhI g=>?_;generalize (l 8).A=C at g⊢;generalize (l 8).c=D at g⊢;generalize (l 8).c2=anh at g⊢;generalize (l 12).b=cp at g⊢;refine gV ?_;refine pl g 6 6 ?_;refine cB ?_;refine bh g 6 #[J R bB.k,J R (t:Int),J R bB.fr,J R bB.n,ae C bs.length D] ?_;refine bC (jx C D _) g (λjK g=>?_);refine v3 ?_;refine bl g #[J R 0,J R 0] (λen ke g=>?_);refine a' g 0 (ar #[J R 0,J R 0]) (λk9 g=>?_);refine ayI ?_;by_cases hz:bt=0
  .have Y:=hid hz;clear hz;have B7:=sR Y;have r:=ca.out;rw[if_neg (λh=>h Y)]at r;simp only[pq]at r;obtain⟨bE,cr,fz⟩:=r;subst bE;subst cr;subst fz;replace g:=(g.pk [2,3,0,1,4,5,6,7]).star;refine cy ?_;refine bR g [12,13,14] (λi u=>match i with|12=>ae (ab ⟨u.b,0,af⟩) 1 1|13=>J R bt|_=>a7) (λl=>λ|12=>aj ((l 12).b) #[ae C bs.length D] 22|13=>both (cY E y (l 13).A (l 13).c) (aN E.B (l 13).m z)|_=>emp) (λ|13=>[0]|_=>[]) (λ|3=>[2]|7=>[2]|10=>[6]|13=>[5,19]|_=>[]) (λ|12=>[12]|13=>[13]|_=>[]) [1,2,3,4,5,6,19,20,21] (λl=>?_);refine da ?_;refine dl 0 71 ?_ (hv:=fy (j:=2) aa);refine da ?_;refine dl 0 73 ?_ (hv:=fy (j:=4) aa);refine bG ?_;refine dl 0 3 ?_;refine aJ ?_;refine kH _ 22 ?_;refine di (λx Fr g=>(vg x N S C D (l 12).b (bP Fr) m (g.t3.fx)).mono ?_) ?_;·rintro e U ⟨s,v,o,rfl,g⟩;exact⟨{A:=s,c:=v,m:=o},aa,ak.iF [both _ _,cx C D bs,aj _ _ 22] Fr g.star⟩
   refine dK (λ_ _ _=>(Uz bt Y _)) ?_;refine bW λmj g=>?_;generalize (l 12).b=OO at g⊢;generalize (l 13).A=M at g⊢;generalize (l 13).c=Q at g⊢;generalize (l 13).m=Df at g⊢;replace g:=g.drop 8;replace g:=(g.pk [7,0,1,2,3,4,5,6]).fx;by_cases hz2:c2=0
   .have Z:=hid hz2;clear hz2;refine cy ?_;refine bR g [7] (λ_ _=>a7) (λl=>λ|7=>aN E.B (l 7).m I|_=>emp) (λ|7=>[1]|_=>[]) (λ|5=>[7]|7=>[3,6]|_=>[]) (λ|7=>[7]|_=>[]) [0,2,3,4,5,6,7,8,16] (λl=>?_);refine oz ?_;refine dl 0 3 ?_;refine aJ ?_;refine di (λx Fr g=>((B7 x C D (bP Fr) Df pk (g.t3.pick [1,2,0,3]))).mono ?_) ?_;·rintro e U ⟨r,o,g⟩;rw[Z]at r;subst r;exact⟨{m:=o},aa,ak.iF [aN _ o I,cH E pk st _ bI,cx _ _ bs] Fr (g.pick [2,0,1,3])⟩
    refine bW λnp g=>?_;generalize (l 7).m=atl at g⊢;refine ah ?_;refine ag ?_;have HB:=(g.pk [2,0,1,3,4,5,6,7,8]).t1;refine aR (Q6 E pk st nx bI m d _ _ _ _ ad HB) ?_;rintro e qH ⟨rfl,g⟩;clear HB;replace g:=g.cW;refine xT ?_;go_wp2_with fail;first|go_end0|refine bodyPost_ret (results_none rfl _ _ _) rfl ?_
    exact⟨by rw[Z];rfl,λ_=>⟨_,_,_,by rw[X.out];exact g.pick [0,1,8,3,4]⟩,λh=>(h Z).elim⟩
   .have V:=hid hz2;clear hz2;refine cy ?_;refine Gg (λch w'=>ch=ud c2/\∃o Fr,ak aq FX w' ([cH E pk st (nx:Int) bI,cx C D bs,aN E.B o I,cY E y M Q,G,F]++Fr)) (λch a w' had K=>by obtain⟨rfl,o,Fr,g⟩:=K;exact⟨had,(uk V _).symm,λh=>(V h).elim,λ_=>⟨_,_,o,by rw[X.out];exact(ak.tail _ Fr g).pick [0,3,2,4,5]⟩⟩) g [7] (λ_ _=>a7) (λ_=>λ|7=>um|_=>emp) (λ_=>[]) (λ|5=>[7]|7=>[3,6,1,0,4,5]|_=>[]) (λ_=>[]) [0,1,2,3,4,5,6,7,8,16] (λl=>?_);refine oz ?_;refine dl 0 3 ?_;refine aJ ?_;refine EF (λx Fr g=>(B7 x C D (bP ([cY E y M Q,G,F]++Fr)) Df pk (ak.tail [cH E pk st (nx:Int) bI,cx C D bs,aN E.B Df z] ([cY E y M Q,G,F]++Fr) g)).mono λe w' ⟨r,o,g⟩=>⟨_,r.trans (uk V _),aa,o,Fr,ak.iF [cH E pk st (nx:Int) bI,cx C D bs,aN E.B o I] ([cY E y M Q,G,F]++Fr) g⟩) ?_;refine pN (λrJ g=>?_);exact(g.at (t:=um) 9).elim
  .have O:=hid hz;clear hz;have r:=ca.out;rw[if_pos O.out]at r;simp only[pq]at r;obtain⟨bE,cr,fz⟩:=r;subst bE;subst cr;subst fz;replace g:=(g.pk [2,3,0,1,4,5,6,7]).star;refine cy ?_;refine Gg (λch w'=>ch=ud bt/\∃s v o Fr,ak aq FX w' [both (cY E y s v) (aN E.B o z),cH E pk st (nx:Int) bI,G,F,bP Fr]) (λch a w' had K=>by obtain⟨rfl,s,v,o,Fr,g⟩:=K;exact⟨had,(uk O _).symm,λh=>(O h).elim,λ_=>⟨_,_,o,by rw[X.out];exact g.fx.pick [2,0,1,3,4]⟩⟩) g [12,13,14] (λi u=>match i with|12=>ae (ab ⟨u.b,0,af⟩) 1 1|13=>J R bt|_=>a7) (λl=>λ|12=>aj ((l 12).b) #[ae C bs.length D] 22|13=>both (cY E y (l 13).A (l 13).c) (aN E.B (l 13).m z)|14=>um|_=>emp) (λ|13=>[0]|_=>[]) (λ|3=>[2]|7=>[2]|10=>[6]|13=>[5,19]|14=>[20,2,3,4]|_=>[]) (λ|12=>[12]|13=>[13]|_=>[]) [1,2,3,4,5,6,19,20,21] (λl=>?_);refine da ?_;refine dl 0 71 ?_ (hv:=fy (j:=2) aa);refine da ?_;refine dl 0 73 ?_ (hv:=fy (j:=4) aa);refine bG ?_;refine dl 0 3 ?_;refine aJ ?_;refine kH _ 22 ?_;refine di (λx Fr g=>(vg x N S C D (l 12).b (bP Fr) m (g.t3.fx)).mono ?_) ?_;·rintro e U ⟨s,v,o,rfl,g⟩;exact⟨{A:=s,c:=v,m:=o},aa,ak.iF [both _ _,cx _ _ bs,aj _ _ 22] Fr g.star⟩
   refine EF (λx Fr g=>(Jq bt O x).mono λe w' ⟨r,g9⟩=>⟨_,r,aa,_,_,_,Fr,ak.tail _ Fr (g.aI g9)⟩) ?_;refine pN (λu3 g=>?_);exact(g.at (t:=um) 8).elim
def oU(E:pT)(d:dR)(jn:Nat)(j:pg):Int×pg×dR:=
 if ij (jI d (hU E.bd 0 E.n))=E.g2.l then jG d E.first E.bd E.id j jn (ec E.bd E.ms).length 0 []else(15,j,d)
def Z3 E(pk st nx)bI m d(a q b)f msg(aq w)FX F(c:dY d)(k:d.down=ao)(n:a+q<=d.bytes.length)(iO:1<=E.bd)(hb2:E.bd<=65536)(l:msg.length<=1099511627776)(i:ak aq FX w [cH E pk st nx bI,iE b f msg,aN E.B m d,F]):
 aD ax 224 #[ay (ab ⟨E.dj,0,af⟩),ay (ab ⟨b,0,af⟩),gT ((a:Int),(q:Int))] w λe w'=>∃h,e=aB (bn #[])/\ak aq FX w' [both (cH E (lM pk (hU E.bd a q)) st nx bI) (iE b h (msg++jI d (hU E.bd a q))),aN E.B m d,F]:=
 (apP E pk st nx bI m d a q b f msg aq w FX F c k n iO hb2 (by have:=c.small;rw[<-c.len]at this;omega) l i).mono λe w' ⟨h1,g,j⟩=>⟨g,h1,j.star⟩
def aml E(pk st nx)bI m d(jn:Nat)j v x s(aq w)FX F(bZ:sS s E.p E.bd E.ms)(fN:(ec E.bd E.ms).length<=1048576)(nb:E.n<=d.bytes.length)(H:kC d E.first E.bd)(Y:d.down=ao)(gK:d.cache.length<=1000000000)(vL:j.next=(jn:Int))(h8:jn<18446744073709551616/\E.id<18446744073709551616)(b:ak aq FX w [cH E pk st nx bI,cY E j v x,aN E.B m d,s,F]):
 aD ax 145 #[ay (ab ⟨E.dj,0,af⟩)] w λe w'=>e=se (oU E d jn j).1 (bn #[])/\((oU E d jn j).1=0->∃u D C,ak aq FX w' [cH E (lM pk (hU E.bd 0 E.n)) 2 nx bI,cY E (oU E d jn j).2.1 u D,aN E.B C (oU E d jn j).2.2,s,F])/\((oU E d jn j).1≠0->∃u D C,ak aq FX w' [cH E (lM pk (hU E.bd 0 E.n)) st nx bI,cY E (oU E d jn j).2.1 u D,aN E.B C (oU E d jn j).2.2,s,F]):=by
 have U:=hid (λW h=>YtcmhplknoglbkaaGreat.FX _ _ _ W (bZ W h));have P:aE (∀W kO F m k,ak aq FX W _->aD _ 224 #[ay _,ay _,ar #[J R 0,J _ (E.n:Int)]] W λe w'=>∃Gn,e=aB _/\ak aq FX w' _):=hid (λW kO F m k h=>by have q:=Z3 E pk st nx bI m d 0 E.n k kO [] aq W FX F H.dev Y ad H.eF H.eK aS h;rw[lJ]at q;exact q);have jJ:(jI d (hU E.bd 0 E.n)).length<=1048576:=by have h1:=HI H.dev H.eF E.n 0 E.n ad;have h2:=H.dev.small;rw[<-H.dev.len]at h2;exact dT h1 ad
 unfold oU;obtain⟨r,Z⟩:∃z,jI d (hU E.bd 0 E.n)=z:=⟨_,aa⟩;obtain⟨S,k4⟩:∃z,lM pk (hU E.bd 0 E.n)=z:=⟨_,aa⟩;obtain⟨Q,df⟩:∃z,(ec E.bd E.ms).length=z:=⟨_,aa⟩;rw[Z,k4]at P;rw[Z]at jJ⊢;rw[k4];rw[df]at U fN⊢;have N:aE (∀W F m,ak aq FX W _->aD _ 227 #[ay _,J R _,J _ 0,ae af 0 0] W λe w'=>∃u D C,e=aB _/\ak aq FX w' _):=hid (λW F m h=>asC E jn Q 0 j v x m d aq W FX F vL H Y gK ⟨h8.1,h8.2,ad,ad⟩ h);obtain⟨bt,L,I,hr⟩:∃bt L I,jG d E.first E.bd E.id j jn Q 0 []=(bt,L,I):=⟨_,_,_,aa⟩;rw[hr]at N⊢;simp only at N;obtain⟨ce,IM,aL,y⟩:∃ce IM aL,(if ij r=E.g2.l then(bt,L,I)else(15,j,d))=(ce,IM,aL):=⟨_,_,_,aa⟩;rw[y];simp only;have ca:=hid y;clear Z k4 df hr y bZ H Y gK fN nb;by_cases K:ij r=E.g2.l
 .have O:=hid K;have y:=ca.out;rw[if_pos K]at y;simp only[pq]at y;obtain⟨bE,cr,X⟩:=y;subst bE;subst cr;subst X;clear K;by_cases hz:bt=0
  .have V:=hid hz;clear hz;go_enter O6,Wb;go_step;refine ah ?_;refine aR (A2 _) ?_;rintro e w1 ⟨k,rfl,M⟩;replace b:=b.new _ M;refine aU ?_;refine ag ?_;refine an ?_;go_step;refine cy ?_;refine bR b [10] (λ_ _=>a7) (λf=>λ|10=>both (cH E S st nx bI) (iE k (f 10).A r)|_=>emp) (λ|10=>[1,0]|_=>[]) (λ|8=>[1]|10=>[3]|_=>[]) (λ|10=>[10]|_=>[]) [2,3,4,5,16] (λf=>?_);iterate 8 refine aJ ?_
   refine dl 0 4 ?_ (hv:=r6 (j:=4) aa);refine aJ ?_;refine di (λo Fr b=>((P o _ _ m k (ak.tail [cH E pk st nx bI,iE k _ [],aN _ m d] Fr b))).mono ?_) ?_;·rintro e G ⟨u,rfl,b⟩;exact⟨{A:=u},aa,ak.iF [both _ _,aN _ m d] Fr b⟩
   refine pN (λaT b=>?_);replace b:ak _ _ _ [cY E j v x,aN _ m d,s,F,both _ _]:=b;generalize (f 10).A=U8 at b⊢;replace b:=(b.pick (l':=[both _ _,cY E j v x,aN _ m d,s,F]) [4,0,1,2,3]).fx;go_step;refine cy ?_;refine bR b [1] (λi _=>match i with|1=>ar (aM a6 (ij r) [])|_=>a7) (λ_ _=>emp) (λ_=>[]) (λ|1=>[1]|6=>[0]|_=>[]) (λ_=>[]) [0,1,2,3,4,5,7] (λf=>?_);refine aJ ?_;refine di (λo Fr b=>(zq k _ r o ad (b.at 0)).mono ?_) ?_;·rintro e G ⟨rfl,g⟩;exact⟨{},aa,(b.aI g).dE⟩
   iterate 4 refine aJ ?_
   refine aL _ (λ_ _ b=>mH aa aa (b.aW 0) Hn (by rw[pr];simp[aM,E.g2.len]) aw (by simp only[aM,kE,iK,hB,E.g2.len];kernel_rfl)) ?_;refine aL (ai ao) (λ_ _ _=>(yC 23 5 32 _ _ 23 aa sK mm aw aw _ E.g2.l aa aa (s8 r) E.g2.len).trans (by rw[O];simp)) ?_;refine pN (λbF b=>?_);replace b:ak _ _ _ [cH E _ st nx bI,iE k _ r,cY E j v x,aN _ m d,s,F,emp]:=b;replace b:=b.drop 6;replace b:=(b.pick (l':=[cY E j v x,aN _ m d,cH E _ st nx bI,iE k _ r,s,F]) [2,3,0,1,4,5]).star;go_step;refine cy ?_;refine bR b [8,9,10] (λi _=>match i with|8=>J R (Q:Int)|9=>J R bt|_=>a7) (λf=>λ|9=>both (cY E L (f 9).A (f 9).c) (aN E.B (f 9).m I)|_=>emp) (λ|9=>[0]|_=>[]) (λ|3=>[1]|7=>[1]|8=>[3]|_=>[]) (λ|9=>[9]|_=>[]) [1,2,3,4,13,14,15] (λf=>?_);iterate 3 refine aJ ?_
   refine dl 0 71 ?_ (hv:=fy (j:=2) aa);iterate 3 refine aJ ?_
   refine dl 0 70 ?_ (hv:=fy (j:=1) aa);refine di (λo Fr b=>(U o (b.at 0)).mono ?_) ?_;·rintro e G ⟨rfl,g⟩;exact⟨{},aa,(b.aI g).dE⟩
   refine di (λo Fr b=>(N o _ m ((ak.tail _ Fr b).fx)).mono ?_) ?_;·rintro e G ⟨u,D,C,rfl,b⟩;exact⟨{A:=u,c:=D,m:=C},aa,ak.iF [both _ _] Fr b.star⟩
   refine di (λo Fr b=>((Uz bt V _)).mono ?_) ?_;·rintro e G ⟨rfl,g⟩;exact⟨{},aa,(b.aI g).dE⟩
   refine pN (λb8 b=>?_);replace b:ak _ _ _ [cH E _ st nx bI,iE k _ r,s,F,emp,both _ _,emp]:=b;generalize (f 9).A=qL at b⊢;generalize (f 9).c=rb at b⊢;generalize (f 9).m=aBZ at b⊢;replace b:=b.drop 4;replace b:=b.drop 5;replace b:=(b.pick (l':=[both _ _,cH E _ st nx bI,iE k _ r,s,F]) [4,0,1,2,3]).fx;go_step;refine ah ?_;iterate 3 refine ag ?_
   refine a' b 2 _ (λcA b=>?_) (hk:=by show _+1<=_;rw[pr];decide) (hc:=LI);refine an ?_;go_wp2_with fail;first|go_end0|refine bodyPost_ret (results_none rfl _ _ _) rfl ?_
   exact⟨by rw[V];rfl,λ_=>⟨_,_,_,b.pick [2,0,1,4,5]⟩,λh=>(h V).elim⟩
  .have T:=hid hz;clear hz;go_enter O6,Wb;go_step;refine ah ?_;refine aR (A2 _) ?_;rintro e cR ⟨k,rfl,M⟩;replace b:=b.new _ M;refine aU ?_;refine ag ?_;refine an ?_;go_step;refine cy ?_;refine bR b [10] (λ_ _=>a7) (λf=>λ|10=>both (cH E S st nx bI) (iE k (f 10).A r)|_=>emp) (λ|10=>[1,0]|_=>[]) (λ|8=>[1]|10=>[3]|_=>[]) (λ|10=>[10]|_=>[]) [2,3,4,5,16] (λf=>?_);iterate 8 refine aJ ?_
   refine dl 0 4 ?_ (hv:=r6 (j:=4) aa);refine aJ ?_;refine di (λo Fr b=>((P o _ _ m k (ak.tail [cH E pk st nx bI,iE k _ [],aN _ m d] Fr b))).mono ?_) ?_;·rintro e G ⟨u,rfl,b⟩;exact⟨{A:=u},aa,ak.iF [both _ _,aN _ m d] Fr b⟩
   refine pN (λdz b=>?_);replace b:ak _ _ _ [cY E j v x,aN _ m d,s,F,both _ _]:=b;generalize (f 10).A=U8 at b⊢;replace b:=(b.pick (l':=[both _ _,cY E j v x,aN _ m d,s,F]) [4,0,1,2,3]).fx;go_step;refine cy ?_;refine bR b [1] (λi _=>match i with|1=>ar (aM a6 (ij r) [])|_=>a7) (λ_ _=>emp) (λ_=>[]) (λ|1=>[1]|6=>[0]|_=>[]) (λ_=>[]) [0,1,2,3,4,5,7] (λf=>?_);refine aJ ?_;refine di (λo Fr b=>(zq k _ r o ad (b.at 0)).mono ?_) ?_;·rintro e G ⟨rfl,g⟩;exact⟨{},aa,(b.aI g).dE⟩
   iterate 4 refine aJ ?_
   refine aL _ (λ_ _ b=>mH aa aa (b.aW 0) Hn (by rw[pr];simp[aM,E.g2.len]) aw (by simp only[aM,kE,iK,hB,E.g2.len];kernel_rfl)) ?_;refine aL (ai ao) (λ_ _ _=>(yC 23 5 32 _ _ 23 aa sK mm aw aw _ E.g2.l aa aa (s8 r) E.g2.len).trans (by rw[O];simp)) ?_;refine pN (λdv b=>?_);replace b:ak _ _ _ [cH E _ st nx bI,iE k _ r,cY E j v x,aN _ m d,s,F,emp]:=b;replace b:=b.drop 6;replace b:=(b.pick (l':=[cY E j v x,aN _ m d,cH E _ st nx bI,iE k _ r,s,F]) [2,3,0,1,4,5]).star;go_step;refine cy ?_;refine Gg (λch w'=>ch=ud bt/\∃u D C Fr,ak aq FX w' [both (cY E L u D) (aN E.B C I),cH E S st nx bI,s,F,bP Fr]) (λch a w' had hq=>by obtain⟨rfl,u,D,C,Fr,b⟩:=hq;exact⟨had,(uk T _).symm,λh=>(T h).elim,λ_=>⟨_,_,C,b.fx.pick [2,0,1,3,4]⟩⟩) b [8,9,10] (λi _=>match i with|8=>J R (Q:Int)|9=>J R bt|_=>a7) (λf=>λ|9=>both (cY E L (f 9).A (f 9).c) (aN E.B (f 9).m I)|10=>um|_=>emp) (λ|9=>[0]|_=>[]) (λ|3=>[1]|7=>[1]|8=>[3]|10=>[14,1,3,4]|_=>[]) (λ|9=>[9]|_=>[]) [1,2,3,4,13,14,15] (λf=>?_);iterate 3 refine aJ ?_
   refine dl 0 71 ?_ (hv:=fy (j:=2) aa);iterate 3 refine aJ ?_
   refine dl 0 70 ?_ (hv:=fy (j:=1) aa);refine di (λo Fr b=>(U o (b.at 0)).mono ?_) ?_;·rintro e G ⟨rfl,g⟩;exact⟨{},aa,(b.aI g).dE⟩
   refine di (λo Fr b=>(N o _ m ((ak.tail _ Fr b).fx)).mono ?_) ?_;·rintro e G ⟨u,D,C,rfl,b⟩;exact⟨{A:=u,c:=D,m:=C},aa,ak.iF [both _ _] Fr b.star⟩
   refine EF (λo Fr b=>(Jq bt T.out o).mono λe w' ⟨y,g9⟩=>⟨_,y,aa,_,_,_,Fr,ak.tail _ Fr (b.aI g9)⟩) ?_;refine pN (λeU b=>?_);exact(b.at (t:=um) 6).elim
 .have O:=hid K;have y:=ca.out;rw[if_neg K]at y;simp only[pq]at y;obtain⟨bE,cr,X⟩:=y;subst bE;subst cr;subst X;clear K;go_enter O6,Wb;go_step;refine ah ?_;refine aR (A2 _) ?_;rintro e gF ⟨k,rfl,M⟩;replace b:=b.new _ M;refine aU ?_;refine ag ?_;refine an ?_;go_step;refine cy ?_;refine bR b [10] (λ_ _=>a7) (λf=>λ|10=>both (cH E S st nx bI) (iE k (f 10).A r)|_=>emp) (λ|10=>[1,0]|_=>[]) (λ|8=>[1]|10=>[3]|_=>[]) (λ|10=>[10]|_=>[]) [2,3,4,5,16] (λf=>?_);iterate 8 refine aJ ?_
  refine dl 0 4 ?_ (hv:=r6 (j:=4) aa);refine aJ ?_;refine di (λo Fr b=>((P o _ _ m k (ak.tail [cH E pk st nx bI,iE k _ [],aN _ m d] Fr b))).mono ?_) ?_;·rintro e G ⟨u,rfl,b⟩;exact⟨{A:=u},aa,ak.iF [both _ _,aN _ m d] Fr b⟩
  refine pN (λhI b=>?_);replace b:ak _ _ _ [cY E j v x,aN _ m d,s,F,both _ _]:=b;generalize (f 10).A=U8 at b⊢;replace b:=(b.pick (l':=[both _ _,cY E j v x,aN _ m d,s,F]) [4,0,1,2,3]).fx;go_step;refine cy ?_;refine bR b [1] (λi _=>match i with|1=>ar (aM a6 (ij r) [])|_=>a7) (λ_ _=>emp) (λ_=>[]) (λ|1=>[1]|6=>[0]|_=>[]) (λ_=>[]) [0,1,2,3,4,5,7] (λf=>?_);refine aJ ?_;refine di (λo Fr b=>(zq k _ r o ad (b.at 0)).mono ?_) ?_;·rintro e G ⟨rfl,g⟩;exact⟨{},aa,(b.aI g).dE⟩
  iterate 4 refine aJ ?_
  refine aL _ (λ_ _ b=>mH aa aa (b.aW 0) Hn (by rw[pr];simp[aM,E.g2.len]) aw (by simp only[aM,kE,iK,hB,E.g2.len];kernel_rfl)) ?_;refine aL (ai az) (λ_ _ _=>(yC 23 5 32 _ _ 23 aa sK mm aw aw _ E.g2.l aa aa (s8 r) E.g2.len).trans (by simp[O.out])) ?_;refine pN (λjK b=>?_);replace b:ak _ _ _ [cH E _ st nx bI,iE k _ r,cY E j v x,aN _ m d,s,F,emp]:=b;replace b:=b.drop 6;go_step;refine ah ?_;refine aG (vc 47 (J R 15)) (by(show _=_;kernel_rfl)) ?_;refine NJ ?_;exact⟨rfl,rfl,λh=>absurd h aS,λ_=>⟨_,_,_,b.pick [0,2,3,4,5]⟩⟩
end Go.Proofs.YtcmhplknoglbkaaGreat
