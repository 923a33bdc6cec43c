/- Part 8 of the proof of TopConfinedSaid. -/
import Derived.Test.YtcmhplknoglbkaaGreatQf0
import Derived.Test.YtcmhplknoglbkaaGreatQf3
import Derived.Test.YtcmhplknoglbkaaGreatQf4
import Derived.Test.YtcmhplknoglbkaaGreatQf5
set_option linter.all false
set_option maxRecDepth 100000
set_option maxHeartbeats 4000000
open Go.Proofs.Tryz
open Array renaming replicate_succ->qI,replicate_zero->qJ,size->gB
open Bool renaming false->ao,true->az
open Decidable renaming of_not_not->x'
open Go renaming Addr->bT,Calls->aC,Oper->cT,PanicEntry->rX,Program->ew,Value->aO,World->aP,bodyPost_ret->c8,callFunc->kB,execOp->bz,madeCells->GQ,results_cell_row->gH,undef->a1,wpList->cQ,wpList_nil->an,yielded->c3
open Go.Calls renaming mono->KB
open Go.Ending renaming panicked->KD,returned->aB
open Go.Exit renaming panic->tM
open Go.Fn renaming func->eu
open Go.IntKind renaming i64->R,u64->aF
open Go.LoopState renaming busy->sV
open Go.Next renaming value->da
open Go.Obj renaming loop->gh
open Go.Oper renaming wp->iy
open Go.Operand renaming const->pX,tmp->bj
open Go.Proofs.Tryz renaming func108->Pg,func145->Pj,func228->V3,func278->V9,ntmps108->Wq,ntmps145->Ws,ntmps228->Ww,prog->ax,underlying23->sW,underlying24->ey,underlying26->GM,underlying49->yh,underlying5->mr,underlying73->gi,underlying82->jo
open Go.Proofs renaming enters_of->lG
open Go.Region renaming wanted->c7
open Go.Result renaming ok->bf
open Go.RowKit renaming Hid->aE,intOf->bR
open Go.Sem renaming run_bind->gC
open Go.Value renaming agg->ar,bool->ai,func->dS,iface->ve,int->J,pointer->ay,slice->ae,tuple->bo
open Int renaming eq_ofNat_of_zero_le->wU
open List renaming append_assoc->kQ,append_nil->kR,append_toArray->q1,cons_append->p4,getElem?_append_right->oI,getElem?_eq_getElem->cF,getElem?_eq_some_iff->eM,getElem?_map->jU,getElem_mem->Ex,length_append->db,length_cons->jV,length_filterMap_le->Yw,length_map->hM,length_nil->mT,length_range->Ey,length_set->t',mem_cons->gD,mem_of_getElem?->cW,nil_append->l0,not_mem_nil->fS,push_toArray->q4,range->dU,replicate->ea,size_toArray->iY,take_add_one->gx,take_append_drop->oJ,take_of_length_le->ub
open Min renaming min->gI
open Nat renaming add_sub_cancel_left->uc,div_le_iff_le_mul_add_pred->al7,le_of_eq->Q7,le_refl->b7,le_trans->eb,mul_le_mul_right->oK,zero_le->cB
open Option renaming map_some->q6,none->af,some->ab
open Option.some renaming injEq->wZ
open Or renaming inl->bZ
open Prod.mk renaming injEq->pn
namespace Go.Proofs.YtcmhplknoglbkaaGreat
open Go.RowKit Go.MapKept
def sink(lt:Nat->Nat->Bool):Nat->List Nat->List Nat
 |0,L=>L
 |j+1,L=>if lt (L[j+1]?.getD 0) (L[j]?.getD 0)=az then sink lt j ((L.set (j+1) (L[j]?.getD 0)).set j (L[j+1]?.getD 0))else L
def lv(lt:Nat->Nat->Bool)(L:List Nat):Nat->List Nat
 |0=>L
 |i+1=>sink lt i (lv lt L i)
def agc lt:∀j L,(sink lt j L).length=L.length
 |0,_=>aa
 |j+1,L=>by
  unfold sink;split;·rw[agc lt j];simp
  .rfl
def agB{L:List Nat}{j}(a:j+1<L.length){x}(h:x∈(L.set (j+1) (L[j]?.getD 0)).set j (L[j+1]?.getD 0)):x∈L:=aG
def agd lt:∀j L x,j<L.length->x∈sink lt j L->x∈L
 |0,_,_,_,h=>h
 |j+1,L,x,a,h=>by
  unfold sink at h;split at h;·exact agB a (agd lt j _ x (by simp;omega) h)
  .exact h
theorem FG lt L:∀i,(lv lt L i).length=L.length
 |0=>aa
 |i+1=>by rw[lv,agc,FG lt L i]
def Tw lt L:∀i x,i<=L.length->x∈lv lt L i->x∈L
 |0,_,_,h=>h
 |i+1,x,hi,h=>Tw lt L i x ad (agd lt i _ x (by grind[FG]) h)
theorem TS{L j}(h:j<L.length):(eI L)[j]?=ab (J R ((L[j]?.getD 0:Nat):Int)):=by grind[eI]
def TT L:(eI L).size=L.length:=by simp[eI]
def TE L(j y:Nat):lay (eI L) j [J R (y:Int)]=eI (L.set j y):=by grind[lay,eI]
def asw (G c g:Nat) lb L lt (k:Nat->Nat->Int) w (hb:aX w G (eI L) 3) (cd:L.length<=1048576) (hc:L.length<=c) (U:∀x y,lt x y=decide (k x y<0)) (C:∀args w,(kB g args).run ax w=bf (.enter g args) w)
 (hp:∀x y W,x∈L->y∈L->av (λb=>b=G) w W->aC ax g (#[J R (x:Int),J R (y:Int)]++lb) W λe w'=>e=aB (J R (k x y))/\au W w'):
 aC ax 355 #[ae (ab ⟨G,0,af⟩) L.length c,J R (0:Int),J R (L.length:Int),dS (eu g) #[] lb] w λe w'=>e=aB (bo #[])/\Turned w w' (aj G (eI L) 3) (aj G (eI (lv lt L L.length)) 3):=by
 have K:=hid C;have M:=hid hp;have Z:=hid cd;clear C hp;go_enter Tryz.func355,Tryz.ntmps355;have a:ak w (λb=>b=G) w [aj G (eI L) 3]:=ak.start (t:=aj G (eI L) 3) ⟨hb,λb h=>by rw[show b=G from h];exact aX.lt hb⟩;go_step;refine ah ?_;refine v3 ?_;refine an ?_;go_wp2_with fail;go_loopw [8] (λp wr=>∃i:Nat,1<=i/\(i<=L.length\/i=1)/\p=J R (i:Int)/\ak w (λb=>b=G) wr [aj G (eI (lv lt L i)) 3]) (λp wr=>L.length -(bR p).toNat);case atStart=>exact⟨1,b7 _,.inr aa,aa,a⟩
 case round=>
  clear a;obtain⟨i,ab2,xn,rfl,a⟩:=hrel;by_cases hlt:i<L.length
  .have X:(i:Int)<(L.length:Int):=ad;go_step;refine ah ?_;refine v3 ?_;refine ah ?_;refine eg ?_;go_wp2_with fail;go_loopw [9] (λr wr=>∃(j:Nat) (d:List Nat),j<=i/\r=J R (j:Int)/\d.length=L.length/\(∀x∈d,x∈L)/\sink lt j d=lv lt L (i+1)/\ak w (λb=>b=G) wr [aj G (eI d) 3]) (λr wr=>(bR r).toNat);case atStart=>exact⟨i,lv lt L i,b7 _,rfl,FG lt L i,λx hx=>Tw lt L i x ad hx,aa,a⟩
   case round=>
    clear a;obtain⟨j,d,hj,rfl,T,m,hsk,a⟩:=hrel;by_cases Q:j=0
    .subst Q;have l:aE (d=lv lt L (i+1)):=hid hsk;clear hsk;go_step;refine cx ?_;refine bN a [] (λ_ _=>a1) (λ_ _=>emp) (λ_=>[]) (λ_=>[]) (λ_=>[]) [0] (λI=>?_);refine bx ?_;refine aK (ai ao) (λ_ _ _=>by(go_simp;try omega)) ?_;refine aJ ?_;iterate 12 refine ds ?_
     refine fJ (ai ao) ?_;refine bQ λw1 a=>?_;refine b5 ?_;refine pad (i:Int) 1 ((i+1:Nat):Int) ?_;refine bU ?_;go_wp2_with fail;go_roundw;case rel=>exact⟨i+1,ad,bZ ad,aa,by rw[<-l];exact a.pick [0]⟩
     case measure=>simp[bR]<;>omega
    .obtain⟨q,rfl⟩:∃q,j=q+1:=⟨j -1,ad⟩;obtain⟨x,hx⟩:=ex (d[q+1]?.getD 0);obtain⟨y,f⟩:=ex (d[q]?.getD 0);have n:q+1<d.length:=ad;have A:aE ((eI d)[q+1]?=ab (J R (x:Int))):=hid (by rw[TS n,hx]);have B:aE ((eI d)[q]?=ab (J R (y:Int))):=hid (by rw[TS ad,f]);have F:=m x (by rw[<-hx,cF n];exact Ex _);have H:=m y (by rw[<-f,cF (show q<d.length by omega)];exact Ex _);have hsw:∀z∈(d.set (q+1) y).set q x,z∈L:=λz hz=>m z (by rw[<-hx,<-f]at hz;exact agB n hz);have E:(if lt x y=az then sink lt q ((d.set (q+1) y).set q x)else d)=lv lt L (i+1):=by rw[<-hsk,sink,hx,f]
     have P:=hid hsw;have v:=hid E;obtain⟨du,hcb⟩:=ex (lt x y);have u:aE (decide (k x y<0)=du):=hid (by rw[<-U,hcb]);have s:=hid hcb;obtain⟨iH,hcv⟩:=ex (k x y);have Y:=hid hcv;have N:aE (∀W,av (λb=>b=G) w W->aC ax g (#[J R (x:Int),J R (y:Int)]++lb) W λe w'=>e=aB (J R iH)/\au W w'):=hid (λW o=>by have q:=M x y W F H o;rw[hcv]at q;exact q);rw[hcv]at u;clear hx f F H hsw hsk E hcb hcv;go_step;refine cx ?_;refine bN a [14] (λi _=>match i with|14=>J R iH|_=>a1) (λ_ _=>emp) (λ_=>[]) (λ|8=>[0]|13=>[0]|_=>[]) (λ_=>[]) [0,15] (λI=>?_);refine bx ?_;refine aK (ai az) (λ_ _ _=>by(go_simp;try omega)) ?_;refine hG ?_;refine aK (ay (ab ⟨G,(q+1),af⟩)) (λ_ _ _=>b4 82 3 1 (bj 23) (bj 24) aa jo aw G 0 (L.length) c ((q+1)) ((q+1)) aa aa ad ad) ?_;refine aK (J R (x:Int)) (λ_ _ a=>fM aa aa (a.aV 0) A aw) ?_;refine bx ?_;refine aK (J R (q:Int)) (λ_ _ _=>ra 3 (bj 28) (pX (J R 1)) 3 aa (((q+1:Nat):Int)) 1 (q:Int) aa aa ad ad ad) ?_;refine aK (ay (ab ⟨G,q,af⟩)) (λ_ _ _=>b4 82 3 1 (bj 27) (bj 29) aa jo aw G 0 (L.length) c q q aa aa ad ad) ?_;refine aK (J R (y:Int)) (λ_ _ a=>fM aa aa (a.aV 0) B aw) ?_;refine dA (λ_ _ a=>N.out _ a.only) ?_ (hr:=by(intro _;first|(go_simp;done)|(go_simp;exact K _ _)));refine aK (ai du) (λ_ _ _=>by(have h:=u.out;first|(go_simp;done)|(go_simp;rw[<-h];done)|(go_simp;simp[<-h]))) ?_;refine fJ (ai du) ?_;refine bQ λaU a=>?_;replace a:=a.drop 1;cases du with
     |false=>
      have l:aE (d=lv lt L (i+1)):=hid (by have h:=v.out;rw[s]at h;simpa using h);refine b5 ?_;refine pad (i:Int) 1 ((i+1:Nat):Int) ?_;refine bU ?_;go_wp2_with fail;go_roundw;case rel=>exact⟨i+1,ad,bZ ad,aa,by rw[<-l];exact a.pick [0]⟩
      case measure=>simp[bR]<;>omega
     |true=>
      have O:aE (sink lt q ((d.set (q+1) y).set q x)=lv lt L (i+1)):=hid (by have h:=v.out;rw[s]at h;simpa using h);refine cx ?_;refine bN a [15,17] (λ_ _=>a1) (λ_=>λ|15=>aj G (eI (d.set (q+1) y)) 3|17=>aj G (eI ((d.set (q+1) y).set q x)) 3|_=>emp) (λ|15=>[0]|17=>[16]|_=>[]) (λ|9=>[0]|13=>[0]|_=>[]) (λ_=>[]) [18] (λI=>?_);refine hG ?_;refine aK (J R (q:Int)) (λ_ _ _=>ra 3 (bj 40) (pX (J R 1)) 3 aa (((q+1:Nat):Int)) 1 (q:Int) aa aa ad ad ad) ?_;refine bx ?_;refine aK (J R (q:Int)) (λ_ _ _=>ra 3 (bj 43) (pX (J R 1)) 3 aa (((q+1:Nat):Int)) 1 (q:Int) aa aa ad ad ad) ?_;refine aK (ay (ab ⟨G,q,af⟩)) (λ_ _ _=>b4 82 3 1 (bj 42) (bj 44) aa jo aw G 0 (L.length) c q q aa aa ad ad) ?_;refine aK (J R (y:Int)) (λ_ _ a=>fM aa aa (a.aV 0) B aw) ?_;refine bx ?_;refine aK (ay (ab ⟨G,(q+1),af⟩)) (λ_ _ _=>b4 82 3 1 (bj 47) (bj 48) aa jo aw G 0 (L.length) c ((q+1)) ((q+1)) aa aa ad ad) ?_;refine aK (J R (x:Int)) (λ_ _ a=>fM aa aa (a.aV 0) A aw) ?_;refine aK (ay (ab ⟨G,(q+1),af⟩)) (λ_ _ _=>b4 82 3 1 (bj 37) (bj 38) aa jo aw G 0 (L.length) c ((q+1)) ((q+1)) aa aa ad ad) ?_;refine L9 (λ_ _ a=>Gg (J R (y:Int)) aa aa aa (a.aV 0) (by show(q+1)+1<=(eI d).size;rw[TT];(try simp only[t']);omega) aw aw (TE d (q+1) y)) ?_;refine aK (ay (ab ⟨G,q,af⟩)) (λ_ _ _=>b4 82 3 1 (bj 39) (bj 41) aa jo aw G 0 (L.length) c q q aa aa ad ad) ?_;refine L9 (λ_ _ a=>Gg (J R (x:Int)) aa aa aa (a.aV 0) (by show q+1<=(eI (d.set (q+1) y)).size;rw[TT];(try simp only[t']);omega) aw aw (TE (d.set (q+1) y) q x)) ?_;refine bQ λbI a=>?_;refine b5 ?_;refine j0 ((q+1:Nat):Int) 1 (q:Int) ?_;refine bU ?_;go_wp2_with fail;go_roundw;case rel=>exact⟨q,(d.set (q+1) y).set q x,ad,aa,by simpa using T,P,O,a.pick [0]⟩
      case measure=>simp[bR]<;>omega
  .have X:¬(i:Int)<(L.length:Int):=ad
   have D:lv lt L i=lv lt L L.length:=by
    by_cases V:i=L.length;·rw[V]
    .have h1:i=1:=ad;have S:L.length=0:=ad;rw[h1,S];rfl
   rw[D]at a;clear D;go_step;refine ah ?_;refine v3 ?_;refine an ?_;go_wp2_with fail;first|go_end0|refine bodyPost_ret (results_none rfl _ _ _) rfl ?_
   exact⟨aa,a.gu 0⟩
def asv(G n c g a:Nat)lb(f:a<=1048576)w:
 aC ax 355 #[ae (ab ⟨G,0,af⟩) n c,J R (a:Int),J R (a:Int),dS (eu g) #[] lb] w λe w'=>e=aB (bo #[])/\au w w':=by
 go_enter Tryz.func355,Tryz.ntmps355;have b:=a8 w;go_step;refine ah ?_;refine ag ?_;refine pad _ 1 ((a+1:Nat):Int) ?_;refine bU ?_;go_wp2_with fail;go_loopw [8] (λd wr=>d=J R ((a+1:Nat):Int)/\ak w (λ_=>False) wr []) (λd wr=>0);case atStart=>grind
 case round=>
  clear b;obtain⟨rfl,b⟩:=hrel;go_step;refine ah ?_;refine v2 ?_;refine a7 (ai ao) ?_;refine an ?_;go_wp2_with fail;first|go_end0|refine bodyPost_ret (results_none rfl _ _ _) rfl ?_
  exact⟨aa,b.only⟩
def axx (G c g:Nat) lb L lt (j:Nat->Nat->Int) w (hb:aX w G (eI L) 3) (cd:L.length<=20) (hc:L.length<=c) (p:∀x y,lt x y=decide (j x y<0)) (m:∀args w,(kB g args).run ax w=bf (.enter g args) w)
 (hp:∀x y W,x∈L->y∈L->av (λb=>b=G) w W->aC ax g (#[J R (x:Int),J R (y:Int)]++lb) W λe w'=>e=aB (J R (j x y))/\au W w'):
 aC ax 322 #[ae (ab ⟨G,0,af⟩) L.length c,J R (L.length:Int),dS (eu g) #[] lb] w λe w'=>e=aB (bo #[])/\Turned w w' (aj G (eI L) 3) (aj G (eI (lv lt L L.length)) 3):=by
 obtain⟨n,hn⟩:=ex L.length;have l:aE (∀W,av (λb=>b=G) w W->aX W G (eI L) 3->aC ax 355 #[ae (ab ⟨G,0,af⟩) n c,J R (0:Int),J R (n:Int),dS (eu g) #[] lb] W λe w'=>e=aB (bo #[])/\Turned W w' (aj G (eI L) 3) (aj G (eI (lv lt L n)) 3)):=hid (λW o h=>by have q:=asw G c g lb L lt j W h ad hc p m (λx y r hx u v=>hp x y r hx u (o.trans v (λ_ _ h=>h)));rw[hn]at q;exact q);rw[hn]at cd⊢;clear m hp p hn hc;go_enter func322,ntmps322;have a:ak w (λb=>b=G) w [aj G (eI L) 3]:=ak.start (t:=aj G (eI L) 3) ⟨hb,λb h=>by rw[show b=G from h];exact aX.lt hb⟩;go_step;refine ah ?_;refine ag ?_;refine an ?_;go_step;refine ah ?_;refine v3 ?_;refine an ?_;go_wp2_with fail;go_loopw [7,8] (λi f wr=>((i=J R ((0:Nat):Int)/\f=J R ((20:Nat):Int)/\ak w (λb=>b=G) wr [aj G (eI L) 3])\/(n=20/\i=J R ((20:Nat):Int)/\f=J R ((40:Nat):Int)/\ak w (λb=>b=G) wr [aj G (eI (lv lt L n)) 3]))) (λi f wr=>40 -(bR f).toNat);case atStart=>grind
 case round=>
  clear a;rcases hrel with⟨rfl,rfl,a⟩|⟨rfl,rfl,rfl,a⟩
  .by_cases s:n=20
   .subst s;go_step;refine ah ?_;refine v2 ?_;refine a7 (ai az) ?_;refine an ?_;go_step;refine ah ?_;refine v4 ?_;refine aR (l _ a.only (a.aV 0)) ?_;rintro e w1 ⟨rfl,k⟩;replace a:=a.eQ 0 k;refine aT ?_;refine an ?_;go_step;refine ah ?_;refine v2 ?_;refine an ?_;go_step;refine ah ?_;refine v2 ?_;refine pad _ 20 ((40:Nat):Int) ?_;refine ag ?_;refine an ?_;go_wp2_with fail;go_roundw;case rel=>grind
    case measure=>grind[bR]
   .have hz:¬(20:Int)<=(n:Int):=ad;go_step;refine ah ?_;refine v2 ?_;refine a7 (ai ao) ?_;refine an ?_;go_step;refine ah ?_;refine v4 ?_;refine aR (l _ a.only (a.aV 0)) ?_;rintro e A ⟨rfl,k⟩;replace a:=a.eQ 0 k;refine aT ?_;refine an ?_;go_wp2_with fail;go_loopw [6] (λd wr=>d=J R 20/\ak w (λb=>b=G) wr [aj G (eI (lv lt L n)) 3]) (λd wr=>0);case atStart=>grind
    case round=>
     clear a;obtain⟨rfl,a⟩:=hrel;go_step;refine ah ?_;refine v2 ?_;refine a7 (ai ao) ?_;refine an ?_;go_wp2_with fail;first|go_end0|refine bodyPost_ret (results_none rfl _ _ _) rfl ?_
     exact⟨aa,a.gu 0⟩
  .
   have z:True:=trivial;go_step;refine ah ?_;refine v2 ?_;refine a7 (ai ao) ?_;refine an ?_;go_step;refine ah ?_;refine v4 ?_;refine aR (asv G 20 c g 20 lb ad _) ?_;rintro e B ⟨rfl,g⟩;replace a:=a.aH g;refine aT ?_;refine an ?_;go_wp2_with fail;go_loopw [6] (λd wr=>d=J R 20/\ak w (λb=>b=G) wr [aj G (eI (lv lt L 20)) 3]) (λd wr=>0);case atStart=>grind
   case round=>
    clear a;obtain⟨rfl,a⟩:=hrel;go_step;refine ah ?_;refine v2 ?_;refine a7 (ai ao) ?_;refine an ?_;go_wp2_with fail;first|go_end0|refine bodyPost_ret (results_none rfl _ _ _) rfl ?_
    exact⟨aa,a.gu 0⟩
def axl (G c g:Nat) lb L lt (d:Nat->Nat->Int) w (hb:aX w G (eI L) 3) (cd:L.length<=20) (hc:L.length<=c) (i:∀x y,lt x y=decide (d x y<0)) (f:∀args w,(kB g args).run ax w=bf (.enter g args) w)
 (hp:∀x y W,x∈L->y∈L->av (λb=>b=G) w W->aC ax g (#[J R (x:Int),J R (y:Int)]++lb) W λe w'=>e=aB (J R (d x y))/\au W w'):
 aC ax 276 #[ae (ab ⟨G,0,af⟩) L.length c,dS (eu g) #[] lb] w λe w'=>e=aB (bo #[])/\Turned w w' (aj G (eI L) 3) (aj G (eI (lv lt L L.length)) 3):=by
 have j:aE (∀W,av (λb=>b=G) w W->aX W G (eI L) 3->aC ax 322 #[ae (ab ⟨G,0,af⟩) L.length c,J R (L.length:Int),dS (eu g) #[] lb] W λe w'=>e=aB (bo #[])/\Turned W w' (aj G (eI L) 3) (aj G (eI (lv lt L L.length)) 3)):=hid (λW o h=>axx G c g lb L lt d W h cd hc i f (λx y k hx m n=>hp x y k hx m (o.trans n (λ_ _ h=>h))));clear f hp i;go_enter func276,ntmps276;have a:ak w (λb=>b=G) w [aj G (eI L) 3]:=ak.start (t:=aj G (eI L) 3) ⟨hb,λb h=>by rw[show b=G from h];exact aX.lt hb⟩;go_step;refine ah ?_;refine v4 ?_;refine aR (j _ a.only (a.aV 0)) ?_;rintro e w1 ⟨rfl,l⟩;replace a:=a.eQ 0 l;refine x4 ?_;go_wp2_with fail;first|go_end0|refine bodyPost_ret (results_none rfl _ _ _) rfl ?_
 exact⟨aa,a.gu 0⟩
section
def FF x w:
 aC ax 194 #[J R x] w λe w'=>e=aB (ai ao)/\au w w':=by
 go_enter Tryz.func194,ntmps194;have a:=a8 w;go_step;refine ah ?_;refine kf ?_;refine aI (ai ao) (by(go_simp;try simp)) ?_;refine bU ?_;go_wp2_with fail;go_ret;exact⟨aa,a.only⟩
def qd(x y:Int):Int:=if x<y then -1 else if y<x then 1 else 0
def anV(x y)w:
 aC ax 108 #[J R x,J R y] w λe w'=>e=aB (J R (qd x y))/\au w w':=by
 have bF:x<y->qd x y=-1:=λh=>if_pos h;have cq:¬x<y->y<x->qd x y=1:=λh c=>by grind[qd]
 have b:¬x<y->¬y<x->qd x y=0:=λh c=>by grind[qd]
 obtain⟨z,hz⟩:=ex (qd x y);rw[hz]at bF cq b⊢;clear hz;by_cases h1:x<y;·obtain rfl:z=-1:=bF h1;clear bF cq b;go_enter Pg,Wq;have a:=a8 w;go_step;refine ah ?_;refine ag ?_;refine an ?_;go_step;refine ah ?_;refine ag ?_;refine aR (FF x _) ?_;rintro e w1 ⟨rfl,g⟩;replace a:=a.aH g;refine aT ?_;refine ag ?_;refine an ?_;go_step;refine ah ?_;refine ag ?_;refine aR (FF y _) ?_;rintro e d ⟨rfl,g⟩;replace a:=a.aH g;refine aT ?_;refine ag ?_;refine an ?_;go_step;refine ah ?_;refine ag ?_;refine an ?_;go_step;refine ah ?_;refine ag ?_;refine an ?_;go_step;refine ah ?_;refine v2 ?_;refine a7 (ai az) ?_;refine an ?_;go_step;refine ah ?_;refine ag ?_;refine an ?_;go_wp2_with fail;go_ret;exact⟨aa,a.only⟩
 .by_cases c:y<x;·obtain rfl:z=1:=cq h1 c;clear bF cq b;go_enter Pg,Wq;have a:=a8 w;go_step;refine ah ?_;refine ag ?_;refine an ?_;go_step;refine ah ?_;refine ag ?_;refine aR (FF x _) ?_;rintro e f ⟨rfl,g⟩;replace a:=a.aH g;refine aT ?_;refine ag ?_;refine an ?_;go_step;refine ah ?_;refine ag ?_;refine aR (FF y _) ?_;rintro e i ⟨rfl,g⟩;replace a:=a.aH g;refine aT ?_;refine ag ?_;refine an ?_;go_step;refine ah ?_;refine ag ?_;refine an ?_;go_step;refine ah ?_;refine ag ?_;refine an ?_;go_step;refine ah ?_;refine v2 ?_;refine a7 (ai ao) ?_;refine an ?_;go_step;refine ah ?_;refine v2 ?_;refine a7 (ai az) ?_;refine an ?_;go_step;refine ah ?_;refine ag ?_;refine an ?_;go_wp2_with fail;go_ret;exact⟨aa,a.only⟩
  .obtain rfl:z=0:=b h1 c;clear bF cq b;go_enter Pg,Wq;have a:=a8 w;go_step;refine ah ?_;refine ag ?_;refine an ?_;go_step;refine ah ?_;refine ag ?_;refine aR (FF x _) ?_;rintro e j ⟨rfl,g⟩;replace a:=a.aH g;refine aT ?_;refine ag ?_;refine an ?_;go_step;refine ah ?_;refine ag ?_;refine aR (FF y _) ?_;rintro e k ⟨rfl,g⟩;replace a:=a.aH g;refine aT ?_;refine ag ?_;refine an ?_;go_step;refine ah ?_;refine ag ?_;refine an ?_;go_step;refine ah ?_;refine ag ?_;refine an ?_;go_step;refine ah ?_;refine v2 ?_;refine a7 (ai ao) ?_;refine an ?_;go_step;refine ah ?_;refine v2 ?_;refine a7 (ai ao) ?_;refine an ?_;go_step;refine ah ?_;refine ag ?_;refine an ?_;go_wp2_with fail;go_ret;exact⟨aa,a.only⟩
section
variable {P:ew} {o:cT} {a:Act} {w:aP}
def atq n:GQ #[J R 0] n=eI (ea n 0):=by
 apply Array.ext;·simp[GQ,eI]
 grind[GQ,eI]
def aue{t e:Nat}{x y}(n:Nat)(ho:o.op=.makeSlice t x y)(hx:a.eval x=J R (n:Int))(d:a.eval y=J R (n:Int))(c:P.underlying t=ab (.slice e))(hi:(P.info? e).map (λi=>(i.zero,i.size,i.bytes))=ab (ab (J R 0),1,8))(hn:n<=1048576):
 ∃B w',(bz a.eval o).run P w=bf (da (ae (ab ⟨B,0,af⟩) n n)) w'/\cj w w' (aj B (eI (ea n 0)) e):=by
 cases hq:P.info? e with
 |none=>grind
 |some i=>
  rw[hq]at hi;simp only[q6,wZ,pn]at hi;obtain⟨h1,b,f⟩:=hi;have h:=run_make (P:=P) w t e i (J R 0) c hq h1 R R (n:Int) (n:Int) ad (Int.le_refl _) aG ad;refine⟨_,_,?_,yS (av.alloc _ _) (heap_alloc_new w _) (b7 _)⟩;rw[b,Nat.mul_one]at h;have hc:(J R 0).cells=#[J R 0]:=rfl;rw[hc,Int.toNat_natCast,atq]at h;unfold bz;simp only[ho,hx,d,gC,h,Result.andThen_ok,Sem.run_pure]
end
end
def nR(ms:List bO)(x:Nat):Int:=((ms[x]?).map (·.to)).getD 0
def FM{P o}{a:Act}{w}ty x(ho:o.op=.load ty x)(B k){v}(hx:a.eval x=ay (ab ⟨B,k,af⟩))(hc:w.cell? ⟨B,k,af⟩=ab v)(c:(P.underlying ty).map (λd=>d.isRow)=ab ao):
 (bz a.eval o).run P w=bf (da v) w:=by
 cases hq:P.underlying ty with
 |none=>grind
 |some d=>
  have b:d.isRow=false:=aG
  have hagg:(isAgg ty).run P w=bf ao w:=by unfold isAgg;rw[gC,run_underlying hq w];cases d<;>simp_all
  unfold bz;simp[ho,hx,Instr.loadAt,Instr.sureAddr,loadVar,hagg,hc]
def axn(de x y)A c ms w(hb:aX w de #[ae A ms.length c] 24)(j:cZ w A ms)(hx:x<ms.length)(q:y<ms.length)(E:ms.length<=1048576):
 aC ax 277 #[J R (x:Int),J R (y:Int),ay (ab ⟨de,0,af⟩)] w λe w'=>e=aB (J R (qd (nR ms x) (nR ms y)))/\au w w':=by
 have z:=hid j;have n:=hid hb;obtain⟨m,k⟩:∃m,ms[x]?=ab m:=⟨_,cF hx⟩;obtain⟨h,l⟩:∃m,ms[y]?=ab m:=⟨_,cF q⟩;have e:qd (nR ms x) (nR ms y)=qd m.to h.to:=by simp[nR,k,l]
 rw[e];obtain⟨d,a,u,C,t,_,o⟩:=cZ.jt j k;obtain⟨B,F,v,D,f,_,p⟩:=cZ.jt j l;subst t;injection f with f;injection f with f Sd;subst f;subst Sd;have r:aE (∀W,au w W->W.cell? ⟨d,a+x*5+1,af⟩=ab (J R m.to)):=hid (λW g=>o W g 1 _ aa);have s:aE (∀W,au w W->W.cell? ⟨d,a+y*5+1,af⟩=ab (J R h.to)):=hid (λW g=>p W g 1 _ aa);clear j hb k l e o p;go_enter Tryz.func277,ntmps277;have b:=a8 w;go_step;refine ah ?_;refine hI ?_;refine bN b [10] (λi _=>match i with|10=>J R (qd m.to h.to)|_=>a1) (λ_ _=>emp) (λ_=>[]) (λ_=>[]) (λ_=>[]) [10] (λG=>?_);refine aK (ae (ab ⟨d,a,af⟩) ms.length c) (λ_ _ b=>fM aa aa (aX.aH n b.only) aa aw) ?_;refine aJ ?_;refine aK (ay (ab ⟨d,(a+x*5),af⟩)) (λ_ _ _=>b4 24 73 5 (bj 6) (bj 7) aa ey aw d a (ms.length) c x ((a+x*5)) aa aa hx aa) ?_;refine aK (ay (ab ⟨d,a+x*5+1,af⟩)) (λ_ _ _=>by(go_simp;try rfl)) ?_;refine aK (J R m.to) (λ_ _ b=>FM 3 (bj 9) aa d (a+x*5+1) aa (r _ b.only) aw) ?_;refine aK (ae (ab ⟨d,a,af⟩) ms.length c) (λ_ _ b=>fM aa aa (aX.aH n b.only) aa aw) ?_;refine aJ ?_;refine aK (ay (ab ⟨d,(a+y*5),af⟩)) (λ_ _ _=>b4 24 73 5 (bj 11) (bj 12) aa ey aw d a (ms.length) c y ((a+y*5)) aa aa q aa) ?_;refine aK (ay (ab ⟨d,a+y*5+1,af⟩)) (λ_ _ _=>by(go_simp;try rfl)) ?_;refine aK (J R h.to) (λ_ _ b=>FM 3 (bj 14) aa d (a+y*5+1) aa (s _ b.only) aw) ?_;refine dA (λ_ _ _=>anV m.to h.to _) ?_;refine aJ ?_;refine bQ λw1 b=>?_;replace b:=b.drop 0;go_wp2_with fail;go_ret;exact⟨aa,b.only⟩
def mf(ms:List bO):List Nat:=lv (λx y=>decide (qd (nR ms x) (nR ms y)<0)) (dU ms.length) ms.length
theorem NN ms:(mf ms).length=ms.length:=by grind[mf,FG]
def aeO{ms x}(h:x∈mf ms):x<ms.length:=List.mem_range.1 (Tw _ _ _ _ bc h)
def wj(n j:Nat):List Nat:=dU j++ea (n -j) 0
theorem avq{n j}(h:j<n):(wj n j).set j j=wj n (j+1):=by unfold wj;rw[List.set_append_right _ _ bc,Ey,Nat.sub_self,List.range_succ,kQ];congr 1;rw[show n -j=(n -(j+1))+1 by omega,List.replicate_succ];rfl
def avp{n j}(h:j<=n):(wj n j).length=n:=by grind[wj]
def sorted_at A c ms w(p:cZ w A ms)(E:ms.length<=20):
 aC ax 201 #[ae A ms.length c] w λe w'=>∃gg de,e=aB (dS (eu 278) #[] #[ay (ab ⟨gg,0,af⟩),ay (ab ⟨de,0,af⟩)])/\∃G,cj w w' (bY [aj gg #[ae (ab ⟨G,0,af⟩) ms.length ms.length] 82,aj de #[ae A ms.length c] 24,aj G (eI (mf ms)) 3]):=by
 have s:=hid p;obtain⟨n,hn⟩:=ex ms.length
 have t:aE (∀W de G,au w W->w.heap.size<=G->aX W de #[ae A n c] 24->¬de=G->aX W G (eI (dU n)) 3->aC ax 276 #[ae (ab ⟨G,0,af⟩) n n,dS (eu 277) #[] #[ay (ab ⟨de,0,af⟩)]] W λe w'=>e=aB (bo #[])/\Turned W w' (aj G (eI (dU n)) 3) (aj G (eI (mf ms)) 3)):=hid (λW de G g H h1 hne u=>by
  have hr:(dU n).length=n:=Ey
  have q:=axl G n 277 #[ay (ab ⟨de,0,af⟩)] (dU n) (λx y=>decide (qd (nR ms x) (nR ms y)<0)) (λx y=>qd (nR ms x) (nR ms y)) W u ad ad (λ_ _=>aa) (lG Tryz.func277 aw aa) (λx y f hx I o=>by
   have g2:au w f:=((g.to (F:=λb=>b=G)).trans o (λ_ _ h=>h)).mono (λi hi h=>ad);have v:aX f de #[ae A ms.length c] 24:=by rw[hn];exact o.heap h1 hne
   exact axn de x y A c ms f v (s.out.aH g2) aG aG ad);rw[hr]at q;rw[mf,hn];exact q);rw[hn]at E⊢;clear p hn;go_enter func201,ntmps201;have a:=a8 w;go_step;refine ah ?_;refine bL a (ae A n c) (λl w1 a=>?_);refine ed ?_;refine pl a 0 0 ?_;refine ag ?_;refine NT a (aue n aa aa aa jo aw ad) (λd K a=>?_);refine bn a #[ae af 0 0] (λr L a=>?_);refine bb a 0 (ae (ab ⟨d,0,af⟩) n n) (λM a=>?_);refine ah ?_;refine pl a 0 0 ?_;refine eg ?_;have m:=a.pk [0,1,2];go_wp2_with fail;go_loopw [10] (λk wr=>∃j:Nat,j<=n/\k=J R (j:Int)/\ak w (λ_=>False) wr [aj r #[ae (ab ⟨d,0,af⟩) n n] 82,aj d (eI (wj n j)) 3,aj l #[ae A n c] 24]) (λk wr=>n -(bR k).toNat);case atStart=>exact⟨0,cB _,aa,by rw[show wj n 0=ea n 0 from ba];exact m⟩
 case round=>
  clear a m;obtain⟨j,B,rfl,a⟩:=hrel;by_cases hlt:j<n
  .have D:(j:Int)<(n:Int):=ad;go_step;refine ah ?_;refine ag ?_;refine ah ?_;refine v2 ?_;refine ah ?_;refine pl a 0 0 ?_;refine v2 ?_;refine aI _ (b4 82 3 1 _ _ aa jo aw d 0 n n j j aa aa hlt ad) ?_;refine NS a 1 (Gg (J R (j:Int)) aa aa aa (a.aV 1) (by show j+1<=(eI (wj n j)).size;rw[TT,avp B];omega) aw aw (TE (wj n j) j j)) (λN a=>?_);refine ah ?_;refine pad (j:Int) 1 ((j+1:Nat):Int) ?_;refine bU ?_;go_wp2_with fail;go_roundw;case rel=>exact⟨j+1,ad,aa,by grind[avq]⟩
   case measure=>grind[bR]
  .have D:¬(j:Int)<(n:Int):=ad;have C:j=n:=ad;rw[show wj n j=dU n from by rw[C];simp[wj]]at a;go_step;refine ah ?_;refine ed ?_;refine pl a 0 0 ?_;refine ag ?_;refine aR (t _ _ d a.only ((a.low _ (cW (i:=1) aa) d aa).2.resolve_right (λh=>h)) (a.aV 2) (λh=>a.ne (i:=2) (j:=1) aa aa aS l aa h) (a.aV 1)) ?_;rintro e O ⟨rfl,z⟩;replace a:=a.eQ 1 z;refine aT ?_;refine ah ?_;refine eg ?_;go_wp2_with fail;go_ret;exact⟨_,_,aa,d,((a.pick (l':=[aj _ _ 82,aj _ _ 24,aj d _ 3]) [0,2,1]).fP 3).fresh 0⟩
def TK(ms:List bO)(x:Nat):Int:=((ms[x]?).map cD).getD 0
def jv(ms:List bO):List (Nat×Int×Int):=(mf ms).map (λi=>(i,nR ms i,TK ms i))
def agw ms:(jv ms).length=ms.length:=by grind[jv,NN]
def cZ.LR{FX aq A ms}(h:∀W,av FX aq W->cZ W A ms){W}(g:av FX aq W){j m}(e:ms[j]?=ab m):∃a b c d,A=ab ⟨a,b,af⟩/\W.rangeAt a (b+j*5) [J R m.k,J R m.to,J R m.fr,J R m.n,ae c m.data.length d]:=by grind[cZ.jt,av.refl]
def ags(gg de G)A c ms aq FX(N:∀W,av FX aq W->cZ W A ms)(eR:ms.length<=20):
 yM ax 278 #[ay (ab ⟨gg,0,af⟩),ay (ab ⟨de,0,af⟩)] (λx:Nat×Int×Int=>#[J R (x.1:Int),gT x.2]) aq FX (bY [aj gg #[ae (ab ⟨G,0,af⟩) ms.length ms.length] 82,aj de #[ae A ms.length c] 24,aj G (eI (mf ms)) 3]) (λ_=>True) (jv ms):=by
 intro l S hB W F t bW H a;have z:=hid N;obtain⟨n,hn⟩:=ex ms.length;have O:(mf ms).length=n:=by rw[NN,hn]
 have P:(jv ms).length=n:=by rw[agw,hn]
 rw[hn]at a eR;have B:=hid hn;have Qv:=hid O;have ki:=hid P;clear N hn O P;go_enter V9,ntmps278;replace a:ak aq FX W [aj gg #[ae (ab ⟨G,0,af⟩) n n] 82,aj de #[ae A n c] 24,aj G (eI (mf ms)) 3,t,F]:=a.kI;go_step;refine ah ?_;refine pl a 0 0 ?_;refine eg ?_;go_wp2_with fail;go_loopw [8] (λu wr=>∃(j:Nat) (t:bu),j<=n/\u=J R (j:Int)/\S ((jv ms).take j) t/\ak aq FX wr [aj gg #[ae (ab ⟨G,0,af⟩) n n] 82,aj de #[ae A n c] 24,aj G (eI (mf ms)) 3,t,F]) (λu wr=>n -(bR u).toNat);case atStart=>exact⟨0,t,cB _,aa,H,a⟩
 case round=>
  clear a H;obtain⟨j,t,hj,rfl,o,a⟩:=hrel;by_cases hlt:j<n
  .have cf:(j:Int)<(n:Int):=ad;have M:j<(mf ms).length:=by rw[Qv];exact hlt
   obtain⟨i,hi⟩:∃i,(mf ms)[j]?=ab i:=⟨_,cF M⟩;have L:i<n:=by rw[<-B];exact aeO (cW hi)
   obtain⟨m,d⟩:∃m,ms[i]?=ab m:=⟨_,cF (by rw[B];exact L)⟩;have asa:(jv ms)[j]?=ab (i,m.to,cD m):=by rw[jv,jU,hi];simp[nR,TK,d]
   have s:(jv ms).take (j+1)=(jv ms).take j++[(i,m.to,cD m)]:=by grind[gx]
   have r:(jv ms).take j++[(i,m.to,cD m)]<+:jv ms:=aG;have Z:aE ((eI (mf ms))[j]?=ab (J R (i:Int))):=hid (by grind[TS]);obtain⟨f,T,w,E,I,_⟩:=cZ.LR z.out a.only d
   have Y:aE (∀W,av FX aq W->∃w E,W.rangeAt f (T+i*5) [J R m.k,J R m.to,J R m.fr,J R m.n,ae w m.data.length E]):=hid (λW g=>by obtain⟨dY,eT,aL,c2,h1,h2⟩:=cZ.LR z g d;grind);obtain⟨v,D,K⟩:=Y _ a.only;obtain⟨Q,q⟩:=ex (cD m);rw[q]at r s;have s5:aE (∀W,aC ax 136 #[ar #[J R m.k,J R m.to,J R m.fr,J R m.n,ae v m.data.length D]] W λe w'=>e=aB (ar #[J R m.to,J R Q])/\au W w'):=hid (λW=>by rw[<-q];exact uZ _ _ _ _ v _ D W);have X:=hid K;have V:=hid I;have C:=hid r;have QL:=hid s;clear hi d asa s r I M K q;go_step;refine ah ?_;refine ed ?_;refine aI (ay (ab ⟨G,j,af⟩)) (b4 82 3 1 (bj 6) (bj 8) aa jo aw G 0 n n j j aa aa hlt ad) ?_;refine aI _ (fM aa aa (a.aV 2) Z aw) ?_;refine hI ?_;refine Ox 7 ?_;refine v2 ?_;refine pl a 1 0 ?_;refine ag ?_;refine aI _ (b4 24 73 5 _ _ aa ey aw f T n c i _ (by show ae A _ _=_;rw[V]) aa L aa) ?_;refine aI _ (by(refine e5 73 _ aa f _ aa _ X gi aa aw)) ?_;refine bH (s5 _) a (λw1 a=>?_);refine an ?_;have y:=(a.pick (l':=[t,aj gg #[ae (ab ⟨G,0,af⟩) n n] 82,aj de #[ae A n c] 24,aj G (eI (mf ms)) 3,F]) [3,0,1,2,4]).Hy;refine JR (bW ((jv ms).take j) (i,m.to,Q) _ _ _ C o y) (λb aU hb=>?_) (λ_ _ he=>he.elim (λh=>⟨_,h.1⟩) (λh=>⟨_,h.1⟩)) (HP aa aa (by simp only[List.map_toArray,List.map_cons,List.map_nil];rfl));clear y a;rcases JG hb with⟨rfl,U,p,a⟩|⟨rfl,U,p,a⟩
   .clear hb;replace a:=a.xW;refine wg ?_;refine ed ?_;refine pad (j:Int) 1 ((j+1:Nat):Int) ?_;refine bU ?_;go_wp2_with fail;go_roundw;case rel=>exact⟨j+1,_,ad,aa,by rw[QL.out];exact p,a.pick [1,2,3,0,4]⟩
    case measure=>simp[bR]<;>omega
   .clear hb;replace a:=a.xW;refine wg ?_;refine bU ?_;go_wp2_with fail;first|go_end0|refine bodyPost_ret (results_none rfl _ _ _) rfl ?_
    exact vC.cut C p (((a.pick (l':=[aj gg _ 82,aj de _ 24,aj G _ 3,U,F]) [1,2,3,0,4]).fP 3).pick [1,0,2])
  .have cf:¬(j:Int)<(n:Int):=ad;have iM:(jv ms).take j=jv ms:=ub (by rw[ki];omega);rw[iM]at o;go_step;refine ah ?_;refine bU ?_;go_wp2_with fail;first|go_end0|refine bodyPost_ret (results_none rfl _ _ _) rfl ?_
   exact vC.all o trivial ((a.fP 3).pick [1,0,2])
def adx(n:Nat)(hn:(n:Int)<=4611686018427387903)w:
 aC ax 120 #[J R (n:Int)] w λe w'=>e=aB (ai az)/\au w w':=by
 go_enter func120,ntmps120;have a:=a8 w;go_step;refine ah ?_;refine kf ?_;refine bH (xY 0 (n:Int) _ ⟨ad,ad,ad⟩) a (λw1 a=>?_);refine bU ?_;go_wp2_with fail;go_ret;exact⟨aa,a.only⟩
def j3(o n:Nat)(m:bO):Prop:=gJ m/\(m.k=1->m.fr+m.n<=(o:Int))/\m.to+cD m<=(n:Int)
def aw5(o n)(g1 g2)f(B:f.oneCell'=az)m b c(h:j3 o n m)(C:(o:Int)<=4611686018427387903/\(n:Int)<=4611686018427387903)w:
 aC ax 121 #[eN (o:Int) (n:Int) g1 g2 f,ar #[J R m.k,J R m.to,J R m.fr,J R m.n,ae b m.data.length c]] w λe w'=>e=aB (J R 0)/\au w w':=by
 obtain⟨hv,l,y⟩:=h;obtain⟨d,g⟩:=ex (cD m);have s:=hv.cm;have hb:0<=m.to/\0<d/\m.to+d<=4611686018427387903:=ad;rw[g]at y;obtain⟨dX,dY,pr⟩:=hb;have q:aE (∀W,aC ax 200 #[ar #[J R m.k,J R m.to,J R m.fr,J R m.n,ae b m.data.length c]] W λe w'=>e=aB (J R 0)/\au W w'):=hid (λW=>anH m.k m.to m.fr m.n b m.data.length c W hv);have r:aE (∀W,aC ax 136 #[ar #[J R m.k,J R m.to,J R m.fr,J R m.n,ae b m.data.length c]] W λe w'=>e=aB (ar #[J R m.to,J R d])/\au W w'):=hid (λW=>by rw[<-g];exact uZ _ _ _ _ b _ c W);by_cases hk:m.k=1
 .have hf2:=l hk;have x:0<=m.fr/\0<=m.n:=by rcases hv with⟨_,_,⟨z,A,_⟩,_⟩|⟨h2,_⟩;exact⟨z,A⟩;omega
  obtain⟨D,E⟩:=x;have j:aE (∀W,aC ax 79 #[ar #[J R m.k,J R m.to,J R m.fr,J R m.n,ae b m.data.length c]] W λe w'=>e=aB (bo #[ar #[J R m.fr,J R m.n],ai az])/\au W w'):=hid (λW=>by rw[hk];exact Bn _ _ _ b _ c W);clear hk l g hv s;go_enter Tryz.func121,Tryz.ntmps121;have a:=a8 w;go_step;refine ah ?_;refine bL a (ar (a' (o:Int) (n:Int) g1 g2 f)) (λt w1 a=>?_);refine bL a (ar #[J R m.k,J R m.to,J R m.fr,J R m.n,ae b m.data.length c]) (λu N a=>?_);refine ed ?_;refine bh a 0 #[J R m.k,J R m.to,J R m.fr,J R m.n,ae b m.data.length c] ?_;refine bH (q _) a (λO a=>?_);refine cA ?_;refine pk (ai ao) ?_;refine ah ?_;refine bh a 0 #[J R m.k,J R m.to,J R m.fr,J R m.n,ae b m.data.length c] ?_;refine bH (j _) a (λP a=>?_);refine v3 ?_;refine bn a #[J R 0,J R 0] (λv Q a=>?_);refine bb a 0 (ar #[J R m.fr,J R m.n]) (λS a=>?_);refine hI ?_;refine bN a [3] (λi _=>match i with|3=>J R (m.fr+m.n)|_=>a1) (λ_ _=>emp) (λ_=>[]) (λ|2=>[0]|5=>[2]|_=>[]) (λ_=>[]) [0,1,2,6] (λp=>?_);refine bx ?_;refine eO 0 #[J R m.fr,J R m.n] ?_;refine dA (λ_ _ _=>l5 m.fr _ _ ad ad ad) ?_;refine aJ ?_;refine dl 0 0 ?_ (hv:=kE);refine aK (ai ao) (λ_ _ _=>by(go_simp;try omega)) ?_;refine aJ ?_;refine bQ λT a=>?_;replace a:=a.drop 3;refine cx ?_;refine bN a [1,2] (λi _=>match i with|1=>ar #[J R m.to,J R d]|2=>J R (m.to+d)|_=>a1) (λ_ _=>emp) (λ_=>[]) (λ|0=>[1]|4=>[2]|_=>[]) (λ_=>[]) [0,1,2,4,5] (λp=>?_);refine eO 0 #[J R m.k,J R m.to,J R m.fr,J R m.n,ae b m.data.length c] ?_;refine dA (λ_ _ _=>r _) ?_;refine dA (λ_ _ _=>l5 m.to d _ ad ad ad) ?_;refine aJ ?_;refine dl 0 1 ?_ (hv:=il);refine aK (ai ao) (λ_ _ _=>by(go_simp;try omega)) ?_;refine bQ λU a=>?_;replace a:=a.drop 3;replace a:=a.drop 3;refine ah ?_;refine ag ?_;refine an ?_;go_wp2_with fail;go_ret;exact⟨aa,a.only⟩
 .have j:aE (∀W,aC ax 79 #[ar #[J R m.k,J R m.to,J R m.fr,J R m.n,ae b m.data.length c]] W λe w'=>e=aB (bo #[ar #[J R 0,J R 0],ai ao])/\au W w'):=hid (λW=>Bo m.k m.to m.fr m.n b m.data.length c W hk);clear hk l g hv s;go_enter Tryz.func121,Tryz.ntmps121;have a:=a8 w;go_step;refine ah ?_;refine bL a (ar (a' (o:Int) (n:Int) g1 g2 f)) (λt V a=>?_);refine bL a (ar #[J R m.k,J R m.to,J R m.fr,J R m.n,ae b m.data.length c]) (λu F a=>?_);refine ed ?_;refine bh a 0 #[J R m.k,J R m.to,J R m.fr,J R m.n,ae b m.data.length c] ?_;refine bH (q _) a (λG a=>?_);refine cA ?_;refine pk (ai ao) ?_;refine ah ?_;refine bh a 0 #[J R m.k,J R m.to,J R m.fr,J R m.n,ae b m.data.length c] ?_;refine bH (j _) a (λH a=>?_);refine v3 ?_;refine bn a #[J R 0,J R 0] (λv I a=>?_);refine bb a 0 (ar #[J R 0,J R 0]) (λK a=>?_);refine hI ?_;refine bN a [] (λ_ _=>a1) (λ_ _=>emp) (λ_=>[]) (λ_=>[]) (λ_=>[]) [0,1,2] (λp=>?_);refine bx ?_;iterate 5 refine ds ?_
  refine aJ ?_;refine bQ λL a=>?_;refine cx ?_;refine bN a [1,2] (λi _=>match i with|1=>ar #[J R m.to,J R d]|2=>J R (m.to+d)|_=>a1) (λ_ _=>emp) (λ_=>[]) (λ|0=>[1]|4=>[2]|_=>[]) (λ_=>[]) [0,1,2,4,5] (λp=>?_);refine eO 0 #[J R m.k,J R m.to,J R m.fr,J R m.n,ae b m.data.length c] ?_;refine dA (λ_ _ _=>r _) ?_;refine dA (λ_ _ _=>l5 _ d _ ad ad ad) ?_;refine aJ ?_;refine dl 0 1 ?_ (hv:=il);refine aK (ai ao) (λ_ _ _=>by(go_simp;try omega)) ?_;refine bQ λM a=>?_;replace a:=a.drop 3;replace a:=a.drop 3;refine ah ?_;refine ag ?_;refine an ?_;go_wp2_with fail;go_ret;exact⟨aa,a.only⟩
def iI(l:List (Nat×Int×Int)):Int:=l.foldl (λe x=>e+x.2.2) 0
theorem Z6 l x:iI (l++[x])=iI l+x.2.2:=by grind[iI]
structure LD (n:Nat) (ms:List bO):Prop where
 next:∀pre x,pre++[x]<+:jv ms->x.2.1=iI pre/\0<=iI pre/\0<=x.2.2/\iI pre+x.2.2<=4611686018427387903
 all:iI (jv ms)=(n:Int)
def axS n A c ms w(k:cZ w A ms)(y:ms.length<=20)(f:LD n ms):
 aC ax 122 #[ae A ms.length c] w λe w'=>e=aB (bo #[J R (n:Int),ai ao])/\au w w':=by
 have j:=hid f;have o:=λW g=>sorted_at A c ms W (k.aH g) y;have p:∀gg de G,yM ax 278 #[ay (ab ⟨gg,0,af⟩),ay (ab ⟨de,0,af⟩)] (λx:Nat×Int×Int=>#[J R (x.1:Int),gT x.2]) w (λ_=>False) (bY [aj gg #[ae (ab ⟨G,0,af⟩) ms.length ms.length] 82,aj de #[ae A ms.length c] 24,aj G (eI (mf ms)) 3]) (λ_=>True) (jv ms):=λgg de G=>ags gg de G A c ms w _ (λW g=>k.aH g) y;have N:=hid o;obtain⟨xs,C⟩:=ex (jv ms);have m:=f.next;have hall:=f.all;rw[C]at p m hall;have L:=hid m;have K:=hid hall;clear o f k m hall C;refine Cy func122 aa ?_;simp only[ntmps122,iY,jV,mT,qI,qJ,q4,q1,l0,p4];have a:=a8 w;go_step;refine ah ?_;refine bn a #[J R 0] (λE w1 a=>?_);refine bn a #[ai ao] (λH aU a=>?_);refine an ?_;go_step;refine ah ?_;refine bn a #[J R 0] (λb bI a=>?_);refine bn a #[J R 0] (λd b9 a=>?_);refine bb a 1 (J R 0) (λcE a=>?_);refine bb a 0 (J R (-1)) (λcV a=>?_);refine an ?_;go_step;refine ah ?_;refine ag ?_;refine aR (N _ a.only) ?_;rintro e dJ ⟨gg,de,rfl,G,P⟩;replace a:=a.new _ P;refine aT ?_;refine an ?_;go_wp2_with fail;have j:ak _ _ _ [bY [aj gg #[ae (ab ⟨G,0,af⟩) ms.length ms.length] 82,aj de #[ae A ms.length c] 24,aj G (eI (mf ms)) 3],bY [aj b #[J R 0] 3,aj d #[J R (-1)] 3],bY [aj H #[ai ao] 4,aj E #[J R 0] 3]]:=ak.EJ (a.pick [0,2,1,3,4]);refine JQ (encs:=(λx:Nat×Int×Int=>#[J R (x.1:Int),gT x.2])) aa (lG V9 ba aa) (λ_=>aa) (p _ _ _) (λpre t=>t=bY [aj b #[J R (iI pre)] 3,aj d _ 3]) (λ_ _ _=>False) aa j ?_ ?_ ?_;all_goals clear j a
 .rintro l rd pre x W t F z Q rfl a;replace a:=a.lX;repeat((fail_if_success (with_reducible refine at_region ?_));gi_step)
  refine kv ?_;refine bn a #[J R 0,J R 0] (λI dB a=>?_);refine bb a 0 (ar #[J R x.2.1,J R x.2.2]) (λeZ a=>?_);refine an ?_;first|refine wpIn_skip ?_|skip
  simp only[Exit.then];refine Cs a 3 Q (λU a=>?_);replace a:ak _ _ _ [aj I #[J R x.2.1,J R x.2.2] 35,aj b #[J R (iI pre)] 3,aj d #[J R (-1)] 3,obj l (gh {rd with state:=sV}),F]:=a;obtain⟨h1,r,O,s⟩:=L pre x z;obtain⟨S,v⟩:=ex (iI pre);have B:iI (pre++[x])=x.2.1+x.2.2:=by grind[Z6]
  have M:=hid B;rw[v]at h1 r s a;have hx1:0<=x.2.1:=ad;have hx2:x.2.1+x.2.2<=4611686018427387903:=ad;have q:=hid h1;clear B v h1 r s z;repeat((fail_if_success (with_reducible refine at_region ?_));gi_step)
  refine kv ?_;refine ag ?_;refine pl a 0 0 ?_;refine pl a 1 0 ?_;refine aI (ai ao) (by(have h:=q.out;go_simp;try omega)) ?_;refine an ?_;repeat((fail_if_success (with_reducible refine at_region ?_));gi_step)
  refine kv ?_;refine ag ?_;refine pl a 0 0 ?_;refine pl a 1 0 ?_;refine aI (ai ao) (by(have h:=q.out;go_simp;try omega)) ?_;refine ag ?_;iterate 2 refine ps ?_
  refine pk (ai ao) ?_;refine an ?_;repeat((fail_if_success (with_reducible refine at_region ?_));gi_step)
  refine kv ?_;refine bh a 0 #[J R x.2.1,J R x.2.2] ?_;refine aR (l5 _ _ _ hx1 O hx2) ?_;rintro e V ⟨rfl,g⟩;replace a:=a.aH g;refine aT ?_;refine bb a 1 (J R (x.2.1+x.2.2)) (λX a=>?_);refine an ?_;repeat gi_step
  have i:=a.pk [1,2,3,4];replace i:ak _ _ _ [bY [aj b #[J R (x.2.1+x.2.2)] 3,aj d #[J R (-1)] 3],obj l (gh {rd with state:=sV}),F]:=i.fP 2;refine⟨_,?_,i⟩;exact(by show _=_;rw[M])
 .rintro D t u W rfl T a;replace a:=a.lX;replace a:=(a.pk [4,0,1,2,3]).lX;rw[K]at a;go_step;refine ah ?_;refine pl a 3 0 ?_;refine pk (ai ao) ?_;refine an ?_;go_step;refine ah ?_;refine pl a 2 0 ?_;refine bb a 1 (J R (n:Int)) (λY a=>?_);refine bb a 0 (ai ao) (λZ a=>?_);refine an ?_;go_wp2_with fail;refine zq a 5 (λw' a=>⟨afC aa aa (a.aV 1) aw aa (a.aV 0) aw,aa,a.only⟩)
 .simp
structure r6 (o n:Nat) (ms:List bO):Prop where
 gr:(o:Int)<=4611686018427387903
 mH:(n:Int)<=4611686018427387903
 fits:∀m∈ms,j3 o n m
 tiled:LD n ms
 dL:ms.length<=20
def ZV(o n)(g1 g2)A c ms w(h:cZ w A ms)(hv:r6 o n ms):
 aC ax 50 #[eN (o:Int) (n:Int) g1 g2 (ae A ms.length c)] w λe w'=>e=aB (ar #[J R 0,J R 0])/\au w w':=by
 have E:=hid h;have I:=hid hv;have O:=hv.dL;have x:(o:Int)<=4611686018427387903/\(n:Int)<=4611686018427387903:=⟨hv.gr,hv.mH⟩;have G:=hid x;obtain⟨Q,P⟩:=x;have H:aE (∀W,au w W->aC ax 122 #[ae A ms.length c] W λe w'=>e=aB (bo #[J R (n:Int),ai ao])/\au W w'):=hid (λW g=>axS n A c ms W (h.aH g) hv.dL hv.tiled);clear h hv;go_enter func50,ntmps50;have a:=a8 w;go_step;refine ah ?_;refine bL a (ar (a' (o:Int) (n:Int) g1 g2 (ae A ms.length c))) (λy w1 a=>?_);refine bn a #[J R 0,J R 0] (λz S a=>?_);refine b5 ?_;refine pl a 1 0 ?_ (hv:=kE);refine bH (adx o ad _) a (λT a=>?_);refine v3 ?_;refine pl a 1 1 ?_ (hv:=il);refine bH (adx n ad _) a (λU a=>?_);refine DN ?_;refine pl a 1 66 ?_ (hv:=fi);refine eg ?_;have q:=a.pk [1,0];go_wp2_with fail;go_loopw [22] (λl wr=>∃j:Nat,j<=ms.length/\l=J R (j:Int)/\ak w (λ_=>False) wr [aj y (a' (o:Int) (n:Int) g1 g2 (ae A ms.length c)) 26,aj z #[J R 0,J R 0] 49]) (λl wr=>ms.length -(bR l).toNat);case atStart=>exact⟨0,cB _,aa,q⟩
 case round=>
  clear a q;obtain⟨j,N,rfl,a⟩:=hrel;by_cases hlt:j<ms.length
  .have K:(j:Int)<(ms.length:Int):=ad;obtain⟨m,i⟩:∃m,ms[j]?=ab m:=⟨_,cF hlt⟩;obtain⟨d,p,b,f,r,s,t⟩:=cZ.jt E i;have B:=hid r;have M:=hid s;have C:=hid t;have F:=hid i;clear r s t i;have u:=I.out.fits m (cW F);have D:=hid u;clear u;go_step;refine ah ?_;refine cA ?_;refine aI (ay (ab ⟨d,(p+j*5),af⟩)) (b4 24 73 5 (bj 20) (bj 22) aa ey aw d p (ms.length) c j ((p+j*5)) (by show ae A _ _=_;rw[B]) aa hlt aa) ?_;refine aI _ (by(refine e5 73 _ aa d _ aa _ (C _ a.only) gi aa aw)) ?_;refine bn a #[J R 0,J R 0,J R 0,J R 0,ae af 0 0] (λL V a=>?_);refine ag ?_;refine bb a 0 (ar #[J R m.k,J R m.to,J R m.fr,J R m.n,ae b m.data.length f]) (λX a=>?_);refine ah ?_;refine bh a 1 (a' (o:Int) (n:Int) g1 g2 (ae A ms.length c)) ?_ (hv:=(e4 _)) (hk:=by omega) (hz:=(by rw[bD];rfl));refine bh a 0 #[J R m.k,J R m.to,J R m.fr,J R m.n,ae b m.data.length f] ?_;refine bH (aw5 o n g1 g2 (ae A ms.length c) aa m b f D G _) a (λY a=>?_);refine cA ?_;refine pk (ai ao) ?_;refine ah ?_;refine pad (j:Int) 1 ((j+1:Nat):Int) ?_;refine bU ?_;go_wp2_with fail;go_roundw;case rel=>exact⟨j+1,ad,aa,a.pick [1,2]⟩
   case measure=>simp[bR]<;>omega
  .have K:¬(j:Int)<(ms.length:Int):=ad;go_step;refine ah ?_;refine cA ?_;refine pl a 0 66 ?_ (hv:=fi);refine bH (H _ a.only) a (λZ a=>?_);refine v5 ?_;refine ah ?_;refine kf ?_;refine pl a 0 1 ?_ (hv:=il);refine a7 (ai ao) ?_;refine b5 ?_;refine bb a 1 (ar #[J R 0,J R 0]) (λeZ a=>?_);refine an ?_;go_wp2_with fail;refine c8 (v:=_) (gH aa _ _ _ _ _ _ _ aa (a.aV 1) yh aa aw) aa (⟨aa,a.only⟩)
def o7(ms:List bO):List bO:=(mf ms).filterMap (λi=>ms[i]?)
def tC(ms:List bO)(l:List (Nat×Int×Int)):List bO:=l.filterMap (λx=>ms[x.1]?)
def awY{ms l x m}(h:ms[x.1]?=ab m):tC ms (l++[x])=tC ms l++[m]:=by grind[tC]
def awW ms:tC ms (jv ms)=o7 ms:=by unfold tC jv o7;rw[List.filterMap_map];rfl
def awX ms l:(tC ms l).length<=l.length:=Yw _ _
def Gf{ms m}(h:m∈o7 ms):m∈ms:=by obtain⟨i,_,hi⟩:=List.mem_filterMap.1 h;exact cW hi
def UL ms:(o7 ms).length<=ms.length:=eb (Yw _ _) (Q7 (NN ms))
def axv{ms x}(h:x∈jv ms):x.1<ms.length:=by obtain⟨i,hi,e⟩:=List.mem_map.1 h;subst e;exact aeO hi
def agh{N n c w A ms l}(b:Row N w A n c 73 5 (cL l))(h1:l.map (·.1)=ms)(hn:n=ms.length)(d:∀x∈l,qM w x.1 x.2.1 x.2.2):cZ w A ms:=λo=>by
 rcases b.cases with⟨_,k,_,_⟩|⟨g,cur,e,_⟩;·omega
 .refine⟨g,0,e,λj m a=>?_⟩;subst h1;rw[jU]at a;cases hx:l[j]? with
  |none=>grind
  |some x=>
   rw[hx]at a;simp only[q6,wZ]at a;subst a;have f:=EP hx
   have hc:∀i v,(jD x.1 x.2.1 x.2.2)[i]?=ab v->w.cell? ⟨g,0+j*5+i,af⟩=ab v:=λi v hv=>by obtain⟨h,bF,cq⟩:=b.cell (f i v hv);grind
   exact⟨_,_,⟨hc 0 _ aa,hc 1 _ aa,hc 2 _ aa,hc 3 _ aa,hc 4 _ aa⟩,d x (cW hx)⟩
def EL m A c:∀u∈jD m A c,u.oneCell'=true:=by intro u a;simp only[jD,gD,fS,or_false]at a;rcases a with rfl|rfl|rfl|rfl|rfl<;>rfl
def Cn(w:aP)(l:List (bO×Option bT×Nat)):Prop:=∀x∈l,∀W,au w W->qM W x.1 x.2.1 x.2.2
theorem Cn.nil w:Cn w []:=λ_ h=>(fS h).elim
def Cn.snoc{w l m A c}(h:Cn w l)(a:∀W,au w W->qM W m A c):Cn w (l++[(m,A,c)]):=λx hx=>by
 rcases List.mem_append.1 hx with hx|hx;·exact h x hx
 .grind
def agr(o n)(g h)A c ms w(z:cZ w A ms)(L:ms.length<=20)(qi:∀m∈ms,m.data.length<=140737488355328):
 aC ax 166 #[eN o n g h (ae A ms.length c)] w λe w'=>∃O Y t,e=aB (eN o n g h (ae O (o7 ms).length Y))/\cj w w' t/\ie t O Y (o7 ms):=by
 have cO:=hid z;have T:=hid L;have qU:=hid qi;have V:=hid (λW g=>sorted_at A c ms W (z.aH g) L);have E:∀gg de G,yM ax 278 #[ay (ab ⟨gg,0,af⟩),ay (ab ⟨de,0,af⟩)] (λx:Nat×Int×Int=>#[J R (x.1:Int),gT x.2]) w (λ_=>False) (bY [aj gg #[ae (ab ⟨G,0,af⟩) ms.length ms.length] 82,aj de #[ae A ms.length c] 24,aj G (eI (mf ms)) 3]) (λ_=>True) (jv ms):=λgg de G=>ags gg de G A c ms w _ (λW g=>z.aH g) L;have Q:=hid (awW ms);clear z qi;refine Cy func166 aa ?_;simp only[ntmps166,iY,jV,mT,qI,qJ,q4,q1,l0,p4];have a:=a8 w;go_step;refine ah ?_;refine bL a (ar (a' o n g h (ae A ms.length c))) (λv w1 a=>?_);refine bn a (a' 0 0 dq.zero dq.zero (ae af 0 0)) (λct aU a=>?_);refine an ?_;go_step;refine ah ?_;refine bn a #[ae af 0 0] (λq bI a=>?_);refine an ?_;replace a:=a.new (bg af 0 0 73 5 []) ⟨av.refl _ _,Row.nil _ _ _ _,λb ⟨_,_,e⟩=>aG⟩;go_step;refine ah ?_;refine ag ?_;refine pl a 3 66 ?_ (hv:=fi);refine aR (V _ a.only) ?_;rintro e b9 ⟨gg,de,rfl,G,K⟩;replace a:=a.new _ K;refine aT ?_;refine an ?_;go_wp2_with fail;have X:ak _ _ _ [bY [aj gg #[ae (ab ⟨G,0,af⟩) ms.length ms.length] 82,aj de #[ae A ms.length c] 24,aj G (eI (mf ms)) 3],bY [aj v (a' o n g h (ae A ms.length c)) 26,aj q #[ae af 0 0] 24,bg af 0 0 73 5 []],bY [aj ct (a' 0 0 dq.zero dq.zero (ae af 0 0)) 26]]:=ak.EJ (a.pick [0,4,2,1,3]);refine JQ (encs:=(λx:Nat×Int×Int=>#[J R (x.1:Int),gT x.2])) aa (lG V9 ba aa) (λ_=>aa) (E _ _ _) (λpre t=>∃f c1 l,aE (l.map (·.1)=tC ms pre)/\aE (Cn w l)/\t=bY [aj v _ 26,aj q #[ae f (tC ms pre).length c1] 24,bg f ((tC ms pre).length) c1 73 5 (cL l)]) (λ_ _ _=>False) (⟨af,0,[],hid aa,hid (Cn.nil w),aa⟩) X ?_ ?_ ?_;all_goals clear X a
 .rintro l rd pre x W t F eY qq ⟨f,c1,B,y,H,rfl⟩ a;replace a:=a.lX;repeat((fail_if_success (with_reducible refine at_region ?_));gi_step)
  refine kv ?_;refine ag ?_;refine an ?_;first|refine wpIn_skip ?_|skip
  simp only[Exit.then];refine Cs a 3 qq (λcE a=>?_);replace a:ak _ _ _ [aj v (a' o n g h (ae A ms.length c)) 26,aj q #[ae f (tC ms pre).length c1] 24,bg f ((tC ms pre).length) c1 73 5 (cL B),obj l (gh {rd with state:=sV}),F]:=a;have hx1:x.1<ms.length:=axv (eY.subset bc);obtain⟨m,r⟩:∃m,ms[x.1]?=ab m:=⟨_,cF hx1⟩;obtain⟨I,M,j,p,bB,eA,dg⟩:=cZ.jt cO r;have cv:=hid bB;have iV:=hid eA;have S:=hid dg;have U:=hid (awY (l:=pre) r);have jG:(tC ms pre).length<=20:=eb (awX ms pre) (eb aG (eb (Q7 (agw ms)) T));obtain⟨s,hn⟩:=ex ((tC ms pre).length);rw[hn]at jG a;have dG:=hid hn;obtain⟨N,Nb⟩:=ex x.1;rw[Nb]at hx1 S⊢;clear bB eA dg r eY hn Nb Q E;repeat((fail_if_success (with_reducible refine at_region ?_));gi_step)
  refine U7 a [6,7,8] (λi u=>match i with|6=>ae (ab ⟨u.b,0,af⟩) 1 1|7=>ae u.A (s+1) u.c|_=>a1) (λd=>λ|6=>aj ((d 6).b) #[J R m.k,J R m.to,J R m.fr,J R m.n,ae j m.data.length p] 73|7=>bg ((d 7).A) (s+1) ((d 7).c) 73 5 ((cL B)++(jD m j p))|8=>aj q #[ae (d 7).A (s+1) (d 7).c] 24|_=>emp) (λ|7=>[2]|8=>[1]|_=>[]) (λ|0=>[1]|2=>[0]|7=>[11]|_=>[]) (λ|6=>[6]|7=>[7]|8=>[7]|_=>[]) [0,3,4,11,12,13] (λd=>?_);refine dl 0 0 ?_;refine aJ ?_;refine dl 0 66 ?_ (hv:=fi);refine aJ ?_;refine aK (ay (ab ⟨I,(M+N*5),af⟩)) (λ_ _ _=>b4 24 73 5 (bj 12) (bj 13) aa ey ba I M _ c N _ (by show ae A _ _=_;rw[cv]) aa hx1 aa) ?_;refine aK (ar #[J R m.k,J R m.to,J R m.fr,J R m.n,ae j m.data.length p]) (λ_ _ a=>e5 73 (bj 14) aa I (M+N*5) aa ([J R m.k,J R m.to,J R m.fr,J R m.n,ae j m.data.length p]:List aO) (S _ a.only) gi aa ba) ?_;refine kD _ 73 ?_;refine rh (m:=1) 56 (λ_ _ a=>aX.cellsOf (m:=1) (a.aV 1) aa) (EL m j p) ?_ (hby:=by omega);refine fY _ ?_;refine bQ λcV a=>?_;generalize (d 6).b=DQ at a⊢;generalize (d 7).A=P at a⊢;generalize (d 7).c=Z at a⊢;repeat gi_step
  have C:=a.pk [0,5,4,1,2];replace C:ak _ _ _ [bY [aj v (a' o n g h (ae A ms.length c)) 26,aj q #[ae P (s+1) Z] 24,bg P (s+1) Z 73 5 ((cL B)++(jD m j p))],obj l (gh {rd with state:=sV}),F]:=C.fP 3;refine⟨_,?_,C⟩;exact⟨_,_,_,hid (by rw[List.map_append,y,U];rfl),hid (H.out.snoc iV),by rw[U.out,db,dG.out,CD,ER];rfl⟩
 .rintro D t u W ⟨f,c1,B,y,H,rfl⟩ hu a;replace a:=a.lX;replace a:=(a.pk [5,0,1,2,3,4]).lX;rw[Q]at a y;clear E V;go_step;refine ah ?_;refine bh a 1 (a' o n g h (ae A ms.length c)) ?_ (hv:=(e4 _)) (hk:=by omega) (hz:=(by rw[bD];rfl));refine pl a 2 0 ?_;refine aR (JN o n g h _ f c1 (o7 ms) _ aa (agh (a.atR 3) y aa (λx hx=>H x hx _ a.only)) (eb (UL ms) (eb T aS)) (λm r=>qU m (Gf r))) ?_;rintro e dJ ⟨aL,c2,bG,rfl,K,kO⟩;replace a:=a.new _ K;refine aT ?_;refine bb a 1 (ar (a' o n g h (ae aL (o7 ms).length c2))) (λdB a=>?_) (hk:=by show 0+gB (a' _ _ _ _ _)<=_;simp only[bD];decide) (hz:=by show _=ab (gB (a' _ _ _ _ _));rw[bD];rfl) (h1:=(sf aa)) (hc:=xy);refine an ?_;go_wp2_with fail;refine zq a 6 (λw' a=>⟨gH aa _ _ _ _ _ _ _ aa (a.aV 1) GM aa (by rw[bD];rfl),_,_,bG,aa,a.fresh 0,kO⟩)
 .simp
def ang(g b)(n0 b0 d c f q)cS w(h1:f+q<=n0)(j:n0<=b0)(k:((f+q:Nat):Int)<=4611686018427387903):
 aC ax 87 #[ae g n0 b0,ar #[J R 1,J R cS,J R (f:Int),J R (q:Int),ae b d c]] w λe w'=>e=aB (ae (fm g b0 f 1) q (b0 -f))/\au w w':=by
 go_enter Tryz.func87,Tryz.ntmps87;have a:=a8 w;go_step;refine ah ?_;refine bL a (ar #[J R 1,J R cS,J R (f:Int),J R (q:Int),ae b d c]) (λh w1 a=>?_);refine ed ?_;refine bh a 0 #[J R 1,J R cS,J R (f:Int),J R (q:Int),ae b d c] ?_;refine bH (Bn cS (f:Int) (q:Int) b d c _) a (λl a=>?_);refine v3 ?_;refine bn a #[J R 0,J R 0] (λi m a=>?_);refine bb a 0 (ar #[J R (f:Int),J R (q:Int)]) (λn a=>?_);refine ag ?_;refine ah ?_;refine kf ?_;refine pl a 0 0 ?_;refine ag ?_;refine pl a 0 0 ?_;refine ag ?_;refine pl a 0 1 ?_;refine pad _ _ ((f+q:Nat):Int) ?_;refine aI _ (Bl 22 5 1 _ _ _ aa Tryz.underlying22 aw g n0 b0 f (f+q) q aa aa aa ad ad) ?_;refine bU ?_;go_wp2_with fail;go_ret;exact⟨aa,a.only⟩
def anh(f b)(n0 b0 d c)(k cS fr n)(hk:k≠1)w:
 aC ax 87 #[ae f n0 b0,ar #[J R k,J R cS,J R fr,J R n,ae b d c]] w λe w'=>e=aB (ae b d c)/\au w w':=by
 go_enter Tryz.func87,Tryz.ntmps87;have a:=a8 w;go_step;refine ah ?_;refine bL a (ar #[J R k,J R cS,J R fr,J R n,ae b d c]) (λg w1 a=>?_);refine ed ?_;refine bh a 0 #[J R k,J R cS,J R fr,J R n,ae b d c] ?_;refine bH (Bo k cS fr n b d c _ hk) a (λi a=>?_);refine v3 ?_;refine bn a #[J R 0,J R 0] (λh j a=>?_);refine bb a 0 (ar #[J R 0,J R 0]) (λl a=>?_);refine ag ?_;refine ayP ?_;refine pl a 1 4 ?_;refine bU ?_;go_wp2_with fail;go_ret;exact⟨aa,a.only⟩
def nB(old:List Int)(m:bO):List Int:=if m.k=1 then(old.drop m.fr.toNat).take m.n.toNat else m.data
def gJ.copy{m}(h:gJ m)(hk:m.k=1):0<=m.fr/\0<m.n/\m.fr+m.n<=4611686018427387903/\m.data=[]:=by
 rcases h with⟨_,_,a,b,c⟩|⟨h1,_⟩;·obtain⟨d,e,f⟩:=a;grind
 .omega
def gJ.lit{m}(h:gJ m)(hk:m.k≠1):m.k=2/\m.fr=0/\m.n=0/\0<m.data.length:=by
 rcases h with⟨h1,_⟩|⟨h1,_,a,b,c⟩;·omega
 .omega
def ane{o n old m}(h:j3 o n m)(ho:old.length=o):((nB old m).length:Int)=cD m:=by
 unfold nB cD;by_cases hk:m.k=1;·obtain⟨h1,a,_⟩:=h.1.copy hk;have b:=h.2.1 hk;grind
 .grind
def anf(o n b0)(a c)d old m w(h:j3 o n m)(ho:old.length=o)(hc0:o<=b0)(v:m.data.length<=d):
 aC ax 87 #[ae a old.length b0,nC m c d] w λe w'=>∃g j,e=aB (ae g (nB old m).length j)/\(∀W,bX W a old->bX W c m.data->bX W g (nB old m))/\(nB old m).length<=j/\(∀b,ej g b->ej a b\/ej c b)/\au w w':=by
 subst ho;have hlen:=ane h aa;obtain⟨k,cS,fr,q,ds⟩:=m;by_cases hk:k=1;·subst hk;obtain⟨h1,l,p,r⟩:=h.1.copy aa;have s:=h.2.1 aa;simp only at h1 l p r s;obtain⟨f,rfl⟩:=wU h1;obtain⟨q,rfl⟩:=wU (Int.le_of_lt l);have hb:nB old ⟨1,cS,(f:Int),(q:Int),ds⟩=(old.drop f).take q:=ba;rw[hb]at hlen⊢;have u:((old.drop f).take q).length=q:=aG;rw[u];refine(ang a c old.length b0 ds.length d f q cS w ad hc0 ad).mono λe w' h=>⟨_,_,h.1,λW hold _=>?_,ad,λb hb=>bZ (Ts hb),h.2⟩;have:=hold.win (i:=f) (q:=f+q) hc0 ad;rwa [show f+q -f=q by omega]at this
 .have hb:nB old ⟨k,cS,fr,q,ds⟩=ds:=by grind[nB]
  rw[hb];exact(anh a c _ b0 _ d k cS fr q hk w).mono λe w' h=>⟨_,_,h.1,λW _ t=>t,v,λb hb=>.inr hb,h.2⟩
def xK(old:List Int)(l:List bO)(j:Nat):List Int:=(l.take j).flatMap (nB old)
def Be(old:List Int)(ms:List bO):List Int:=(o7 ms).flatMap (nB old)
def avc{old l j m}(h:l[j]?=ab m):xK old l (j+1)=xK old l j++nB old m:=by grind[xK,gx]
def avb old l j:(xK old l j).length<=(l.flatMap (nB old)).length:=by grind[xK,oJ]
def ava old l:xK old l l.length=l.flatMap (nB old):=by grind[xK]
def ak.old{w W:aP}{l:List bu}{s:bu}{A:Option bT}(c:ak w (λ_=>False) W l)(i:Nat)(h:p7 w A)(hi:l[i]?=ab s:=by rfl):∀b,ej A b->¬s.cU b:=λb hb d=>by
 have h1:=h b hb;have a:=(c.low s (cW hi) b d).2;rcases a with a|a;·omega
 .omega
def ayb(o n b0)(g1 g2)(d A)c old ms w(ho:old.length=o)(MQ:o<=1048576)(hc0:o<=b0)(hold:bX w d old)(qo:p7 w d)(C:cZ w A ms)(hv:r6 o n ms)(L:∀m∈ms,m.data.length<=140737488355328)(hg1:g1.l=im old)(hg2:g2.l=im (Be old ms))(x:(Be old ms).length<=1048576):
 aC ax 78 #[ae d o b0,eN (o:Int) (n:Int) g1 g2 (ae A ms.length c)] w λe w'=>e=aB (ar #[J R 0,J R 0])/\au w w':=by
 have hlen:o<=1048576:=ad;have cP:=hid hv;have cO:=hid C;have X:=hid hold;have U:=hid qo;have T:=hid hg1;have G:=hid hg2;have H:=hid x;have c6:=hid (λW g=>ZV o n g1 g2 A c ms W (C.aH g) hv);have ei:=hid (λW g=>agr (o:Int) (n:Int) g1 g2 A c ms W (C.aH g) hv.dL L);have Eb:=hid L;have z:=hid ho;clear C hv hold qo hg1 hg2 x L ho;go_enter func78,ntmps78;have a:=a8 w;go_step;refine ah ?_;refine bL a (ar (a' (o:Int) (n:Int) g1 g2 (ae A ms.length c))) (λcg w1 a=>?_);refine bn a #[J R 0,J R 0] (λdv aU a=>?_);refine ah ?_;refine bh a 1 (a' (o:Int) (n:Int) g1 g2 (ae A ms.length c)) ?_ (hv:=(e4 _)) (hk:=by omega) (hz:=(by rw[bD];rfl));refine bH (c6 _ a.only) a (λbI a=>?_);refine bn a #[J R 0,J R 0] (λeL b9 a=>?_);refine bb a 0 (ar #[J R 0,J R 0]) (λcE a=>?_);refine ah ?_;refine bh a 0 #[J R 0,J R 0] ?_;refine ag ?_;refine pk (ai ao) ?_;refine b5 ?_;refine pl a 2 0 ?_ (hv:=kE);refine v2 ?_;refine a7 (ai ao) ?_;refine hI ?_;refine bN a [1,2] (λi u=>match i with|1=>ae (ab ⟨u.b,0,af⟩) 1 1|2=>ar (aM a6 (im old) [])|_=>a1) (λD=>λ|1=>aj ((D 1).b) #[ae d o b0] 22|_=>emp) (λ_=>[]) (λ|2=>[4]|4=>[2]|_=>[]) (λ|1=>[1]|_=>[]) [0,1,2,4,5] (λD=>?_);refine aJ ?_;refine kD _ 22 ?_;refine dA (λO _ a=>T3 _ d b0 _ O 22 (by rw[z];omega) (by rw[z.out];exact a.aV 0) (X.out.aH a.only) (U.out.aH a.only)) ?_;refine aJ ?_;refine aK _ (λ_ _ a=>mG aa aa (a.aV 0) aoD (by rw[bD];simp[aM,g1.len]) aw (by simp only[aM,kR,iY,hM,g1.len];kernel_rfl)) ?_;refine aK (ai ao) (λ_ _ _=>by(refine(yQ 23 5 32 _ _ 23 aa sW mr aw aw _ _ aa aa (by rw[<-T];exact g1.len) g1.len).trans ?_;rw[T];simp)) ?_;refine aJ ?_;refine bQ λcV a=>?_;generalize (D 1).b=azp at a⊢;replace a:=a.drop 4;refine ah ?_;refine aR (A8 _) ?_;rintro e dJ ⟨F,rfl,K⟩;replace a:=a.new _ K;refine aT ?_;refine ed ?_;refine bh a 3 (a' (o:Int) (n:Int) g1 g2 (ae A ms.length c)) ?_ (hv:=(e4 _)) (hk:=by omega) (hz:=(by rw[bD];rfl));refine aR (ei _ a.only) ?_;rintro e dB ⟨aL,c2,bG,rfl,K,kO⟩;replace a:=a.new _ K;refine aT ?_;refine aI _ (aeI (ft:=24) (k:=66) 26 _ 4 aa aa aw aw fi) ?_;refine eg ?_;obtain⟨l,t⟩:=ex (o7 ms);have aBs:l.length<=20:=by rw[<-t];exact eb (UL ms) cP.out.dL
 have Ac:aE (∀m∈l,j3 o n m/\m.data.length<=140737488355328):=hid (λm q=>by rw[<-t]at q;exact⟨cP.out.fits m (Gf q),Eb m (Gf q)⟩);rw[Be,t]at H G;rw[t]at kO⊢;clear t;have Z:=a.pk [1,0,4,3];go_wp2_with fail;go_loopw [37] (λN wr=>∃(j:Nat) (y:Option bT),j<=l.length/\N=J R (j:Int)/\ak w (λ_=>False) wr [iA F y (xK old l j),bG,aj cg (a' (o:Int) (n:Int) g1 g2 (ae A ms.length c)) 26,aj dv #[J R 0,J R 0] 49]) (λN wr=>l.length -(bR N).toNat);case atStart=>exact⟨0,_,cB _,aa,Z⟩
 case round=>
  clear a Z;obtain⟨j,y,hj,rfl,a⟩:=hrel;by_cases hlt:j<l.length
  .have cf:(j:Int)<(l.length:Int):=ad;obtain⟨m,q⟩:∃m,l[j]?=ab m:=⟨_,cF hlt⟩;obtain⟨f,s,C2,hcm⟩:=kO.cmd q;obtain⟨_,B,I,_⟩:=hcm _ (a.at 1)
   have dm:aE (∀W,bG.p W->W.rangeAt B (0+j*5) [J R m.k,J R m.to,J R m.fr,J R m.n,ae f m.data.length s]):=hid (λW M=>by obtain⟨_,ir,bF,cq⟩:=hcm W M;rw[I]at bF;injection bF with bF;injection bF with bF;rw[<-bF]at cq;exact cq);have S:=hid (λW M=>(hcm W M).1);have cv:=hid I;have Qm:=hid C2;have V:=hid q;clear I hcm C2 q;have r:=avc (old:=old) V;have hpl:=avb old l (j+1);rw[r,db]at hpl;have Y:=hid r;have x:=H.out;have ac1:(xK old l j).length+(nB old m).length<=1048576:=ad;obtain⟨msg,Iw⟩:=ex (xK old l j);have xl:=Ac m (cW V);have Q:aE (∀W,aC ax 87 #[ae d o b0,ar #[J R m.k,J R m.to,J R m.fr,J R m.n,ae f m.data.length s]] W λe w'=>∃E aD,e=aB (ae E (nB old m).length aD)/\(∀W,bX W d old->bX W f m.data->bX W E (nB old m))/\(nB old m).length<=aD/\(∀b,ej E b->ej d b\/ej f b)/\au W w'):=hid (λW=>by have h:=anf o n b0 d f s old m W xl.1 z hc0 (S _ (a.at 1)).2;rw[z]at h;exact h);rw[Iw]at ac1 r a;obtain⟨bs,hW⟩:=ex (nB old m);rw[hW]at ac1 Q r;have Y:=hid r;clear r hpl x xl Iw hW;go_step;refine ah ?_;refine ed ?_;refine aI (ay (ab ⟨B,(0+j*5),af⟩)) (b4 24 73 5 (bj 35) (bj 37) aa ey aw B 0 (l.length) c2 j ((0+j*5)) (by show ae aL _ _=_;rw[cv]) aa hlt aa) ?_;refine aI _ (e5 73 (bj 39) aa B (0+j*5) aa _ (dm _ (a.at 1)) gi aa aw) ?_;refine bn a #[J R 0,J R 0,J R 0,J R 0,ae af 0 0] (λet eZ a=>?_);refine bb a 0 (ar #[J R m.k,J R m.to,J R m.fr,J R m.n,ae f m.data.length s]) (λgV a=>?_);refine gW ?_;refine bh a 0 #[J R m.k,J R m.to,J R m.fr,J R m.n,ae f m.data.length s] ?_;refine aR (Q _) ?_;rintro e hZ ⟨P,dz,rfl,A1,hlc,hloc,g⟩;have alh:=hid A1;have akS:=hid hloc;clear A1 hloc;replace a:=a.aH g;refine aT ?_;refine e' a #[ae P bs.length dz] 22 (λKv jQ a=>?_);refine aR (Vc F _ 0 1 y P dz msg bs _ ad (a.has 2) ((a.aV 0).cell 0 aa) (alh _ (X.out.aH a.only) (S _ (a.at 3)).1) (λb hb=>(akS b hb).elim (a.old 2 U aa b) (λh=>a.ne (i:=3) (j:=2) aa aa aS b (Qm b h)))) ?_;rintro e ke ⟨OK,rfl,bP⟩;replace a:=a.eQ 2 bP;refine aT ?_;refine ah ?_;refine pad (j:Int) 1 ((j+1:Nat):Int) ?_;refine bU ?_;go_wp2_with fail;go_roundw;case rel=>exact⟨j+1,_,ad,aa,by rw[Y.out];exact a.pick [2,3,4,5]⟩
   case measure=>simp[bR]<;>omega
  .have cf:¬(j:Int)<(l.length:Int):=ad;have tn:j=l.length:=ad;rw[tn,ava]at a;have x:=H.out;go_step;refine ah ?_;refine hI ?_;refine bN a [1] (λi _=>match i with|1=>ar (aM a6 (im (l.flatMap (nB old))) [])|_=>a1) (λ_ _=>emp) (λ_=>[]) (λ|1=>[0]|3=>[2]|_=>[]) (λ_=>[]) [0,1,2,3,5] (λD=>?_);refine aJ ?_;refine dA (λO _ a=>zH F y (l.flatMap (nB old)) O ad (a.at 0)) ?_;refine aJ ?_;refine aK _ (λ_ _ a=>mG aa aa (a.aV 0) aoE (by rw[bD];simp[aM,g2.len]) aw (by simp only[aM,kR,iY,hM,g2.len];kernel_rfl)) ?_;refine aK (ai ao) (λ_ _ _=>by(refine(yQ 23 5 32 _ _ 23 aa sW mr aw aw _ g2.l aa aa (by rw[<-G];exact g2.len) g2.len).trans ?_;rw[G];simp)) ?_;refine bQ λk8 a=>?_;replace a:=a.drop 4;refine b5 ?_;refine bb a 3 (ar #[J R 0,J R 0]) (λmn a=>?_);refine an ?_;go_wp2_with fail;refine c8 (v:=_) (gH aa _ _ _ _ _ _ _ aa (a.aV 3) yh aa aw) aa (⟨aa,a.only⟩)
def FO{F:Type}(l:List F)(h:l.length=32):∃a cX bk iw hR A B C D E b c d e f g i j k m n o p q r s t u v w x z,l=[a,cX,bk,iw,hR,A,B,C,D,E,b,c,d,e,f,g,i,j,k,m,n,o,p,q,r,s,t,u,v,w,x,z]:=by
 rcases l with _|⟨a,l⟩;·grind
 rcases l with _|⟨cX,l⟩;·grind
 rcases l with _|⟨bk,l⟩;·grind
 rcases l with _|⟨iw,l⟩;·grind
 rcases l with _|⟨hR,l⟩;·grind
 rcases l with _|⟨A,l⟩;·exact absurd h bc
 rcases l with _|⟨B,l⟩;·exact absurd h bc
 rcases l with _|⟨C,l⟩;·exact absurd h bc
 rcases l with _|⟨D,l⟩;·exact absurd h bc
 rcases l with _|⟨E,l⟩;·exact absurd h bc
 rcases l with _|⟨b,l⟩;·exact absurd h bc
 rcases l with _|⟨c,l⟩;·exact absurd h bc
 rcases l with _|⟨d,l⟩;·exact absurd h bc
 rcases l with _|⟨e,l⟩;·exact absurd h bc
 rcases l with _|⟨f,l⟩;·exact absurd h bc
 rcases l with _|⟨g,l⟩;·exact absurd h bc
 rcases l with _|⟨i,l⟩;·exact absurd h bc
 rcases l with _|⟨j,l⟩;·exact absurd h bc
 rcases l with _|⟨k,l⟩;·exact absurd h bc
 rcases l with _|⟨m,l⟩;·exact absurd h bc
 rcases l with _|⟨n,l⟩;·exact absurd h bc
 rcases l with _|⟨o,l⟩;·exact absurd h bc
 rcases l with _|⟨p,l⟩;·exact absurd h bc
 rcases l with _|⟨q,l⟩;·exact absurd h bc
 rcases l with _|⟨r,l⟩;·exact absurd h bc
 rcases l with _|⟨s,l⟩;·exact absurd h bc
 rcases l with _|⟨t,l⟩;·exact absurd h bc
 rcases l with _|⟨u,l⟩;·exact absurd h bc
 rcases l with _|⟨v,l⟩;·exact absurd h bc
 rcases l with _|⟨w,l⟩;·exact absurd h bc
 rcases l with _|⟨x,l⟩;·exact absurd h bc
 rcases l with _|⟨z,l⟩;·exact absurd h bc
 rcases l with _|⟨y,l⟩;·grind
 .exact absurd h bc
def oX(bs:List Int):dq:=⟨im bs,tk bs⟩
def awv(o n)(g h)w:(Instr.build 26 #[(0,J R o),(1,J R n),(2,ar (aM a6 g.l [])),(3,ar (aM a6 h.l []))]).run ax w=bf (eN o n g h (ae af 0 0)) w:=by obtain⟨a,bF⟩:=g;obtain⟨b,cq⟩:=h;obtain⟨c,cX,bk,iw,hR,F,G,H,I,K,d,e,f,i,j,k,m,p,q,r,s,t,u,v,x,y,z,A,B,C,D,E,rfl⟩:=FO a bF;obtain⟨L,M,bx,c5,hG,np,Kf,Kg,BB,Kh,N,O,P,Q,S,T,U,V,W,X,Y,Z,ahm,ahn,aho,ahp,ahq,ahr,ahs,aht,ahu,ahv,rfl⟩:=FO b cq;kernel_rfl
def am8{o}{a:Act}{w b cX bk iw p q dX dY}(ho:o.op=.build 26 #[(0,b),(1,cX),(2,bk),(3,iw)])(c:a.eval b=J R p)(h1:a.eval cX=J R q)(d:a.eval bk=ar (aM a6 (im dX) []))(f:a.eval iw=ar (aM a6 (im dY) [])):
 (bz a.eval o).run ax w=bf (da (eN p q (oX dX) (oX dY) (ae af 0 0))) w:=by
 have h:=awv p q (oX dX) (oX dY) w;unfold bz;simp only[ho,gC];have e:(#[(0,b),(1,cX),(2,bk),(3,iw)].map λ(i,x)=>(i,a.eval x))=(#[(0,J R p),(1,J R q),(2,ar (aM a6 (oX dX).l [])),(3,ar (aM a6 (oX dY).l []))]:Array (Nat×aO)):=by grind[oX]
 rw[e,h];rfl
def aoR(b0 c1)(b d A)c(old new)ms w(ho:old.length<=1048576)(hn:new.length<=1048576)(hold:bX w b old)(j:p7 w b)(l:bX w d new)(k:p7 w d)(i:cZ w A ms)(hv:ms.length<=20)(h:∀m∈ms,m.data.length<=140737488355328):
 aC ax 26 #[ae b old.length b0,ae d new.length c1,ae A ms.length c] w λe w'=>∃f g t,e=aB (eN (old.length:Int) (new.length:Int) (oX old) (oX new) (ae f ms.length g))/\cj w w' t/\ie t f g ms:=by
 have o:=hid i;have s:=hid hold;have q:=hid j;have r:=hid l;have p:=hid k;have x:=hid hv;have n:=hid h;clear i hold j l k h hv;go_enter func26,ntmps26;have a:=a8 w;go_step;refine ah ?_;refine bn a (a' 0 0 dq.zero dq.zero (ae af 0 0)) (λD w1 a=>?_);refine ah ?_;refine v5 ?_;refine e' a #[ae b old.length b0] 22 (λB E a=>?_);refine bH (T3 _ b b0 old _ 22 ad (a.aV 0) (s.out.aH a.only) (q.out.aH a.only)) a (λF a=>?_);refine ag ?_;refine e' a #[ae d new.length c1] 22 (λC G a=>?_);refine bH (T3 _ d c1 new _ 22 ad (a.aV 0) (r.out.aH a.only) (p.out.aH a.only)) a (λH a=>?_);refine aI (ar _) (am8 aa aa aa aa aa) ?_;refine ag ?_;refine aR (JN _ _ _ _ _ A c ms _ aa (o.out.aH a.only) (eb x aS) n) ?_;rintro e I ⟨aL,c2,z,rfl,y,u⟩;replace a:=a.new _ y;refine aT ?_;refine bb a 3 (ar (a' (old.length:Int) (new.length:Int) (oX old) (oX new) (ae aL ms.length c2))) (λJ a=>?_) (hk:=by show 0+gB (a' _ _ _ _ _)<=_;simp only[bD];decide) (hz:=by show _=ab (gB (a' _ _ _ _ _));rw[bD];rfl) (h1:=(sf aa)) (hc:=xy);refine an ?_;go_wp2_with fail;refine c8 (v:=_) (gH aa _ _ _ _ _ _ _ aa (a.aV 3) GM aa (by rw[bD];rfl)) aa (⟨aL,c2,z,aa,a.fresh 0,u⟩)
section
def uj(bt:Int):List PanicEntry:=[{v:=ve 47 (J R bt),recovered:=ao}]
def si(bt:Int)(v:aO):Ending:=if bt=0 then aB v else KD (uj bt)
def uw:bu:=⟨λ_=>False,λ_=>False,λ_ _ _ _ h=>h⟩
section
variable {P:ew} {ops:Array cT} {rest:List cT} {Q:Exit->Act->aP->Prop} {o:cT} {a:Act} {w:aP}
def Ud{f:FuncId}{args:Array aO}{b:aP->Prop}{ch:List rX}(hc:aC P f args w (λe w'=>e=KD ch/\b w'))(h:∀w',b w'->Q (tM ch) a w')(hr:(bz a.eval o).run P w=bf (.enter f args) w:=by(go_simp;try with_reducible rfl))(c:c7 o (c3 ops a.tmps)=true:=by kernel_rfl):
 cQ P ops Q (o::rest) a w:=by
 unfold cQ;rw[if_pos c];refine bZ ?_;unfold iy;rw[hr];exact KB hc (λe w' ⟨d,h1⟩=>aG)
def NV{t:TypeId}{u:aO}{x:Operand}(h:Q (tM [{v:=ve t u,recovered:=ao}]) a w)(ho:o.op=.panic x:=by rfl)(hx:a.eval x=ve t u:=by rfl)(b:c7 o (c3 ops a.tmps)=true:=by kernel_rfl):
 cQ P ops Q (o::rest) a w:=by
 have hr:(bz a.eval o).run P w=.halt (.panic (ve t u)) w:=by unfold bz;simp[ho,hx,run_panic_iface]
 unfold cQ;rw[if_pos b];refine bZ ?_;unfold iy;rw[hr];exact h
end
def Gm {P:ew} {ops:Array cT} {Q:Exit->Act->aP->Prop} {aq:aP} {FX:Nat->Prop} {bm:List bu} {f:Nat} {w:aP} {a0:Act} (QP:List rX->aP->Prop) (e:∀c a w,a.defers=a0.defers->QP c w->Q (tM c) a w) (b:ak aq FX w bm) (LE:List Nat) (bS:Nat->fg->aO) (out:(Nat->fg)->Nat->bu) (ins rd look:Nat->List Nat) (fin:List Nat)
 (ko:∀us,cM P ops Q (oR ops) LE bS aq FX bm out ins rd fin QP us 0 ops.toList a0)
 (hloc:Ci look out LE:=by(repeat' (first|exact trivial|refine And.intro (λus g h=>?_) ?_|rfl|(simp(disch:=decide) only[h];done))))
 (hm:P.follows .mixedOrders=true:=by kernel_rfl) (hk:EW ops (oR ops) (y1 ops)=true:=by kernel_rfl) (hsz:((dU ops.size).all λi=>match oR ops i with|some d=>decide (d<a0.tmps.size)|none=>LE.contains i)=true:=by kernel_rfl) (hs:Gd bm.length ops.size (y1 ops) LE ins rd look fin=true:=by kernel_rfl):
 (Code.region f ops az).wp P Q a0 w:=wp_region_any hm (U6 b (y1 ops) (oR ops) LE bS out ins rd look fin _ hk hsz hs e (hloc.spec) ko)
section
variable {P:ew} {ops:Array cT} {rest:List cT} {Q:Exit->Act->aP->Prop} {o:cT} {a bC:Act} {aq:aP} {FX:Nat->Prop} {dst:Nat->Option Tmp} {LE:List Nat} {bS:Nat->fg->aO} {bm:List bu} {out:(Nat->fg)->Nat->bu} {ins rd:Nat->List Nat} {fin:List Nat} {QP:List rX->aP->Prop} {us:Nat->fg} {i:Nat}
def ET {f:FuncId} {args:Array aO} (hc:∀w (Fr:List bu),ak aq FX w ((ins i).map (dk bm out us)++((rd i).map (dk bm out us)++Fr))->aC P f args w λe w'=>∃ch,e=KD ch/\QP ch w') (h:cM P ops Q dst LE bS aq FX bm out ins rd fin QP us (i+1) rest bC)
 (hr:∀w,(bz a.eval o).run P w=bf (.enter f args) w:=by(intro _;go_simp;try with_reducible rfl)) (hi:decide (i∈LE)=true:=by kernel_rfl) (hw:c7 o (c3 ops a.tmps)=true:=by kernel_rfl) (ha:a.put o.dst (bS i (us i))=bC:=by((try simp only[Act.put,List.setIfInBounds_toArray,List.set_cons_zero,List.set_cons_succ]);rfl)):cM P ops Q dst LE bS aq FX bm out ins rd fin QP us i (o::rest) a:=by
 refine w9 (λw Fr b K d=>?_) h hi ha;rw[if_pos hw];unfold iy;rw[hr];exact KB (hc w Fr b) (λe w' ⟨ch,g,c⟩=>aG)
end
section
variable {hV S pl jp:aO} {bd pk o n st nx:Int} {g h:dq} {bE:Bool}
def q8(S pl jp:aO)(st nx:Int)(bE:Bool):List Value:=[S,pl,jp,J R st,J R nx,ai bE]
def ue(hV:aO)(bd pk o n:Int):List Value:=[hV,J R bd,J R pk,J R o,J R n]
def hN(hV:aO)(bd pk:Int)(o n:Int)(g h:dq)(S pl jp:aO)(st nx:Int)(bE:Bool):Array Value:=(ue hV bd pk o n++((g.l.map a6++h.l.map a6)++q8 S pl jp st nx bE)).toArray
theorem Ro(g h:dq):(g.l.map a6++h.l.map a6).length=64:=by simp[g.len,h.len]
def po:(hN hV bd pk o n g h S pl jp st nx bE).size=75:=by simp[hN,ue,q8,g.len,h.len]
def r7{j:Nat}{v}(hv:(ue hV bd pk o n)[j]?=ab v):(hN hV bd pk o n g h S pl jp st nx bE)[j]?=ab v:=by grind[hN]
def fA{j v}(hv:(q8 S pl jp st nx bE)[j]?=ab v):(hN hV bd pk o n g h S pl jp st nx bE)[69+j]?=ab v:=by rw[hN,List.getElem?_toArray,oI (by show 5<=_;omega),show 69+j -(ue hV bd pk o n).length=64+j by show 69+j -5=_;omega,oI (by grind[Ro]),Ro,uc];exact hv
def amA{v}:lay (hN hV bd pk o n g h S pl jp st nx bE) 2 [J R v]=hN hV bd v o n g h S pl jp st nx bE:=ba
def Rn{j}{T:List aO}{v a d b i c f}(p:j<6)(m:(q8 S pl jp st nx bE).take j++(v::(q8 S pl jp st nx bE).drop (j+1))=q8 a d b i c f):lay (hN hV bd pk o n g h S pl jp st nx bE) (69+j) [v]=hN hV bd pk o n g h a d b i c f:=by
 have e:=zp [v] (ue hV bd pk o n++((g.l.map a6++h.l.map a6)++(q8 S pl jp st nx bE).take j)) ((q8 S pl jp st nx bE).drop j) (by show 1<=_;rw[List.length_drop];show 1<=6 -j;omega)
 have k:(ue hV bd pk o n++((g.l.map a6++h.l.map a6)++(q8 S pl jp st nx bE).take j)).length=69+j:=by rw[db,db,Ro,List.length_take];show 5+(64+gI j 6)=_;omega
 rw[k]at e;have h1:ue hV bd pk o n++((g.l.map a6++h.l.map a6)++(q8 S pl jp st nx bE).take j)++(q8 S pl jp st nx bE).drop j=ue hV bd pk o n++((g.l.map a6++h.l.map a6)++q8 S pl jp st nx bE):=by grind[oJ]
 grind[hN,List.drop_drop,List.length_singleton]
def LQ{v}:lay (hN hV bd pk o n g h S pl jp st nx bE) 72 [J R v]=hN hV bd pk o n g h S pl jp v nx bE:=Rn (T:=[]) (j:=3) aS aa
def YW{v}:lay (hN hV bd pk o n g h S pl jp st nx bE) 73 [J R v]=hN hV bd pk o n g h S pl jp st v bE:=Rn (T:=[]) (j:=4) aS aa
def YX{v}:lay (hN hV bd pk o n g h S pl jp st nx bE) 74 [ai v]=hN hV bd pk o n g h S pl jp st nx v:=Rn (T:=[]) (j:=5) aS aa
def Mi{L A B C:List aO}(cd:L=A++(B++C)){k m}(a:A.length=k)(b:B.length=m):L.toArray.extract k (k+m)=B.toArray:=aG
def amz:(hN hV bd pk o n g h S pl jp st nx bE).extract 3 (3+(a' o n g h S).size)=a' o n g h S:=by rw[bD];exact Mi (A:=[hV,J R bd,J R pk]) (B:=_) (C:=[pl,jp,J R st,J R nx,ai bE]) (by simp[ue,q8]) aa (by simp[g.len,h.len])
def YV:(hN hV bd pk o n g h S pl jp st nx bE).extract 5 (5+(aM a6 g.l []).size)=aM a6 g.l []:=by
 have h1:(aM a6 g.l []).size=32:=by simp[aM,g.len]
 rw[h1];exact Mi (A:=ue hV bd pk o n) (B:=_) (C:=h.l.map a6++q8 S pl jp st nx bE) bc aa (by simp[g.len])
def Ht:(hN hV bd pk o n g h S pl jp st nx bE).extract 37 (37+(aM a6 h.l []).size)=aM a6 h.l []:=by
 have h1:(aM a6 h.l []).size=32:=by simp[aM,h.len]
 rw[h1];exact Mi (A:=ue hV bd pk o n++g.l.map a6) (B:=_) (C:=q8 S pl jp st nx bE) bc (by simp[ue,g.len]) (by simp[h.len])
end
structure o9 where
 B:Nat
 di:Nat
 dD:Nat
 bd:Nat
 o:Nat
 n:Nat
 p:Nat
 c:Nat
 first:Nat
 id:Nat
 g1:dq
 g2:dq
 A:Option bT
 ms:List bO
def cJ(E:o9)(pk st nx:Int)(bE:Bool):bu:=aj E.di (hN (dc E.B) (E.bd:Int) pk (E.o:Int) (E.n:Int) E.g1 E.g2 (ae E.A E.ms.length E.c) (ay (ab ⟨E.p,0,af⟩)) (ay (ab ⟨E.dD,0,af⟩)) st nx bE) 135
def cY(E:o9)(j:pg)(A:Option bT)(c:Nat):bu:=qu E.dD E.B E.first E.bd (E.id:Int) j A c
end
def JD w:
 aC ax 226 #[J R 0] w λe w'=>e=aB (bo #[])/\au w w':=by
 go_enter Tryz.func226,Tryz.ntmps226;have a:=a8 w;go_step;refine ah ?_;refine ag ?_;refine pk (ai ao) ?_;refine an ?_;go_wp2_with fail;first|go_end0|refine bodyPost_ret (results_none rfl _ _ _) rfl ?_
 exact⟨aa,a.only⟩
def JC bt(h:bt≠0)w:
 aC ax 226 #[J R bt] w λe w'=>e=KD (uj bt)/\au w w':=by
 go_enter Tryz.func226,Tryz.ntmps226;have a:=a8 w;go_step;refine ah ?_;refine ag ?_;refine aI (ai az) (by(go_simp;try simp[h])) ?_;refine b5 ?_;refine pk (ve 47 (J R bt)) ?_;refine NV ?_;exact⟨aa,aa,a.only⟩
def afu E(pk st nx)bE m d(a q)(aq w)FX F(k:dt d)(l:d.down=ao)(n:a+q<=d.bytes.length)(b:ak aq FX w [cJ E pk st nx bE,aN E.B m d,F]):
 aC ax 225 #[ay (ab ⟨E.di,0,af⟩),gT ((a:Int),(q:Int))] w λe w'=>∃g h,e=aB (ae g q h)/\ak aq FX w' [cz g h (pJ d a q),cJ E (max pk (q:Int)) st nx bE,aN E.B m d,F]:=by
 have o:=hid k;have p:=hid l;have r:=hid n;clear k l n;go_enter func225,ntmps225;go_step;refine ah ?_;refine bL b (ar #[J R (a:Int),J R (q:Int)]) (λx w1 b=>?_);refine hI ?_;refine bN b [5] (λi u=>match i with|5=>bo #[ae u.A q u.c,J R 0]|_=>a1) (λf=>λ|5=>cz ((f 5).A) ((f 5).c) (pJ d a q)|_=>emp) (λ_=>[]) (λ|3=>[1]|4=>[0]|5=>[2]|_=>[]) (λ|5=>[5]|_=>[]) [0,1,2,3,9] (λf=>?_);refine c5 ?_;refine dl 0 0 ?_ (hv:=r7 (j:=0) aa);refine eO 0 #[J R (a:Int),J R (q:Int)] ?_;refine dh (λt Fr b=>(aay E.B m d a q t (b.has 0) o p r).mono ?_) ?_;·rintro e G ⟨g,h,rfl,s⟩;exact⟨{A:=g,c:=h},aa,b.new _ s⟩
 refine np ?_;refine bQ λz b=>?_;generalize (f 5).A=v at b⊢;generalize (f 5).c=y at b⊢;refine b5 ?_;refine bH (JD _) b (λC b=>?_);refine o8 ?_;refine pl b 1 2 ?_ (hv:=r7 (j:=2) aa);refine v2 ?_;refine aI _ (by(go_simp;try rfl)) ?_;refine v2 ?_;refine bb b 1 (J R (max pk (q:Int))) (λD b=>?_) (hk:=by show _+1<=_;rw[po];decide) (hc:=amA);refine ah ?_;refine eg ?_;go_wp2_with fail;go_ret;exact⟨_,_,aa,b.pick [4,1,2,3]⟩
def Uf{s}(d:1<=s):∀{f o n x},x∈rD s f o n->∃a q:Nat,x=((a:Int),(q:Int))/\o<=a/\1<=q/\q<=s/\a+q<=o+n
 |0,_,_,_,h=>(fS h).elim
 |f+1,o,n,x,h=>by
  rw[rD]at h;split at h;·exact(fS h).elim
  .rcases gD.1 h with rfl|h;·exact⟨o,gI s n,aa,ad,ad,ad,ad⟩
   .obtain⟨a,q,e,h1,b,c,g⟩:=Uf d h;exact⟨a,q,e,ad,b,c,ad⟩
def jN(d:dF)(l:List (Int×Int)):List Int:=l.flatMap (λx=>pJ d x.1.toNat x.2.toNat)
def lM(pk:Int)(l:List (Int×Int)):Int:=l.foldl (λk x=>max k x.2) pk
theorem apQ d l x:jN d (l++[x])=jN d l++pJ d x.1.toNat x.2.toNat:=by simp[jN]
theorem apS pk l x:lM pk (l++[x])=max (lM pk l) x.2:=by simp[lM]
def HR{d}(a:dt d){s}(b:1<=s):∀(f o n),o+n<=d.bytes.length->(jN d (rD s f o n)).length<=n
 |0,_,_,_=>by simp[rD,jN]
 |f+1,o,n,h=>by
  rw[rD];split;·simp[jN]
  .have c:=HR a b f (o+gI s n) (n -gI s n) ad;have e:jN d (((o:Int),((gI s n:Nat):Int))::rD s f (o+gI s n) (n -gI s n))=pJ d o (gI s n)++jN d (rD s f (o+gI s n) (n -gI s n)):=rfl;rw[e,db,zC a ad];omega
def apR d l j:(jN d (l.take j)).length<=(jN d l).length:=by grind[jN,oJ]
def axK{a:Type}{l:List a}{j x}(h:l[j]?=ab x):l.take (j+1)=l.take j++[x]:=by grind[gx]
theorem apH l:(rj l).length=l.length*2:=by
 induction l with
 |nil=>rfl
 |cons x l a=>grind[rj]
def apG{l j x}(hx:l[j]?=ab x):∀(i) v,([J R x.1,J R x.2]:List aO)[i]?=ab v->(rj l)[j*2+i]?=ab v:=λi v hv=>by
 obtain⟨a,rfl⟩:=eM.1 hx;have e:rj l=rj (l.take j)++([J R l[j].1,J R l[j].2]++rj (l.drop (j+1))):=by grind[List.drop_eq_getElem_cons,oJ,rj]
 grind[apH,uc]
def apT E(pk st nx)bE m d(a q n)r msg(aq w)FX F(C:dt d)(Z:d.down=ao)(H:a+q<=d.bytes.length)(iK:1<=E.bd)(hb2:E.bd<=65536)(hq:a+q<=1048576)(G:msg.length<=1099511627776)(f:ak aq FX w [cJ E pk st nx bE,iA n r msg,aN E.B m d,F]):
 aC ax 224 #[ay (ab ⟨E.di,0,af⟩),ay (ab ⟨n,0,af⟩),gT ((a:Int),(q:Int))] w λe w'=>e=aB (bo #[])/\∃Gu,ak aq FX w' [cJ E (lM pk (hY E.bd a q)) st nx bE,iA n Gu (msg++jN d (hY E.bd a q)),aN E.B m d,F]:=by
 have Q:=hid C;have mu:=hid Z;have S:=hid H;obtain⟨l,o⟩:=ex (hY E.bd a q);have Ac:=hid (λ(x:Int×Int) (h:x∈l)=>by rw[<-o]at h;exact Uf (s:=_) iK h);have jO:(jN d l).length<=q:=by rw[<-o];exact HR C iK q a q H
 have gA:l.length<=1048576:=by rw[<-o];have h:=Ue E.bd iK q a q (b7 _);have h2:(q+E.bd -1)/E.bd<=q:=(by rw[al7 ad];have:=oK q iK;omega);unfold hY;omega
 have U:=hid (λW=>axt a q E.bd ⟨ad,ad⟩ ad (by have h2:(q+E.bd -1)/E.bd<=q:=(by rw[al7 ad];have:=oK q iK;omega);omega) W);rw[o]at U⊢;have lZ:=hid jO;have P':=hid (show d.bytes.length<=d.bytes.length from b7 _);clear C Z H o jO P';go_enter func224,ntmps224;go_step;refine ah ?_;refine bL f (ar #[J R (a:Int),J R (q:Int)]) (λeL w1 f=>?_);refine cx ?_;refine bN f [5] (λi u=>match i with|5=>ae u.A l.length u.c|_=>a1) (λp=>λ|5=>bg ((p 5).A) l.length ((p 5).c) 35 2 (rj l)|_=>emp) (λ_=>[]) (λ|0=>[0]|4=>[1]|_=>[]) (λ|5=>[5]|_=>[]) [0,1,2,3,4,10] (λp=>?_);refine eO 0 #[J R (a:Int),J R (q:Int)] ?_;refine c5 ?_;refine dl 0 1 ?_ (hv:=r7 (j:=1) aa);refine dh (λwl Fr f=>(U _).mono ?_) ?_;·rintro e dr ⟨aA,aD,rfl,fj,g⟩;exact⟨{A:=aA,c:=aD},aa,f.lz g fj⟩
 refine bx ?_;refine bQ λaU f=>?_;generalize (p 5).A=L at f⊢;generalize (p 5).c=V at f⊢;have T:=f.pk [1,2,3,5,4];go_wp2_with fail;go_loopw [15] (λK wr=>∃(j:Nat) (r:Option bT),j<=l.length/\K=J R (j:Int)/\ak aq FX wr [cJ E (lM pk (l.take j)) st nx bE,iA n r (msg++jN d (l.take j)),aN E.B m d,bg L l.length V 35 2 (rj l),F]) (λK wr=>l.length -(bR K).toNat);case atStart=>exact⟨0,r,cB _,aa,by rw[show msg++jN d _=msg from by simp[jN]];exact T⟩
 case round=>
  clear f T;obtain⟨j,OK,hj,rfl,f⟩:=hrel;by_cases hlt:j<l.length
  .have cf:(j:Int)<(l.length:Int):=ad;obtain⟨x,hx⟩:∃x,l[j]?=ab x:=⟨_,cF hlt⟩;obtain⟨k,cI,rfl,o1,oq,Dc,acQ⟩:=Ac x (cW hx);obtain⟨z,Y⟩:=(f.atR 3).at ad;have r4:=hid (apG hx);have zj:=axK hx;have akE:aE (lM pk (l.take (j+1))=max (lM pk (l.take j)) (cI:Int)):=hid (by grind[apS]);have D:jN d (l.take (j+1))=jN d (l.take j)++pJ d k cI:=by grind[apQ]
   have k3:=apR d l (j+1);rw[D,db]at k3;have z':=hid D;have N:=hid Y;obtain⟨Bc,I⟩:=ex (lM pk (l.take j));obtain⟨aek,y⟩:=ex (msg++jN d (l.take j));have G:aek.length+(pJ d k cI).length<=70368744177664:=by rw[<-y,db];have:=lZ.out;omega
   obtain⟨bs,t⟩:=ex (pJ d k cI);have hbl:bs.length=cI:=by rw[<-t];exact zC Q (by have:=S.out;omega)
   rw[I,y]at f;rw[t]at G;have s4:=hid I;have oa:=hid y;have P:=hid t;have lf:=hid hbl;clear hx Y zj D k3 I y t hbl;go_step;refine ah ?_;refine ed ?_;refine aI (ay (ab ⟨z,(0+j*2),af⟩)) (b4 176 35 2 (bj 13) (bj 15) aa underlying176 aw z 0 (l.length) V j ((0+j*2)) (by show ae L _ _=_;rw[N]) aa hlt aa) ?_;refine aI _ (e5 35 (bj 17) aa z (0+j*2) aa _ (Row.range (f.atR 3) N (λi v hi=>by rw[Nat.zero_add];exact r4 i v hi)) Tryz.underlying35 aa aw) ?_;refine bn f #[J R 0,J R 0] (λfQ bI f=>?_);refine bb f 0 (ar #[J R (k:Int),J R (cI:Int)]) (λb9 f=>?_);refine gW ?_;refine bh f 0 #[J R (k:Int),J R (cI:Int)] ?_;have O:=(f.pk [1,3,0,2,4,5]).t2;refine aR (afu E _ st nx bE m d k cI _ _ _ _ Q mu (by have:=S.out;omega) O) ?_;rintro e cE ⟨M,X,rfl,f⟩;clear O;rw[P]at f;replace f:=f.iw;refine aT ?_;refine e' f #[ae M cI X] 22 (λahS cV f=>?_);refine aR ((by have h:=Vc n _ 0 1 OK M X aek bs _ G (f.has 5) (by rw[lf.out];exact(f.aV 0).cell 0 aa) (f.jW 1).1 (λb hb=>f.ne (i:=1) (j:=5) aa aa aS b hb);exact h)) ?_;rintro e dJ ⟨ay8,rfl,bP⟩;replace f:=f.eQ 5 bP;refine aT ?_;refine ah ?_;refine pad (j:Int) 1 ((j+1:Nat):Int) ?_;refine bU ?_;go_wp2_with fail;go_roundw;case rel=>exact⟨j+1,_,ad,aa,by rw[akE.out,z'.out,s4.out,<-kQ,oa.out,P.out];exact f.pick [2,5,3,6,7]⟩
   case measure=>simp[bR]<;>omega
  .have cf:¬(j:Int)<(l.length:Int):=ad;have tn:l.take j=l:=ub ad;rw[tn]at f;go_step;refine ah ?_;refine bU ?_;go_wp2_with fail;first|go_end0|refine bodyPost_ret (results_none rfl _ _ _) rfl ?_
   exact⟨aa,_,f.pick [0,1,2,4]⟩
def jw(d:dF)(a:Nat)(bs:List Int):Int×dF:=if(lO d a bs).1≠0 then lO d a bs else lN (lO d a bs).2
def uv{bt}(h:bt≠0)v:si bt v=KD (uj bt):=if_neg h
def aaC E(pk st nx)bE m d a c du bs(aq w)FX F(t:dt d)(v:d.down=ao)(x:a+bs.length<=d.bytes.length)(s:d.cache.length<=1000000000)(b:ak aq FX w [cJ E pk st nx bE,cz c du bs,aN E.B m d,F]):
 aC ax 228 #[ay (ab ⟨E.di,0,af⟩),J R (a:Int),ae c bs.length du] w λe w'=>e=si (jw d a bs).1 (bo #[])/\∃k,ak aq FX w' [cJ E pk st nx bE,cz c du bs,aN E.B k (jw d a bs).2,F]:=by
 have K:=hid t;have L:=hid v;have M:=hid x;have I:=hid s;have z:=aaA t x v s;obtain⟨c1,hc1⟩:=ex ((lO d a bs).1);obtain⟨g,u⟩:=ex ((lO d a bs).2);have hfw:lO d a bs=(c1,g):=aG;rw[u]at z;have N:=hid z
 have o:aE (∀W p,Has W (aN E.B m d)->aX W p #[ae c bs.length du] 22->bX W c bs->¬(aN E.B m d).cU p->(∀y,ej c y->¬(aN E.B m d).cU y)->aC ax 291 #[dc E.B,J R (a:Int),ae (ab ⟨p,0,af⟩) 1 1] W λe w'=>e=aB (J R c1)/\∃k,Turned W w' (aN E.B m d) (aN E.B k g)):=hid (λW p h P hb h1 O=>by have q:=aaD E.B m d a p c du bs W h K L M I (P.cell 0 aa) h1 hb O;rw[hc1,u]at q;exact q);have n:=hid hfw;clear t v x s z hc1 u hfw;by_cases hz:c1=0
 .subst hz;have hwr:jw d a bs=lN g:=by unfold jw;rw[n];rfl
  rw[hwr];have l:=hid (λm W h=>ZZ E.B m g W h N);obtain⟨c2,hc2⟩:=ex ((lN g).1);obtain⟨Q,G⟩:=ex ((lN g).2);rw[hc2,G]at l⊢;clear hwr hc2 G;by_cases hz2:c2=0
  .subst hz2;go_enter V3,Ww;go_step;refine ah ?_;refine v3 ?_;refine pl b 0 0 ?_ (hv:=r7 (j:=0) aa);refine v2 ?_;refine e' b #[ae c bs.length du] 22 (λD w1 b=>?_);refine aR (o _ _ (b.has 3) (b.aV 0) (b.jW 2).1 (λh=>b.ne (i:=0) (j:=3) aa aa aS _ aa h) (b.ne (i:=2) (j:=3) aa aa aS)) ?_;rintro e U ⟨rfl,A,f⟩;replace b:=b.eQ 3 f;refine aT ?_;refine bH (JD _) b (λV b=>?_);refine jk ?_;refine pl b 1 0 ?_ (hv:=r7 (j:=0) aa);refine aR (l _ _ (b.has 3)) ?_;rintro e X ⟨rfl,C,f⟩;replace b:=b.eQ 3 f;refine aT ?_;refine bH (JD _) b (λY b=>?_);refine an ?_;go_wp2_with fail;first|go_end0|refine bodyPost_ret (results_none rfl _ _ _) rfl ?_
   exact⟨aa,C,b.pick [1,2,3,4]⟩
  .rw[uv hz2];go_enter V3,Ww;go_step;refine ah ?_;refine v3 ?_;refine pl b 0 0 ?_ (hv:=r7 (j:=0) aa);refine v2 ?_;refine e' b #[ae c bs.length du] 22 (λD Z b=>?_);refine aR (o _ _ (b.has 3) (b.aV 0) (b.jW 2).1 (λh=>b.ne (i:=0) (j:=3) aa aa aS _ aa h) (b.ne (i:=2) (j:=3) aa aa aS)) ?_;rintro e dJ ⟨rfl,A,f⟩;replace b:=b.eQ 3 f;refine aT ?_;refine bH (JD _) b (λdB b=>?_);refine jk ?_;refine pl b 1 0 ?_ (hv:=r7 (j:=0) aa);refine aR (l _ _ (b.has 3)) ?_;rintro e H ⟨rfl,C,f⟩;replace b:=b.eQ 3 f;refine aT ?_;refine Ud (JC c2 hz2 _) (λH r=>?_);replace b:=b.aH r;exact⟨aa,aa,C,b.pick [1,2,3,4]⟩
 .have hwr:jw d a bs=(c1,g):=by unfold jw;rw[if_pos (by rw[n];exact hz),n]
  rw[hwr];show aC _ _ _ _ λe w'=>e=si c1 _/\∃k,ak _ _ w' [_,_,aN E.B k g,_];rw[uv hz];go_enter V3,Ww;go_step;refine ah ?_;refine v3 ?_;refine pl b 0 0 ?_ (hv:=r7 (j:=0) aa);refine v2 ?_;refine e' b #[ae c bs.length du] 22 (λD S b=>?_);refine aR (o _ _ (b.has 3) (b.aV 0) (b.jW 2).1 (λh=>b.ne (i:=0) (j:=3) aa aa aS _ aa h) (b.ne (i:=2) (j:=3) aa aa aS)) ?_;rintro e T ⟨rfl,A,f⟩;replace b:=b.eQ 3 f;refine aT ?_;refine Ud (JC c1 hz _) (λH r=>?_);replace b:=b.aH r;exact⟨aa,aa,A,b.pick [1,2,3,4]⟩
def Rm E(pk st)(nx:Nat)bE(m:nX)(d:dF)(aq w)FX F(hn:nx<=1048576)(a:ak aq FX w [cJ E pk st (nx:Int) bE,F]):
 aC ax 229 #[ay (ab ⟨E.di,0,af⟩)] w λe w'=>e=aB (bo #[])/\ak aq FX w' [cJ E pk 1 ((nx+1:Nat):Int) ao,F]:=by
 go_enter func229,ntmps229;go_step;refine ah ?_;refine v4 ?_;refine bb a 0 (J R 1) (λw1 a=>?_) (hk:=by show _+1<=_;rw[po];decide) (hc:=LQ);refine v2 ?_;refine bb a 0 (ai ao) (λb a=>?_) (hk:=by show _+1<=_;rw[po];decide) (hc:=YX);refine jk ?_;refine pl a 0 73 ?_ (hv:=fA (j:=4) aa);refine pad _ 1 ((nx+1:Nat):Int) ?_;refine v2 ?_;refine bb a 0 (J R ((nx+1:Nat):Int)) (λc a=>?_) (hk:=by show _+1<=_;rw[po];decide) (hc:=YW);refine an ?_;go_wp2_with fail;first|go_end0|refine bodyPost_ret (results_none rfl _ _ _) rfl ?_
 exact⟨aa,a⟩
def asC E (nx cu of k:Nat) j o p m d f du ds (aq w) FX F (A:j.next=(nx:Int)) (q:jA d E.first E.bd) (v:d.down=ao) (z:d.cache.length<=1000000000) (x:ds.length<=E.bd) (t:nx<18446744073709551616/\E.id<18446744073709551616/\cu<=4611686018427387903/\of<=4611686018427387903)
 (I:ak aq FX w [cY E j o p,aN E.B m d,cz f du ds,aj k #[ae f ds.length du] 22,F]):
 aC ax 227 #[ay (ab ⟨E.dD,0,af⟩),J R (cu:Int),J R (of:Int),ae (ab ⟨k,0,af⟩) 1 1] w λe w'=>∃c l n,e=aB (J R (iG d E.first E.bd E.id j nx cu of ds).1)/\ak aq FX w' [cY E (iG d E.first E.bd E.id j nx cu of ds).2.1 c l,aN E.B n (iG d E.first E.bd E.id j nx cu of ds).2.2,cz f du ds,aj k #[ae f ds.length du] 22,F]:=by
 have a:=I.star;have h1:=q.dY;refine(adE E.dD E.B E.first E.bd E.id nx cu of j o p m d ds _ w (a.has 0) A q v z x t (λW g=>?_)).mono λe w' ⟨y,c,l,n,u⟩=>⟨c,l,n,y,ak.fw (a.DH 0 aa u)⟩;have C:=(a.aV 2).cell 0 aa;have hb:=(a.jW 1).1;exact(HF k f du ds W (g.cell C (λh=>a.ne (i:=2) (j:=0) aa aa aS k aa h)) (hb.only g (λb off e=>a.ne (i:=1) (j:=0) aa aa aS b ⟨_,_,e⟩)) ad).mono (λe w' ⟨c,l,h1,r,s⟩=>⟨c,l,h1,Row.nj r,s⟩)
def asB E (nx cu of:Nat) j f i m d (aq w) FX F (t:j.next=(nx:Int)) (s:jA d E.first E.bd) (p:d.down=ao) (r:d.cache.length<=1000000000) (n:nx<18446744073709551616/\E.id<18446744073709551616/\cu<=4611686018427387903/\of<=4611686018427387903)
 (I:ak aq FX w [cY E j f i,aN E.B m d,F]):
 aC ax 227 #[ay (ab ⟨E.dD,0,af⟩),J R (cu:Int),J R (of:Int),ae af 0 0] w λe w'=>∃a b c,e=aB (J R (iG d E.first E.bd E.id j nx cu of []).1)/\ak aq FX w' [cY E (iG d E.first E.bd E.id j nx cu of []).2.1 a b,aN E.B c (iG d E.first E.bd E.id j nx cu of []).2.2,F]:=by
 have h:=I.star;exact(adE _ _ _ _ _ nx cu of j f i m d [] _ w (h.has 0) t s p r (cB _) n (λW g=>(anZ W).mono (λe w' ⟨a,b,h1,k,l⟩=>⟨a,b,h1,Row.nj k,l⟩))).mono λe w' ⟨q,a,b,c,o⟩=>⟨a,b,c,q,ak.fw (h.DH 0 aa o)⟩
def avL E(pk st)(nx:Nat)bE m d a j i k(aq w)FX F(u:dt d)(x:d.down=ao)(y:a+j.last.data.length<=d.bytes.length)(s:d.cache.length<=1000000000)(U:nx<=1048576)(hh:j.has=az)(L:j.last.off=(a:Int))(K:j.last.data.length<=140737488355328)(b:ak aq FX w [cJ E pk st (nx:Int) bE,cY E j i k,aN E.B m d,F]):
 aC ax 144 #[ay (ab ⟨E.di,0,af⟩)] w λe w'=>e=si (jw d a j.last.data).1 (bo #[])/\((jw d a j.last.data).1=0->∃c,ak aq FX w' [cJ E pk 1 ((nx+1:Nat):Int) ao,cY E j i k,aN E.B c (jw d a j.last.data).2,F])/\((jw d a j.last.data).1≠0->∃c,ak aq FX w' [cJ E pk st (nx:Int) bE,cY E j i k,aN E.B c (jw d a j.last.data).2,F]):=by
 have Q:=hid u;have S:=hid x;have T:=hid y;have P:=hid s;have D:aE (∀W,Has W (cY E j i k)->aC ax 58 #[ay (ab ⟨E.dD,0,af⟩)] W λe w'=>∃A I,e=aB (bo #[ar (recC j.last A I),ai az])/\cj W w' (cz A I j.last.data)):=hid (λW h=>by have q:=Ty E.dD E.B E.first E.bd (E.id:Int) j i k W h K;rw[hh]at q;exact q);obtain⟨bt,r⟩:=ex ((jw d a j.last.data).1);obtain⟨n,v⟩:=ex ((jw d a j.last.data).2);have H:aE (∀W l du F m,ak aq FX W [cJ E pk st (nx:Int) bE,cz l du j.last.data,aN E.B m d,F]->aC ax 228 #[ay (ab ⟨E.di,0,af⟩),J R (a:Int),ae l j.last.data.length du] W λe w'=>e=si bt (bo #[])/\∃c,ak aq FX w' [cJ E pk st (nx:Int) bE,cz l du j.last.data,aN E.B c n,F]):=hid (λW l du F m h=>by have q:=aaC E pk st nx bE m d a l du j.last.data aq W FX F u x y s h;rw[r,v]at q;exact q);rw[r,v];have G:=hid L;clear u x y s hh r v K L;by_cases hz:bt=0
 .subst hz;go_enter Tryz.func144,Tryz.ntmps144;go_step;refine ah ?_;refine v3 ?_;refine pl b 0 71 ?_ (hv:=fA (j:=2) aa);refine aR (D _ (b.has 1)) ?_;rintro e w1 ⟨f,g,rfl,p⟩;replace b:=b.new _ p;refine aT ?_;refine v3 ?_;refine bn b #[J aF 0,J aF 0,J R 0,J R 0,ae af 0 0] (λM X b=>?_);refine bb b 0 (ar #[J aF j.last.seq,J aF j.last.id,J R j.last.cur,J R j.last.off,ae f j.last.data.length g]) (λY b=>?_);refine hI ?_;refine bN b [7] (λ_ _=>a1) (λo=>λ|7=>aN E.B (o 7).m n|_=>emp) (λ|7=>[4]|_=>[]) (λ|4=>[0]|6=>[0]|7=>[2,1]|_=>[]) (λ|7=>[7]|_=>[]) [0,1,2,3,5,13] (λo=>?_);refine hG ?_;refine aK (J _ (a:Int)) (λ_ _ b=>by(rw[<-G.out];exact fM aa aa (b.aV 0) aa aw)) ?_;refine aJ ?_;refine dl 0 4 ?_;refine dh (λz Fr b=>((H z f g (bY Fr) m (b.t3.pick [1,2,0,3]))).mono ?_) ?_;·rintro e dr ⟨rfl,c,b⟩;exact⟨{m:=c},aa,ak.iB [aN _ c n,cJ E pk st _ bE,cz f g _] Fr (b.pick [2,0,1,3])⟩
  refine bQ λZ b=>?_;generalize (o 7).m=V at b⊢;refine ah ?_;refine ag ?_;have C:=(b.pk [2,0,1,3,4,5]).t1;refine aR (Rm E pk st nx bE m d _ _ _ _ ad C) ?_;rintro e cE ⟨rfl,b⟩;clear C;replace b:=b.cX;refine x4 ?_;go_wp2_with fail;first|go_end0|refine bodyPost_ret (results_none rfl _ _ _) rfl ?_
  exact⟨rfl,λ_=>⟨_,b.pick [0,3,5,4]⟩,λh=>(h aa).elim⟩
 .have hz':=hz;go_enter Tryz.func144,Tryz.ntmps144;go_step;refine ah ?_;refine v3 ?_;refine pl b 0 71 ?_ (hv:=fA (j:=2) aa);refine aR (D _ (b.has 1)) ?_;rintro e cV ⟨f,g,rfl,p⟩;replace b:=b.new _ p;refine aT ?_;refine v3 ?_;refine bn b #[J aF 0,J aF 0,J R 0,J R 0,ae af 0 0] (λM dJ b=>?_);refine bb b 0 (ar #[J aF j.last.seq,J aF j.last.id,J R j.last.cur,J R j.last.off,ae f j.last.data.length g]) (λdB b=>?_);refine hI ?_;refine Gm (λch w'=>ch=uj bt/\∃c Fr,ak aq FX w' ([cJ E pk st (nx:Int) bE,cz f g j.last.data,aN E.B c n,cY E j i k,F]++Fr)) (λch a w' had O=>by obtain⟨rfl,c,Fr,b⟩:=O;exact⟨had,(uv hz _).symm,λh=>(hz h).elim,λ_=>⟨c,(ak.tail _ Fr b).pick [0,3,2,4]⟩⟩) b [7] (λ_ _=>a1) (λ_=>λ|7=>uw|_=>emp) (λ_=>[]) (λ|4=>[0]|6=>[0]|7=>[2,1,4,3,5]|_=>[]) (λ_=>[]) [0,1,2,3,4,5,13] (λo=>?_);refine hG ?_;refine aK (J _ (a:Int)) (λ_ _ b=>by(rw[<-G.out];exact fM aa aa (b.aV 0) aa aw)) ?_;refine aJ ?_;refine dl 0 4 ?_;refine ET (λz Fr b=>(H z f g _ m (ak.tail [cJ E pk st (nx:Int) bE,cz f g j.last.data,aN E.B m d] _ b)).mono λe w' ⟨N,c,b⟩=>⟨_,N.trans (uv hz _),aa,c,Fr,ak.iB [cJ E pk st (nx:Int) bE,cz f g j.last.data,aN E.B c n] ([cY E j i k,F]++Fr) b⟩) ?_;refine pN (λeZ b=>?_);exact(b.at (t:=uw) 6).elim
structure jT (d cr:dF):Prop where
 ok:dt cr
 size:cr.size=d.size
 cnt:cr.cnt=d.cnt
theorem jT.refl{d}(h:dt d):jT d d:=⟨h,aa,aa⟩
theorem jT.trans{d cr a}(h:jT d cr)(k:jT cr a):jT d a:=⟨k.ok,k.size.trans h.size,k.cnt.trans h.cnt⟩
def jT.len{d cr}(h:jT d cr)(a:dt d):cr.bytes.length=d.bytes.length:=by rw[h.ok.len,a.len,h.size,h.cnt]
def ayG d i b:(jj d i b).2.size=d.size/\(jj d i b).2.cnt=d.cnt:=by
 unfold jj;split;·simp
 .split;·simp
  .split;·exact⟨aa,aa⟩
   .split<;>exact⟨aa,aa⟩
def afi(d:dF)(o n):(mK d.size o n).length<=o+n+1:=by
 rw[mK,hM,Ey];unfold dV;split;·omega
 .exact Nat.succ_le_succ (eb (Nat.sub_le _ _) (eb (Nat.div_le_self _ _) ad))
def Ml{d o bs}(a:dt d)(hn:o+bs.length<=d.bytes.length)(f:d.down=ao)(i:d.cache.length<=1000000000):
 jT d (lO d o bs).2/\((lO d o bs).1=0->(lO d o bs).2.down=ao/\(lO d o bs).2.cache.length<=d.cache.length+(o+bs.length+1)):=by
 have hsm:d.bytes.length<=1048576:=by rw[a.len];exact a.small
 have j:=afi d o bs.length
 have key:∀(l:List (Nat×Nat×Nat)) (k:Nat) (cr:dF),Cp d cr k->d.cache.length+k+l.length<1073741824->jT d (l.foldl (k9 o bs) (0,cr)).2/\((l.foldl (k9 o bs) (0,cr)).1=0->(l.foldl (k9 o bs) (0,cr)).2.down=ao/\(l.foldl (k9 o bs) (0,cr)).2.cache.length<=d.cache.length+(k+l.length)):=by
  intro l;induction l with
  |nil=>intro k cr h _;exact⟨⟨h.ok,h.size,h.cnt⟩,λ_=>⟨h.down,h.dL⟩⟩
  |cons x l m=>
   intro k cr h hk;rw[jV]at hk;rw[List.foldl_cons];by_cases hx:(k9 o bs (0,cr) x).1=0;·have g:=h.step ad hx;grind
   .rw[JT l _ hx];refine⟨?_,λh=>absurd h hx⟩;have e:k9 o bs (0,cr) x=jj cr (x.1:Int) (jP (lV cr x.1) (x.2.1 -x.1*cr.size) ((bs.drop (x.2.1 -o)).take x.2.2)):=ba;rw[e];have c:=ayG cr (x.1:Int) (jP (lV cr x.1) (x.2.1 -x.1*cr.size) ((bs.drop (x.2.1 -o)).take x.2.2));exact⟨Vb h.ok _ _ (by have:=h.dL;omega),c.1.trans h.size,c.2.trans h.cnt⟩
 have h:=key (mK d.size o bs.length) 0 d ⟨a,aa,aa,f,b7 _⟩ ad;exact⟨h.1,λb=>⟨(h.2 b).1,eb (h.2 b).2 ad⟩⟩
def aaw{d}(e:dt d):jT d (lN d).2/\((lN d).1=0->(lN d).2.down=ao/\(lN d).2.cache=[]):=by
 unfold lN;by_cases h:j9 d 0≠0;·grind[jT.refl]
 .rw[if_neg h];have a:=Ui e (λ_=>az);refine⟨⟨⟨a.kt,a.um,a.len,a.small,a.cache,a.dL,a.wr⟩,rfl,rfl⟩,λ_=>⟨?_,aa⟩⟩;have b:=x' h;unfold j9 at b;split at b;·omega
  .rename_i c;show d.down=ao;simpa using c
def U'{d o bs}(b:dt d)(hn:o+bs.length<=d.bytes.length)(c:d.down=ao)(e:d.cache.length<=1000000000):
 jT d (jw d o bs).2/\((jw d o bs).1=0->(jw d o bs).2.down=ao/\(jw d o bs).2.cache=[]):=by
 have h1:=Ml b hn c e;unfold jw;by_cases h:(lO d o bs).1≠0;·grind
 .rw[if_neg h];have a:=aaw h1.1.ok;exact⟨h1.1.trans a.1,a.2⟩
def Tz{d first bd}(a:jA d first bd):44+bd<=tr d bd:=by have h:=Nat.lt_mul_div_succ (bd+43) (show 0<d.size from a.dev.kt);unfold tr eo;rw[Nat.mul_comm];omega
theorem Hu{d first bd id nx cu of j ds}(c:jA d first bd)(f:d.down=ao)(g:d.cache.length<=1000000000)(k:ds.length<=bd):
 jT d (iG d first bd id j nx cu of ds).2.2/\((iG d first bd id j nx cu of ds).1=0->(iG d first bd id j nx cu of ds).2.2.down=ao/\(iG d first bd id j nx cu of ds).2.2.cache=[]/\(iG d first bd id j nx cu of ds).2.1=⟨aF.wrap ((nx:Int)+1),⟨(nx:Int),(id:Int),(cu:Int),(of:Int),ds⟩,az⟩)/\((iG d first bd id j nx cu of ds).1≠0->(iG d first bd id j nx cu of ds).2.1=j):=by
 have hb1:=c.dX
 have hroom:ot d first bd (nx%2)+(sg nx id cu of ds).length<=d.bytes.length:=by have h1:=c.room (i:=nx%2) ad;have a:44+bd<=tr d bd:=Tz c;rw[Mg];omega
 have h1:=Ml c.dev hroom f g;unfold iG;by_cases h:(lO d (ot d first bd (nx%2)) (sg nx id cu of ds)).1≠0;·grind
 .simp only[if_neg h];have a:=aaw h1.1.ok;by_cases b:(lN (lO d (ot d first bd (nx%2)) (sg nx id cu of ds)).2).1≠0;·simp only[if_pos b];exact⟨h1.1.trans a.1,λe=>absurd e b,λ_=>trivial⟩
  .simp only[if_neg b];exact⟨h1.1.trans a.1,λ_=>⟨(a.2 (x' b)).1,(a.2 (x' b)).2,trivial⟩,λe=>absurd aa e⟩
def jA.xb{d cr first bd}(h:jA d first bd)(e:jT d cr):jA cr first bd:=⟨e.ok,h.dX,h.dY,by rw[e.size,e.cnt];exact h.fits⟩
def UO bt(h:bt=0)w:aC ax 226 #[J R bt] w λe w'=>e=aB (bo #[])/\au w w':=by subst h;exact JD w
def km(d:dF)(bl:bO):List Int:=if bl.k=1 then pJ d bl.fr.toNat bl.n.toNat else bl.data
def AK(pk:Int)(bl:bO):Int:=if bl.k=1 then max pk bl.n else pk
structure Gx (d:dF) (bd:Nat) (bl:bO) (t:Nat):Prop where
 cS:bl.to=(t:Int)
 HH:bl.k=1->∃f q:Nat,bl.fr=(f:Int)/\bl.n=(q:Int)/\f+q<=d.bytes.length
 hC:(km d bl).length<=bd
 fit:t+(km d bl).length<=d.bytes.length
def kY(d:dF)(first bd id jn nx t:Nat)(j:pg)(bs:List Int):Int×pg×dF:=
 if(iG d first bd id j jn nx t bs).1≠0 then iG d first bd id j jn nx t bs
 else((jw (iG d first bd id j jn nx t bs).2.2 t bs).1,(iG d first bd id j jn nx t bs).2.1,(jw (iG d first bd id j jn nx t bs).2.2 t bs).2)
def apK E(pk st)(nx:Nat)bE m d(jn t:Nat)j N S bl G(aq w)FX F(b1:s7 G E.p E.bd E.ms)(rv:E.ms.length<=1048575)(fp:(dO E.bd E.ms).length<=1048576)(hst:(dO E.bd E.ms)[nx]?=ab bl)(hch:Gx d E.bd bl t)(je:jA d E.first E.bd)(cp:d.down=ao)(fZ:d.cache.length<=1000000000)(vO:j.next=(jn:Int))(h8:jn<18446744073709551616/\E.id<18446744073709551616)(g:ak aq FX w [cJ E pk st (nx:Int) bE,cY E j N S,aN E.B m d,G,F]):
 aC ax 143 #[ay (ab ⟨E.di,0,af⟩)] w λe w'=>e=si (kY d E.first E.bd E.id jn nx t j (km d bl)).1 (bo #[])/\((kY d E.first E.bd E.id jn nx t j (km d bl)).1=0->∃s v o,ak aq FX w' [cJ E (AK pk bl) 1 ((nx+1:Nat):Int) ao,cY E (kY d E.first E.bd E.id jn nx t j (km d bl)).2.1 s v,aN E.B o (kY d E.first E.bd E.id jn nx t j (km d bl)).2.2,G,F])/\((kY d E.first E.bd E.id jn nx t j (km d bl)).1≠0->∃s v o,ak aq FX w' [cJ E (AK pk bl) st (nx:Int) bE,cY E (kY d E.first E.bd E.id jn nx t j (km d bl)).2.1 s v,aN E.B o (kY d E.first E.bd E.id jn nx t j (km d bl)).2.2,G,F]):=by
 have vj:aE (∀W,G.p W->aC ax 139 #[ay (ab ⟨E.p,0,af⟩),J R (nx:Int)] W λe w'=>∃(q:Nat) (s:Option bT) (v:Nat),e=aB (bo #[ar #[J R (nx:Int),J R (q:Int),J R bl.k,J R (t:Int),J R bl.fr,J R bl.n,ae s bl.data.length v],ai az])/\cj W w' (cz s v bl.data)):=hid (λW h=>(afd E.p nx E.bd E.ms W (b1 W h) rv (eM.1 hst).1).mono λe w' ⟨q,s,v,m2,h1,h2,h3,h4⟩=>by rw[hst]at h2;cases h2;rw[hch.cS]at h1;exact⟨q,s,v,h1,cj.T2 h4 h3⟩);have hbl:=hch.hC;have nc:=hch.fit;have MD:=hch.HH;have T:=Hu (id:=E.id) (nx:=jn) (cu:=nx) (of:=t) (j:=j) je cp fZ hbl;have fe:=hid je.dev;have mu:=hid cp;have k3:t<=1048576:=by have:=je.dev.small;rw[<-je.dev.len]at this;omega
 have hQ:nx<=1048576:=eb (Nat.le_of_lt (eM.1 hst).1) fp;obtain⟨bs,hW⟩:=ex (km d bl);rw[hW]at hbl nc T⊢;have r0:=hid hW;have vi:aE (∀W N S H du ix F m,ak aq FX W [cY E j N S,aN E.B m d,cz H du bs,aj ix #[ae H bs.length du] 22,F]->aC ax 227 #[ay (ab ⟨E.dD,0,af⟩),J R (nx:Int),J R (t:Int),ae (ab ⟨ix,0,af⟩) 1 1] W λe w'=>∃s v o,e=aB (J R (iG d E.first E.bd E.id j jn nx t bs).1)/\ak aq FX w' [cY E (iG d E.first E.bd E.id j jn nx t bs).2.1 s v,aN E.B o (iG d E.first E.bd E.id j jn nx t bs).2.2,cz H du bs,aj ix #[ae H bs.length du] 22,F]):=hid (λW N S H du ix F m h=>asC E jn nx t ix j N S m d H du bs aq W FX F vO je cp fZ hbl ⟨h8.1,h8.2,ad,ad⟩ h);unfold kY;obtain⟨bt,y,z,hr⟩:∃bt y z,iG d E.first E.bd E.id j jn nx t bs=(bt,y,z):=⟨_,_,_,aa⟩;rw[hr]at vi T⊢;simp only at vi T⊢;obtain⟨T,abR,_⟩:=T;have arl:=T.len je.dev;have s6:aE (bt=0->∀W H du F m pk,ak aq FX W [cJ E pk st (nx:Int) bE,cz H du bs,aN E.B m z,F]->aC ax 228 #[ay (ab ⟨E.di,0,af⟩),J R (t:Int),ae H bs.length du] W λe w'=>e=si (jw z t bs).1 (bo #[])/\∃o,ak aq FX w' [cJ E pk st (nx:Int) bE,cz H du bs,aN E.B o (jw z t bs).2,F]):=hid (λh0 W H du F m pk h=>aaC E pk st nx bE m z t H du bs aq W FX F T.ok (abR h0).1 ad aG h);obtain⟨c2,I,hr2⟩:∃c2 I,jw z t bs=(c2,I):=⟨_,_,aa⟩;rw[hr2]at s6⊢;simp only at s6⊢;obtain⟨ce,IZ,aK,r⟩:∃ce IZ aK,(if bt≠0 then(bt,y,z)else(c2,y,I))=(ce,IZ,aK):=⟨_,_,_,aa⟩;rw[r];simp only;have cb:=hid r;clear T abR arl hr hr2 hW hch hst b1 rv je cp fZ fp r;by_cases hk:bl.k=1
 .obtain⟨f,q,hf,K,CU⟩:=MD hk;have CO:bs=pJ d f q:=by rw[<-r0,km,if_pos hk,hf,K];rfl
  have X:aE (AK pk bl=max pk (q:Int)):=hid (by grind[AK]);rw[hk,hf,K]at vj;have abB:bs.length=q:=by rw[CO];exact zC fe CU
  have pZ:=hid CO;have akr:=hid abB;clear CO abB hf K hk MD;go_enter Tryz.func143,Tryz.ntmps143;go_step;refine cx ?_;refine bN g [8,12,13] (λi u=>match i with|8=>bo #[ar #[J R (nx:Int),J R (u.c2:Int),J R 1,J R (t:Int),J R (f:Int),J R (q:Int),ae u.A bl.data.length u.c],ai az]|12=>ay (ab ⟨u.b,0,af⟩)|_=>a1) (λl=>λ|8=>cz ((l 8).A) ((l 8).c) bl.data|12=>aj ((l 12).b) #[J R 0,J R 0,J R 0,J R 0,J R 0,J R 0,ae af 0 0] 253|13=>aj ((l 12).b) #[J R (nx:Int),J R ((l 8).c2:Int),J R 1,J R (t:Int),J R (f:Int),J R (q:Int),ae (l 8).A bl.data.length (l 8).c] 253|_=>emp) (λ|13=>[17]|_=>[]) (λ|3=>[0]|7=>[0]|8=>[3]|_=>[]) (λ|8=>[8]|12=>[12]|13=>[8,12]|_=>[]) [0,1,2,3,4,13,18] (λl=>?_);refine c5 ?_;refine dl 0 70 ?_ (hv:=fA (j:=1) aa);refine c5 ?_;refine dl 0 73 ?_ (hv:=fA (j:=4) aa);refine dh (λx Fr g=>(vj x (g.at 0)).mono ?_) ?_;·rintro e U ⟨q,s,v,rfl,hF⟩;exact⟨{A:=s,c:=v,c2:=q},aa,g.new _ hF⟩
  refine c5 ?_;refine se _ ?_;refine fY _ ?_;refine aJ ?_;refine bQ λw1 g=>?_;generalize (l 8).A=C at g⊢;generalize (l 8).c=D at g⊢;generalize (l 8).c2=anm at g⊢;generalize (l 12).b=ct at g⊢;refine gW ?_;refine pl g 6 6 ?_;refine cA ?_;refine bh g 6 #[J R 1,J R (t:Int),J R (f:Int),J R (q:Int),ae C bl.data.length D] ?_;refine bH (Bn (t:Int) (f:Int) (q:Int) C bl.data.length D _) g (λaU g=>?_);refine v3 ?_;refine bn g #[J R 0,J R 0] (λeL bI g=>?_);refine bb g 0 (ar #[J R (f:Int),J R (q:Int)]) (λb9 g=>?_);refine ag ?_;refine ah ?_;refine hI ?_;refine bN g [4] (λi u=>match i with|4=>ae u.A q u.c|_=>a1) (λl=>λ|4=>both (cJ E (max pk (q:Int)) st (nx:Int) bE) (cz (l 4).A (l 4).c (pJ d f q))|_=>emp) (λ|4=>[1]|_=>[]) (λ|3=>[0]|4=>[3]|_=>[]) (λ|4=>[4]|_=>[]) [0,2,3,4,5,6,7,12] (λl=>?_);refine c5 ?_;refine eO 0 #[J R (f:Int),J R (q:Int)] ?_;refine dh (λx Fr g=>((afu E pk st nx bE m d f q aq x FX (bY Fr) fe mu CU g.t2)).mono ?_) ?_;·rintro e U ⟨s,v,rfl,g⟩;exact⟨{A:=s,c:=v},aa,(ak.iB [both _ _,aN _ m d] Fr ((g.pick [1,0,2,3]).star))⟩
  refine aJ ?_;refine bQ λcE g=>?_;generalize (l 4).A=L at g⊢;generalize (l 4).c=P at g⊢;replace g:=(g.pk [7,0,1,2,3,4,6]).fw;rw[<-pZ]at g;have AZ:=akr.out;subst AZ;by_cases hz:bt=0
  .have Y:=hid hz;clear hz;have B9:=s6 Y;have r:=cb.out;rw[if_neg (λh=>h Y)]at r;simp only[pn]at r;obtain⟨bF,cq,fC⟩:=r;subst bF;subst cq;subst fC;replace g:=(g.pk [3,4,0,1,2,5,6,7]).star;refine cx ?_;refine bN g [12,13,14] (λi u=>match i with|12=>ae (ab ⟨u.b,0,af⟩) 1 1|13=>J R bt|_=>a1) (λl=>λ|12=>aj ((l 12).b) #[ae L bs.length P] 22|13=>both (cY E y (l 13).A (l 13).c) (aN E.B (l 13).m z)|_=>emp) (λ|13=>[0]|_=>[]) (λ|3=>[1]|7=>[1]|10=>[6]|13=>[2,19]|_=>[]) (λ|12=>[12]|13=>[13]|_=>[]) [1,2,3,4,5,6,19,20,21] (λl=>?_);refine c5 ?_;refine dl 0 71 ?_ (hv:=fA (j:=2) aa);refine c5 ?_;refine dl 0 73 ?_ (hv:=fA (j:=4) aa);refine bx ?_;refine dl 0 3 ?_;refine aJ ?_;refine kD _ 22 ?_;refine dh (λx Fr g=>(vi x N S L P (l 12).b (bY Fr) m (g.t3.fw)).mono ?_) ?_;·rintro e U ⟨s,v,o,rfl,g⟩;exact⟨{A:=s,c:=v,m:=o},aa,ak.iB [both _ _,cz _ _ bs,aj _ _ 22] Fr g.star⟩
   refine dA (λ_ _ _=>(UO bt Y _)) ?_;refine bQ λcV g=>?_;generalize (l 12).b=OZ at g⊢;generalize (l 13).A=M at g⊢;generalize (l 13).c=Q at g⊢;generalize (l 13).m=Dm at g⊢;replace g:=g.drop 8;replace g:=(g.pk [7,0,1,2,3,4,5,6]).fw;by_cases hz2:c2=0
   .have Z:=hid hz2;clear hz2;refine cx ?_;refine bN g [7] (λ_ _=>a1) (λl=>λ|7=>aN E.B (l 7).m I|_=>emp) (λ|7=>[1]|_=>[]) (λ|5=>[7]|7=>[2,3]|_=>[]) (λ|7=>[7]|_=>[]) [0,2,3,4,5,6,7,8,16] (λl=>?_);refine np ?_;refine dl 0 3 ?_;refine aJ ?_;refine dh (λx Fr g=>((B9 x L P (bY Fr) Dm (max pk (bs.length:Int)) (g.t3.pick [1,2,0,3]))).mono ?_) ?_;·rintro e U ⟨r,o,g⟩;rw[Z]at r;subst r;exact⟨{m:=o},aa,ak.iB [aN _ o I,cJ E _ st _ bE,cz _ _ bs] Fr (g.pick [2,0,1,3])⟩
    refine bQ λdJ g=>?_;generalize (l 7).m=atn at g⊢;refine ah ?_;refine ag ?_;have HB:=(g.pk [1,0,2,3,4,5,6,7,8]).t1;refine aR (Rm E _ st nx bE m d _ _ _ _ ad HB) ?_;rintro e dB ⟨rfl,g⟩;clear HB;replace g:=g.cX;refine x4 ?_;go_wp2_with fail;first|go_end0|refine bodyPost_ret (results_none rfl _ _ _) rfl ?_
    exact⟨by rw[Z];rfl,λ_=>⟨_,_,_,by rw[X.out];exact g.pick [0,1,8,4,5]⟩,λh=>(h Z).elim⟩
   .have V:=hid hz2;clear hz2;refine cx ?_;refine Gm (λch w'=>ch=uj c2/\∃o Fr,ak aq FX w' ([cJ E (max pk (bs.length:Int)) st (nx:Int) bE,cz L P bs,aN E.B o I,cY E y M Q,G,F]++Fr)) (λch a w' had K=>by obtain⟨rfl,o,Fr,g⟩:=K;exact⟨had,(uv V _).symm,λh=>(V h).elim,λ_=>⟨_,_,o,by rw[X.out];exact(ak.tail _ Fr g).pick [0,3,2,4,5]⟩⟩) g [7] (λ_ _=>a1) (λ_=>λ|7=>uw|_=>emp) (λ_=>[]) (λ|5=>[7]|7=>[2,3,1,0,5,6]|_=>[]) (λ_=>[]) [0,1,2,3,4,5,6,7,8,16] (λl=>?_);refine np ?_;refine dl 0 3 ?_;refine aJ ?_;refine ET (λx Fr g=>(B9 x L P (bY ([cY E y M Q,G,F]++Fr)) Dm (max pk (bs.length:Int)) (ak.tail [cJ E (max pk (bs.length:Int)) st (nx:Int) bE,cz L P bs,aN E.B Dm z] ([cY E y M Q,G,F]++Fr) g)).mono λe w' ⟨r,o,g⟩=>⟨_,r.trans (uv V _),aa,o,Fr,ak.iB [cJ E (max pk (bs.length:Int)) st (nx:Int) bE,cz L P bs,aN E.B o I] ([cY E y M Q,G,F]++Fr) g⟩) ?_;refine pN (λeZ g=>?_);exact(g.at (t:=uw) 9).elim
  .have O:=hid hz;clear hz;have r:=cb.out;rw[if_pos O.out]at r;simp only[pn]at r;obtain⟨bF,cq,fC⟩:=r;subst bF;subst cq;subst fC;replace g:=(g.pk [3,4,0,1,2,5,6,7]).star;refine cx ?_;refine Gm (λch w'=>ch=uj bt/\∃s v o Fr,ak aq FX w' [both (cY E y s v) (aN E.B o z),cJ E (max pk (bs.length:Int)) st (nx:Int) bE,G,F,bY Fr]) (λch a w' had K=>by obtain⟨rfl,s,v,o,Fr,g⟩:=K;exact⟨had,(uv O _).symm,λh=>(O h).elim,λ_=>⟨_,_,o,by rw[X.out];exact g.fw.pick [2,0,1,3,4]⟩⟩) g [12,13,14] (λi u=>match i with|12=>ae (ab ⟨u.b,0,af⟩) 1 1|13=>J R bt|_=>a1) (λl=>λ|12=>aj ((l 12).b) #[ae L bs.length P] 22|13=>both (cY E y (l 13).A (l 13).c) (aN E.B (l 13).m z)|14=>uw|_=>emp) (λ|13=>[0]|_=>[]) (λ|3=>[1]|7=>[1]|10=>[6]|13=>[2,19]|14=>[20,1,4,5]|_=>[]) (λ|12=>[12]|13=>[13]|_=>[]) [1,2,3,4,5,6,19,20,21] (λl=>?_);refine c5 ?_;refine dl 0 71 ?_ (hv:=fA (j:=2) aa);refine c5 ?_;refine dl 0 73 ?_ (hv:=fA (j:=4) aa);refine bx ?_;refine dl 0 3 ?_;refine aJ ?_;refine kD _ 22 ?_;refine dh (λx Fr g=>(vi x N S L P (l 12).b (bY Fr) m (g.t3.fw)).mono ?_) ?_;·rintro e U ⟨s,v,o,rfl,g⟩;exact⟨{A:=s,c:=v,m:=o},aa,ak.iB [both _ _,cz _ _ bs,aj _ _ 22] Fr g.star⟩
   refine ET (λx Fr g=>(JC bt O x).mono λe w' ⟨r,g9⟩=>⟨_,r,aa,_,_,_,Fr,ak.tail _ Fr (g.aH g9)⟩) ?_;refine pN (λgV g=>?_);exact(g.at (t:=uw) 8).elim
 .have CO:bs=bl.data:=by rw[<-r0,km,if_neg hk]
  have X:aE (AK pk bl=pk):=hid (by grind[AK]);have jy:=hid (λA c W=>Bo bl.k (t:Int) bl.fr bl.n A bl.data.length c W hk);rw[<-CO]at vj jy;clear CO MD hk;go_enter Tryz.func143,Tryz.ntmps143;go_step;refine cx ?_;refine bN g [8,12,13] (λi u=>match i with|8=>bo #[ar #[J R (nx:Int),J R (u.c2:Int),J R bl.k,J R (t:Int),J R bl.fr,J R bl.n,ae u.A bs.length u.c],ai az]|12=>ay (ab ⟨u.b,0,af⟩)|_=>a1) (λl=>λ|8=>cz ((l 8).A) ((l 8).c) bs|12=>aj ((l 12).b) #[J R 0,J R 0,J R 0,J R 0,J R 0,J R 0,ae af 0 0] 253|13=>aj ((l 12).b) #[J R (nx:Int),J R ((l 8).c2:Int),J R bl.k,J R (t:Int),J R bl.fr,J R bl.n,ae (l 8).A bs.length (l 8).c] 253|_=>emp) (λ|13=>[17]|_=>[]) (λ|3=>[0]|7=>[0]|8=>[3]|_=>[]) (λ|8=>[8]|12=>[12]|13=>[8,12]|_=>[]) [0,1,2,3,4,13,18] (λl=>?_);refine c5 ?_;refine dl 0 70 ?_ (hv:=fA (j:=1) aa);refine c5 ?_;refine dl 0 73 ?_ (hv:=fA (j:=4) aa);refine dh (λx Fr g=>(vj x (g.at 0)).mono ?_) ?_;·rintro e U ⟨q,s,v,rfl,hF⟩;exact⟨{A:=s,c:=v,c2:=q},aa,g.new _ hF⟩
  refine c5 ?_;refine se _ ?_;refine fY _ ?_;refine aJ ?_;refine bQ λhZ g=>?_;generalize (l 8).A=C at g⊢;generalize (l 8).c=D at g⊢;generalize (l 8).c2=anm at g⊢;generalize (l 12).b=ct at g⊢;refine gW ?_;refine pl g 6 6 ?_;refine cA ?_;refine bh g 6 #[J R bl.k,J R (t:Int),J R bl.fr,J R bl.n,ae C bs.length D] ?_;refine bH (jy C D _) g (λjQ g=>?_);refine v3 ?_;refine bn g #[J R 0,J R 0] (λeL ke g=>?_);refine bb g 0 (ar #[J R 0,J R 0]) (λk8 g=>?_);refine ayO ?_;by_cases hz:bt=0
  .have Y:=hid hz;clear hz;have B9:=s6 Y;have r:=cb.out;rw[if_neg (λh=>h Y)]at r;simp only[pn]at r;obtain⟨bF,cq,fC⟩:=r;subst bF;subst cq;subst fC;replace g:=(g.pk [2,3,0,1,4,5,6,7]).star;refine cx ?_;refine bN g [12,13,14] (λi u=>match i with|12=>ae (ab ⟨u.b,0,af⟩) 1 1|13=>J R bt|_=>a1) (λl=>λ|12=>aj ((l 12).b) #[ae C bs.length D] 22|13=>both (cY E y (l 13).A (l 13).c) (aN E.B (l 13).m z)|_=>emp) (λ|13=>[0]|_=>[]) (λ|3=>[2]|7=>[2]|10=>[6]|13=>[5,19]|_=>[]) (λ|12=>[12]|13=>[13]|_=>[]) [1,2,3,4,5,6,19,20,21] (λl=>?_);refine c5 ?_;refine dl 0 71 ?_ (hv:=fA (j:=2) aa);refine c5 ?_;refine dl 0 73 ?_ (hv:=fA (j:=4) aa);refine bx ?_;refine dl 0 3 ?_;refine aJ ?_;refine kD _ 22 ?_;refine dh (λx Fr g=>(vi x N S C D (l 12).b (bY Fr) m (g.t3.fw)).mono ?_) ?_;·rintro e U ⟨s,v,o,rfl,g⟩;exact⟨{A:=s,c:=v,m:=o},aa,ak.iB [both _ _,cz C D bs,aj _ _ 22] Fr g.star⟩
   refine dA (λ_ _ _=>(UO bt Y _)) ?_;refine bQ λmn g=>?_;generalize (l 12).b=OZ at g⊢;generalize (l 13).A=M at g⊢;generalize (l 13).c=Q at g⊢;generalize (l 13).m=Dm at g⊢;replace g:=g.drop 8;replace g:=(g.pk [7,0,1,2,3,4,5,6]).fw;by_cases hz2:c2=0
   .have Z:=hid hz2;clear hz2;refine cx ?_;refine bN g [7] (λ_ _=>a1) (λl=>λ|7=>aN E.B (l 7).m I|_=>emp) (λ|7=>[1]|_=>[]) (λ|5=>[7]|7=>[3,6]|_=>[]) (λ|7=>[7]|_=>[]) [0,2,3,4,5,6,7,8,16] (λl=>?_);refine np ?_;refine dl 0 3 ?_;refine aJ ?_;refine dh (λx Fr g=>((B9 x C D (bY Fr) Dm pk (g.t3.pick [1,2,0,3]))).mono ?_) ?_;·rintro e U ⟨r,o,g⟩;rw[Z]at r;subst r;exact⟨{m:=o},aa,ak.iB [aN _ o I,cJ E pk st _ bE,cz _ _ bs] Fr (g.pick [2,0,1,3])⟩
    refine bQ λnn g=>?_;generalize (l 7).m=atn at g⊢;refine ah ?_;refine ag ?_;have HB:=(g.pk [2,0,1,3,4,5,6,7,8]).t1;refine aR (Rm E pk st nx bE m d _ _ _ _ ad HB) ?_;rintro e pO ⟨rfl,g⟩;clear HB;replace g:=g.cX;refine x4 ?_;go_wp2_with fail;first|go_end0|refine bodyPost_ret (results_none rfl _ _ _) rfl ?_
    exact⟨by rw[Z];rfl,λ_=>⟨_,_,_,by rw[X.out];exact g.pick [0,1,8,3,4]⟩,λh=>(h Z).elim⟩
   .have V:=hid hz2;clear hz2;refine cx ?_;refine Gm (λch w'=>ch=uj c2/\∃o Fr,ak aq FX w' ([cJ E pk st (nx:Int) bE,cz C D bs,aN E.B o I,cY E y M Q,G,F]++Fr)) (λch a w' had K=>by obtain⟨rfl,o,Fr,g⟩:=K;exact⟨had,(uv V _).symm,λh=>(V h).elim,λ_=>⟨_,_,o,by rw[X.out];exact(ak.tail _ Fr g).pick [0,3,2,4,5]⟩⟩) g [7] (λ_ _=>a1) (λ_=>λ|7=>uw|_=>emp) (λ_=>[]) (λ|5=>[7]|7=>[3,6,1,0,4,5]|_=>[]) (λ_=>[]) [0,1,2,3,4,5,6,7,8,16] (λl=>?_);refine np ?_;refine dl 0 3 ?_;refine aJ ?_;refine ET (λx Fr g=>(B9 x C D (bY ([cY E y M Q,G,F]++Fr)) Dm pk (ak.tail [cJ E pk st (nx:Int) bE,cz C D bs,aN E.B Dm z] ([cY E y M Q,G,F]++Fr) g)).mono λe w' ⟨r,o,g⟩=>⟨_,r.trans (uv V _),aa,o,Fr,ak.iB [cJ E pk st (nx:Int) bE,cz C D bs,aN E.B o I] ([cY E y M Q,G,F]++Fr) g⟩) ?_;refine pN (λrK g=>?_);exact(g.at (t:=uw) 9).elim
  .have O:=hid hz;clear hz;have r:=cb.out;rw[if_pos O.out]at r;simp only[pn]at r;obtain⟨bF,cq,fC⟩:=r;subst bF;subst cq;subst fC;replace g:=(g.pk [2,3,0,1,4,5,6,7]).star;refine cx ?_;refine Gm (λch w'=>ch=uj bt/\∃s v o Fr,ak aq FX w' [both (cY E y s v) (aN E.B o z),cJ E pk st (nx:Int) bE,G,F,bY Fr]) (λch a w' had K=>by obtain⟨rfl,s,v,o,Fr,g⟩:=K;exact⟨had,(uv O _).symm,λh=>(O h).elim,λ_=>⟨_,_,o,by rw[X.out];exact g.fw.pick [2,0,1,3,4]⟩⟩) g [12,13,14] (λi u=>match i with|12=>ae (ab ⟨u.b,0,af⟩) 1 1|13=>J R bt|_=>a1) (λl=>λ|12=>aj ((l 12).b) #[ae C bs.length D] 22|13=>both (cY E y (l 13).A (l 13).c) (aN E.B (l 13).m z)|14=>uw|_=>emp) (λ|13=>[0]|_=>[]) (λ|3=>[2]|7=>[2]|10=>[6]|13=>[5,19]|14=>[20,2,3,4]|_=>[]) (λ|12=>[12]|13=>[13]|_=>[]) [1,2,3,4,5,6,19,20,21] (λl=>?_);refine c5 ?_;refine dl 0 71 ?_ (hv:=fA (j:=2) aa);refine c5 ?_;refine dl 0 73 ?_ (hv:=fA (j:=4) aa);refine bx ?_;refine dl 0 3 ?_;refine aJ ?_;refine kD _ 22 ?_;refine dh (λx Fr g=>(vi x N S C D (l 12).b (bY Fr) m (g.t3.fw)).mono ?_) ?_;·rintro e U ⟨s,v,o,rfl,g⟩;exact⟨{A:=s,c:=v,m:=o},aa,ak.iB [both _ _,cz _ _ bs,aj _ _ 22] Fr g.star⟩
   refine ET (λx Fr g=>(JC bt O x).mono λe w' ⟨r,g9⟩=>⟨_,r,aa,_,_,_,Fr,ak.tail _ Fr (g.aH g9)⟩) ?_;refine pN (λu4 g=>?_);exact(g.at (t:=uw) 8).elim
def nF(E:o9)(d:dF)(jn:Nat)(j:pg):Int×pg×dF:=
 if im (jN d (hY E.bd 0 E.n))=E.g2.l then iG d E.first E.bd E.id j jn (dO E.bd E.ms).length 0 []else(15,j,d)
def aao E(pk st nx)bE m d(a q b)f msg(aq w)FX F(c:dt d)(k:d.down=ao)(n:a+q<=d.bytes.length)(iK:1<=E.bd)(hb2:E.bd<=65536)(l:msg.length<=1099511627776)(i:ak aq FX w [cJ E pk st nx bE,iA b f msg,aN E.B m d,F]):
 aC ax 224 #[ay (ab ⟨E.di,0,af⟩),ay (ab ⟨b,0,af⟩),gT ((a:Int),(q:Int))] w λe w'=>∃h,e=aB (bo #[])/\ak aq FX w' [both (cJ E (lM pk (hY E.bd a q)) st nx bE) (iA b h (msg++jN d (hY E.bd a q))),aN E.B m d,F]:=
 (apT E pk st nx bE m d a q b f msg aq w FX F c k n iK hb2 (by have:=c.small;rw[<-c.len]at this;omega) l i).mono λe w' ⟨h1,g,j⟩=>⟨g,h1,j.star⟩
def ams E(pk st nx)bE m d(jn:Nat)j v x s(aq w)FX F(b1:s7 s E.p E.bd E.ms)(fp:(dO E.bd E.ms).length<=1048576)(k0:E.n<=d.bytes.length)(H:jA d E.first E.bd)(Y:d.down=ao)(fZ:d.cache.length<=1000000000)(vO:j.next=(jn:Int))(h8:jn<18446744073709551616/\E.id<18446744073709551616)(b:ak aq FX w [cJ E pk st nx bE,cY E j v x,aN E.B m d,s,F]):
 aC ax 145 #[ay (ab ⟨E.di,0,af⟩)] w λe w'=>e=si (nF E d jn j).1 (bo #[])/\((nF E d jn j).1=0->∃u D C,ak aq FX w' [cJ E (lM pk (hY E.bd 0 E.n)) 2 nx bE,cY E (nF E d jn j).2.1 u D,aN E.B C (nF E d jn j).2.2,s,F])/\((nF E d jn j).1≠0->∃u D C,ak aq FX w' [cJ E (lM pk (hY E.bd 0 E.n)) st nx bE,cY E (nF E d jn j).2.1 u D,aN E.B C (nF E d jn j).2.2,s,F]):=by
 have U:=hid (λW h=>F5 _ _ _ W (b1 W h));have P:aE (∀W kK F m k,ak aq FX W _->aC _ 224 #[ay _,ay _,ar #[J R 0,J _ (E.n:Int)]] W λe w'=>∃Gu,e=aB _/\ak aq FX w' _):=hid (λW kK F m k h=>by have q:=aao E pk st nx bE m d 0 E.n k kK [] aq W FX F H.dev Y ad H.dX H.dY aS h;rw[l0]at q;exact q);have jO:(jN d (hY E.bd 0 E.n)).length<=1048576:=by have h1:=HR H.dev H.dX E.n 0 E.n ad;have h2:=H.dev.small;rw[<-H.dev.len]at h2;exact eb h1 ad
 unfold nF;obtain⟨r,Z⟩:∃z,jN d (hY E.bd 0 E.n)=z:=⟨_,aa⟩;obtain⟨S,nL⟩:∃z,lM pk (hY E.bd 0 E.n)=z:=⟨_,aa⟩;obtain⟨Q,c9⟩:∃z,(dO E.bd E.ms).length=z:=⟨_,aa⟩;rw[Z,nL]at P;rw[Z]at jO⊢;rw[nL];rw[c9]at U fp⊢;have N:aE (∀W F m,ak aq FX W _->aC _ 227 #[ay _,J R _,J _ 0,ae af 0 0] W λe w'=>∃u D C,e=aB _/\ak aq FX w' _):=hid (λW F m h=>asB E jn Q 0 j v x m d aq W FX F vO H Y fZ ⟨h8.1,h8.2,ad,ad⟩ h);obtain⟨bt,L,I,hr⟩:∃bt L I,iG d E.first E.bd E.id j jn Q 0 []=(bt,L,I):=⟨_,_,_,aa⟩;rw[hr]at N⊢;simp only at N;obtain⟨ce,IZ,aK,y⟩:∃ce IZ aK,(if im r=E.g2.l then(bt,L,I)else(15,j,d))=(ce,IZ,aK):=⟨_,_,_,aa⟩;rw[y];simp only;have cb:=hid y;clear Z nL c9 hr y b1 H Y fZ fp k0;by_cases K:im r=E.g2.l
 .have O:=hid K;have y:=cb.out;rw[if_pos K]at y;simp only[pn]at y;obtain⟨bF,cq,X⟩:=y;subst bF;subst cq;subst X;clear K;by_cases hz:bt=0
  .have V:=hid hz;clear hz;go_enter Pj,Ws;go_step;refine ah ?_;refine aR (A8 _) ?_;rintro e w1 ⟨k,rfl,M⟩;replace b:=b.new _ M;refine aT ?_;refine ag ?_;refine an ?_;go_step;refine cx ?_;refine bN b [10] (λ_ _=>a1) (λf=>λ|10=>both (cJ E S st nx bE) (iA k (f 10).A r)|_=>emp) (λ|10=>[1,0]|_=>[]) (λ|8=>[1]|10=>[3]|_=>[]) (λ|10=>[10]|_=>[]) [2,3,4,5,16] (λf=>?_);iterate 8 refine aJ ?_
   refine dl 0 4 ?_ (hv:=r7 (j:=4) aa);refine aJ ?_;refine dh (λo Fr b=>((P o _ _ m k (ak.tail [cJ E pk st nx bE,iA k _ [],aN _ m d] Fr b))).mono ?_) ?_;·rintro e G ⟨u,rfl,b⟩;exact⟨{A:=u},aa,ak.iB [both _ _,aN _ m d] Fr b⟩
   refine pN (λaU b=>?_);replace b:ak _ _ _ [cY E j v x,aN _ m d,s,F,both _ _]:=b;generalize (f 10).A=Vn at b⊢;replace b:=(b.pick (l':=[both _ _,cY E j v x,aN _ m d,s,F]) [4,0,1,2,3]).fw;go_step;refine cx ?_;refine bN b [1] (λi _=>match i with|1=>ar (aM a6 (im r) [])|_=>a1) (λ_ _=>emp) (λ_=>[]) (λ|1=>[1]|6=>[0]|_=>[]) (λ_=>[]) [0,1,2,3,4,5,7] (λf=>?_);refine aJ ?_;refine dh (λo Fr b=>(zH k _ r o ad (b.at 0)).mono ?_) ?_;·rintro e G ⟨rfl,g⟩;exact⟨{},aa,(b.aH g).dM⟩
   iterate 4 refine aJ ?_
   refine aK _ (λ_ _ b=>mG aa aa (b.aV 0) Ht (by rw[po];simp[aM,E.g2.len]) aw (by simp only[aM,kR,iY,hM,E.g2.len];kernel_rfl)) ?_;refine aK (ai ao) (λ_ _ _=>(yQ 23 5 32 _ _ 23 aa sW mr aw aw _ E.g2.l aa aa (tk r) E.g2.len).trans (by rw[O];simp)) ?_;refine pN (λbI b=>?_);replace b:ak _ _ _ [cJ E _ st nx bE,iA k _ r,cY E j v x,aN _ m d,s,F,emp]:=b;replace b:=b.drop 6;replace b:=(b.pick (l':=[cY E j v x,aN _ m d,cJ E _ st nx bE,iA k _ r,s,F]) [2,3,0,1,4,5]).star;go_step;refine cx ?_;refine bN b [8,9,10] (λi _=>match i with|8=>J R (Q:Int)|9=>J R bt|_=>a1) (λf=>λ|9=>both (cY E L (f 9).A (f 9).c) (aN E.B (f 9).m I)|_=>emp) (λ|9=>[0]|_=>[]) (λ|3=>[1]|7=>[1]|8=>[3]|_=>[]) (λ|9=>[9]|_=>[]) [1,2,3,4,13,14,15] (λf=>?_);iterate 3 refine aJ ?_
   refine dl 0 71 ?_ (hv:=fA (j:=2) aa);iterate 3 refine aJ ?_
   refine dl 0 70 ?_ (hv:=fA (j:=1) aa);refine dh (λo Fr b=>(U o (b.at 0)).mono ?_) ?_;·rintro e G ⟨rfl,g⟩;exact⟨{},aa,(b.aH g).dM⟩
   refine dh (λo Fr b=>(N o _ m ((ak.tail _ Fr b).fw)).mono ?_) ?_;·rintro e G ⟨u,D,C,rfl,b⟩;exact⟨{A:=u,c:=D,m:=C},aa,ak.iB [both _ _] Fr b.star⟩
   refine dh (λo Fr b=>((UO bt V _)).mono ?_) ?_;·rintro e G ⟨rfl,g⟩;exact⟨{},aa,(b.aH g).dM⟩
   refine pN (λb9 b=>?_);replace b:ak _ _ _ [cJ E _ st nx bE,iA k _ r,s,F,emp,both _ _,emp]:=b;generalize (f 9).A=rR at b⊢;generalize (f 9).c=r9 at b⊢;generalize (f 9).m=aB7 at b⊢;replace b:=b.drop 4;replace b:=b.drop 5;replace b:=(b.pick (l':=[both _ _,cJ E _ st nx bE,iA k _ r,s,F]) [4,0,1,2,3]).fw;go_step;refine ah ?_;iterate 3 refine ag ?_
   refine bb b 2 _ (λcE b=>?_) (hk:=by show _+1<=_;rw[po];decide) (hc:=LQ);refine an ?_;go_wp2_with fail;first|go_end0|refine bodyPost_ret (results_none rfl _ _ _) rfl ?_
   exact⟨by rw[V];rfl,λ_=>⟨_,_,_,b.pick [2,0,1,4,5]⟩,λh=>(h V).elim⟩
  .have T:=hid hz;clear hz;go_enter Pj,Ws;go_step;refine ah ?_;refine aR (A8 _) ?_;rintro e cV ⟨k,rfl,M⟩;replace b:=b.new _ M;refine aT ?_;refine ag ?_;refine an ?_;go_step;refine cx ?_;refine bN b [10] (λ_ _=>a1) (λf=>λ|10=>both (cJ E S st nx bE) (iA k (f 10).A r)|_=>emp) (λ|10=>[1,0]|_=>[]) (λ|8=>[1]|10=>[3]|_=>[]) (λ|10=>[10]|_=>[]) [2,3,4,5,16] (λf=>?_);iterate 8 refine aJ ?_
   refine dl 0 4 ?_ (hv:=r7 (j:=4) aa);refine aJ ?_;refine dh (λo Fr b=>((P o _ _ m k (ak.tail [cJ E pk st nx bE,iA k _ [],aN _ m d] Fr b))).mono ?_) ?_;·rintro e G ⟨u,rfl,b⟩;exact⟨{A:=u},aa,ak.iB [both _ _,aN _ m d] Fr b⟩
   refine pN (λdJ b=>?_);replace b:ak _ _ _ [cY E j v x,aN _ m d,s,F,both _ _]:=b;generalize (f 10).A=Vn at b⊢;replace b:=(b.pick (l':=[both _ _,cY E j v x,aN _ m d,s,F]) [4,0,1,2,3]).fw;go_step;refine cx ?_;refine bN b [1] (λi _=>match i with|1=>ar (aM a6 (im r) [])|_=>a1) (λ_ _=>emp) (λ_=>[]) (λ|1=>[1]|6=>[0]|_=>[]) (λ_=>[]) [0,1,2,3,4,5,7] (λf=>?_);refine aJ ?_;refine dh (λo Fr b=>(zH k _ r o ad (b.at 0)).mono ?_) ?_;·rintro e G ⟨rfl,g⟩;exact⟨{},aa,(b.aH g).dM⟩
   iterate 4 refine aJ ?_
   refine aK _ (λ_ _ b=>mG aa aa (b.aV 0) Ht (by rw[po];simp[aM,E.g2.len]) aw (by simp only[aM,kR,iY,hM,E.g2.len];kernel_rfl)) ?_;refine aK (ai ao) (λ_ _ _=>(yQ 23 5 32 _ _ 23 aa sW mr aw aw _ E.g2.l aa aa (tk r) E.g2.len).trans (by rw[O];simp)) ?_;refine pN (λdB b=>?_);replace b:ak _ _ _ [cJ E _ st nx bE,iA k _ r,cY E j v x,aN _ m d,s,F,emp]:=b;replace b:=b.drop 6;replace b:=(b.pick (l':=[cY E j v x,aN _ m d,cJ E _ st nx bE,iA k _ r,s,F]) [2,3,0,1,4,5]).star;go_step;refine cx ?_;refine Gm (λch w'=>ch=uj bt/\∃u D C Fr,ak aq FX w' [both (cY E L u D) (aN E.B C I),cJ E S st nx bE,s,F,bY Fr]) (λch a w' had hq=>by obtain⟨rfl,u,D,C,Fr,b⟩:=hq;exact⟨had,(uv T _).symm,λh=>(T h).elim,λ_=>⟨_,_,C,b.fw.pick [2,0,1,3,4]⟩⟩) b [8,9,10] (λi _=>match i with|8=>J R (Q:Int)|9=>J R bt|_=>a1) (λf=>λ|9=>both (cY E L (f 9).A (f 9).c) (aN E.B (f 9).m I)|10=>uw|_=>emp) (λ|9=>[0]|_=>[]) (λ|3=>[1]|7=>[1]|8=>[3]|10=>[14,1,3,4]|_=>[]) (λ|9=>[9]|_=>[]) [1,2,3,4,13,14,15] (λf=>?_);iterate 3 refine aJ ?_
   refine dl 0 71 ?_ (hv:=fA (j:=2) aa);iterate 3 refine aJ ?_
   refine dl 0 70 ?_ (hv:=fA (j:=1) aa);refine dh (λo Fr b=>(U o (b.at 0)).mono ?_) ?_;·rintro e G ⟨rfl,g⟩;exact⟨{},aa,(b.aH g).dM⟩
   refine dh (λo Fr b=>(N o _ m ((ak.tail _ Fr b).fw)).mono ?_) ?_;·rintro e G ⟨u,D,C,rfl,b⟩;exact⟨{A:=u,c:=D,m:=C},aa,ak.iB [both _ _] Fr b.star⟩
   refine ET (λo Fr b=>(JC bt T.out o).mono λe w' ⟨y,g9⟩=>⟨_,y,aa,_,_,_,Fr,ak.tail _ Fr (b.aH g9)⟩) ?_;refine pN (λeZ b=>?_);exact(b.at (t:=uw) 6).elim
 .have O:=hid K;have y:=cb.out;rw[if_neg K]at y;simp only[pn]at y;obtain⟨bF,cq,X⟩:=y;subst bF;subst cq;subst X;clear K;go_enter Pj,Ws;go_step;refine ah ?_;refine aR (A8 _) ?_;rintro e gV ⟨k,rfl,M⟩;replace b:=b.new _ M;refine aT ?_;refine ag ?_;refine an ?_;go_step;refine cx ?_;refine bN b [10] (λ_ _=>a1) (λf=>λ|10=>both (cJ E S st nx bE) (iA k (f 10).A r)|_=>emp) (λ|10=>[1,0]|_=>[]) (λ|8=>[1]|10=>[3]|_=>[]) (λ|10=>[10]|_=>[]) [2,3,4,5,16] (λf=>?_);iterate 8 refine aJ ?_
  refine dl 0 4 ?_ (hv:=r7 (j:=4) aa);refine aJ ?_;refine dh (λo Fr b=>((P o _ _ m k (ak.tail [cJ E pk st nx bE,iA k _ [],aN _ m d] Fr b))).mono ?_) ?_;·rintro e G ⟨u,rfl,b⟩;exact⟨{A:=u},aa,ak.iB [both _ _,aN _ m d] Fr b⟩
  refine pN (λhZ b=>?_);replace b:ak _ _ _ [cY E j v x,aN _ m d,s,F,both _ _]:=b;generalize (f 10).A=Vn at b⊢;replace b:=(b.pick (l':=[both _ _,cY E j v x,aN _ m d,s,F]) [4,0,1,2,3]).fw;go_step;refine cx ?_;refine bN b [1] (λi _=>match i with|1=>ar (aM a6 (im r) [])|_=>a1) (λ_ _=>emp) (λ_=>[]) (λ|1=>[1]|6=>[0]|_=>[]) (λ_=>[]) [0,1,2,3,4,5,7] (λf=>?_);refine aJ ?_;refine dh (λo Fr b=>(zH k _ r o ad (b.at 0)).mono ?_) ?_;·rintro e G ⟨rfl,g⟩;exact⟨{},aa,(b.aH g).dM⟩
  iterate 4 refine aJ ?_
  refine aK _ (λ_ _ b=>mG aa aa (b.aV 0) Ht (by rw[po];simp[aM,E.g2.len]) aw (by simp only[aM,kR,iY,hM,E.g2.len];kernel_rfl)) ?_;refine aK (ai az) (λ_ _ _=>(yQ 23 5 32 _ _ 23 aa sW mr aw aw _ E.g2.l aa aa (tk r) E.g2.len).trans (by simp[O.out])) ?_;refine pN (λjQ b=>?_);replace b:ak _ _ _ [cJ E _ st nx bE,iA k _ r,cY E j v x,aN _ m d,s,F,emp]:=b;replace b:=b.drop 6;go_step;refine ah ?_;refine aI (ve 47 (J R 15)) (by(show _=_;kernel_rfl)) ?_;refine NV ?_;exact⟨rfl,rfl,λh=>absurd h aS,λ_=>⟨_,_,_,b.pick [0,2,3,4,5]⟩⟩
end Go.Proofs.YtcmhplknoglbkaaGreat
