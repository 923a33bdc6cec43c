/- Part 30 of the proof of TopConvertsSaid. -/
import Derived.Test.YtcmhplknoglbkaaGreat0
import Derived.Test.YtcmhplknoglbkaaGreat6
import Derived.Test.YtcmhplknoglbkaaGreat28
set_option linter.all false
set_option maxRecDepth 100000
set_option maxHeartbeats 4000000
open Go.Proofs.Tryz
open Bool renaming false->au,true->aB
open Go renaming Calls->aD,callFunc->kj,execOp->bw,madeCells->FP,undef->aZ,wpList_nil->ak,wp_region_lit->ar
open Go.Ending renaming returned->aA
open Go.Fn renaming func->ek
open Go.IntKind renaming i64->R
open Go.Operand renaming const->qh,tmp->bc
open Go.Proofs.Tryz renaming func108->Ol,func277->agx,func355->agE,ntmps108->Vn,ntmps355->ahm,prog->ax,underlying24->eB,underlying82->ik
open Go.RowKit renaming Hid->aE,intOf->cx
open Go.Sem renaming run_bind->gl
open Go.Value renaming bool->aj,func->dK,int->J,pointer->ay,slice->ad,tuple->bh
open List renaming getElem?_eq_getElem->cm,getElem_mem->Dy,length_range->Dz,length_set->wz,range->dG,replicate->fu
open Nat renaming le_refl->cp
open Option renaming none->af,some->ab
open Option.some renaming injEq->wC
namespace Go.Proofs.YtcmhplknoglbkaaGreat
open Go.RowKit Go.MapKept
def sink(lt:Nat->Nat->Bool):Nat->List Nat->List Nat
 |0,L=>L
 |j+1,L=>if lt (L[j+1]?.getD 0) (L[j]?.getD 0)=aB then sink lt j ((L.set (j+1) (L[j]?.getD 0)).set j (L[j+1]?.getD 0))else L
def k3(lt:Nat->Nat->Bool)(L:List Nat):Nat->List Nat
 |0=>L
 |i+1=>sink lt i (k3 lt L i)
def aeh lt:∀j L,(sink lt j L).length=L.length
 |0,_=>aa
 |j+1,L=>by
  unfold sink;split;·rw[aeh lt j];simp
  .rfl
def aeI{L:List Nat}{j}(a:j+1<L.length){x}(h:x∈(L.set (j+1) (L[j]?.getD 0)).set j (L[j+1]?.getD 0)):x∈L:=aG
def aei lt:∀j L x,j<L.length->x∈sink lt j L->x∈L
 |0,_,_,_,h=>h
 |j+1,L,x,a,h=>by
  unfold sink at h;split at h;·exact aeI a (aei lt j _ x (by simp;omega) h)
  .exact h
theorem EB lt L:∀i,(k3 lt L i).length=L.length
 |0=>aa
 |i+1=>by rw[k3,aeh,EB lt L i]
def SF lt L:∀i x,i<=L.length->x∈k3 lt L i->x∈L
 |0,_,_,h=>h
 |i+1,x,hi,h=>SF lt L i x ae (aei lt i _ x (by grind[EB]) h)
theorem SZ{L j}(h:j<L.length):(er L)[j]?=ab (J R ((L[j]?.getD 0:Nat):Int)):=by grind[er]
def S0 L:(er L).size=L.length:=by simp[er]
def SL L(j y:Nat):lay (er L) j [J R (y:Int)]=er (L.set j y):=by grind[lay,er]
def apM (G c g:Nat) lb L lt (k:Nat->Nat->Int) w (hb:aX w G (er L) 3) (T:L.length<=1048576) (hc:L.length<=c) (V:∀x y,lt x y=decide (k x y<0)) (C:∀args w,(kj g args).run ax w=.ok (.enter g args) w)
 (hp:∀x y W,x∈L->y∈L->aq (λb=>b=G) w W->aD ax g (#[J R (x:Int),J R (y:Int)]++lb) W λe w'=>e=aA (J R (k x y))/\ao W w'):
 aD ax 355 #[ad (ab ⟨G,0,af⟩) L.length c,J R (0:Int),J R (L.length:Int),dK (ek g) #[] lb] w λe w'=>e=aA (bh #[])/\Turned w w' (ah G (er L) 3) (ah G (er (k3 lt L L.length)) 3):=by
 have K:=hid C;have M:=hid hp;have WC:=hid T;clear C hp;go_enter agE,ahm;have a:ai w (λb=>b=G) w [ah G (er L) 3]:=ai.start (t:=ah G (er L) 3) ⟨hb,λb h=>by rw[show b=G from h];exact aX.lt hb⟩;go_upto_region 0 with fail;refine ar ?_;refine v3 ?_;refine ak ?_;go_wp2_with fail;go_loopw [8] (λp wr=>∃i:Nat,1<=i/\(i<=L.length\/i=1)/\p=J R (i:Int)/\ai w (λb=>b=G) wr [ah G (er (k3 lt L i)) 3]) (λp wr=>L.length -(cx p).toNat);case atStart=>exact⟨1,cp _,.inr aa,aa,a⟩
 case round=>
  clear a;obtain⟨i,zS,ub,rfl,a⟩:=hrel;by_cases hlt:i<L.length
  .have Y:(i:Int)<(L.length:Int):=ae;go_upto_region 1 with fail;refine ar ?_;refine v3 ?_;refine aF ?_;refine dQ ?_;go_wp2_with fail;go_loopw [9] (λr wr=>∃(j:Nat) (d:List Nat),j<=i/\r=J R (j:Int)/\d.length=L.length/\(∀x∈d,x∈L)/\sink lt j d=k3 lt L (i+1)/\ai w (λb=>b=G) wr [ah G (er d) 3]) (λr wr=>(cx r).toNat);case atStart=>exact⟨i,k3 lt L i,cp _,rfl,EB lt L i,λx hx=>SF lt L i x ae hx,aa,a⟩
   case round=>
    clear a;obtain⟨j,d,hj,rfl,U,m,hsk,a⟩:=hrel;by_cases Q:j=0
    .subst Q;have l:aE (d=k3 lt L (i+1)):=hid hsk;clear hsk;go_upto_region 4 with fail;refine bP a [] (λ_ _=>aZ) (λ_ _=>emp) (λ_=>[]) (λ_=>[]) (λ_=>[]) [0] (λI=>?_);refine br ?_;refine aM (aj au) (λ_ _ _=>by(go_simp;try omega)) ?_;refine aL ?_;iterate 12 refine ds ?_
     refine gC (aj au) ?_;refine bS λw1 a=>?_;refine b6 ?_;refine pad (i:Int) 1 ((i+1:Nat):Int) ?_;refine bR ?_;go_wp2_with fail;go_roundw;case rel=>exact⟨i+1,ae,.inl ae,aa,by rw[<-l.out];exact a.pick [0]⟩
     case measure=>simp[cx]<;>omega
    .obtain⟨q,rfl⟩:∃q,j=q+1:=⟨j -1,ae⟩;obtain⟨x,hx⟩:=ex (d[q+1]?.getD 0);obtain⟨y,f⟩:=ex (d[q]?.getD 0);have n:q+1<d.length:=ae;have A:aE ((er d)[q+1]?=ab (J R (x:Int))):=hid (by rw[SZ n,hx]);have B:aE ((er d)[q]?=ab (J R (y:Int))):=hid (by rw[SZ ae,f]);have F:=m x (by rw[<-hx,cm n];exact Dy _);have H:=m y (by rw[<-f,cm (show q<d.length by omega)];exact Dy _);have hsw:∀z∈(d.set (q+1) y).set q x,z∈L:=λz hz=>m z (by rw[<-hx,<-f]at hz;exact aeI n hz);have E:(if lt x y=aB then sink lt q ((d.set (q+1) y).set q x)else d)=k3 lt L (i+1):=by rw[<-hsk,sink,hx,f]
     have P:=hid hsw;have v:=hid E;obtain⟨dC,hcb⟩:=ex (lt x y);have u:aE (decide (k x y<0)=dC):=hid (by rw[<-V,hcb]);have s:=hid hcb;obtain⟨iF,hcv⟩:=ex (k x y);have Z:=hid hcv;have N:aE (∀W,aq (λb=>b=G) w W->aD ax g (#[J R (x:Int),J R (y:Int)]++lb) W λe w'=>e=aA (J R iF)/\ao W w'):=hid (λW o=>by have q:=M.out x y W F H o;rw[hcv]at q;exact q);rw[hcv]at u;clear hx f F H hsw hsk E hcb hcv;go_upto_region 4 with fail;refine bP a [14] (λi _=>match i with|14=>J R iF|_=>aZ) (λ_ _=>emp) (λ_=>[]) (λ|8=>[0]|13=>[0]|_=>[]) (λ_=>[]) [0,15] (λI=>?_);refine br ?_;refine aM (aj aB) (λ_ _ _=>by(go_simp;try omega)) ?_;refine ix ?_;refine aM (ay (ab ⟨G,(q+1),af⟩)) (λ_ _ _=>cI 82 3 1 (bc 23) (bc 24) aa ik aw G 0 (L.length) c ((q+1)) ((q+1)) aa aa ae ae) ?_;refine aM (J R (x:Int)) (λ_ _ a=>fz aa aa (a.a1 0) A.out aw) ?_;refine br ?_;refine aM (J R (q:Int)) (λ_ _ _=>pH 3 (bc 28) (qh (J R 1)) 3 aa (((q+1:Nat):Int)) 1 (q:Int) aa aa ae ae ae) ?_;refine aM (ay (ab ⟨G,q,af⟩)) (λ_ _ _=>cI 82 3 1 (bc 27) (bc 29) aa ik aw G 0 (L.length) c q q aa aa ae ae) ?_;refine aM (J R (y:Int)) (λ_ _ a=>fz aa aa (a.a1 0) B.out aw) ?_;refine dE (λ_ _ a=>N.out _ a.only) ?_ (hr:=by(intro _;first|(go_simp;done)|(go_simp;exact K.out _ _)));refine aM (aj dC) (λ_ _ _=>by(have h:=u.out;first|(go_simp;done)|(go_simp;rw[<-h];done)|(go_simp;simp[<-h]))) ?_;refine gC (aj dC) ?_;refine bS λaS a=>?_;replace a:=a.drop 1;cases dC with
     |false=>
      have l:aE (d=k3 lt L (i+1)):=hid (by have h:=v.out;rw[s.out]at h;simpa using h);refine b6 ?_;refine pad (i:Int) 1 ((i+1:Nat):Int) ?_;refine bR ?_;go_wp2_with fail;go_roundw;case rel=>exact⟨i+1,ae,.inl ae,aa,by rw[<-l.out];exact a.pick [0]⟩
      case measure=>simp[cx]<;>omega
     |true=>
      have O:aE (sink lt q ((d.set (q+1) y).set q x)=k3 lt L (i+1)):=hid (by have h:=v.out;rw[s.out]at h;simpa using h);refine dh ?_;refine bP a [15,17] (λ_ _=>aZ) (λ_=>λ|15=>ah G (er (d.set (q+1) y)) 3|17=>ah G (er ((d.set (q+1) y).set q x)) 3|_=>emp) (λ|15=>[0]|17=>[16]|_=>[]) (λ|9=>[0]|13=>[0]|_=>[]) (λ_=>[]) [18] (λI=>?_);refine ix ?_;refine aM (J R (q:Int)) (λ_ _ _=>pH 3 (bc 40) (qh (J R 1)) 3 aa (((q+1:Nat):Int)) 1 (q:Int) aa aa ae ae ae) ?_;refine br ?_;refine aM (J R (q:Int)) (λ_ _ _=>pH 3 (bc 43) (qh (J R 1)) 3 aa (((q+1:Nat):Int)) 1 (q:Int) aa aa ae ae ae) ?_;refine aM (ay (ab ⟨G,q,af⟩)) (λ_ _ _=>cI 82 3 1 (bc 42) (bc 44) aa ik aw G 0 (L.length) c q q aa aa ae ae) ?_;refine aM (J R (y:Int)) (λ_ _ a=>fz aa aa (a.a1 0) B.out aw) ?_;refine br ?_;refine aM (ay (ab ⟨G,(q+1),af⟩)) (λ_ _ _=>cI 82 3 1 (bc 47) (bc 48) aa ik aw G 0 (L.length) c ((q+1)) ((q+1)) aa aa ae ae) ?_;refine aM (J R (x:Int)) (λ_ _ a=>fz aa aa (a.a1 0) A.out aw) ?_;refine aM (ay (ab ⟨G,(q+1),af⟩)) (λ_ _ _=>cI 82 3 1 (bc 37) (bc 38) aa ik aw G 0 (L.length) c ((q+1)) ((q+1)) aa aa ae ae) ?_;refine KM (λ_ _ a=>Fi (J R (y:Int)) aa aa aa (a.a1 0) (by show(q+1)+1<=(er d).size;rw[S0];(try simp only[wz]);omega) aw aw (SL d (q+1) y)) ?_;refine aM (ay (ab ⟨G,q,af⟩)) (λ_ _ _=>cI 82 3 1 (bc 39) (bc 41) aa ik aw G 0 (L.length) c q q aa aa ae ae) ?_;refine KM (λ_ _ a=>Fi (J R (x:Int)) aa aa aa (a.a1 0) (by show q+1<=(er (d.set (q+1) y)).size;rw[S0];(try simp only[wz]);omega) aw aw (SL (d.set (q+1) y) q x)) ?_;refine bS λbN a=>?_;refine b6 ?_;refine mN ((q+1:Nat):Int) 1 (q:Int) ?_;refine bR ?_;go_wp2_with fail;go_roundw;case rel=>exact⟨q,(d.set (q+1) y).set q x,ae,aa,by simpa using U,P.out,O.out,a.pick [0]⟩
      case measure=>simp[cx]<;>omega
  .have Y:¬(i:Int)<(L.length:Int):=ae
   have D:k3 lt L i=k3 lt L L.length:=by
    by_cases X:i=L.length;·rw[X]
    .have h1:i=1:=ae;have S:L.length=0:=ae;rw[h1,S];rfl
   rw[D]at a;clear D;go_upto_region 1 with fail;refine ar ?_;refine v3 ?_;refine ak ?_;go_wp2_with fail;first|go_end0|refine bodyPost_ret (results_none rfl _ _ _) rfl ?_
   exact⟨aa,a.gj 0⟩
def apL(G n c g a:Nat)lb(f:a<=1048576)w:
 aD ax 355 #[ad (ab ⟨G,0,af⟩) n c,J R (a:Int),J R (a:Int),dK (ek g) #[] lb] w λe w'=>e=aA (bh #[])/\ao w w':=by
 go_enter agE,ahm;have b:=bg w;go_upto_region 0 with fail;refine ar ?_;refine ag ?_;refine pad _ 1 ((a+1:Nat):Int) ?_;refine bR ?_;go_wp2_with fail;go_loopw [8] (λd wr=>d=J R ((a+1:Nat):Int)/\ai w (λ_=>False) wr []) (λd wr=>0);case atStart=>grind
 case round=>
  clear b;obtain⟨rfl,b⟩:=hrel;go_upto_region 1 with fail;refine ar ?_;refine v2 ?_;refine cd (aj au) ?_;refine ak ?_;go_wp2_with fail;first|go_end0|refine bodyPost_ret (results_none rfl _ _ _) rfl ?_
  exact⟨aa,b.only⟩
def auy (G c g:Nat) lb L lt (j:Nat->Nat->Int) w (hb:aX w G (er L) 3) (v:L.length<=20) (hc:L.length<=c) (r:∀x y,lt x y=decide (j x y<0)) (p:∀args w,(kj g args).run ax w=.ok (.enter g args) w)
 (hp:∀x y W,x∈L->y∈L->aq (λb=>b=G) w W->aD ax g (#[J R (x:Int),J R (y:Int)]++lb) W λe w'=>e=aA (J R (j x y))/\ao W w'):
 aD ax 322 #[ad (ab ⟨G,0,af⟩) L.length c,J R (L.length:Int),dK (ek g) #[] lb] w λe w'=>e=aA (bh #[])/\Turned w w' (ah G (er L) 3) (ah G (er (k3 lt L L.length)) 3):=by
 obtain⟨n,l⟩:=ex L.length;have m:aE (∀W,aq (λb=>b=G) w W->aX W G (er L) 3->aD ax 355 #[ad (ab ⟨G,0,af⟩) n c,J R (0:Int),J R (n:Int),dK (ek g) #[] lb] W λe w'=>e=aA (bh #[])/\Turned W w' (ah G (er L) 3) (ah G (er (k3 lt L n)) 3)):=hid (λW o h=>by have q:=apM G c g lb L lt j W h ae hc r p (λx y s hx z A=>hp x y s hx z (o.trans A (λ_ _ h=>h)));rw[l]at q;exact q);rw[l]at v⊢;clear p hp r l hc;go_enter func322,ntmps322;have a:ai w (λb=>b=G) w [ah G (er L) 3]:=ai.start (t:=ah G (er L) 3) ⟨hb,λb h=>by rw[show b=G from h];exact aX.lt hb⟩;go_upto_region 0 with fail;refine ar ?_;refine ag ?_;refine ak ?_;go_upto_region 1 with fail;refine ar ?_;refine v3 ?_;refine ak ?_;go_wp2_with fail;go_loopw [7,8] (λi f wr=>((i=J R ((0:Nat):Int)/\f=J R ((20:Nat):Int)/\ai w (λb=>b=G) wr [ah G (er L) 3])\/(n=20/\i=J R ((20:Nat):Int)/\f=J R ((40:Nat):Int)/\ai w (λb=>b=G) wr [ah G (er (k3 lt L n)) 3]))) (λi f wr=>40 -(cx f).toNat);case atStart=>grind
 case round=>
  clear a;rcases hrel with⟨rfl,rfl,a⟩|⟨rfl,rfl,rfl,a⟩
  .by_cases u:n=20
   .subst u;go_upto_region 2 with fail;refine ar ?_;refine v2 ?_;refine cd (aj aB) ?_;refine ak ?_;go_upto_region 3 with fail;refine ar ?_;refine v4 ?_;refine a7 (m.out _ a.only (a.a1 0)) ?_;rintro e w1 ⟨rfl,k⟩;replace a:=a.eG 0 k;refine bb ?_;refine ak ?_;go_upto_region 4 with fail;refine ar ?_;refine v2 ?_;refine ak ?_;go_upto_region 5 with fail;refine ar ?_;refine v2 ?_;refine pad _ 20 ((40:Nat):Int) ?_;refine ag ?_;refine ak ?_;go_wp2_with fail;go_roundw;case rel=>grind
    case measure=>grind[cx]
   .have hz:¬(20:Int)<=(n:Int):=ae;go_upto_region 2 with fail;refine ar ?_;refine v2 ?_;refine cd (aj au) ?_;refine ak ?_;go_upto_region 6 with fail;refine ar ?_;refine v4 ?_;refine a7 (m.out _ a.only (a.a1 0)) ?_;rintro e C ⟨rfl,k⟩;replace a:=a.eG 0 k;refine bb ?_;refine ak ?_;go_wp2_with fail;go_loopw [6] (λd wr=>d=J R 20/\ai w (λb=>b=G) wr [ah G (er (k3 lt L n)) 3]) (λd wr=>0);case atStart=>grind
    case round=>
     clear a;obtain⟨rfl,a⟩:=hrel;go_upto_region 7 with fail;refine ar ?_;refine v2 ?_;refine cd (aj au) ?_;refine ak ?_;go_wp2_with fail;first|go_end0|refine bodyPost_ret (results_none rfl _ _ _) rfl ?_
     exact⟨aa,a.gj 0⟩
  .
   have B:True:=trivial;go_upto_region 2 with fail;refine ar ?_;refine v2 ?_;refine cd (aj au) ?_;refine ak ?_;go_upto_region 6 with fail;refine ar ?_;refine v4 ?_;refine a7 (apL G 20 c g 20 lb ae _) ?_;rintro e D ⟨rfl,g⟩;replace a:=a.aI g;refine bb ?_;refine ak ?_;go_wp2_with fail;go_loopw [6] (λd wr=>d=J R 20/\ai w (λb=>b=G) wr [ah G (er (k3 lt L 20)) 3]) (λd wr=>0);case atStart=>grind
   case round=>
    clear a;obtain⟨rfl,a⟩:=hrel;go_upto_region 7 with fail;refine ar ?_;refine v2 ?_;refine cd (aj au) ?_;refine ak ?_;go_wp2_with fail;first|go_end0|refine bodyPost_ret (results_none rfl _ _ _) rfl ?_
    exact⟨aa,a.gj 0⟩
def aum (G c g:Nat) lb L lt (d:Nat->Nat->Int) w (hb:aX w G (er L) 3) (l:L.length<=20) (hc:L.length<=c) (i:∀x y,lt x y=decide (d x y<0)) (f:∀args w,(kj g args).run ax w=.ok (.enter g args) w)
 (hp:∀x y W,x∈L->y∈L->aq (λb=>b=G) w W->aD ax g (#[J R (x:Int),J R (y:Int)]++lb) W λe w'=>e=aA (J R (d x y))/\ao W w'):
 aD ax 276 #[ad (ab ⟨G,0,af⟩) L.length c,dK (ek g) #[] lb] w λe w'=>e=aA (bh #[])/\Turned w w' (ah G (er L) 3) (ah G (er (k3 lt L L.length)) 3):=by
 have j:aE (∀W,aq (λb=>b=G) w W->aX W G (er L) 3->aD ax 322 #[ad (ab ⟨G,0,af⟩) L.length c,J R (L.length:Int),dK (ek g) #[] lb] W λe w'=>e=aA (bh #[])/\Turned W w' (ah G (er L) 3) (ah G (er (k3 lt L L.length)) 3)):=hid (λW o h=>auy G c g lb L lt d W h l hc i f (λx y k hx n p=>hp x y k hx n (o.trans p (λ_ _ h=>h))));clear f hp i;go_enter func276,ntmps276;have a:ai w (λb=>b=G) w [ah G (er L) 3]:=ai.start (t:=ah G (er L) 3) ⟨hb,λb h=>by rw[show b=G from h];exact aX.lt hb⟩;go_upto_region 0 with fail;refine ar ?_;refine v4 ?_;refine a7 (j.out _ a.only (a.a1 0)) ?_;rintro e w1 ⟨rfl,m⟩;replace a:=a.eG 0 m;refine AE ?_;go_wp2_with fail;first|go_end0|refine bodyPost_ret (results_none rfl _ _ _) rfl ?_
 exact⟨aa,a.gj 0⟩
section
def EA x w:
 aD ax 194 #[J R x] w λe w'=>e=aA (aj au)/\ao w w':=by
 go_enter Tryz.func194,ntmps194;have a:=bg w;go_upto_region 0 with fail;refine ar ?_;refine ku ?_;refine aJ (aj au) (by(go_simp;try simp)) ?_;refine bR ?_;go_wp2_with fail;go_ret;exact⟨aa,a.only⟩
def pJ(x y:Int):Int:=if x<y then -1 else if y<x then 1 else 0
def akY(x y)w:
 aD ax 108 #[J R x,J R y] w λe w'=>e=aA (J R (pJ x y))/\ao w w':=by
 have bD:x<y->pJ x y=-1:=λh=>if_pos h;have b9:¬x<y->y<x->pJ x y=1:=λh c=>by grind[pJ]
 have b:¬x<y->¬y<x->pJ x y=0:=λh c=>by grind[pJ]
 obtain⟨z,hz⟩:=ex (pJ x y);rw[hz]at bD b9 b⊢;clear hz;by_cases h1:x<y;·obtain rfl:z=-1:=bD h1;clear bD b9 b;go_enter Ol,Vn;have a:=bg w;go_upto_region 0 with fail;refine ar ?_;refine ag ?_;refine ak ?_;go_upto_region 1 with fail;refine ar ?_;refine ag ?_;refine a7 (EA x _) ?_;rintro e w1 ⟨rfl,g⟩;replace a:=a.aI g;refine bb ?_;refine ag ?_;refine ak ?_;go_upto_region 2 with fail;refine ar ?_;refine ag ?_;refine a7 (EA y _) ?_;rintro e d ⟨rfl,g⟩;replace a:=a.aI g;refine bb ?_;refine ag ?_;refine ak ?_;go_upto_region 3 with fail;refine ar ?_;refine ag ?_;refine ak ?_;go_upto_region 7 with fail;refine ar ?_;refine ag ?_;refine ak ?_;go_upto_region 9 with fail;refine ar ?_;refine v2 ?_;refine cd (aj aB) ?_;refine ak ?_;go_upto_region 10 with fail;refine ar ?_;refine ag ?_;refine ak ?_;go_wp2_with fail;go_ret;exact⟨aa,a.only⟩
 .by_cases c:y<x;·obtain rfl:z=1:=b9 h1 c;clear bD b9 b;go_enter Ol,Vn;have a:=bg w;go_upto_region 0 with fail;refine ar ?_;refine ag ?_;refine ak ?_;go_upto_region 1 with fail;refine ar ?_;refine ag ?_;refine a7 (EA x _) ?_;rintro e f ⟨rfl,g⟩;replace a:=a.aI g;refine bb ?_;refine ag ?_;refine ak ?_;go_upto_region 2 with fail;refine ar ?_;refine ag ?_;refine a7 (EA y _) ?_;rintro e i ⟨rfl,g⟩;replace a:=a.aI g;refine bb ?_;refine ag ?_;refine ak ?_;go_upto_region 3 with fail;refine ar ?_;refine ag ?_;refine ak ?_;go_upto_region 7 with fail;refine ar ?_;refine ag ?_;refine ak ?_;go_upto_region 9 with fail;refine ar ?_;refine v2 ?_;refine cd (aj au) ?_;refine ak ?_;go_upto_region 11 with fail;refine ar ?_;refine v2 ?_;refine cd (aj aB) ?_;refine ak ?_;go_upto_region 12 with fail;refine ar ?_;refine ag ?_;refine ak ?_;go_wp2_with fail;go_ret;exact⟨aa,a.only⟩
  .obtain rfl:z=0:=b h1 c;clear bD b9 b;go_enter Ol,Vn;have a:=bg w;go_upto_region 0 with fail;refine ar ?_;refine ag ?_;refine ak ?_;go_upto_region 1 with fail;refine ar ?_;refine ag ?_;refine a7 (EA x _) ?_;rintro e j ⟨rfl,g⟩;replace a:=a.aI g;refine bb ?_;refine ag ?_;refine ak ?_;go_upto_region 2 with fail;refine ar ?_;refine ag ?_;refine a7 (EA y _) ?_;rintro e k ⟨rfl,g⟩;replace a:=a.aI g;refine bb ?_;refine ag ?_;refine ak ?_;go_upto_region 3 with fail;refine ar ?_;refine ag ?_;refine ak ?_;go_upto_region 7 with fail;refine ar ?_;refine ag ?_;refine ak ?_;go_upto_region 9 with fail;refine ar ?_;refine v2 ?_;refine cd (aj au) ?_;refine ak ?_;go_upto_region 11 with fail;refine ar ?_;refine v2 ?_;refine cd (aj au) ?_;refine ak ?_;go_upto_region 13 with fail;refine ar ?_;refine ag ?_;refine ak ?_;go_wp2_with fail;go_ret;exact⟨aa,a.only⟩
section
variable {P:Program} {o:Oper} {a:Act} {w:World}
def aqG n:FP #[J R 0] n=er (fu n 0):=by
 apply Array.ext;·simp[FP,er]
 grind[FP,er]
def aru{t e:Nat}{x y}(n:Nat)(c:o.op=.makeSlice t x y)(hx:a.eval x=J R (n:Int))(f:a.eval y=J R (n:Int))(d:P.underlying t=ab (.slice e))(hi:(P.info? e).map (λi=>(i.zero,i.size,i.bytes))=ab (ab (J R 0),1,8))(j:n<=1048576):
 ∃B w',(bw a.eval o).run P w=.ok (.value (ad (ab ⟨B,0,af⟩) n n)) w'/\b5 w w' (ah B (er (fu n 0)) e):=by
 cases hq:P.info? e with
 |none=>grind
 |some i=>
  rw[hq]at hi;simp only[Option.map_some,wC,Prod.mk.injEq]at hi;obtain⟨h1,b,g⟩:=hi;have h:=run_make (P:=P) w t e i (J R 0) d hq h1 R R (n:Int) (n:Int) ae (Int.le_refl _) aG ae;refine⟨_,_,?_,x3 (aq.alloc _ _) (heap_alloc_new w _) (cp _)⟩;rw[b,Nat.mul_one]at h;have hc:(J R 0).cells=#[J R 0]:=rfl;rw[hc,Int.toNat_natCast,aqG]at h;unfold bw;simp only[c,hx,f,gl,h,Result.andThen_ok,Sem.run_pure]
end
end
def mR(ms:List bI)(x:Nat):Int:=((ms[x]?).map (·.to)).getD 0
def EI{P o}{a:Act}{w}ty x(b:o.op=.load ty x)(B k){v}(hx:a.eval x=ay (ab ⟨B,k,af⟩))(hc:w.cell? ⟨B,k,af⟩=ab v)(e:(P.underlying ty).map (λd=>d.isRow)=ab au):
 (bw a.eval o).run P w=.ok (.value v) w:=by
 cases hq:P.underlying ty with
 |none=>grind
 |some d=>
  have c:d.isRow=false:=aG
  have hagg:(isAgg ty).run P w=.ok au w:=by unfold isAgg;rw[gl,run_underlying hq w];cases d<;>simp_all
  unfold bw;simp[b,hx,Instr.loadAt,Instr.sureAddr,loadVar,hagg,hc]
def auo(da x y)A c ms w(hb:aX w da #[ad A ms.length c] 24)(j:cD w A ms)(hx:x<ms.length)(q:y<ms.length)(E:ms.length<=1048576):
 aD ax 277 #[J R (x:Int),J R (y:Int),ay (ab ⟨da,0,af⟩)] w λe w'=>e=aA (J R (pJ (mR ms x) (mR ms y)))/\ao w w':=by
 have z:=hid j;have n:=hid hb;obtain⟨m,k⟩:∃m,ms[x]?=ab m:=⟨_,cm hx⟩;obtain⟨h,l⟩:∃m,ms[y]?=ab m:=⟨_,cm q⟩;have e:pJ (mR ms x) (mR ms y)=pJ m.to h.to:=by simp[mR,k,l]
 rw[e];obtain⟨d,a,u,C,t,_,o⟩:=cD.ia j k;obtain⟨B,F,v,D,f,_,p⟩:=cD.ia j l;subst t;injection f with f;injection f with f Rh;subst f;subst Rh;have r:aE (∀W,ao w W->W.cell? ⟨d,a+x*5+1,af⟩=ab (J R m.to)):=hid (λW g=>o W g 1 _ aa);have s:aE (∀W,ao w W->W.cell? ⟨d,a+y*5+1,af⟩=ab (J R h.to)):=hid (λW g=>p W g 1 _ aa);clear j hb k l e o p;go_enter agx,ntmps277;have b:=bg w;go_upto_region 0 with fail;refine ar ?_;refine ih ?_;refine bP b [10] (λi _=>match i with|10=>J R (pJ m.to h.to)|_=>aZ) (λ_ _=>emp) (λ_=>[]) (λ_=>[]) (λ_=>[]) [10] (λG=>?_);refine aM (ad (ab ⟨d,a,af⟩) ms.length c) (λ_ _ b=>fz aa aa (aX.aI n.out b.only) aa aw) ?_;refine aL ?_;refine aM (ay (ab ⟨d,(a+x*5),af⟩)) (λ_ _ _=>cI 24 73 5 (bc 6) (bc 7) aa eB aw d a (ms.length) c x ((a+x*5)) aa aa hx aa) ?_;refine aM (ay (ab ⟨d,a+x*5+1,af⟩)) (λ_ _ _=>by(go_simp;try rfl)) ?_;refine aM (J R m.to) (λ_ _ b=>EI 3 (bc 9) aa d (a+x*5+1) aa (r.out _ b.only) aw) ?_;refine aM (ad (ab ⟨d,a,af⟩) ms.length c) (λ_ _ b=>fz aa aa (aX.aI n.out b.only) aa aw) ?_;refine aL ?_;refine aM (ay (ab ⟨d,(a+y*5),af⟩)) (λ_ _ _=>cI 24 73 5 (bc 11) (bc 12) aa eB aw d a (ms.length) c y ((a+y*5)) aa aa q aa) ?_;refine aM (ay (ab ⟨d,a+y*5+1,af⟩)) (λ_ _ _=>by(go_simp;try rfl)) ?_;refine aM (J R h.to) (λ_ _ b=>EI 3 (bc 14) aa d (a+y*5+1) aa (s.out _ b.only) aw) ?_;refine dE (λ_ _ _=>akY m.to h.to _) ?_;refine aL ?_;refine bS λw1 b=>?_;replace b:=b.drop 0;go_wp2_with fail;go_ret;exact⟨aa,b.only⟩
def lX(ms:List bI):List Nat:=k3 (λx y=>decide (pJ (mR ms x) (mR ms y)<0)) (dG ms.length) ms.length
theorem Mt ms:(lX ms).length=ms.length:=by grind[lX,EB]
def acQ{ms x}(h:x∈lX ms):x<ms.length:=List.mem_range.1 (SF _ _ _ _ aU h)
def vJ(n j:Nat):List Nat:=dG j++fu (n -j) 0
theorem asJ{n j}(h:j<n):(vJ n j).set j j=vJ n (j+1):=by unfold vJ;rw[List.set_append_right _ _ aU,Dz,Nat.sub_self,List.range_succ,List.append_assoc];congr 1;rw[show n -j=(n -(j+1))+1 by omega,List.replicate_succ];rfl
def asI{n j}(h:j<=n):(vJ n j).length=n:=by grind[vJ]
def sorted_at A c ms w(r:cD w A ms)(H:ms.length<=20):
 aD ax 201 #[ad A ms.length c] w λe w'=>∃fS da,e=aA (dK (ek 278) #[] #[ay (ab ⟨fS,0,af⟩),ay (ab ⟨da,0,af⟩)])/\∃G,b5 w w' (bQ [ah fS #[ad (ab ⟨G,0,af⟩) ms.length ms.length] 82,ah da #[ad A ms.length c] 24,ah G (er (lX ms)) 3]):=by
 have t:=hid r;obtain⟨n,f⟩:=ex ms.length
 have u:aE (∀W da G,ao w W->w.heap.size<=G->aX W da #[ad A n c] 24->¬da=G->aX W G (er (dG n)) 3->aD ax 276 #[ad (ab ⟨G,0,af⟩) n n,dK (ek 277) #[] #[ay (ab ⟨da,0,af⟩)]] W λe w'=>e=aA (bh #[])/\Turned W w' (ah G (er (dG n)) 3) (ah G (er (lX ms)) 3)):=hid (λW da G g I h1 hne v=>by
  have hr:(dG n).length=n:=Dz
  have q:=aum G n 277 #[ay (ab ⟨da,0,af⟩)] (dG n) (λx y=>decide (pJ (mR ms x) (mR ms y)<0)) (λx y=>pJ (mR ms x) (mR ms y)) W v ae ae (λ_ _=>aa) (enters_of agx aw aa) (λx y k hx K o=>by
   have g2:ao w k:=((g.to (F:=λb=>b=G)).trans o (λ_ _ h=>h)).mono (λi hi h=>ae);have z:aX k da #[ad A ms.length c] 24:=by rw[f];exact o.heap h1 hne
   exact auo da x y A c ms k z (t.out.aI g2) aG aG ae);rw[hr]at q;rw[lX,f];exact q);rw[f]at H⊢;clear r f;go_enter func201,ntmps201;have a:=bg w;go_upto_region 0 with fail;refine ar ?_;refine bO a (ad A n c) (λm w1 a=>?_);refine dR ?_;refine pl a 0 0 ?_;refine ag ?_;refine Im a (aru n aa aa aa ik aw ae) (λd L a=>?_);refine bA a #[ad af 0 0] (λs M a=>?_);refine ba a 0 (ad (ab ⟨d,0,af⟩) n n) (λN a=>?_);refine aF ?_;refine pl a 0 0 ?_;refine dQ ?_;have p:=a.pk [0,1,2];go_wp2_with fail;go_loopw [10] (λl wr=>∃j:Nat,j<=n/\l=J R (j:Int)/\ai w (λ_=>False) wr [ah s #[ad (ab ⟨d,0,af⟩) n n] 82,ah d (er (vJ n j)) 3,ah m #[ad A n c] 24]) (λl wr=>n -(cx l).toNat);case atStart=>exact⟨0,Nat.zero_le _,aa,by rw[show vJ n 0=fu n 0 from aT];exact p⟩
 case round=>
  clear a p;obtain⟨j,C,rfl,a⟩:=hrel;by_cases hlt:j<n
  .have E:(j:Int)<(n:Int):=ae;go_upto_region 3 with fail;refine ar ?_;refine ag ?_;refine aF ?_;refine v2 ?_;refine aF ?_;refine pl a 0 0 ?_;refine v2 ?_;refine aJ _ (cI 82 3 1 _ _ aa ik aw d 0 n n j j aa aa hlt ae) ?_;refine My a 1 (Fi (J R (j:Int)) aa aa aa (a.a1 1) (by show j+1<=(er (vJ n j)).size;rw[S0,asI C];omega) aw aw (SL (vJ n j) j j)) (λO a=>?_);refine aF ?_;refine pad (j:Int) 1 ((j+1:Nat):Int) ?_;refine bR ?_;go_wp2_with fail;go_roundw;case rel=>exact⟨j+1,ae,aa,by grind[asJ]⟩
   case measure=>grind[cx]
  .have E:¬(j:Int)<(n:Int):=ae;have D:j=n:=ae;rw[show vJ n j=dG n from by rw[D];simp[vJ]]at a;go_upto_region 3 with fail;refine ar ?_;refine dR ?_;refine pl a 0 0 ?_;refine ag ?_;refine a7 (u.out _ _ d a.only ((a.low _ (List.mem_of_getElem? (i:=1) aa) d aa).2.resolve_right (λh=>h)) (a.a1 2) (λh=>a.ne (i:=2) (j:=1) aa aa bj m aa h) (a.a1 1)) ?_;rintro e P ⟨rfl,B⟩;replace a:=a.eG 1 B;refine bb ?_;refine aF ?_;refine dQ ?_;go_wp2_with fail;go_ret;exact⟨_,_,aa,d,((a.pick (l':=[ah _ _ 82,ah _ _ 24,ah d _ 3]) [0,2,1]).fC 3).fresh 0⟩
end Go.Proofs.YtcmhplknoglbkaaGreat
