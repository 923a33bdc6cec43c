/- Part 34 of the proof of TopConvertsSaid. -/
import Derived.Test.YtcmhplknoglbkaaGreat0
import Derived.Test.YtcmhplknoglbkaaGreat6
import Derived.Test.YtcmhplknoglbkaaGreat15
import Derived.Test.YtcmhplknoglbkaaGreat28
import Derived.Test.YtcmhplknoglbkaaGreat31
set_option linter.all false
set_option maxRecDepth 100000
set_option maxHeartbeats 4000000
open Go.Proofs.Tryz
open Array renaming replicate_succ->qc,replicate_zero->qd,size->jD
open Bool renaming false->au
open Go renaming Calls->aD,results_cell_row->je,undef->aZ,wpList_nil->ak,wp_region_lit->ar
open Go.Ending renaming returned->aA
open Go.IntKind renaming i64->R
open Go.LoopState renaming busy->si
open Go.Obj renaming loop->fT
open Go.Operand renaming tmp->bc
open Go.Proofs.Tryz renaming func121->af7,func278->U6,func87->agP,ntmps121->agV,ntmps87->ahu,prog->ax,underlying24->eB,underlying73->fX
open Go.Value renaming agg->av,bool->aj,int->J,pointer->ay,slice->ad,tuple->bh
open Int renaming eq_ofNat_of_zero_le->tA
open List renaming append_toArray->qq,cons_append->py,getElem?_eq_getElem->cm,length_cons->jT,length_filterMap_le->Xc,length_nil->l2,mem_of_getElem?->cM,nil_append->na,not_mem_nil->gb,push_toArray->qs,size_toArray->iR
open Nat renaming le_of_eq->Xi,le_trans->eD
open Option renaming none->af,some->ab
open Option.some renaming injEq->wC
namespace Go.Proofs.YtcmhplknoglbkaaGreat
open Go.RowKit Go.MapKept
def abA(n:Nat)(b:(n:Int)<=4611686018427387903)w:
 aD ax 120 #[J R (n:Int)] w λe w'=>e=aA (aj true)/\ao w w':=by
 go_enter func120,ntmps120;have a:=bg w;go_upto_region 0 with fail;refine ar ?_;refine ku ?_;refine bC (xm 0 (n:Int) _ ⟨ae,ae,ae⟩) a (λw1 a=>?_);refine bR ?_;go_wp2_with fail;go_ret;exact⟨aa,a.only⟩
def jc(o n:Nat)(m:bI):Prop:=hY m/\(m.k=1->m.fr+m.n<=(o:Int))/\m.to+cS m<=(n:Int)
def at9(o n)(g1 g2)f(B:f.oneCell'=true)m b c(h:jc o n m)(C:(o:Int)<=4611686018427387903/\(n:Int)<=4611686018427387903)w:
 aD ax 121 #[dD (o:Int) (n:Int) g1 g2 f,av #[J R m.k,J R m.to,J R m.fr,J R m.n,ad b m.data.length c]] w λe w'=>e=aA (J R 0)/\ao w w':=by
 obtain⟨hv,l,y⟩:=h;obtain⟨d,g⟩:=ex (cS m);have s:=hv.b';have hb:0<=m.to/\0<d/\m.to+d<=4611686018427387903:=ae;rw[g]at y;obtain⟨eS,eZ,sA⟩:=hb;have q:Hid (∀W,aD ax 200 #[av #[J R m.k,J R m.to,J R m.fr,J R m.n,ad b m.data.length c]] W λe w'=>e=aA (J R 0)/\ao W w'):=hid (λW=>akK m.k m.to m.fr m.n b m.data.length c W hv);have r:Hid (∀W,aD ax 136 #[av #[J R m.k,J R m.to,J R m.fr,J R m.n,ad b m.data.length c]] W λe w'=>e=aA (av #[J R m.to,J R d])/\ao W w'):=hid (λW=>by rw[<-g];exact uB _ _ _ _ b _ c W);by_cases hk:m.k=1
 .have hf2:=l hk;have x:0<=m.fr/\0<=m.n:=by rcases hv with⟨_,_,⟨z,A,_⟩,_⟩|⟨h2,_⟩;exact⟨z,A⟩;omega
  obtain⟨D,E⟩:=x;have j:Hid (∀W,aD ax 79 #[av #[J R m.k,J R m.to,J R m.fr,J R m.n,ad b m.data.length c]] W λe w'=>e=aA (bh #[av #[J R m.fr,J R m.n],aj true])/\ao W w'):=hid (λW=>by rw[hk];exact yP _ _ _ b _ c W);clear hk l g hv s;go_enter af7,agV;have a:=bg w;go_upto_region 0 with fail;refine ar ?_;refine bO a (av (a6 (o:Int) (n:Int) g1 g2 f)) (λt w1 a=>?_);refine bO a (av #[J R m.k,J R m.to,J R m.fr,J R m.n,ad b m.data.length c]) (λu N a=>?_);refine dR ?_;refine bt a 0 #[J R m.k,J R m.to,J R m.fr,J R m.n,ad b m.data.length c] ?_;refine bC (q.out _) a (λO a=>?_);refine cK ?_;refine pk (aj au) ?_;refine aF ?_;refine bt a 0 #[J R m.k,J R m.to,J R m.fr,J R m.n,ad b m.data.length c] ?_;refine bC (j.out _) a (λP a=>?_);refine v3 ?_;refine bA a #[J R 0,J R 0] (λv Q a=>?_);refine ba a 0 (av #[J R m.fr,J R m.n]) (λS a=>?_);refine ih ?_;refine bP a [3] (λi _=>match i with|3=>J R (m.fr+m.n)|_=>aZ) (λ_ _=>emp) (λ_=>[]) (λ|2=>[0]|5=>[2]|_=>[]) (λ_=>[]) [0,1,2,6] (λp=>?_);refine br ?_;refine eb 0 #[J R m.fr,J R m.n] ?_;refine dE (λ_ _ _=>lN m.fr _ _ ae ae ae) ?_;refine aL ?_;refine dl 0 0 ?_ (hv:=mA);refine aM (aj au) (λ_ _ _=>by(go_simp;try omega)) ?_;refine aL ?_;refine bS λT a=>?_;replace a:=a.drop 3;refine dh ?_;refine bP a [1,2] (λi _=>match i with|1=>av #[J R m.to,J R d]|2=>J R (m.to+d)|_=>aZ) (λ_ _=>emp) (λ_=>[]) (λ|0=>[1]|4=>[2]|_=>[]) (λ_=>[]) [0,1,2,4,5] (λp=>?_);refine eb 0 #[J R m.k,J R m.to,J R m.fr,J R m.n,ad b m.data.length c] ?_;refine dE (λ_ _ _=>r.out _) ?_;refine dE (λ_ _ _=>lN m.to d _ ae ae ae) ?_;refine aL ?_;refine dl 0 1 ?_ (hv:=jh);refine aM (aj au) (λ_ _ _=>by(go_simp;try omega)) ?_;refine bS λU a=>?_;replace a:=a.drop 3;replace a:=a.drop 3;refine aF ?_;refine ag ?_;refine ak ?_;go_wp2_with fail;go_ret;exact⟨aa,a.only⟩
 .have j:Hid (∀W,aD ax 79 #[av #[J R m.k,J R m.to,J R m.fr,J R m.n,ad b m.data.length c]] W λe w'=>e=aA (bh #[av #[J R 0,J R 0],aj au])/\ao W w'):=hid (λW=>yQ m.k m.to m.fr m.n b m.data.length c W hk);clear hk l g hv s;go_enter af7,agV;have a:=bg w;go_upto_region 0 with fail;refine ar ?_;refine bO a (av (a6 (o:Int) (n:Int) g1 g2 f)) (λt V a=>?_);refine bO a (av #[J R m.k,J R m.to,J R m.fr,J R m.n,ad b m.data.length c]) (λu F a=>?_);refine dR ?_;refine bt a 0 #[J R m.k,J R m.to,J R m.fr,J R m.n,ad b m.data.length c] ?_;refine bC (q.out _) a (λG a=>?_);refine cK ?_;refine pk (aj au) ?_;refine aF ?_;refine bt a 0 #[J R m.k,J R m.to,J R m.fr,J R m.n,ad b m.data.length c] ?_;refine bC (j.out _) a (λH a=>?_);refine v3 ?_;refine bA a #[J R 0,J R 0] (λv I a=>?_);refine ba a 0 (av #[J R 0,J R 0]) (λK a=>?_);refine ih ?_;refine bP a [] (λ_ _=>aZ) (λ_ _=>emp) (λ_=>[]) (λ_=>[]) (λ_=>[]) [0,1,2] (λp=>?_);refine br ?_;iterate 5 refine ds ?_
  refine aL ?_;refine bS λL a=>?_;refine dh ?_;refine bP a [1,2] (λi _=>match i with|1=>av #[J R m.to,J R d]|2=>J R (m.to+d)|_=>aZ) (λ_ _=>emp) (λ_=>[]) (λ|0=>[1]|4=>[2]|_=>[]) (λ_=>[]) [0,1,2,4,5] (λp=>?_);refine eb 0 #[J R m.k,J R m.to,J R m.fr,J R m.n,ad b m.data.length c] ?_;refine dE (λ_ _ _=>r.out _) ?_;refine dE (λ_ _ _=>lN _ d _ ae ae ae) ?_;refine aL ?_;refine dl 0 1 ?_ (hv:=jh);refine aM (aj au) (λ_ _ _=>by(go_simp;try omega)) ?_;refine bS λM a=>?_;replace a:=a.drop 3;replace a:=a.drop 3;refine aF ?_;refine ag ?_;refine ak ?_;go_wp2_with fail;go_ret;exact⟨aa,a.only⟩
def iq(l:List (Nat×Int×Int)):Int:=l.foldl (λe x=>e+x.2.2) 0
theorem YE l x:iq (l++[x])=iq l+x.2.2:=by grind[iq]
structure Kj (n:Nat) (ms:List bI):Prop where
 next:∀pre x,pre++[x]<+:hR ms->x.2.1=iq pre/\0<=iq pre/\0<=x.2.2/\iq pre+x.2.2<=4611686018427387903
 all:iq (hR ms)=(n:Int)
def auS n A c ms w(k:cD w A ms)(y:ms.length<=20)(f:Kj n ms):
 aD ax 122 #[ad A ms.length c] w λe w'=>e=aA (bh #[J R (n:Int),aj au])/\ao w w':=by
 have j:=hid f;have o:=λW g=>sorted_at A c ms W (k.aI g) y;have p:∀fS da G,xZ ax 278 #[ay (ab ⟨fS,0,af⟩),ay (ab ⟨da,0,af⟩)] (λx:Nat×Int×Int=>#[J R (x.1:Int),gJ x.2]) w (λ_=>False) (bQ [ah fS #[ad (ab ⟨G,0,af⟩) ms.length ms.length] 82,ah da #[ad A ms.length c] 24,ah G (er (lX ms)) 3]) (λ_=>True) (hR ms):=λfS da G=>aev fS da G A c ms w _ (λW g=>k.aI g) y;have N:=hid o;obtain⟨xs,C⟩:=ex (hR ms);have m:=f.next;have hall:=f.all;rw[C]at p m hall;have L:=hid m;have K:=hid hall;clear o f k m hall C;refine Bq func122 aa ?_;simp only[ntmps122,iR,jT,l2,qc,qd,qs,qq,na,py];have a:=bg w;go_upto_region 0 with fail;refine ar ?_;refine bA a #[J R 0] (λE w1 a=>?_);refine bA a #[aj au] (λH aS a=>?_);refine ak ?_;go_upto_region 1 with fail;refine ar ?_;refine bA a #[J R 0] (λb bN a=>?_);refine bA a #[J R 0] (λd cc a=>?_);refine ba a 1 (J R 0) (λcG a=>?_);refine ba a 0 (J R (-1)) (λc6 a=>?_);refine ak ?_;go_upto_region 2 with fail;refine ar ?_;refine ag ?_;refine a7 (N.out _ a.only) ?_;rintro e dX ⟨fS,da,rfl,G,P⟩;replace a:=a.new _ P;refine bb ?_;refine ak ?_;go_wp2_with fail;have j:ai _ _ _ [bQ [ah fS #[ad (ab ⟨G,0,af⟩) ms.length ms.length] 82,ah da #[ad A ms.length c] 24,ah G (er (lX ms)) 3],bQ [ah b #[J R 0] 3,ah d #[J R (-1)] 3],bQ [ah H #[aj au] 4,ah E #[J R 0] 3]]:=ai.DI (a.pick [0,2,1,3,4]);refine IT (encs:=(λx:Nat×Int×Int=>#[J R (x.1:Int),gJ x.2])) aa (enters_of U6 aT aa) (λ_=>aa) (p _ _ _) (λpre t=>t=bQ [ah b #[J R (iq pre)] 3,ah d _ 3]) (λ_ _ _=>False) aa j ?_ ?_ ?_;all_goals clear j a
 .rintro l rd pre x W t F z Q rfl a;replace a:=a.lE;repeat((fail_if_success (with_reducible refine at_region ?_));gi_step)
  refine ke ?_;refine bA a #[J R 0,J R 0] (λI dH a=>?_);refine ba a 0 (av #[J R x.2.1,J R x.2.2]) (λe9 a=>?_);refine ak ?_;first|refine wpIn_skip ?_|skip
  simp only[Exit.then];refine Bk a 3 Q (λU a=>?_);replace a:ai _ _ _ [ah I #[J R x.2.1,J R x.2.2] 35,ah b #[J R (iq pre)] 3,ah d #[J R (-1)] 3,obj l (fT {rd with state:=si}),F]:=a;obtain⟨h1,r,O,s⟩:=L.out pre x z;obtain⟨S,v⟩:=ex (iq pre);have B:iq (pre++[x])=x.2.1+x.2.2:=by grind[YE]
  have M:=hid B;rw[v]at h1 r s a;have hx1:0<=x.2.1:=ae;have hx2:x.2.1+x.2.2<=4611686018427387903:=ae;have q:=hid h1;clear B v h1 r s z;repeat((fail_if_success (with_reducible refine at_region ?_));gi_step)
  refine ke ?_;refine ag ?_;refine pl a 0 0 ?_;refine pl a 1 0 ?_;refine aJ (aj au) (by(have h:=q.out;go_simp;try omega)) ?_;refine ak ?_;repeat((fail_if_success (with_reducible refine at_region ?_));gi_step)
  refine ke ?_;refine ag ?_;refine pl a 0 0 ?_;refine pl a 1 0 ?_;refine aJ (aj au) (by(have h:=q.out;go_simp;try omega)) ?_;refine ag ?_;iterate 2 refine ps ?_
  refine pk (aj au) ?_;refine ak ?_;repeat((fail_if_success (with_reducible refine at_region ?_));gi_step)
  refine ke ?_;refine bt a 0 #[J R x.2.1,J R x.2.2] ?_;refine a7 (lN _ _ _ hx1 O hx2) ?_;rintro e V ⟨rfl,g⟩;replace a:=a.aI g;refine bb ?_;refine ba a 1 (J R (x.2.1+x.2.2)) (λX a=>?_);refine ak ?_;repeat gi_step
  have i:=a.pk [1,2,3,4];replace i:ai _ _ _ [bQ [ah b #[J R (x.2.1+x.2.2)] 3,ah d #[J R (-1)] 3],obj l (fT {rd with state:=si}),F]:=i.fC 2;refine⟨_,?_,i⟩;exact(by show _=_;rw[M.out])
 .rintro D t u W rfl T a;replace a:=a.lE;replace a:=(a.pk [4,0,1,2,3]).lE;rw[K.out]at a;go_upto_region 9 with fail;refine ar ?_;refine pl a 3 0 ?_;refine pk (aj au) ?_;refine ak ?_;go_upto_region 11 with fail;refine ar ?_;refine pl a 2 0 ?_;refine ba a 1 (J R (n:Int)) (λY a=>?_);refine ba a 0 (aj au) (λZ a=>?_);refine ak ?_;go_wp2_with fail;refine yF a 5 (λw' a=>⟨adI aa aa (a.a1 1) aw aa (a.a1 0) aw,aa,a.only⟩)
 .simp
structure nC (o n:Nat) (ms:List bI):Prop where
 fb:(o:Int)<=4611686018427387903
 qL:(n:Int)<=4611686018427387903
 fits:∀m∈ms,jc o n m
 tiled:Kj n ms
 en:ms.length<=20
def QV(o n)(g1 g2)A c ms w(h:cD w A ms)(hv:nC o n ms):
 aD ax 50 #[dD (o:Int) (n:Int) g1 g2 (ad A ms.length c)] w λe w'=>e=aA (av #[J R 0,J R 0])/\ao w w':=by
 have E:=hid h;have I:=hid hv;have O:=hv.en;have x:(o:Int)<=4611686018427387903/\(n:Int)<=4611686018427387903:=⟨hv.fb,hv.qL⟩;have G:=hid x;obtain⟨Q,P⟩:=x;have H:Hid (∀W,ao w W->aD ax 122 #[ad A ms.length c] W λe w'=>e=aA (bh #[J R (n:Int),aj au])/\ao W w'):=hid (λW g=>auS n A c ms W (h.aI g) hv.en hv.tiled);clear h hv;go_enter func50,ntmps50;have a:=bg w;go_upto_region 0 with fail;refine ar ?_;refine bO a (av (a6 (o:Int) (n:Int) g1 g2 (ad A ms.length c))) (λy w1 a=>?_);refine bA a #[J R 0,J R 0] (λz S a=>?_);refine b6 ?_;refine pl a 1 0 ?_ (hv:=mA);refine bC (abA o ae _) a (λT a=>?_);refine v3 ?_;refine pl a 1 1 ?_ (hv:=jh);refine bC (abA n ae _) a (λU a=>?_);refine CN ?_;refine pl a 1 66 ?_ (hv:=eT);refine dQ ?_;have q:=a.pk [1,0];go_wp2_with fail;go_loopw [22] (λl wr=>∃j:Nat,j<=ms.length/\l=J R (j:Int)/\ai w (λ_=>False) wr [ah y (a6 (o:Int) (n:Int) g1 g2 (ad A ms.length c)) 26,ah z #[J R 0,J R 0] 49]) (λl wr=>ms.length -(intOf l).toNat);case atStart=>exact⟨0,Nat.zero_le _,aa,q⟩
 case round=>
  clear a q;obtain⟨j,N,rfl,a⟩:=hrel;by_cases hlt:j<ms.length
  .have K:(j:Int)<(ms.length:Int):=ae;obtain⟨m,i⟩:∃m,ms[j]?=ab m:=⟨_,cm hlt⟩;obtain⟨d,p,b,f,r,s,t⟩:=cD.ia E.out i;have B:=hid r;have M:=hid s;have C:=hid t;have F:=hid i;clear r s t i;have u:=I.out.fits m (cM F.out);have D:=hid u;clear u;go_upto_region 4 with fail;refine ar ?_;refine cK ?_;refine aJ (ay (ab ⟨d,(p+j*5),af⟩)) (cI 24 73 5 (bc 20) (bc 22) aa eB aw d p (ms.length) c j ((p+j*5)) (by show ad A _ _=_;rw[B.out]) aa hlt aa) ?_;refine aJ _ (by(refine e7 73 _ aa d _ aa _ (C.out _ a.only) fX aa aw)) ?_;refine bA a #[J R 0,J R 0,J R 0,J R 0,ad af 0 0] (λL V a=>?_);refine ag ?_;refine ba a 0 (av #[J R m.k,J R m.to,J R m.fr,J R m.n,ad b m.data.length f]) (λX a=>?_);refine aF ?_;refine bt a 1 (a6 (o:Int) (n:Int) g1 g2 (ad A ms.length c)) ?_ (hv:=(ef _)) (hk:=by omega) (hz:=(by rw[cN];rfl));refine bt a 0 #[J R m.k,J R m.to,J R m.fr,J R m.n,ad b m.data.length f] ?_;refine bC (at9 o n g1 g2 (ad A ms.length c) aa m b f D.out G.out _) a (λY a=>?_);refine cK ?_;refine pk (aj au) ?_;refine aF ?_;refine pad (j:Int) 1 ((j+1:Nat):Int) ?_;refine bR ?_;go_wp2_with fail;go_roundw;case rel=>exact⟨j+1,ae,aa,a.pick [1,2]⟩
   case measure=>simp[intOf]<;>omega
  .have K:¬(j:Int)<(ms.length:Int):=ae;go_upto_region 4 with fail;refine ar ?_;refine cK ?_;refine pl a 0 66 ?_ (hv:=eT);refine bC (H.out _ a.only) a (λZ a=>?_);refine v5 ?_;refine aF ?_;refine ku ?_;refine pl a 0 1 ?_ (hv:=jh);refine cd (aj au) ?_;refine b6 ?_;refine ba a 1 (av #[J R 0,J R 0]) (λe9 a=>?_);refine ak ?_;go_wp2_with fail;refine bodyPost_ret (v:=_) (je aa _ _ _ _ _ _ _ aa (a.a1 1) Tryz.underlying49 aa aw) aa (⟨aa,a.only⟩)
def oG(ms:List bI):List bI:=(lX ms).filterMap (λi=>ms[i]?)
def r3(ms:List bI)(l:List (Nat×Int×Int)):List bI:=l.filterMap (λx=>ms[x.1]?)
def aeb{ms l x m}(h:ms[x.1]?=ab m):r3 ms (l++[x])=r3 ms l++[m]:=by grind[r3]
def aea ms:r3 ms (hR ms)=oG ms:=by unfold r3 hR oG;rw[List.filterMap_map];rfl
def at3 ms l:(r3 ms l).length<=l.length:=Xc _ _
def Fg{ms m}(h:m∈oG ms):m∈ms:=by obtain⟨i,_,hi⟩:=List.mem_filterMap.1 h;exact cM hi
def TQ ms:(oG ms).length<=ms.length:=eD (Xc _ _) (Xi (Mt ms))
def aeA{ms x}(h:x∈hR ms):x.1<ms.length:=by obtain⟨i,hi,e⟩:=List.mem_map.1 h;subst e;exact acQ hi
def ael{N n c w A ms l}(b:Row N w A n c 73 5 (cA l))(h1:l.map (·.1)=ms)(o:n=ms.length)(d:∀x∈l,qf w x.1 x.2.1 x.2.2):cD w A ms:=λp=>by
 rcases b.cases with⟨_,k,_,_⟩|⟨g,cur,e,_⟩;·omega
 .refine⟨g,0,e,λj m a=>?_⟩;subst h1;rw[List.getElem?_map]at a;cases hx:l[j]? with
  |none=>grind
  |some x=>
   rw[hx]at a;simp only[Option.map_some,wC]at a;subst a;have f:=DQ hx
   have hc:∀i v,(jk x.1 x.2.1 x.2.2)[i]?=ab v->w.cell? ⟨g,0+j*5+i,af⟩=ab v:=λi v hv=>by obtain⟨h,bD,b9⟩:=b.cell (f i v hv);grind
   exact⟨_,_,⟨hc 0 _ aa,hc 1 _ aa,hc 2 _ aa,hc 3 _ aa,hc 4 _ aa⟩,d x (cM hx)⟩
def DK m A c:∀u∈jk m A c,u.oneCell'=true:=by intro u a;simp only[jk,List.mem_cons,gb,or_false]at a;rcases a with rfl|rfl|rfl|rfl|rfl<;>rfl
def Bg(w:World)(l:List (bI×Option Addr×Nat)):Prop:=∀x∈l,∀W,ao w W->qf W x.1 x.2.1 x.2.2
theorem Bg.nil w:Bg w []:=λ_ h=>(gb h).elim
def Bg.snoc{w l m A c}(h:Bg w l)(a:∀W,ao w W->qf W m A c):Bg w (l++[(m,A,c)]):=λx hx=>by
 rcases List.mem_append.1 hx with hx|hx;·exact h x hx
 .grind
def aeu(o n)(g h)A c ms w(z:cD w A ms)(L:ms.length<=20)(pQ:∀m∈ms,m.data.length<=140737488355328):
 aD ax 166 #[dD o n g h (ad A ms.length c)] w λe w'=>∃P Z t,e=aA (dD o n g h (ad P (oG ms).length Z))/\b5 w w' t/\hE t P Z (oG ms):=by
 have cw:=hid z;have U:=hid L;have sm:=hid pQ;have X:=hid (λW g=>sorted_at A c ms W (z.aI g) L);have E:∀fS da G,xZ ax 278 #[ay (ab ⟨fS,0,af⟩),ay (ab ⟨da,0,af⟩)] (λx:Nat×Int×Int=>#[J R (x.1:Int),gJ x.2]) w (λ_=>False) (bQ [ah fS #[ad (ab ⟨G,0,af⟩) ms.length ms.length] 82,ah da #[ad A ms.length c] 24,ah G (er (lX ms)) 3]) (λ_=>True) (hR ms):=λfS da G=>aev fS da G A c ms w _ (λW g=>z.aI g) L;have S:=hid (aea ms);clear z pQ;refine Bq func166 aa ?_;simp only[ntmps166,iR,jT,l2,qc,qd,qs,qq,na,py];have a:=bg w;go_upto_region 0 with fail;refine ar ?_;refine bO a (av (a6 o n g h (ad A ms.length c))) (λv w1 a=>?_);refine bA a (a6 0 0 dY.zero dY.zero (ad af 0 0)) (λcz aS a=>?_);refine ak ?_;go_upto_region 1 with fail;refine ar ?_;refine bA a #[ad af 0 0] (λq bN a=>?_);refine ak ?_;replace a:=a.new (bp af 0 0 73 5 []) ⟨aq.refl _ _,Row.nil _ _ _ _,λb ⟨_,_,e⟩=>aG⟩;go_upto_region 2 with fail;refine ar ?_;refine ag ?_;refine pl a 3 66 ?_ (hv:=eT);refine a7 (X.out _ a.only) ?_;rintro e cc ⟨fS,da,rfl,G,K⟩;replace a:=a.new _ K;refine bb ?_;refine ak ?_;go_wp2_with fail;have Y:ai _ _ _ [bQ [ah fS #[ad (ab ⟨G,0,af⟩) ms.length ms.length] 82,ah da #[ad A ms.length c] 24,ah G (er (lX ms)) 3],bQ [ah v (a6 o n g h (ad A ms.length c)) 26,ah q #[ad af 0 0] 24,bp af 0 0 73 5 []],bQ [ah cz (a6 0 0 dY.zero dY.zero (ad af 0 0)) 26]]:=ai.DI (a.pick [0,4,2,1,3]);refine IT (encs:=(λx:Nat×Int×Int=>#[J R (x.1:Int),gJ x.2])) aa (enters_of U6 aT aa) (λ_=>aa) (E _ _ _) (λpre t=>∃f c1 l,Hid (l.map (·.1)=r3 ms pre)/\Hid (Bg w l)/\t=bQ [ah v _ 26,ah q #[ad f (r3 ms pre).length c1] 24,bp f ((r3 ms pre).length) c1 73 5 (cA l)]) (λ_ _ _=>False) (⟨af,0,[],hid aa,hid (Bg.nil w),aa⟩) Y ?_ ?_ ?_;all_goals clear Y a
 .rintro l rd pre x W t F e5 pY ⟨f,c1,B,y,H,rfl⟩ a;replace a:=a.lE;repeat((fail_if_success (with_reducible refine at_region ?_));gi_step)
  refine ke ?_;refine ag ?_;refine ak ?_;first|refine wpIn_skip ?_|skip
  simp only[Exit.then];refine Bk a 3 pY (λcG a=>?_);replace a:ai _ _ _ [ah v (a6 o n g h (ad A ms.length c)) 26,ah q #[ad f (r3 ms pre).length c1] 24,bp f ((r3 ms pre).length) c1 73 5 (cA B),obj l (fT {rd with state:=si}),F]:=a;have hx1:x.1<ms.length:=aeA (e5.subset aU);obtain⟨m,r⟩:∃m,ms[x.1]?=ab m:=⟨_,cm hx1⟩;obtain⟨I,N,j,p,bx,dN,cU⟩:=cD.ia cw.out r;have b7:=hid bx;have gT:=hid dN;have T:=hid cU;have V:=hid (aeb (l:=pre) r);have hM:(r3 ms pre).length<=20:=eD (at3 ms pre) (eD aG (eD (Xi (aez ms)) U.out));obtain⟨s,M⟩:=ex ((r3 ms pre).length);rw[M]at hM a;have dq:=hid M;obtain⟨O,Ey⟩:=ex x.1;rw[Ey]at hx1 T⊢;clear bx dN cU r e5 M Ey S E;repeat((fail_if_success (with_reducible refine at_region ?_));gi_step)
  refine T6 a [6,7,8] (λi u=>match i with|6=>ad (ab ⟨u.b,0,af⟩) 1 1|7=>ad u.A (s+1) u.c|_=>aZ) (λd=>λ|6=>ah ((d 6).b) #[J R m.k,J R m.to,J R m.fr,J R m.n,ad j m.data.length p] 73|7=>bp ((d 7).A) (s+1) ((d 7).c) 73 5 ((cA B)++(jk m j p))|8=>ah q #[ad (d 7).A (s+1) (d 7).c] 24|_=>emp) (λ|7=>[2]|8=>[1]|_=>[]) (λ|0=>[1]|2=>[0]|7=>[11]|_=>[]) (λ|6=>[6]|7=>[7]|8=>[7]|_=>[]) [0,3,4,11,12,13] (λd=>?_);refine dl 0 0 ?_;refine aL ?_;refine dl 0 66 ?_ (hv:=eT);refine aL ?_;refine aM (ay (ab ⟨I,(N+O*5),af⟩)) (λ_ _ _=>cI 24 73 5 (bc 12) (bc 13) aa eB aT I N _ c O _ (by show ad A _ _=_;rw[b7.out]) aa hx1 aa) ?_;refine aM (av #[J R m.k,J R m.to,J R m.fr,J R m.n,ad j m.data.length p]) (λ_ _ a=>e7 73 (bc 14) aa I (N+O*5) aa ([J R m.k,J R m.to,J R m.fr,J R m.n,ad j m.data.length p]:List Value) (T.out _ a.only) fX aa aT) ?_;refine lM _ 73 ?_;refine tN (m:=1) 56 (λ_ _ a=>aX.cellsOf (m:=1) (a.a1 1) aa) (DK m j p) ?_ (hby:=by omega);refine fZ _ ?_;refine bS λc6 a=>?_;generalize (d 6).b=CQ at a⊢;generalize (d 7).A=Q at a⊢;generalize (d 7).c=Bp at a⊢;repeat gi_step
  have C:=a.pk [0,5,4,1,2];replace C:ai _ _ _ [bQ [ah v (a6 o n g h (ad A ms.length c)) 26,ah q #[ad Q (s+1) Bp] 24,bp Q (s+1) Bp 73 5 ((cA B)++(jk m j p))],obj l (fT {rd with state:=si}),F]:=C.fC 3;refine⟨_,?_,C⟩;exact⟨_,_,_,hid (by rw[List.map_append,y.out,V.out];rfl),hid (H.out.snoc gT.out),by rw[V.out,List.length_append,dq.out,Bu,DR];rfl⟩
 .rintro D t u W ⟨f,c1,B,y,H,rfl⟩ hu a;replace a:=a.lE;replace a:=(a.pk [5,0,1,2,3,4]).lE;rw[S.out]at a y;clear E X;go_upto_region 5 with fail;refine ar ?_;refine bt a 1 (a6 o n g h (ad A ms.length c)) ?_ (hv:=(ef _)) (hk:=by omega) (hz:=(by rw[cN];rfl));refine pl a 2 0 ?_;refine a7 (IQ o n g h _ f c1 (oG ms) _ aa (ael (a.atR 3) y.out aa (λx hx=>H.out x hx _ a.only)) (eD (TQ ms) (eD U.out bj)) (λm r=>sm.out m (Fg r))) ?_;rintro e dX ⟨aK,c2,bG,rfl,K,j4⟩;replace a:=a.new _ K;refine bb ?_;refine ba a 1 (av (a6 o n g h (ad aK (oG ms).length c2))) (λdH a=>?_) (hk:=by show 0+jD (a6 _ _ _ _ _)<=_;simp only[cN];decide) (hz:=by show _=ab (jD (a6 _ _ _ _ _));rw[cN];rfl) (h1:=(vg aa)) (hc:=vD);refine ak ?_;go_wp2_with fail;refine yF a 6 (λw' a=>⟨je aa _ _ _ _ _ _ _ aa (a.a1 1) Tryz.underlying26 aa (by rw[cN];rfl),_,_,bG,aa,a.fresh 0,j4⟩)
 .simp
def ako(g b)(n0 b1 d c f q)cF w(h1:f+q<=n0)(j:n0<=b1)(k:((f+q:Nat):Int)<=4611686018427387903):
 aD ax 87 #[ad g n0 b1,av #[J R 1,J R cF,J R (f:Int),J R (q:Int),ad b d c]] w λe w'=>e=aA (ad (fF g b1 f 1) q (b1 -f))/\ao w w':=by
 go_enter agP,ahu;have a:=bg w;go_upto_region 0 with fail;refine ar ?_;refine bO a (av #[J R 1,J R cF,J R (f:Int),J R (q:Int),ad b d c]) (λh w1 a=>?_);refine dR ?_;refine bt a 0 #[J R 1,J R cF,J R (f:Int),J R (q:Int),ad b d c] ?_;refine bC (yP cF (f:Int) (q:Int) b d c _) a (λl a=>?_);refine v3 ?_;refine bA a #[J R 0,J R 0] (λi m a=>?_);refine ba a 0 (av #[J R (f:Int),J R (q:Int)]) (λn a=>?_);refine ag ?_;refine aF ?_;refine ku ?_;refine pl a 0 0 ?_;refine ag ?_;refine pl a 0 0 ?_;refine ag ?_;refine pl a 0 1 ?_;refine pad _ _ ((f+q:Nat):Int) ?_;refine aJ _ (IA 22 5 1 _ _ _ aa Tryz.underlying22 aw g n0 b1 f (f+q) q aa aa aa ae ae) ?_;refine bR ?_;go_wp2_with fail;go_ret;exact⟨aa,a.only⟩
def akp(f b)(n0 b1 d c)(k cF fr n)(hk:k≠1)w:
 aD ax 87 #[ad f n0 b1,av #[J R k,J R cF,J R fr,J R n,ad b d c]] w λe w'=>e=aA (ad b d c)/\ao w w':=by
 go_enter agP,ahu;have a:=bg w;go_upto_region 0 with fail;refine ar ?_;refine bO a (av #[J R k,J R cF,J R fr,J R n,ad b d c]) (λg w1 a=>?_);refine dR ?_;refine bt a 0 #[J R k,J R cF,J R fr,J R n,ad b d c] ?_;refine bC (yQ k cF fr n b d c _ hk) a (λi a=>?_);refine v3 ?_;refine bA a #[J R 0,J R 0] (λh j a=>?_);refine ba a 0 (av #[J R 0,J R 0]) (λl a=>?_);refine ag ?_;refine Uj ?_;refine pl a 1 4 ?_;refine bR ?_;go_wp2_with fail;go_ret;exact⟨aa,a.only⟩
def fO(old:List Int)(m:bI):List Int:=if m.k=1 then(old.drop m.fr.toNat).take m.n.toNat else m.data
def hY.copy{m}(h:hY m)(hk:m.k=1):0<=m.fr/\0<m.n/\m.fr+m.n<=4611686018427387903/\m.data=[]:=by
 rcases h with⟨_,_,a,b,c⟩|⟨h1,_⟩;·obtain⟨d,e,f⟩:=a;grind
 .omega
def hY.lit{m}(h:hY m)(hk:m.k≠1):m.k=2/\m.fr=0/\m.n=0/\0<m.data.length:=by
 rcases h with⟨h1,_⟩|⟨h1,_,a,b,c⟩;·omega
 .omega
def GH{o n old m}(h:jc o n m)(c:old.length=o):((fO old m).length:Int)=cS m:=by
 unfold fO cS;by_cases hk:m.k=1;·obtain⟨h1,a,_⟩:=h.1.copy hk;have b:=h.2.1 hk;grind
 .grind
def XV(o n b1)(a c)d old m w(h:jc o n m)(x:old.length=o)(hc0:o<=b1)(v:m.data.length<=d):
 aD ax 87 #[ad a old.length b1,mz m c d] w λe w'=>∃g j,e=aA (ad g (fO old m).length j)/\(∀W,bT W a old->bT W c m.data->bT W g (fO old m))/\(fO old m).length<=j/\(∀b,dV g b->dV a b\/dV c b)/\ao w w':=by
 subst x;have hlen:=GH h aa;obtain⟨k,cF,fr,q,ds⟩:=m;by_cases hk:k=1;·subst hk;obtain⟨h1,l,p,r⟩:=h.1.copy aa;have s:=h.2.1 aa;simp only at h1 l p r s;obtain⟨f,rfl⟩:=tA h1;obtain⟨q,rfl⟩:=tA (Int.le_of_lt l);have hb:fO old ⟨1,cF,(f:Int),(q:Int),ds⟩=(old.drop f).take q:=aT;rw[hb]at hlen⊢;have u:((old.drop f).take q).length=q:=aG;rw[u];refine(ako a c old.length b1 ds.length d f q cF w ae hc0 ae).mono λe w' h=>⟨_,_,h.1,λW hold _=>?_,ae,λb hb=>.inl (SB hb),h.2⟩;have:=hold.win (i:=f) (q:=f+q) hc0 ae;rwa [show f+q -f=q by omega]at this
 .have hb:fO old ⟨k,cF,fr,q,ds⟩=ds:=by grind[fO]
  rw[hb];exact(akp a c _ b1 _ d k cF fr q hk w).mono λe w' h=>⟨_,_,h.1,λW _ t=>t,v,λb hb=>.inr hb,h.2⟩
def ae2(o n)(g1 g2)A c ms w(b:cD w A ms)(hv:nC o n ms):
 aD ax 32 #[dD (o:Int) (n:Int) g1 g2 (ad A ms.length c)] w λe w'=>e=aA (aj true)/\ao w w':=by
 have d:=hid (λW g=>QV o n g1 g2 A c ms W (b.aI g) hv);clear b hv;go_enter func32,ntmps32;have a:=bg w;go_upto_region 0 with fail;refine ar ?_;refine bO a (av (a6 (o:Int) (n:Int) g1 g2 (ad A ms.length c))) (λf w1 a=>?_);refine dR ?_;refine bt a 0 (a6 (o:Int) (n:Int) g1 g2 (ad A ms.length c)) ?_ (hv:=(ef _)) (hk:=by omega) (hz:=(by rw[cN];rfl));refine bC (d.out _ a.only) a (λh a=>?_);refine ag ?_;refine pk (aj true) ?_;refine bR ?_;go_wp2_with fail;go_ret;exact⟨aa,a.only⟩
end Go.Proofs.YtcmhplknoglbkaaGreat
