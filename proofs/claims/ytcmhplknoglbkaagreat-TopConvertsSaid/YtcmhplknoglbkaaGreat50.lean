/- Part 50 of the proof of TopConvertsSaid. -/
import Derived.Test.YtcmhplknoglbkaaGreat0
import Derived.Test.YtcmhplknoglbkaaGreat6
import Derived.Test.YtcmhplknoglbkaaGreat40
import Derived.Test.YtcmhplknoglbkaaGreat46
import Derived.Test.YtcmhplknoglbkaaGreat47
import Derived.Test.YtcmhplknoglbkaaGreat49
set_option linter.all false
set_option maxRecDepth 100000
set_option maxHeartbeats 4000000
open Go.Proofs.Tryz
open Array renaming size->jD
open Bool renaming and_eq_true->vO,false->au,true->aB
open Go renaming Calls->aD,undef->aZ,wpList_nil->ak,wp_region_lit->ar
open Go.Ending renaming returned->aA
open Go.IntKind renaming i64->R
open Go.Operand renaming tmp->bc
open Go.Proofs.Tryz renaming func6->FH,func83->agN,func85->agO,ntmps6->OA,ntmps83->ahs,ntmps85->aht,prog->ax,underlying22->dJ,underlying24->eB,underlying5->lj,underlying73->fX,underlying9->y7
open Go.Proofs renaming intOf->cg
open Go.RowKit renaming Hid->aE
open Go.Value renaming agg->av,bool->aj,int->J,pointer->ay,slice->ad,string->OQ,tuple->bh
open List renaming append_assoc->j5,append_nil->j6,getElem?_eq_getElem->cm,length_append->dw,mem_of_getElem?->cM,range->dG,range_succ->pB,take_length->il
open Nat renaming mul_le_mul->Kc,succ_mul->u',zero_le->cQ
open Option renaming none->af,some->ab
open UInt8 renaming ofNat->ajt
namespace Go.Proofs.YtcmhplknoglbkaaGreat
section
open Go.RowKit Go.MapKept
attribute [local irreducible] wpList c9
def MI(m y:bI):Int:=if m.k=1 then(kM (src m) (b' y)).2 else 0
def sI(ms:List bI)(i j:Nat):Bool:=match ms[i]?,ms[j]? with
 |some m,ab y=>decide (i≠j)&&(decide (m.k=1)&&meets (src m) (b' y))
 |_,_=>au
def qR(ms:List bI)(i j:Nat):List (Int×Int):=((dG j).filter (sI ms i)).map (λj:Nat=>((i:Int),(j:Int)))
def mi(ms:List bI)(i:Nat):List (Int×Int):=(dG i).flatMap (λi=>qR ms i ms.length)
def adC ms i:mi ms (i+1)=mi ms i++qR ms i ms.length:=by simp[mi,pB]
def adQ{ms i j}(h:sI ms i j=aB):qR ms i (j+1)=qR ms i j++[((i:Int),(j:Int))]:=by grind[qR,pB]
def MM{ms i j}(h:sI ms i j=au):qR ms i (j+1)=qR ms i j:=by grind[qR,pB]
def ato ms(i j):(qR ms i j).length<=j:=by grind[qR]
def adB ms:∀i,(mi ms i).length<=i*ms.length
 |0=>by simp[mi]
 |i+1=>by rw[adC,dw,u'];have h1:=adB ms i;have a:=ato ms i ms.length;omega
def ats(m y)(d f)(g h)w(r:m.k=1->eE (src m))(s:eE (b' y)):
 aD ax 83 #[mz m d g,mz y f h] w λe w'=>e=aA (J R (MI m y))/\ao w w':=by
 unfold MI;by_cases hk:m.k=1;·rw[if_pos hk];obtain⟨fb,l,p⟩:∃a b,kM (src m) (b' y)=(a,b):=⟨_,_,aa⟩;have t:aE (∀W,aD _ _ _ W λe w'=>e=aA (av #[J _ fb,J _ l])/\ao W w'):=hid (λW=>by have q:=adP _ _ _ _ W (r hk) s;rw[show kM (m.fr,m.n) (y.to,cS y)=(fb,l)from p]at q;exact q);rw[p];simp only;have A:=hid (λW=>adS m d g W);have u:=hid (λW=>Fb y f h W);obtain⟨fc,v⟩:=ex (cS y);rw[v]at t u;have o:=hid hk;clear r s p hk v;go_enter agN,ahs;have c:=bg w;go_upto_region 0 with fail;refine ar ?_;refine bO (cs:=#[J _ _,J _ _,J _ _,J _ _,ad d _ g]) c _ (λx w1 c=>?_);refine bO (cs:=#[J _ _,J _ _,J _ _,J _ _,ad f _ h]) c _ (λz C c=>?_);refine cK ?_;refine pl c 1 0 ?_;refine dt o (aj au) ?_;refine dh ?_;refine bP c [1,3,4] (λi _=>match i with|1=>av #[J R m.fr,J R m.n]|3=>av #[J R y.to,J R fc]|4=>av #[J R fb,J R l]|_=>aZ) (λ_ _=>emp) (λ_=>[]) (λ|0=>[1]|2=>[0]|_=>[]) (λ_=>[]) [0,1,3,5,6] (λB=>?_);refine eb 0 #[J R m.k,J R m.to,J R m.fr,J R m.n,ad d m.data.length g] ?_;refine dE (λj _ _=>A j) ?_;refine eb 0 #[J R y.k,J R y.to,J R y.fr,J R y.n,ad f y.data.length h] ?_;refine dE (λj _ _=>u j) ?_;refine dE (λj _ _=>t j) ?_;refine gC (J R l) ?_;refine aL ?_;refine bS λD c=>?_;replace c:=c.drop 2;replace c:=c.drop 2;replace c:=c.drop 2;go_wp2_with fail;go_ret;exact⟨aa,c.only⟩
 .rw[if_neg hk];have o:=hid hk;clear hk r s;go_enter agN,ahs;have c:=bg w;go_upto_region 0 with fail;refine ar ?_;refine bO (cs:=#[J _ _,J _ _,J _ _,J _ _,ad d _ g]) c _ (λx E c=>?_);refine bO (cs:=#[J _ _,J _ _,J _ _,J _ _,ad f _ h]) c _ (λz F c=>?_);refine cK ?_;refine pl c 1 0 ?_;refine dt o (aj aB) ?_;refine aF ?_;refine ag ?_;refine ak ?_;go_wp2_with fail;go_ret;exact⟨aa,c.only⟩
def atf A c ms w(hl:cD w A ms)(eg:ms.length<=1000)(hv:∀m∈ms,hY m/\(m.k=1->eE (src m))):
 aD ax 31 #[ad A ms.length c] w λe w'=>∃b,e=aA (ay (ab ⟨b,0,af⟩))/\∃K U,b5 w w' (bQ [ah b #[J R (ms.length:Int),ad K (mi ms ms.length).length U] 169,bp K (mi ms ms.length).length U 174 2 (im (mi ms ms.length))]):=by
 have P:=hid hl;have T:=hid hv;clear hl hv;go_enter func31,ntmps31;have a:=bg w;go_upto_region 0 with fail;refine ar ?_;refine ku ?_;refine pk (av #[J R (ms.length:Int),ad af 0 0]) ?_;refine bO (cs:=#[J _ _,ad _ 0 0]) a _ (λo w1 a=>?_);refine bR ?_;replace a:=a.new (bp af 0 0 174 2 []) ⟨aq.refl _ _,Row.nil _ _ _ _,λb ⟨_,_,e⟩=>aG⟩;refine aF ?_;refine ag ?_;refine ak ?_;have f:=a.pk [1,0];go_wp2_with fail;go_loopw [4] (λG wr=>∃(i q:Nat) (aK:Option Addr) (c2:Nat),i<=ms.length/\aE ((mi ms i).length=q)/\q<=i*ms.length/\G=J R (i:Int)/\ai w (λ_=>False) wr [ah o #[J R (ms.length:Int),ad aK q c2] 169,bp aK q c2 174 2 (im (mi ms i))]) (λG wr=>ms.length -(cg G).toNat);case atStart=>exact⟨0,0,_,0,cQ _,hid aa,cQ _,aa,f⟩
 case round=>
  clear a f;obtain⟨i,q,aK,c2,hi,Q,aaX,rfl,a⟩:=hrel;by_cases hlt:i<ms.length
  .have cJ:(i:Int)<(ms.length:Int):=ae;have B8:(i+1)*ms.length<=1000*1000:=Kc ae eg;rw[u']at B8;obtain⟨m,E⟩:∃m,ms[i]?=ab m:=⟨_,cm hlt⟩;obtain⟨r,bM,aQ,aR,V,Y,Z⟩:=cD.ia P E;have L:=hid V;have gT:=hid Y;have N:=hid Z;have x:=hid E;clear V Y Z E;go_upto_region 3 with fail;refine ar ?_;refine v3 ?_;refine cd (aj aB) ?_;refine aF ?_;refine ag ?_;refine ak ?_;have f:=a;rw[show mi ms i=mi ms i++qR ms i 0 from(j6 _).symm]at f;go_wp2_with fail;go_loopw [5] (λH wr=>∃(j s:Nat) (aK:Option Addr) (c2:Nat),j<=ms.length/\aE ((mi ms i++qR ms i j).length=s)/\s<=q+j/\H=J R (j:Int)/\ai w (λ_=>False) wr [ah o #[J R (ms.length:Int),ad aK s c2] 169,bp aK s c2 174 2 (im (mi ms i++qR ms i j))]) (λH wr=>ms.length -(cg H).toNat);case atStart=>exact⟨0,q,aK,c2,cQ _,hid (by rw[show qR ms i 0=[]from aa,j6];exact Q),Nat.le_refl _,aa,f⟩
   case round=>
    clear a f;obtain⟨j,s,aK,c2,hj,l,Sl,rfl,a⟩:=hrel;by_cases D:j<ms.length
    .have RX:(j:Int)<(ms.length:Int):=ae;obtain⟨y,F⟩:∃y,ms[j]?=ab y:=⟨_,cm D⟩;obtain⟨t,o5,xv,l7,X,_,sO⟩:=cD.ia P.out F;have M:=hid X;have O:=hid sO;have C:=hid F;clear F X sO;go_upto_region 6 with fail;refine ar ?_;refine v3 ?_;refine cd (aj aB) ?_;refine ak ?_;by_cases n:i=j
     .have d:aE (sI ms i j=au):=hid (by unfold sI;rw[x,C];simp[n]);have p:aE (((i:Int)!=(j:Int))=au):=hid (by subst n;simp);clear n;refine dh ?_;refine bP a [] (λ_ _=>aZ) (λ_ _=>emp) (λ_=>[]) (λ_=>[]) (λ_=>[]) [0,1] (λus=>?_);refine br ?_;refine aM (aj au) (λ_ _ _=>by(have h:=p.out;go_simp;try simp[h])) ?_;refine aL ?_;iterate 10 refine ds ?_
      refine aL ?_;refine bS λaS a=>?_;refine b6 ?_;refine pad (j:Int) 1 ((j+1:Nat):Int) ?_;refine bR ?_;go_wp2_with fail;go_roundw;case rel=>exact⟨j+1,s,aK,c2,ae,hid (by rw[MM d];exact l),ae,aa,by rw[MM d];exact a.pick [0,1]⟩
      case measure=>simp[cg]<;>omega
     .have p:aE (((i:Int)!=(j:Int))=aB):=hid (bne_iff_ne.2 ae);have jq:=T m (cM x);have HY:=T y (cM C);obtain⟨z,hz⟩:=ex (MI m y);have S:aE (∀W,aD _ 83 #[av _,av _] W λe w'=>e=aA (J _ z)/\ao W w'):=hid (λW=>by rw[<-hz];exact ats m y aQ xv aR l7 W jq.2 HY.1.CF)
      have v:sI ms i j=decide (z>0):=by
       unfold sI;rw[x,C,<-hz];unfold MI;by_cases hk:m.k=1
       .rw[if_pos hk];simp only[n,hk,ne_eq,not_false_eq_true,decide_true,Bool.true_and];cases mG:meets (src m) (b' y)with
        |true=>exact(decide_eq_true (Tg.2 mG)).symm
        |false=>exact(decide_eq_false (λh=>by rw[Tg.1 h]at mG;cases mG)).symm
       .rw[if_neg hk];simp[hk]
      clear hz jq HY n;by_cases g:z>0
      .have d:aE (sI ms i j=aB):=hid (by rw[v];exact decide_eq_true g);have B:=hid g;clear g v;refine dh ?_;refine bP a [12] (λi _=>match i with|12=>J R z|_=>aZ) (λ_ _=>emp) (λ_=>[]) (λ_=>[]) (λ_=>[]) [0,1,14] (λus=>?_);refine br ?_;refine aM (aj aB) (λ_ _ _=>by(have h:=p.out;go_simp;try simp[h])) ?_;refine c7 ?_;refine aM _ (λ_ _ _=>cI 24 73 5 _ _ aa eB aw r bM _ c i _ (by show ad A _ _=_;rw[L]) aa hlt aa) ?_;refine aM _ (λ_ _ a=>by(refine e7 73 _ aa r _ aa _ (N _ a.only) fX aa aw)) ?_;refine br ?_;refine aM _ (λ_ _ _=>cI 24 73 5 _ _ aa eB aw t o5 _ c j _ (by show ad A _ _=_;rw[M]) aa D aa) ?_;refine aM _ (λ_ _ a=>e7 73 (bc 32) aa t (o5+j*5) aa _ (O.out _ a.only) fX aa aw) ?_;refine dE (λI _ _=>S I) ?_;refine aM (aj aB) (λ_ _ _=>by(have h:=B.out;go_simp;try omega)) ?_;refine aL ?_;refine bS λbN a=>?_;replace a:=a.drop 2;refine oJ ?_;refine pl a 0 1 ?_;refine v3 ?_;refine ga a #[J R (i:Int),J R (j:Int)] 174 (λFy cc a=>?_);refine np (m:=1) a 2 16 (aX.cellsOf (m:=1) (a.a1 0) aa) (by intro u hu;simp at hu;rcases hu with rfl|rfl<;>rfl) (λafo akt cG a=>?_) (hby:=by omega);refine v2 ?_;refine ba a 1 (ad _ _ _) (λc6 a=>?_);refine b6 ?_;refine pad (j:Int) 1 ((j+1:Nat):Int) ?_;refine bR ?_;go_wp2_with fail;go_roundw;case rel=>exact⟨j+1,s+1,_,_,ae,hid (by rw[adQ d,<-j5,dw,l];rfl),ae,aa,by rw[adQ d.out,<-j5,QC];exact a.pick [1,2]⟩
       case measure=>simp[cg]<;>omega
      .have d:aE (sI ms i j=au):=hid (by rw[v];exact decide_eq_false g);have B:=hid g;clear g v;refine dh ?_;refine bP a [12] (λi _=>match i with|12=>J R z|_=>aZ) (λ_ _=>emp) (λ_=>[]) (λ_=>[]) (λ_=>[]) [0,1,14] (λus=>?_);refine br ?_;refine aM (aj aB) (λ_ _ _=>by(have h:=p.out;go_simp;try simp[h])) ?_;refine c7 ?_;refine aM _ (λ_ _ _=>cI 24 73 5 _ _ aa eB aw r bM _ c i _ (by show ad A _ _=_;rw[L]) aa hlt aa) ?_;refine aM _ (λ_ _ a=>by(refine e7 73 _ aa r _ aa _ (N _ a.only) fX aa aw)) ?_;refine br ?_;refine aM _ (λ_ _ _=>cI 24 73 5 _ _ aa eB aw t o5 _ c j _ (by show ad A _ _=_;rw[M]) aa D aa) ?_;refine aM _ (λ_ _ a=>e7 73 (bc 32) aa t (o5+j*5) aa _ (O.out _ a.only) fX aa aw) ?_;refine dE (λI _ _=>S I) ?_;refine aM (aj au) (λ_ _ _=>by(have h:=B.out;go_simp;try omega)) ?_;refine aL ?_;refine bS λdX a=>?_;replace a:=a.drop 2;refine b6 ?_;refine pad (j:Int) 1 ((j+1:Nat):Int) ?_;refine bR ?_;go_wp2_with fail;go_roundw;case rel=>exact⟨j+1,s,aK,c2,ae,hid (by rw[MM d];exact l),ae,aa,by rw[MM d];exact a.pick [0,1]⟩
       case measure=>simp[cg]<;>omega
    .have RX:¬(j:Int)<(ms.length:Int):=ae;obtain rfl:j=ms.length:=ae;rw[<-adC]at a l;go_upto_region 6 with fail;refine ar ?_;refine v3 ?_;refine cd (aj au) ?_;refine b6 ?_;refine pad (i:Int) 1 ((i+1:Nat):Int) ?_;refine bR ?_;go_wp2_with fail;go_roundw;case rel=>exact⟨_,s,aK,c2,ae,l,by rw[u'];omega,aa,a.pick [0,1]⟩
     case measure=>simp[cg]<;>omega
  .have cJ:¬(i:Int)<(ms.length:Int):=ae;obtain rfl:i=ms.length:=ae;go_upto_region 3 with fail;refine ar ?_;refine v3 ?_;refine cd (aj au) ?_;refine aF ?_;refine dQ ?_;go_wp2_with fail;go_ret;exact⟨o,aa,aK,c2,by rw[Q];exact((a.pick (l':=[ah o _ _,bp aK q c2 _ 2 _]) [0,1]).fC 2).fresh 0⟩
end
section
open Go.RowKit Go.MapKept
attribute [local irreducible] wpList c9
def atQ A(c i)off ms w(r:cD w A ms)(I:ms.length<=1048576)(hi:i<=ms.length)(hv:∀m∈ms,eE (b' m))(hno:∀(j) y,j<i->ms[j]?=ab y->hasB y off=au):
 aD ax 174 #[ad A ms.length c,J R (i:Int),J R off] w λe w'=>e=aA (aj au)/\ao w w':=by
 have x:=hid r;have D:=hid hv;have B:=hid hno;clear r hv hno;go_enter func174,ntmps174;have a:=bg w;go_upto_region 0 with fail;refine ar ?_;refine ag ?_;refine aF ?_;refine ag ?_;refine ak ?_;have C:=a;go_wp2_with fail;go_loopw [7] (λf wr=>∃j:Nat,j<=i/\f=J R (j:Int)/\ai w (λ_=>False) wr []) (λf wr=>i -(cg f).toNat);case atStart=>grind
 case round=>
  clear a C;obtain⟨j,H,rfl,a⟩:=hrel;by_cases hlt:j<i
  .have F:(j:Int)<(i:Int):=ae;have q:j<ms.length:=ae;obtain⟨m,d⟩:∃m,ms[j]?=ab m:=⟨_,cm q⟩;obtain⟨b,g,t,E,n,o,p⟩:=cD.ia x d;have u:=hid n;have G:=hid o;have v:=hid p;have k:=hid d;clear n o p d;have s:=D m (cM k);have h:=hid (λW=>ZP _ _ _ W s _ (B j m hlt k));have l:=hid (λW=>Fb m t E W);clear s;obtain⟨z,hz⟩:=ex (cS m);rw[hz]at h l;clear hz;go_upto_region 2 with fail;refine ar ?_;refine v2 ?_;refine cd (aj aB) ?_;refine jb ?_;refine aJ (ay (ab ⟨b,(g+j*5),af⟩)) (cI 24 73 5 (bc 13) (bc 14) aa eB aw b g (ms.length) c j ((g+j*5)) (by show ad A _ _=_;rw[u]) aa q aa) ?_;refine aJ _ (by(refine e7 73 _ aa b _ aa _ (v _ a.only) fX aa aw)) ?_;refine bC (l _) a (λw1 a=>?_);refine ag ?_;refine bC (h _) a (λK a=>?_);refine b6 ?_;refine pad (j:Int) 1 ((j+1:Nat):Int) ?_;refine bR ?_;go_wp2_with fail;go_roundw;case rel=>exact⟨j+1,ae,aa,a⟩
   case measure=>simp[cg]<;>omega
  .have F:¬(j:Int)<(i:Int):=ae;go_upto_region 2 with fail;refine ar ?_;refine v2 ?_;refine cd (aj au) ?_;refine aF ?_;refine ag ?_;refine ak ?_;go_wp2_with fail;go_ret;exact⟨aa,a.only⟩
def asR A(c i)m ms w(p:cD w A ms)(L:ms.length<=1048576)(r:ms[i]?=ab m)(l:i<ms.length)(hv:∀m∈ms,hY m)(hno:m.k=1->∀off,m.fr<=off->off<m.fr+m.n->∀(j) y,j<i->ms[j]?=ab y->hasB y off=au):
 aD ax 85 #[ad A ms.length c,J R (i:Int)] w λe w'=>e=aA (ad af 0 0)/\ao w w':=by
 have P:=hid p;have V:(i:Int)<(ms.length:Int):=ae;have s:=hv m (cM r);have G:=hid (λW off g h=>atQ A c i off ms W (p.aI g) L ae (λm K=>(hv m K).CF) h);have D:=hid hno;obtain⟨f,o,O,Q,v,_,x⟩:=cD.ia p r;have b:=hid v;have d:=hid x;clear p v x hno r hv;by_cases hk:m.k=1
 .obtain⟨S,T,U,_⟩:=s.copy hk;have q:aE ((m.k !=1)=au):=hid aG;have C:=hid hk;clear hk s;go_enter agO,aht;have a:=bg w;go_upto_region 0 with fail;refine ar ?_;refine ag ?_;refine ak ?_;go_upto_region 1 with fail;refine ar ?_;refine ag ?_;refine cd (aj au) ?_;refine v4 ?_;refine cd (aj au) ?_;refine v4 ?_;refine aJ _ (cI 24 73 5 (bc 17) _ aa eB aw f o _ c i _ (by show ad A _ _=_;rw[b]) aa l aa) ?_;refine ag ?_;refine aJ _ (nk aa aa (d _ a.only 0 _ aa) aw) ?_;refine dt q (aj au) ?_;refine ag ?_;refine ak ?_;go_upto_region 3 with fail;refine ar ?_;refine ag ?_;refine ak ?_;go_upto_region 4 with fail;refine ar ?_;refine v2 ?_;refine aJ _ (cI 24 73 5 (bc 24) _ aa eB aw f o _ c i _ (by show ad A _ _=_;rw[b]) aa l aa) ?_;refine ag ?_;refine aJ _ (nk aa aa (d _ a.only 2 _ aa) aw) ?_;refine ag ?_;refine ak ?_;have F:=a;go_wp2_with fail;go_loopw [5,6] (λB u wr=>∃t:Nat,(t:Int)<=m.n/\B=ad af 0 0/\u=J R (m.fr+(t:Int))/\ai w (λ_=>False) wr []) (λB u wr=>(m.n -(cg u -m.fr)).toNat);case atStart=>grind
  case round=>
   clear a F;obtain⟨t,X,rfl,rfl,a⟩:=hrel;obtain⟨off,z⟩:=ex (m.fr+(t:Int));rw[z];by_cases hlt:(t:Int)<m.n
   .have I:off<m.fr+m.n:=ae;have E:=hid z;go_upto_region 5 with fail;refine bP a [] (λ_ _=>aZ) (λ_ _=>emp) (λ_=>[]) (λ_=>[]) (λ_=>[]) [] (λN=>?_);refine c7 ?_;refine aM _ (λ_ _ _=>cI 24 73 5 _ _ aa eB aw f o _ c i _ (by show ad A _ _=_;rw[b]) aa l aa) ?_;refine aL ?_;refine aM _ (λ_ _ a=>nk aa aa (d _ a.only 2 _ aa) aw) ?_;refine br ?_;refine aM _ (λ_ _ _=>cI 24 73 5 _ _ aa eB aw f o _ c i _ (by show ad A _ _=_;rw[b]) aa l aa) ?_;refine aL ?_;refine aM _ (λ_ _ a=>nk aa aa (d _ a.only 3 _ aa) aw) ?_;refine aM _ (λ_ _ _=>lK 3 _ _ 3 aa _ _ (m.fr+m.n) aa aa ae ae ae) ?_;refine aM (aj aB) (λ_ _ _=>by(go_simp;try omega)) ?_;refine bS λw1 a=>?_;go_upto_region 7 with fail;refine ar ?_;refine v3 ?_;refine a7 (G.out _ off a.only (λj y H M=>D.out C.out off ae ae j y H M)) ?_;rintro e Y ⟨rfl,g⟩;replace a:=a.aI g;refine bb ?_;refine pk (aj aB) ?_;refine ak ?_;go_upto_region 6 with fail;refine ar ?_;refine ag ?_;refine pad _ 1 (off+1) ?_;refine ag ?_;refine ak ?_;go_wp2_with fail;go_roundw;case rel=>exact⟨t+1,ae,aa,by rw[<-E];congr 1;omega,a⟩
    case measure=>simp[cg]<;>omega
   .have I:¬off<m.fr+m.n:=ae;go_upto_region 5 with fail;refine bP a [] (λ_ _=>aZ) (λ_ _=>emp) (λ_=>[]) (λ_=>[]) (λ_=>[]) [] (λN=>?_);refine c7 ?_;refine aM _ (λ_ _ _=>cI 24 73 5 _ _ aa eB aw f o _ c i _ (by show ad A _ _=_;rw[b]) aa l aa) ?_;refine aL ?_;refine aM _ (λ_ _ a=>nk aa aa (d _ a.only 2 _ aa) aw) ?_;refine br ?_;refine aM _ (λ_ _ _=>cI 24 73 5 _ _ aa eB aw f o _ c i _ (by show ad A _ _=_;rw[b]) aa l aa) ?_;refine aL ?_;refine aM _ (λ_ _ a=>nk aa aa (d _ a.only 3 _ aa) aw) ?_;refine aM _ (λ_ _ _=>lK 3 _ _ 3 aa _ _ (m.fr+m.n) aa aa ae ae ae) ?_;refine aM (aj au) (λ_ _ _=>by(go_simp;try omega)) ?_;refine bS λZ a=>?_;go_upto_region 12 with fail;refine ar ?_;refine v2 ?_;refine ak ?_;go_wp2_with fail;go_ret;exact⟨aa,a.only⟩
 .have q:=hid (bne_iff_ne.2 hk);clear hk s;go_enter agO,aht;have a:=bg w;go_upto_region 0 with fail;refine ar ?_;refine ag ?_;refine ak ?_;go_upto_region 1 with fail;refine ar ?_;refine ag ?_;refine cd (aj au) ?_;refine v4 ?_;refine cd (aj au) ?_;refine v4 ?_;refine aJ _ (cI 24 73 5 (bc 17) _ aa eB aw f o _ c i _ (by show ad A _ _=_;rw[b]) aa l aa) ?_;refine ag ?_;refine aJ _ (nk aa aa (d _ a.only 0 _ aa) aw) ?_;refine dt q (aj aB) ?_;refine ag ?_;refine ak ?_;go_upto_region 2 with fail;refine ar ?_;refine ag ?_;refine ak ?_;go_wp2_with fail;go_ret;exact⟨aa,a.only⟩
def atr A c ms w(b:cD w A ms)(t:ms.length<=1048576)(hv:∀m∈ms,hY m)(hno:∀(i j:Nat) (m y),j<i->ms[i]?=ab m->ms[j]?=ab y->m.k=1->∀off,m.fr<=off->off<m.fr+m.n->hasB y off=au):
 aD ax 34 #[ad A ms.length c] w λe w'=>e=aA (J R (ms.length:Int))/\ao w w':=by
 have v:=hid b;have o:=hid (λW i m g h=>asR A c i m ms W (b.aI g) t h (List.getElem?_eq_some_iff.1 h).1 hv (λhk off h1 r j y f u=>hno i j m y f h u hk _ h1 r));clear b hv hno;go_enter func34,ntmps34;have a:=bg w;go_upto_region 0 with fail;refine ar ?_;refine ag ?_;refine aF ?_;refine ag ?_;refine ak ?_;have q:=a;go_wp2_with fail;go_loopw [3] (λd wr=>∃j:Nat,j<=ms.length/\d=J R (j:Int)/\ai w (λ_=>False) wr []) (λd wr=>ms.length -(cg d).toNat);case atStart=>grind
 case round=>
  clear a q;obtain⟨j,f,rfl,a⟩:=hrel;by_cases hlt:j<ms.length
  .have s:(j:Int)<(ms.length:Int):=ae;obtain⟨m,l⟩:∃m,ms[j]?=ab m:=⟨_,cm hlt⟩;have p:=hid l;clear l;go_upto_region 2 with fail;refine ar ?_;refine v3 ?_;refine cd (aj aB) ?_;refine jb ?_;refine bC (o.out _ j m a.only p.out) a (λw1 a=>?_);refine ag ?_;refine pk (aj au) ?_;refine b6 ?_;refine pad (j:Int) 1 ((j+1:Nat):Int) ?_;refine bR ?_;go_wp2_with fail;go_roundw;case rel=>exact⟨j+1,ae,aa,a⟩
   case measure=>grind[cg]
  .have s:¬(j:Int)<(ms.length:Int):=ae;go_upto_region 2 with fail;refine ar ?_;refine v3 ?_;refine cd (aj au) ?_;refine aF ?_;refine v3 ?_;refine ak ?_;go_wp2_with fail;go_ret;exact⟨aa,a.only⟩
end
section
open Go.RowKit Go.MapKept
attribute [local irreducible] wpList c9
def yU(l:List Int):List UInt8:=l.map (λx=>ajt x.toNat)
theorem auW{l}(h:jG l):l=(yU l).map (λb=>(b.toNat:Int)):=by
 induction l with
 |nil=>rfl
 |cons x r d=>
  have h1:=h x aU;have a:=d (λy e=>h y aG);have c:((ajt x.toNat).toNat:Int)=x:=by grind[UInt8.toNat_ofNat']
  simp only[yU,List.map_cons,c]at a⊢;rw[<-a]
def aeH{P l}{a:Act}{w x b e d A n c bs}(q:jG bs)(p:bs.length=n)(i:l.op=.convert b d x)(hx:a.eval x=ad A n c)(hb:bT w A bs)(k:P.underlying b=ab (.slice e))(g:P.underlying e=ab (.int .u8))(f:P.underlying d=ab .string):
 (execOp a.eval l).run P w=.ok (.value (OQ ⟨(yU bs).toArray⟩)) w:=by
 have r:(yU bs).length=n:=by grind[yU]
 by_cases s:0<n;·grind[aeG,il,auW]
 .obtain rfl:n=0:=ae;obtain rfl:=List.length_eq_zero_iff.1 p;cases A with
  |none=>
   unfold execOp;simp[i,hx,run_convert_bytes_string w b d e af 0 c k g f,Conv.bytesToString,yU]
   rfl
  |some m=>
   have h:=run_convert_bytes_back (P:=P) w b d e m c [] k g f (λj o=>absurd o aU)
   unfold execOp;simp at h;simp[i,hx,h,yU]
def as3{w b c A n E}(h:(bQ [ah b #[J R n,ad A E.length c] 169,bp A E.length c 174 2 (im E)]).p w):G.lI w (λ_=>True) b n E:=
 G.lI.lW h.1 h.2.1.1 (λ_=>True) trivial (λ_ _=>trivial)
structure Xp (old:List Int) (ms:List bI) (n:Nat) (S:List jQ) (o od:List Int) (rs:List bI) (ou:List Int):Prop where
 p8:nC old.length n ms
 KH:∀i:Nat,i<n->∃m∈ms,hasB m (i:Int)=aB
 app:vI old ms=nQ old ms n
 iF:AI old ms S o od rs
 M7:nC old.length n (fE ms od++rs)
 safe:Ap (fE ms od++rs)=(0,0)
 pre:∀(i j:Nat) (m y:bI),j<i->(fE ms od++rs)[i]?=ab m->(fE ms od++rs)[j]?=ab y->m.k=1->∀off,m.fr<=off->off<m.fr+m.n->hasB y off=au
 ajQ:sZ old n (fE ms od++rs)=nQ old ms n
 auX:lv (fE ms od++rs)=lv ms -nf ms o
 oi:∀x∈o,∃i:Nat,x=(i:Int)/\i<ms.length
 ev:G.Valid ms.length (mi ms ms.length)
 ord:G.mx (mi ms ms.length) ms.length [] ou
 free:decide (G.kp ms.length [] ou=[])=decide (o.length=0)
 bytes:jG (nQ old ms n)
def Yj{o n ms}(h:nC o n ms)(f:o<=1000):∀m∈ms,0<=nG m/\nG m<=1048576:=λm b=>by
 obtain⟨h1,a,_⟩:=h.fits m b;unfold nG;by_cases hk:m.k=1;·obtain⟨c,d,_⟩:=h1.copy hk;have e:=a hk;rw[if_pos hk];omega
 .omega
def aqZ{o n ms}(h:nC o n ms)(f:o<=1000):∀m∈ms,0<=m.n/\m.n<=1048576:=λm c=>by
 obtain⟨h1,a,_⟩:=h.fits m c;by_cases hk:m.k=1;·obtain⟨b,d,_⟩:=h1.copy hk;have e:=a hk;omega
 .have b:=(h1.lit hk).2.2.1;omega
def auV p2 (r A) (b1 c) (o n) (g1 g2) old ms w (s:w.cell? ⟨0,0,af⟩=ab (J R p2)) (hold:bT w r old) (F:nB w r) (hc0:old.length<=b1) (v:cD w A ms) (H:∀m∈ms,rY m) (Z:jG old)
 (eN:∀uq:Nat,old.length<=300->ms.length<=20->rK ms=aB->uq<=1000->og o (uq:Int) ms->o=(old.length:Int)->∃S ev od rs ou,Xp old ms uq S ev od rs ou):
 aD ax 6 #[ad r old.length b1,dD o n g1 g2 (ad A ms.length c)] w λe w'=>e=aA (aj aB)/\ao w w':=by
 obtain⟨b,hb⟩:∃b:Bool,b=aB↔og o n ms:=by
  by_cases h:og o n ms;·exact⟨aB,aG⟩
  .exact⟨au,aG⟩
 have U:aE (∀W,ao w W->aD ax 9 #[] W λe w'=>e=aA (aj aB)/\ao W w'):=hid (λW g=>atO p2 W (g.cell s (λh=>h)));clear s;by_cases Y:300<old.length
 .clear hold F hc0 v H Z eN hb;have hz:(300:Int)<(old.length:Int):=ae;have E:=hid hz;clear hz Y;go_enter FH,OA;have a:=bg w;go_upto_region 0 with fail;refine ar ?_;refine bO a (av (a6 o n g1 g2 (ad A ms.length c))) (λb8 w1 a=>?_);refine ku ?_;refine aJ (aj aB) (by(have h:=E.out;go_simp;try omega)) ?_;refine ag ?_;iterate 3 refine ps ?_
  refine v2 ?_;iterate 4 refine ps ?_
  refine dR ?_;refine bC (U.out _ a.only) a (λaS a=>?_);refine bR ?_;go_wp2_with fail;go_ret;exact⟨aa,a.only⟩
 .have hz:¬(300:Int)<(old.length:Int):=ae;have E:=hid hz;clear hz;obtain⟨s1,hs1⟩:=ex ((decide (ms.length<=20)&&(rK ms&&decide (n<=1000)&&b)));have V:aE (∀W,ao w W->aD ax 24 #[dD o n g1 g2 (ad A ms.length c)] W λe w'=>e=aA (aj s1)/\ao W w'):=hid (λW g=>by rw[<-hs1];exact atu o n g1 g2 A c ms W (v.aI g) H b hb);cases s1 with
  |false=>
   clear hold F hc0 v H Z eN hb Y hs1;go_enter FH,OA;have a:=bg w;go_upto_region 0 with fail;refine ar ?_;refine bO a (av (a6 o n g1 g2 (ad A ms.length c))) (λb8 bN a=>?_);refine ku ?_;refine aJ (aj au) (by(have h:=E.out;go_simp;try omega)) ?_;refine ag ?_;refine bt a 0 (a6 o n g1 g2 (ad A ms.length c)) ?_ (hv:=(ef _)) (hk:=by omega) (hz:=(by rw[cN];rfl));refine bC (V _ a.only) a (λcc a=>?_);refine v3 ?_;iterate 4 refine ps ?_
   refine dR ?_;refine bC (U.out _ a.only) a (λcG a=>?_);refine bR ?_;go_wp2_with fail;go_ret;exact⟨aa,a.only⟩
  |true=>
   simp only[vO,decide_eq_true_eq]at hs1;obtain⟨N,⟨eV,nJ⟩,rfl⟩:=hs1;have Ex:=hb.1 aa;obtain⟨s2,hs2⟩:=ex ((rK ms&&aB&&decide (o=(old.length:Int))&&decide (n<=3000)));have xL:aE (∀W,ao w W->aD ax 25 #[ad r old.length b1,dD o n g1 g2 (ad A ms.length c)] W λe w'=>e=aA (aj s2)/\ao W w'):=hid (λW g=>by rw[<-hs2];exact atd r old.length b1 o n g1 g2 A c ms W (v.aI g) ae H aB hb);cases s2 with
   |false=>
    clear hold F hc0 v H Z eN hb Y N eV nJ Ex hs2;go_enter FH,OA;have a:=bg w;go_upto_region 0 with fail;refine ar ?_;refine bO a (av (a6 o n g1 g2 (ad A ms.length c))) (λb8 c6 a=>?_);refine ku ?_;refine aJ (aj au) (by(have h:=E.out;go_simp;try omega)) ?_;refine ag ?_;refine bt a 0 (a6 o n g1 g2 (ad A ms.length c)) ?_ (hv:=(ef _)) (hk:=by omega) (hz:=(by rw[cN];rfl));refine bC (V _ a.only) a (λdX a=>?_);refine v4 ?_;refine bt a 0 (a6 o n g1 g2 (ad A ms.length c)) ?_ (hv:=(ef _)) (hk:=by omega) (hz:=(by rw[cN];rfl));refine bC (xL _ a.only) a (λdH a=>?_);refine v2 ?_;refine aF ?_;refine bC (U.out _ a.only) a (λe9 a=>?_);refine bR ?_;go_wp2_with fail;go_ret;exact⟨aa,a.only⟩
   |true=>
    simp only[vO,decide_eq_true_eq]at hs2;obtain⟨⟨_,rfl⟩,_⟩:=hs2;obtain⟨n,rfl⟩:=Int.eq_ofNat_of_zero_le Ex.bd.1.2;obtain⟨S,ev,od,rs,ou,f⟩:=eN n ae N eV ae Ex aa
    have iH:∀m∈ms,m.data.length<=140737488355328:=λm s=>by have h:=List.all_eq_true.1 (Bool.and_eq_true_iff.1 eV).1 m s;have h2:=of_decide_eq_true h;omega
    have yA:∀m∈ms,hY m:=λm s=>(f.p8.fits m s).1;have hno:∀m∈ms,0<=nG m/\nG m<=1048576:=Yj f.p8 ae;have iI:∀m∈fE ms od++rs,0<=nG m/\nG m<=1048576:=Yj f.M7 ae;have R5:∀m∈ms,0<=m.n/\m.n<=1048576:=aqZ f.p8 ae;have hb1:=Yk hno ae ms.length;rw[il]at hb1;have hb3:=Zg f.oi R5 f.iF.iF.DZ ev.length;rw[il]at hb3;have fD:=f.M7.en;have I:=f.auX;obtain⟨M,hgr⟩:=ex (nf ms ev);obtain⟨Q,Sn⟩:=ex (lv ms);have ZO:=XH (od:=od) f.iF.rs ae iH;have LM:∀m∈fE ms od++rs,hY m:=λm s=>(f.M7.fits m s).1;obtain⟨e0,O⟩:=ex (nQ old ms n);have hM:e0.length=n:=by grind[asG]
    have yw:vI old ms=e0:=f.app.trans O;have hby:jG e0:=O▸f.bytes;obtain⟨fr,yo⟩:=ex (decide (ev.length=0));have PG:aE (∀W,ao w W->aD ax 27 #[ad r old.length b1,dD (old.length:Int) (n:Int) g1 g2 (ad A ms.length c)] W λe w'=>∃j k,e=aA (ad j n k)/\b5 W w' (bp j n k 5 1 (e0.map a'))):=hid (λW g=>by rw[<-O];exact asK r A b1 c n (old.length:Int) g1 g2 old ms W (hold.aI g) (v.aI g) ae ae ae yA (λm s=>(f.p8.fits m s).2.1) f.KH);have FZ:aE (∀W K c1,ao w W->bT W K e0->nB W K->aD ax 26 #[ad r old.length b1,ad K n c1,ad A ms.length c] W λe w'=>∃j k t,e=aA (dD (old.length:Int) (n:Int) (iV old) (iV e0) (ad j ms.length k))/\b5 W w' t/\hE t j k ms):=hid (λW K c1 g h1 h2=>by rw[<-hM];exact Yx b1 c1 r K A c old e0 ms W ae ae (hold.aI g) (F.aI g) h1 h2 (v.aI g) N iH);obtain⟨cs,hcs⟩:=ex (fE ms od++rs);rw[hcs]at iI fD I ZO LM;have LN:=f.M7;have Ev:=f.safe;have Se:=f.pre;have hap:=f.ajQ;rw[hcs]at LN Ev Se hap;have zg:aE (∀W aK c2,ao w W->cD W aK ms->aD ax 28 #[ad r old.length b1,dD (old.length:Int) (n:Int) (iV old) (iV e0) (ad aK ms.length c2)] W λe w'=>∃j k t,e=aA (bh #[dD (old.length:Int) (n:Int) (iV old) (iV e0) (ad j cs.length k),av #[J R 0,J R 0]])/\b5 W w' t/\hE t j k cs):=hid (λW aK c2 g h=>by rw[<-hcs];exact Yd r aK b1 c2 n (iV old) (iV e0) old ms S ev od rs W ae hc0 (hold.aI g) (F.aI g) h f.p8 iH aa (by rw[yw];rfl) aG f.iF)
    have Dm:aE (∀W,ao w W->aD ax 29 #[dD (old.length:Int) (n:Int) g1 g2 (ad A ms.length c)] W λe w'=>e=aA (bh #[J R Q,J R ((n:Int) -Q)])/\ao W w'):=hid (λW g=>by rw[<-Sn];exact aeR (old.length:Int) (n:Int) g1 g2 A c ms W (v.aI g) ae ae hno);obtain⟨cF,yy⟩:=ex (lv cs);have A5:aE (∀W aK c2,cD W aK cs->aD ax 29 #[dD (old.length:Int) (n:Int) (iV old) (iV e0) (ad aK cs.length c2)] W λe w'=>e=aA (bh #[J R cF,J R ((n:Int) -cF)])/\ao W w'):=hid (λW aK c2 h=>by rw[<-yy];exact aeR (old.length:Int) (n:Int) _ _ aK c2 cs W h ae ae iI);obtain⟨P,Si⟩:=ex (mi ms ms.length);have hrel:=adB ms ms.length;have jl:=f.ev;have R':=f.ord;have RI:=f.free;rw[Si]at hrel jl R';rw[yo]at RI;have Sl:ms.length*ms.length<=20*20:=Kc N N;have A0:aE (∀W,ao w W->aD ax 31 #[ad A ms.length c] W λe w'=>∃b,e=aA (ay (ab ⟨b,0,af⟩))/\∃j k,b5 W w' (bQ [ah b #[J R (ms.length:Int),ad j P.length k] 169,bp j P.length k 174 2 (im P)])):=hid (λW g=>by rw[<-Si];exact atf A c ms W (v.aI g) ae (λm s=>⟨yA m s,f.iF.iF.ok.src m s⟩));have aiF:aE (∀W b,G.lI W (λ_=>True) b ms.length P->aD ax 30 #[ay (ab ⟨b,0,af⟩),ad af 0 0] W λe w'=>∃j k q,e=aA (bh #[ad j q k,aj fr])/\ao W w'):=hid (λW b h=>(G.atm b ms.length P (λ_=>True) af 0 [] W h cX.nil bj ae ae jl ou R' fr RI).mono λe w' ⟨j,k,h1,_,h3⟩=>⟨j,k,_,h1,h3⟩);have uY:aE (∀W aK c2,cD W aK cs->aD ax 32 #[dD (old.length:Int) (n:Int) (iV old) (iV e0) (ad aK cs.length c2)] W λe w'=>e=aA (aj aB)/\ao W w'):=hid (λW aK c2 h=>ae2 old.length n _ _ aK c2 cs W h LN);have aiH:aE (∀W aK c2,cD W aK cs->aD ax 33 #[ad aK cs.length c2] W λe w'=>e=aA (av #[J R 0,J R 0])/\ao W w'):=hid (λW aK c2 h=>by have q:=ad3 aK c2 cs W h LM ae;rw[Ev]at q;exact q);have wq:aE (∀W aK c2,cD W aK cs->aD ax 34 #[ad aK cs.length c2] W λe w'=>e=aA (J R (cs.length:Int))/\ao W w'):=hid (λW aK c2 h=>atr aK c2 cs W h ae LM Se);have sl:aE (∀W aK c2,ao w W->cD W aK cs->aD ax 35 #[ad r old.length b1,dD (old.length:Int) (n:Int) (iV old) (iV e0) (ad aK cs.length c2)] W λe w'=>∃B,e=aA (ad (ab ⟨B,0,af⟩) n n)/\b5 W w' (ah B (aY a' e0 []) 5)):=hid (λW aK c2 g h=>by rw[<-O,<-hap];exact ar9 old.length n b1 _ _ r aK c2 old cs W aa hc0 ae (hold.aI g) h LN);have F3:aE (∀W,ao w W->aD ax 36 #[dD (old.length:Int) (n:Int) g1 g2 (ad A ms.length c)] W λe w'=>e=aA (J R M)/\ao W w'):=hid (λW g=>by rw[<-hgr];exact anz (old.length:Int) (n:Int) g1 g2 A c ms S ev od W (v.aI g) f.iF.iF f.oi R5);obtain⟨q,hq⟩:=ex ev.length;have rj:aE (∀W,ao w W->aD ax 37 #[dD (old.length:Int) (n:Int) g1 g2 (ad A ms.length c)] W λe w'=>∃j k,e=aA (ad j q k)/\ao W w'):=hid (λW g=>by rw[<-hq];exact amK (old.length:Int) (n:Int) g1 g2 A c ms S ev od W (v.aI g) f.iF.iF);rw[hgr]at hb3 I;rw[Sn]at hb1 I;rw[yy]at I;rw[hq]at yo;have uT:aE (((q:Int)==0)=fr):=hid (by rw[<-yo];by_cases h:q=0<;>simp[h]);have ah5:=hid I;obtain⟨azp,azq⟩:=hb1;obtain⟨axU,axV⟩:=hb3;have ayO:n<=1000:=ae;have zf:=hid hby;have wo:=hid hM;have Rz:cs.length<=20:=fD;obtain⟨p,hN⟩:=ex old.length;obtain⟨C,yh⟩:=ex (iV old);obtain⟨D,G7⟩:=ex (iV e0);rw[hN]at PG FZ zg Dm A5 uY sl F3 rj E V xL;rw[yh,G7]at FZ zg A5 uY sl;rw[hN];clear hold F hc0 v H Z eN hb Y eV nJ Ex f iH yA hno iI R5 I hgr Sn ZO LM O hM yw hby yo hcs LN Ev Se hap yy Si hrel jl R' RI Sl hq hN yh G7;go_enter FH,OA;have a:=bg w;go_upto_region 0 with fail;refine ar ?_;refine bO a (av (a6 (p:Int) (n:Int) g1 g2 (ad A ms.length c))) (λb8 hT a=>?_);refine ku ?_;refine aJ (aj au) (by(have h:=E.out;go_simp;try omega)) ?_;refine ag ?_;refine bt a 0 (a6 (p:Int) (n:Int) g1 g2 (ad A ms.length c)) ?_ (hv:=(ef _)) (hk:=by omega) (hz:=(by rw[cN];rfl));refine bC (V _ a.only) a (λi' a=>?_);refine v4 ?_;refine bt a 0 (a6 (p:Int) (n:Int) g1 g2 (ad A ms.length c)) ?_ (hv:=(ef _)) (hk:=by omega) (hz:=(by rw[cN];rfl));refine bC (xL _ a.only) a (λks a=>?_);refine v2 ?_;refine dh ?_;refine bP a [3,6,7,8] (λi u=>match i with|3=>ad u.A n u.c|6=>av (a6 (p:Int) (n:Int) C D (ad u.A ms.length u.c))|7=>ay (ab ⟨u.b,0,af⟩)|_=>aZ) (λd=>λ|3=>bp ((d 3).A) n ((d 3).c) 5 1 (e0.map a')|6=>kN (hE (d 6).t (d 6).A (d 6).c ms) (d 6).t|7=>ah ((d 7).b) (a6 0 0 dY.zero dY.zero (ad af 0 0)) 26|8=>ah ((d 7).b) (a6 (p:Int) (n:Int) C D (ad (d 6).A ms.length (d 6).c)) 26|_=>emp) (λ|8=>[8]|_=>[]) (λ|2=>[0]|5=>[0]|6=>[4]|_=>[]) (λ|3=>[3]|6=>[6]|7=>[7]|8=>[6,7]|_=>[]) [0,4,7,9] (λd=>?_);refine br ?_;refine eb 0 (a6 (p:Int) (n:Int) g1 g2 (ad A ms.length c)) ?_ (hv:=(ef _)) (hk:=by omega) (hz:=(by rw[cN];rfl));refine df (λl Fr a=>(PG l a.only).mono ?_) ?_;·rintro e dn ⟨j,k,rfl,x⟩;exact⟨{A:=j,c:=k},aa,a.new _ x⟩
    refine aL ?_;refine dl 0 66 ?_ (hv:=eT);refine df (λl Fr a=>(FZ.out l (d 3).A (d 3).c a.only (a.atR 0).Ff (λb hb=>(a.has 0).2 b hb)).mono ?_) ?_;·rintro e dn ⟨j,k,t,rfl,x,j4⟩;exact⟨{A:=j,c:=k,t:=t},aa,(a.new _ x).kN j4⟩
    refine qy (a6 0 0 dY.zero dY.zero (ad af 0 0)) ?_;refine fZ (av (a6 (p:Int) (n:Int) C D (ad (d 6).A ms.length (d 6).c))) ?_ (hk:=by show 0+jD (a6 _ _ _ _ _)<=_;simp only[cN];decide) (hz:=by show _=ab (jD (a6 _ _ _ _ _));rw[cN];rfl) (h1:=(vg aa)) (hc:=vD);refine bS λlf a=>?_;generalize (d 3).A=awi at a⊢;generalize (d 3).c=j8 at a⊢;generalize (d 6).A=T at a⊢;generalize (d 6).c=X at a⊢;generalize (d 6).t=MX at a⊢;generalize (d 7).b=eL at a⊢;refine b6 ?_;refine bt a 3 (a6 (p:Int) (n:Int) C D (ad T ms.length X)) ?_ (hv:=(ef _)) (hk:=by omega) (hz:=(by rw[cN];rfl));refine a7 (zg.out _ T X a.only ((a.at (t:=kN (hE MX T X ms) MX) 2).1.s6 (a.at (t:=kN (hE MX T X ms) MX) 2).2)) ?_;rintro e mm ⟨y,z,t9,rfl,x,L⟩;replace a:=a.new _ x;refine bb ?_;refine v3 ?_;refine bA a (a6 0 0 dY.zero dY.zero (ad af 0 0)) (λeJ nU a=>?_);refine bA a #[J R 0,J R 0] (λfM pa a=>?_);refine ba a 1 (av (a6 (p:Int) (n:Int) C D (ad y cs.length z))) (λta a=>?_) (hk:=by show 0+jD (a6 _ _ _ _ _)<=_;simp only[cN];decide) (hz:=by show _=ab (jD (a6 _ _ _ _ _));rw[cN];rfl) (h1:=(vg aa)) (hc:=vD);refine ba a 0 (av #[J R 0,J R 0]) (λtb a=>?_);refine aF ?_;refine bt a 3 (a6 (p:Int) (n:Int) g1 g2 (ad A ms.length c)) ?_ (hv:=(ef _)) (hk:=by omega) (hz:=(by rw[cN];rfl));refine bC (Dm _ a.only) a (λxo a=>?_);refine v5 ?_;refine aF ?_;refine bt a 1 (a6 (p:Int) (n:Int) C D (ad y cs.length z)) ?_ (hv:=(ef _)) (hk:=by omega) (hz:=(by rw[cN];rfl));refine bC (A5 _ y z (L.s6 (a.at 2))) a (λAB a=>?_);refine v5 ?_;refine b6 ?_;refine pl a 3 66 ?_ (hv:=eT);refine a7 (A0 _ a.only) ?_;rintro e CI ⟨j1,rfl,I7,bC,x⟩;replace a:=a.new _ x;refine bb ?_;refine a7 (aiF _ j1 (as3 (a.at 0))) ?_;rintro e CJ ⟨gv,co,azm,rfl,g⟩;replace a:=a.aI g;refine bb ?_;refine v5 ?_;refine dh ?_;refine bP a [5,11,18] (λi _=>match i with|5=>aj aB|11=>av #[J R 0,J R 0]|18=>J R (cs.length:Int)|_=>aZ) (λ_ _=>emp) (λ_=>[]) (λ|0=>[1]|4=>[2]|5=>[3]|10=>[2]|11=>[3]|17=>[2]|18=>[3]|20=>[2]|_=>[]) (λ_=>[]) [0,1,2,3,4,5,6,7,13,19,26] (λd=>?_);refine eb 0 #[J R 0,J R 0] ?_;refine aL ?_;refine gC (aj au) ?_;refine aL ?_;refine eb 0 (a6 (p:Int) (n:Int) C D (ad y cs.length z)) ?_ (hv:=(ef _)) (hk:=by omega) (hz:=(by rw[cN];rfl));refine dE (λl _ a=>uY l y z (L.s6 (a.at 0))) ?_;refine ix ?_;refine dl 0 66 ?_ (hv:=eT);refine dE (λl _ a=>aiH l y z (L.s6 (a.at 0))) ?_;refine aL ?_;refine gC (aj au) ?_;refine c7 ?_;refine dl 0 66 ?_ (hv:=eT);refine dE (λl _ a=>wq l y z (L.s6 (a.at 0))) ?_;refine aL ?_;refine dl 0 66 ?_ (hv:=eT);refine aL ?_;refine aM (aj au) (λ_ _ _=>by(go_simp;try simp)) ?_;refine aL ?_;refine bS λFm a=>?_;replace a:=a.drop 8;replace a:=a.drop 8;replace a:=a.drop 8;refine dh ?_;refine bP a [0,4,8,16,22] (λi u=>match i with|0=>aj aB|4=>ad (ab ⟨u.b,0,af⟩) n n|8=>ad u.A n u.c|16=>J R M|22=>ad u.A q u.c|_=>aZ) (λd=>λ|4=>ah ((d 4).b) (aY a' e0 []) 5|8=>bp ((d 8).A) n ((d 8).c) 5 1 (e0.map a')|_=>emp) (λ_=>[]) (λ|3=>[2]|4=>[3]|5=>[12]|7=>[4]|9=>[16]|15=>[4]|21=>[4]|_=>[]) (λ|4=>[4]|8=>[8]|_=>[]) [0,1,2,3,4,5,6,7,8,12,16,24,30] (λd=>?_);refine dE (λl _ a=>U l a.only) ?_;refine br ?_;refine eb 0 (a6 (p:Int) (n:Int) C D (ad y cs.length z)) ?_ (hv:=(ef _)) (hk:=by omega) (hz:=(by rw[cN];rfl));refine df (λl Fr a=>(sl.out l y z a.only (L.s6 (a.at 0))).mono ?_) ?_;·rintro e dn ⟨NV,rfl,x⟩;exact⟨{b:=NV},aa,a.new _ x⟩
    refine aM (OQ ⟨(yU e0).toArray⟩) (λ_ _ a=>aeH zf.out wo.out aa aa (GD (a.a1 0)) dJ lj y7) ?_;refine aL ?_;refine eb 0 (a6 (p:Int) (n:Int) g1 g2 (ad A ms.length c)) ?_ (hv:=(ef _)) (hk:=by omega) (hz:=(by rw[cN];rfl));refine df (λl Fr a=>(PG l a.only).mono ?_) ?_;·rintro e dn ⟨j,k,rfl,x⟩;exact⟨{A:=j,c:=k},aa,a.new _ x⟩
    refine aM (OQ ⟨(yU e0).toArray⟩) (λ_ _ a=>aeH zf.out wo.out aa aa (a.atR 0).Ff dJ lj y7) ?_;refine aM (aj aB) (λ_ _ _=>by(go_simp;try simp)) ?_;refine ix ?_;refine eb 0 (a6 (p:Int) (n:Int) g1 g2 (ad A ms.length c)) ?_ (hv:=(ef _)) (hk:=by omega) (hz:=(by rw[cN];rfl));refine dE (λl _ a=>F3 l a.only) ?_;refine aM (J R ((n:Int) -Q+M)) (λ_ _ _=>lK 3 (bc 97) (bc 99) 3 aa (((n:Int) -Q)) M ((n:Int) -Q+M) aa aa ae ae ae) ?_;refine aM (aj aB) (λ_ _ _=>by(have h:=ah5.out;go_simp;try omega)) ?_;refine br ?_;refine eb 0 (a6 (p:Int) (n:Int) g1 g2 (ad A ms.length c)) ?_ (hv:=(ef _)) (hk:=by omega) (hz:=(by rw[cN];rfl));refine df (λl Fr a=>(rj l a.only).mono ?_) ?_;·rintro e dn ⟨j,k,rfl,g⟩;exact⟨{A:=j,c:=k},aa,(a.aI g).dT⟩
    refine aL ?_;refine aM (aj fr) (λ_ _ _=>by(have h:=uT.out;go_simp;try simp[h])) ?_;refine aL ?_;refine aM (aj aB) (λ_ _ _=>by(go_simp;try simp)) ?_;refine gC (aj aB) ?_;refine aL ?_;refine bS λIP a=>?_;generalize (d 4).b=aww at a⊢;generalize (d 8).A=awo at a⊢;generalize (d 8).c=axD at a⊢;generalize (d 22).A=awc at a⊢;generalize (d 22).c=axt at a⊢;replace a:=a.drop 8;replace a:=a.drop 10;replace a:=a.drop 10;go_wp2_with fail;go_ret;exact⟨aa,a.only⟩
end
end Go.Proofs.YtcmhplknoglbkaaGreat
