/- Part 48 of the proof of TopConvertsSaid. -/
import Derived.Test.YtcmhplknoglbkaaGreat0
import Derived.Test.YtcmhplknoglbkaaGreat6
import Derived.Test.YtcmhplknoglbkaaGreat47
set_option linter.all false
set_option maxRecDepth 100000
set_option maxHeartbeats 4000000
open Go.Proofs.Tryz
open Bool renaming false->au,true->aB
open Go renaming Calls->aD,undef->aZ,wpList_nil->ak,wp_region_lit->ar
open Go.Ending renaming returned->aA
open Go.IntKind renaming i64->R
open Go.Proofs.Tryz renaming func238->FG,ntmps238->FJ,prog->ax,underlying24->eB,underlying73->fX
open Go.Proofs renaming intOf->cg
open Go.RowKit renaming Hid->aE
open Go.Value renaming agg->av,bool->aj,int->J,slice->ad
open List renaming getElem?_eq_getElem->cm,mem_of_getElem?->cM
open Nat renaming not_lt_zero->Be,zero_le->cQ
namespace Go.Proofs.YtcmhplknoglbkaaGreat
section
open Go.RowKit Go.MapKept
attribute [local irreducible] wpList c9
def hasB(m:bI)(off:Int):Bool:=decide (m.to<=off/\off<m.to+cS m)
def tW(ms:List bI)(off:Int):Int:=match ms.findIdx? (λm=>hasB m off)with|some i=>(i:Int)|none=>-1
def Cy(o n:Int)(m:bI):Int:=if Br m≠0 then Br m else if m.k=1/\m.fr+m.n>o then 5 else if m.to+cS m>n then 6 else 0
def atg m b c off w(hv:eE (b' m)):
 aD ax 165 #[mz m b c,J R off] w λe w'=>e=aA (aj (hasB m off))/\ao w w':=by
 obtain⟨r,hr⟩:=ex (hasB m off);have d:=hid (λW=>ZP _ _ _ W hv r hr);have f:=hid (λW=>Fb m b c W);rw[hr];clear hr hv;obtain⟨z,hz⟩:=ex (cS m);rw[hz]at d f;clear hz;go_enter func165,ntmps165;have a:=bg w;go_upto_region 0 with fail;refine ar ?_;refine bO (cs:=#[J _ _,J _ _,J _ _,J _ _,ad b _ c]) a _ (λg w1 a=>?_);refine dR ?_;refine bt a 0 #[J R m.k,J R m.to,J R m.fr,J R m.n,ad b m.data.length c] ?_;refine bC (f _) a (λh a=>?_);refine ag ?_;refine bC (d _) a (λi a=>?_);refine bR ?_;go_wp2_with fail;go_ret;exact⟨aa,a.only⟩
def adK(o n)(g1 g2)A c ms off w(v:cD w A ms)(N:ms.length<=1048576)(hv:∀m∈ms,eE (b' m)):
 aD ax 77 #[dD o n g1 g2 (ad A ms.length c),J R off] w λe w'=>e=aA (J R (tW ms off))/\ao w w':=by
 have F:=hid v;have G:=hid hv;clear v hv;go_enter func77,ntmps77;have a:=bg w;go_upto_region 0 with fail;refine ar ?_;refine bO a (av _) (λB w1 a=>?_);refine ag ?_;refine aF ?_;refine ag ?_;refine ak ?_;have p:=a.pk [0];go_wp2_with fail;go_loopw [5] (λk wr=>∃j:Nat,j<=ms.length/\k=J R (j:Int)/\aE (∀(i:Nat) (x:bI),i<j->ms[i]?=some x->hasB x off=au)/\ai w (λ_=>False) wr [ah B (a6 o n g1 g2 (ad A ms.length c)) 26]) (λk wr=>ms.length -(cg k).toNat);case atStart=>exact⟨0,cQ _,aa,hid (λi x h=>absurd h (Be _)),p⟩
 case round=>
  clear a p;obtain⟨j,M,rfl,b,a⟩:=hrel;by_cases hlt:j<ms.length
  .have I:(j:Int)<(ms.length:Int):=ae;obtain⟨m,f⟩:∃m,ms[j]?=some m:=⟨_,cm hlt⟩;obtain⟨q,K,z,H,s,t,u⟩:=cD.ia F f;have C:=hid s;have L:=hid t;have D:=hid u;have d:=hid f;clear s t u f;obtain⟨r,hr⟩:=ex (hasB m off);have l:=hid hr;have E:aE (∀W,aD _ _ #[av _,J _ _] W λe w'=>e=aA (aj r)/\ao W w'):=hid (λW=>by rw[<-hr];exact atg m z H _ W (G m (cM d)));clear hr;go_upto_region 2 with fail;refine ar ?_;refine v2 ?_;refine pl a 0 66 ?_ (hv:=eT);refine ag ?_;refine cd (aj aB) ?_;refine b6 ?_;refine pl a 0 66 ?_ (hv:=eT);refine ag ?_;refine aJ _ (cI 24 73 5 (.tmp 14) _ aa eB aw q K _ c j _ (by show ad A _ _=_;rw[C]) aa hlt aa) ?_;refine aJ _ (by(refine e7 73 _ aa q _ aa _ (D _ a.only) fX aa aw)) ?_;refine ag ?_;refine bC (E _) a (λO a=>?_);refine ak ?_;cases r with
   |true=>
    refine aF ?_;refine dQ ?_;go_wp2_with fail;go_ret;exact⟨by rw[show tW ms _=(j:Int)from by unfold tW;rw[KW d l.out b]];rfl,a.only⟩
   |false=>
    refine b6 ?_;refine pad (j:Int) 1 ((j+1:Nat):Int) ?_;refine bR ?_;go_wp2_with fail;go_roundw;case rel=>exact⟨j+1,ae,aa,hid (λi y hi g=>by rcases Nat.lt_succ_iff_lt_or_eq.1 hi with h|rfl;exact b i y h g;rw[d]at g;cases g;exact l),a⟩
    case measure=>simp[cg]<;>omega
  .have I:¬(j:Int)<(ms.length:Int):=ae;obtain rfl:j=ms.length:=ae;go_upto_region 2 with fail;refine ar ?_;refine v2 ?_;refine pl a 0 66 ?_ (hv:=eT);refine ag ?_;refine cd (aj au) ?_;refine aF ?_;refine ag ?_;refine ak ?_;go_wp2_with fail;go_ret;exact⟨by rw[show tW ms _=-1 from by unfold tW;rw[KV (λi x hi=>b i x (List.getElem?_eq_some_iff.1 hi).1 hi)]];rfl,a.only⟩
def att(o n)(g1 g2)S(K:S.oneCell'=aB)m b c w(y:rY m):
 aD ax 238 #[dD o n g1 g2 S,mz m b c] w λe w'=>e=aA (J R (Cy o n m))/\ao w w':=by
 obtain⟨z,hz⟩:=ex (Br m);have l:aE (∀W,aD _ _ #[av _] W λe w'=>e=aA (J _ z)/\ao W w'):=hid (λW=>by rw[<-hz];exact asN m b c W y);unfold Cy;rw[hz];by_cases x:z=0
 .subst x;have u:=X' hz;rw[if_neg (λh=>h aa)];have F:=u.b';have t:aE (∀W,aD _ _ #[av _] W λe w'=>e=aA _/\ao W w'):=hid (λW=>ML m b c W);clear hz y;obtain⟨fc,C⟩:=ex (cS m);rw[C]at t F⊢;clear C;by_cases hk:m.k=1
  .have p:=hid hk;have E:=(u.copy hk);obtain⟨G,H,I,_⟩:=E;by_cases q:m.fr+m.n>o;·rw[if_pos ⟨hk,q⟩];have v:=hid q;clear q hk u;go_enter FG,FJ;have a:=bg w;go_upto_region 0 with fail;refine ar ?_;refine bO a (av _) (λr w1 a=>?_);refine bO (cs:=#[J _ _,J _ _,J _ _,J _ _,ad b _ c]) a _ (λs Y a=>?_);refine ag ?_;refine ak ?_;go_upto_region 1 with fail;refine ar ?_;refine bt a 0 #[J R m.k,J R m.to,J R m.fr,J R m.n,ad b m.data.length c] ?_;refine a7 (l _) ?_;rintro e bN ⟨rfl,g⟩;replace a:=a.aI g;refine bb ?_;refine ag ?_;refine ak ?_;go_upto_region 2 with fail;refine ar ?_;refine ag ?_;refine pk (aj au) ?_;refine ak ?_;go_upto_region 4 with fail;refine ar ?_;refine ag ?_;refine pl a 0 0 ?_;refine dt p (aj aB) ?_;refine v2 ?_;refine pl a 0 2 ?_;refine ag ?_;refine pl a 0 3 ?_;refine pad _ _ (m.fr+m.n) ?_;refine ag ?_;refine pl a 1 0 ?_ (hv:=mA);refine aJ (aj aB) (by(have h:=v.out;go_simp;try omega)) ?_;refine ag ?_;refine ak ?_;go_upto_region 5 with fail;refine ar ?_;refine ag ?_;refine ak ?_;go_wp2_with fail;go_ret;exact⟨aa,a.only⟩
   .rw[if_neg (λh=>q h.2)];have v:=hid q;clear q hk u;by_cases d:m.to+fc>n
    .have f:=hid d;rw[if_pos d];clear d;go_enter FG,FJ;have a:=bg w;go_upto_region 0 with fail;refine ar ?_;refine bO a (av _) (λr cc a=>?_);refine bO (cs:=#[J _ _,J _ _,J _ _,J _ _,ad b _ c]) a _ (λs cG a=>?_);refine ag ?_;refine ak ?_;go_upto_region 1 with fail;refine ar ?_;refine bt a 0 #[J R m.k,J R m.to,J R m.fr,J R m.n,ad b m.data.length c] ?_;refine a7 (l _) ?_;rintro e c6 ⟨rfl,g⟩;replace a:=a.aI g;refine bb ?_;refine ag ?_;refine ak ?_;go_upto_region 2 with fail;refine ar ?_;refine ag ?_;refine pk (aj au) ?_;refine ak ?_;go_upto_region 4 with fail;refine ar ?_;refine ag ?_;refine pl a 0 0 ?_;refine dt p (aj aB) ?_;refine v2 ?_;refine pl a 0 2 ?_;refine ag ?_;refine pl a 0 3 ?_;refine pad _ _ (m.fr+m.n) ?_;refine ag ?_;refine pl a 1 0 ?_ (hv:=mA);refine aJ (aj au) (by(have h:=v.out;go_simp;try omega)) ?_;refine ag ?_;refine ak ?_;go_upto_region 6 with fail;refine bP a [3] (λi _=>match i with|3=>J R fc|_=>aZ) (λ_ _=>emp) (λ_=>[]) (λ|1=>[0]|2=>[0]|6=>[1]|_=>[]) (λ_=>[]) [0,1,5] (λA=>?_);refine aL ?_;refine dl 0 1 ?_;refine eb 0 #[J R m.k,J R m.to,J R m.fr,J R m.n,ad b m.data.length c] ?_;refine df (λj Fr a=>(t j).mono ?_) ?_;·rintro e B ⟨rfl,g⟩;exact⟨{},aa,(a.aI g).dT⟩
     refine aM _ (λ_ _ _=>lK 3 _ _ 3 aa _ _ (m.to+fc) aa aa ae ae ae) ?_;refine aL ?_;refine dl 0 1 ?_ (hv:=jh);refine aM (aj aB) (λ_ _ _=>by(have h:=f.out;go_simp;try omega)) ?_;refine bS λdX a=>?_;replace a:=a.drop 2;go_upto_region 7 with fail;refine ar ?_;refine ag ?_;refine ak ?_;go_wp2_with fail;go_ret;exact⟨aa,a.only⟩
    .have f:=hid d;rw[if_neg d];clear d;go_enter FG,FJ;have a:=bg w;go_upto_region 0 with fail;refine ar ?_;refine bO a (av _) (λr dH a=>?_);refine bO (cs:=#[J _ _,J _ _,J _ _,J _ _,ad b _ c]) a _ (λs e9 a=>?_);refine ag ?_;refine ak ?_;go_upto_region 1 with fail;refine ar ?_;refine bt a 0 #[J R m.k,J R m.to,J R m.fr,J R m.n,ad b m.data.length c] ?_;refine a7 (l _) ?_;rintro e L ⟨rfl,g⟩;replace a:=a.aI g;refine bb ?_;refine ag ?_;refine ak ?_;go_upto_region 2 with fail;refine ar ?_;refine ag ?_;refine pk (aj au) ?_;refine ak ?_;go_upto_region 4 with fail;refine ar ?_;refine ag ?_;refine pl a 0 0 ?_;refine dt p (aj aB) ?_;refine v2 ?_;refine pl a 0 2 ?_;refine ag ?_;refine pl a 0 3 ?_;refine pad _ _ (m.fr+m.n) ?_;refine ag ?_;refine pl a 1 0 ?_ (hv:=mA);refine aJ (aj au) (by(have h:=v.out;go_simp;try omega)) ?_;refine ag ?_;refine ak ?_;go_upto_region 6 with fail;refine bP a [3] (λi _=>match i with|3=>J R fc|_=>aZ) (λ_ _=>emp) (λ_=>[]) (λ|1=>[0]|2=>[0]|6=>[1]|_=>[]) (λ_=>[]) [0,1,5] (λA=>?_);refine aL ?_;refine dl 0 1 ?_;refine eb 0 #[J R m.k,J R m.to,J R m.fr,J R m.n,ad b m.data.length c] ?_;refine df (λj Fr a=>(t j).mono ?_) ?_;·rintro e B ⟨rfl,g⟩;exact⟨{},aa,(a.aI g).dT⟩
     refine aM _ (λ_ _ _=>lK 3 _ _ 3 aa _ _ (m.to+fc) aa aa ae ae ae) ?_;refine aL ?_;refine dl 0 1 ?_ (hv:=jh);refine aM (aj au) (λ_ _ _=>by(have h:=f.out;go_simp;try omega)) ?_;refine bS λM a=>?_;replace a:=a.drop 2;go_upto_region 8 with fail;refine ar ?_;refine ag ?_;refine ak ?_;go_wp2_with fail;go_ret;exact⟨aa,a.only⟩
  .have p:=hid hk;rw[if_neg (λh=>hk h.1)];clear hk u;by_cases d:m.to+fc>n
   .have f:=hid d;rw[if_pos d];clear d;go_enter FG,FJ;have a:=bg w;go_upto_region 0 with fail;refine ar ?_;refine bO a (av _) (λr N a=>?_);refine bO (cs:=#[J _ _,J _ _,J _ _,J _ _,ad b _ c]) a _ (λs O a=>?_);refine ag ?_;refine ak ?_;go_upto_region 1 with fail;refine ar ?_;refine bt a 0 #[J R m.k,J R m.to,J R m.fr,J R m.n,ad b m.data.length c] ?_;refine a7 (l _) ?_;rintro e P ⟨rfl,g⟩;replace a:=a.aI g;refine bb ?_;refine ag ?_;refine ak ?_;go_upto_region 2 with fail;refine ar ?_;refine ag ?_;refine pk (aj au) ?_;refine ak ?_;go_upto_region 4 with fail;refine ar ?_;refine ag ?_;refine pl a 0 0 ?_;refine dt p (aj au) ?_;refine ag ?_;iterate 8 refine ps ?_
    refine ag ?_;refine ak ?_;go_upto_region 6 with fail;refine bP a [3] (λi _=>match i with|3=>J R fc|_=>aZ) (λ_ _=>emp) (λ_=>[]) (λ|1=>[0]|2=>[0]|6=>[1]|_=>[]) (λ_=>[]) [0,1,5] (λA=>?_);refine aL ?_;refine dl 0 1 ?_;refine eb 0 #[J R m.k,J R m.to,J R m.fr,J R m.n,ad b m.data.length c] ?_;refine df (λj Fr a=>(t j).mono ?_) ?_;·rintro e B ⟨rfl,g⟩;exact⟨{},aa,(a.aI g).dT⟩
    refine aM _ (λ_ _ _=>lK 3 _ _ 3 aa _ _ (m.to+fc) aa aa ae ae ae) ?_;refine aL ?_;refine dl 0 1 ?_ (hv:=jh);refine aM (aj aB) (λ_ _ _=>by(have h:=f.out;go_simp;try omega)) ?_;refine bS λQ a=>?_;replace a:=a.drop 2;go_upto_region 7 with fail;refine ar ?_;refine ag ?_;refine ak ?_;go_wp2_with fail;go_ret;exact⟨aa,a.only⟩
   .have f:=hid d;rw[if_neg d];clear d;go_enter FG,FJ;have a:=bg w;go_upto_region 0 with fail;refine ar ?_;refine bO a (av _) (λr T a=>?_);refine bO (cs:=#[J _ _,J _ _,J _ _,J _ _,ad b _ c]) a _ (λs U a=>?_);refine ag ?_;refine ak ?_;go_upto_region 1 with fail;refine ar ?_;refine bt a 0 #[J R m.k,J R m.to,J R m.fr,J R m.n,ad b m.data.length c] ?_;refine a7 (l _) ?_;rintro e V ⟨rfl,g⟩;replace a:=a.aI g;refine bb ?_;refine ag ?_;refine ak ?_;go_upto_region 2 with fail;refine ar ?_;refine ag ?_;refine pk (aj au) ?_;refine ak ?_;go_upto_region 4 with fail;refine ar ?_;refine ag ?_;refine pl a 0 0 ?_;refine dt p (aj au) ?_;refine ag ?_;iterate 8 refine ps ?_
    refine ag ?_;refine ak ?_;go_upto_region 6 with fail;refine bP a [3] (λi _=>match i with|3=>J R fc|_=>aZ) (λ_ _=>emp) (λ_=>[]) (λ|1=>[0]|2=>[0]|6=>[1]|_=>[]) (λ_=>[]) [0,1,5] (λA=>?_);refine aL ?_;refine dl 0 1 ?_;refine eb 0 #[J R m.k,J R m.to,J R m.fr,J R m.n,ad b m.data.length c] ?_;refine df (λj Fr a=>(t j).mono ?_) ?_;·rintro e B ⟨rfl,g⟩;exact⟨{},aa,(a.aI g).dT⟩
    refine aM _ (λ_ _ _=>lK 3 _ _ 3 aa _ _ (m.to+fc) aa aa ae ae ae) ?_;refine aL ?_;refine dl 0 1 ?_ (hv:=jh);refine aM (aj au) (λ_ _ _=>by(have h:=f.out;go_simp;try omega)) ?_;refine bS λX a=>?_;replace a:=a.drop 2;go_upto_region 8 with fail;refine ar ?_;refine ag ?_;refine ak ?_;go_wp2_with fail;go_ret;exact⟨aa,a.only⟩
 .rw[if_pos x];have D:=hid x;clear x hz y;go_enter FG,FJ;have a:=bg w;go_upto_region 0 with fail;refine ar ?_;refine bO a (av _) (λr Z a=>?_);refine bO (cs:=#[J _ _,J _ _,J _ _,J _ _,ad b _ c]) a _ (λs CI a=>?_);refine ag ?_;refine ak ?_;go_upto_region 1 with fail;refine ar ?_;refine bt a 0 #[J R m.k,J R m.to,J R m.fr,J R m.n,ad b m.data.length c] ?_;refine a7 (l _) ?_;rintro e CJ ⟨rfl,g⟩;replace a:=a.aI g;refine bb ?_;refine ag ?_;refine ak ?_;go_upto_region 2 with fail;refine ar ?_;refine ag ?_;refine dt D (aj aB) ?_;refine ak ?_;go_upto_region 3 with fail;refine ar ?_;refine v2 ?_;refine ak ?_;go_wp2_with fail;go_ret;exact⟨aa,a.only⟩
end
section
open Go.RowKit Go.MapKept
attribute [local irreducible] wpList c9
def EW(ms:List bI):Nat->Int
 |0=>0
 |t+1=>match ms[t]? with|some m=>m.to+cS m|none=>0
def ow(n:Int)(ms:List bI)(t:Nat):Bool:=decide (EW ms t<n)&&decide (tW ms (EW ms t)<0)
structure og (o n:Int) (ms:List bI):Prop where
 bd:(0<=o/\0<=n)/\o<=4611686018427387903/\n<=4611686018427387903
 bE:∀m∈ms,Cy o n m=0
 ap:∀(i j:Nat) (x y:bI),j<i->ms[i]?=some x->ms[j]?=some y->meets (b' x) (b' y)=au
 Zf:∀t,t<=ms.length->ow n ms t=au
def uI(n:Int)(ms:List bI)(t:Nat)(a:Int):Prop:=(a=-1/\∀s,s<t->ow n ms s=au)\/(0<=a/\∃s,s<t/\ow n ms s=aB)
def uI.ox{n ms t a}(h:uI n ms t a)(hb:ow n ms t=au):uI n ms (t+1) a:=by
 rcases h with⟨h1,b⟩|⟨h1,s,b,c⟩;·exact .inl ⟨h1,λs d=>aG⟩
 .exact .inr ⟨h1,s,ae,c⟩
theorem uI.bad{n ms t a}(h1:0<=a)(hb:ow n ms t=aB):uI n ms (t+1) a:=.inr ⟨h1,t,Nat.lt_succ_self _,hb⟩
def hY.CF{m}(h:hY m):eE (Go.Proofs.YtcmhplknoglbkaaGreat.b' m):=⟨h.b'.1,Int.le_of_lt h.b'.2.1,h.b'.2.2⟩
set_option maxHeartbeats 16000000 in
def ate(o n)(g1 g2)A c ms w(B:cD w A ms)(fm:ms.length<=1048576)(hv:∀m∈ms,hY m):
 aD ax 239 #[dD o n g1 g2 (ad A ms.length c)] w λe w'=>∃d,e=aA (J R d)/\uI n ms (ms.length+1) d/\ao w w':=by
 have Q:=hid B;have V:=hid hv;have Q:=hid B;have V:=hid hv;have P:=hid (λW off y=>adK o n g1 g2 A c ms off W (B.aI y) fm (λm z=>(hv m z).CF));clear B hv;go_enter func239,ntmps239;have a:=bg w;go_upto_region 0 with fail;refine ar ?_;refine bO a (av _) (λdz w1 a=>?_);refine ag ?_;refine ak ?_;go_upto_region 1 with fail;refine ar ?_;refine ag ?_;refine ak ?_;go_upto_region 2 with fail;refine ar ?_;refine ag ?_;refine ak ?_;have U:=a.pk [0];go_wp2_with fail;go_loopw [3,4] (λgE L wr=>∃(t:Nat) (d:Int),t<=ms.length+1/\gE=J R d/\L=J R ((t:Int) -1)/\aE (uI n ms t d)/\ai w (λ_=>False) wr [ah dz (a6 o n g1 g2 (ad A ms.length c)) 26]) (λgE L wr=>ms.length+1 -(cg L+1).toNat);case atStart=>exact⟨0,-1,cQ _,aa,aa,hid (.inl ⟨rfl,λs h=>absurd h (Be _)⟩),U⟩
 case round=>
  clear a U;obtain⟨t,d,ht,rfl,rfl,r,a⟩:=hrel;by_cases hlt:t<=ms.length
  .have cJ:((t:Int) -1)<(ms.length:Int):=ae;obtain⟨off,C⟩:=ex (EW ms t);have v:=hid C;cases t with
   |zero=>
    have K:(0:Int)=off:=C;subst K;have I:(0:Int)<=0:=Int.le_refl _;clear C;go_upto_region 3 with fail;refine ar ?_;iterate 2 refine ag ?_
    refine pl a 0 66 ?_ (hv:=eT);refine ag ?_;refine cd (aj aB) ?_;refine ak ?_;go_upto_region 5 with fail;refine ar ?_;refine ag ?_;refine ak ?_;go_upto_region 6 with fail;refine ar ?_;refine ag ?_;refine pk (aj au) ?_;refine ak ?_;by_cases k:0<n
    .have b:=hid k;obtain⟨G,u⟩:=ex (tW ms 0);have p:=hid (λW y=>by have q:=P W 0 y;rwa [u]at q);have x:=hid u;clear k u;by_cases l:G<0
     .have f:=hid l;have j:aE (ow n ms 0=aB):=hid (by unfold ow;rw[v,x];simp[b.out,f.out]);clear l;rcases r.out with⟨rfl,H⟩|⟨eo,_⟩
      .clear H;go_upto_region 8 with fail;refine ar ?_;iterate 2 refine ag ?_
       refine pl a 0 1 ?_ (hv:=jh);refine aJ (aj aB) (by(have h:=b.out;go_simp;try omega)) ?_;refine ag ?_;refine bt a 0 (a6 o n g1 g2 (ad A ms.length c)) ?_ (hv:=(ef _)) (hk:=by omega) (hz:=(by rw[cN];rfl));refine ag ?_;refine a7 (p _ a.only) ?_;rintro e aS ⟨rfl,g⟩;replace a:=a.aI g;refine bb ?_;refine aJ (aj aB) (by(have h:=f.out;go_simp;try omega)) ?_;iterate 3 refine ag ?_
       refine pk (aj aB) ?_;refine ag ?_;iterate 3 refine ps ?_
       iterate 2 refine ag ?_
       refine ak ?_;go_upto_region 9 with fail;refine ar ?_;iterate 2 refine ag ?_
       refine ak ?_;go_upto_region 4 with fail;refine ar ?_;refine ag ?_;refine pad _ 1 (((0+1:Nat):Int) -1) ?_;refine ag ?_;refine ak ?_;go_wp2_with fail;go_roundw;case rel=>grind[hid,uI.bad]
       case measure=>grind[cg]
      .omega
     .have f:=hid l;have j:aE (ow n ms 0=au):=hid (by unfold ow;rw[v,x];simp[f.out]);clear l;go_upto_region 8 with fail;refine ar ?_;iterate 2 refine ag ?_
      refine pl a 0 1 ?_ (hv:=jh);refine aJ (aj aB) (by(have h:=b.out;go_simp;try omega)) ?_;refine ag ?_;refine bt a 0 (a6 o n g1 g2 (ad A ms.length c)) ?_ (hv:=(ef _)) (hk:=by omega) (hz:=(by rw[cN];rfl));refine ag ?_;refine a7 (p _ a.only) ?_;rintro e cG ⟨rfl,g⟩;replace a:=a.aI g;refine bb ?_;refine aJ (aj au) (by(have h:=f.out;go_simp;try omega)) ?_;iterate 2 refine ag ?_
      iterate 7 refine ps ?_
      refine ag ?_;refine ak ?_;go_upto_region 4 with fail;refine ar ?_;refine ag ?_;refine pad _ 1 (((0+1:Nat):Int) -1) ?_;refine ag ?_;refine ak ?_;go_wp2_with fail;go_roundw;case rel=>exact⟨_,d,ae,aa,aa,hid (r.out.ox j),a.pick [0]⟩
      case measure=>grind[cg]
    .have b:=hid k;have j:aE (ow n ms 0=au):=hid (by unfold ow;rw[v];simp[b.out]);clear k;go_upto_region 8 with fail;refine ar ?_;iterate 2 refine ag ?_
     refine pl a 0 1 ?_ (hv:=jh);refine aJ (aj au) (by(have h:=b.out;go_simp;try omega)) ?_;refine ag ?_;iterate 4 refine ps ?_
     iterate 2 refine ag ?_
     iterate 7 refine ps ?_
     refine ag ?_;refine ak ?_;go_upto_region 4 with fail;refine ar ?_;refine ag ?_;refine pad _ 1 (((0+1:Nat):Int) -1) ?_;refine ag ?_;refine ak ?_;go_wp2_with fail;go_roundw;case rel=>exact⟨_,d,ae,aa,aa,hid (r.out.ox j),a.pick [0]⟩
     case measure=>grind[cg]
   |succ s=>
    obtain⟨m,z⟩:∃m,ms[s]?=some m:=⟨_,cm ae⟩;have jq:=V m (cM z);have sQ:=jq.CF;obtain⟨v1,v2,v3⟩:=sQ;have v1:0<=m.to:=v1;have v2:0<=cS m:=v2;have v3:m.to+cS m<=4611686018427387903:=v3;have K:m.to+cS m=off:=by grind[EW]
    obtain⟨F,M,aQ,aR,X,dN,Y⟩:=cD.ia Q z;have N:=hid X;have O:=hid Y;have S:aE (∀W,aD _ _ #[av _] W λe w'=>e=aA _/\ao W w'):=hid (λW=>ML m aQ aR W);obtain⟨fc,jK⟩:=ex (cS m);rw[jK]at S v2 v3 K;have I:0<=off:=ae;clear X dN Y z C jq jK;have Z:s<ms.length:=ae;have hs1:(((s+1:Nat):Int) -1)=(s:Int):=ae;rw[hs1];go_upto_region 3 with fail;refine ar ?_;iterate 2 refine ag ?_
    refine pl a 0 66 ?_ (hv:=eT);refine ag ?_;refine cd (aj aB) ?_;refine ak ?_;go_upto_region 5 with fail;refine ar ?_;refine ag ?_;refine ak ?_;go_upto_region 6 with fail;refine ar ?_;refine ag ?_;refine cd (aj aB) ?_;refine ak ?_;go_upto_region 7 with fail;refine bP a [11] (λi _=>match i with|11=>J R fc|_=>aZ) (λ_ _=>emp) (λ_=>[]) (λ|1=>[0]|7=>[0]|_=>[]) (λ_=>[]) [0,12] (λus=>?_);refine aL ?_;refine dl 0 66 ?_ (hv:=eT);refine aL ?_;refine aM _ (λ_ _ _=>cI 24 73 5 _ _ aa eB aw F M _ c s _ (by show ad A _ _=_;rw[N]) aa Z aa) ?_;refine aL ?_;refine aM _ (λ_ _ a=>nk aa aa (O _ a.only 1 _ aa) aw) ?_;refine aL ?_;refine dl 0 66 ?_ (hv:=eT);refine aL ?_;refine aM _ (λ_ _ _=>cI 24 73 5 _ _ aa eB aw F M _ c s _ (by show ad A _ _=_;rw[N]) aa Z aa) ?_;refine aM _ (λ_ _ a=>e7 73 (.tmp 24) aa F (M+s*5) aa _ (O.out _ a.only) fX aa aw) ?_;refine df (λwl Fr a=>(S wl).mono ?_) ?_;·rintro e dn ⟨rfl,g⟩;exact⟨{},aa,(a.aI g).dT⟩
    refine aM _ (λ_ _ _=>lK 3 _ _ 3 aa _ _ off aa aa ae ae ae) ?_;refine aL ?_;refine bS λc6 a=>?_;replace a:=a.drop 1;by_cases k:off<n
    .have b:=hid k;obtain⟨G,u⟩:=ex (tW ms off);have p:=hid (λW y=>by have q:=P W off y;rwa [u]at q);have x:=hid u;clear k u;by_cases l:G<0
     .have f:=hid l;have j:aE (ow n ms _=aB):=hid (by unfold ow;rw[v,x];simp[b.out,f.out]);clear l;rcases r.out with⟨rfl,H⟩|⟨eo,_⟩
      .clear H;go_upto_region 8 with fail;refine ar ?_;iterate 2 refine ag ?_
       refine pl a 0 1 ?_ (hv:=jh);refine aJ (aj aB) (by(have h:=b.out;go_simp;try omega)) ?_;refine ag ?_;refine bt a 0 (a6 o n g1 g2 (ad A ms.length c)) ?_ (hv:=(ef _)) (hk:=by omega) (hz:=(by rw[cN];rfl));refine ag ?_;refine a7 (p _ a.only) ?_;rintro e dX ⟨rfl,g⟩;replace a:=a.aI g;refine bb ?_;refine aJ (aj aB) (by(have h:=f.out;go_simp;try omega)) ?_;iterate 3 refine ag ?_
       refine pk (aj aB) ?_;refine ag ?_;iterate 3 refine ps ?_
       iterate 2 refine ag ?_
       refine ak ?_;go_upto_region 9 with fail;refine ar ?_;iterate 2 refine ag ?_
       refine ak ?_;go_upto_region 4 with fail;refine ar ?_;refine ag ?_;refine pad _ 1 (((s+1+1:Nat):Int) -1) ?_;refine ag ?_;refine ak ?_;go_wp2_with fail;go_roundw;case rel=>exact⟨_,_,ae,aa,congrArg _ ae,hid (uI.bad I j),a.pick [0]⟩
       case measure=>grind[cg]
      .have T:aE (¬d<0):=hid ae;by_cases D:off<d
       .have E:=hid D;clear D;go_upto_region 8 with fail;refine ar ?_;iterate 2 refine ag ?_
        refine pl a 0 1 ?_ (hv:=jh);refine aJ (aj aB) (by(have h:=b.out;go_simp;try omega)) ?_;refine ag ?_;refine bt a 0 (a6 o n g1 g2 (ad A ms.length c)) ?_ (hv:=(ef _)) (hk:=by omega) (hz:=(by rw[cN];rfl));refine ag ?_;refine a7 (p _ a.only) ?_;rintro e dH ⟨rfl,g⟩;replace a:=a.aI g;refine bb ?_;refine aJ (aj aB) (by(have h:=f.out;go_simp;try omega)) ?_;iterate 3 refine ag ?_
        refine aJ (aj au) (by(have h:=T.out;go_simp;try omega)) ?_;iterate 3 refine ag ?_
        refine aJ (aj aB) (by(have h:=E.out;go_simp;try omega)) ?_;iterate 2 refine ag ?_
        refine ak ?_;go_upto_region 9 with fail;refine ar ?_;iterate 2 refine ag ?_
        refine ak ?_;go_upto_region 4 with fail;refine ar ?_;refine ag ?_;refine pad _ 1 (((s+1+1:Nat):Int) -1) ?_;refine ag ?_;refine ak ?_;go_wp2_with fail;go_roundw;case rel=>exact⟨_,_,ae,aa,congrArg _ ae,hid (uI.bad I j),a.pick [0]⟩
        case measure=>grind[cg]
       .have E:=hid D;clear D;go_upto_region 8 with fail;refine ar ?_;iterate 2 refine ag ?_
        refine pl a 0 1 ?_ (hv:=jh);refine aJ (aj aB) (by(have h:=b.out;go_simp;try omega)) ?_;refine ag ?_;refine bt a 0 (a6 o n g1 g2 (ad A ms.length c)) ?_ (hv:=(ef _)) (hk:=by omega) (hz:=(by rw[cN];rfl));refine ag ?_;refine a7 (p _ a.only) ?_;rintro e e9 ⟨rfl,g⟩;replace a:=a.aI g;refine bb ?_;refine aJ (aj aB) (by(have h:=f.out;go_simp;try omega)) ?_;iterate 3 refine ag ?_
        refine aJ (aj au) (by(have h:=T.out;go_simp;try omega)) ?_;iterate 3 refine ag ?_
        refine aJ (aj au) (by(have h:=E.out;go_simp;try omega)) ?_;iterate 2 refine ag ?_
        refine ak ?_;go_upto_region 4 with fail;refine ar ?_;refine ag ?_;refine pad _ 1 (((s+1+1:Nat):Int) -1) ?_;refine ag ?_;refine ak ?_;go_wp2_with fail;go_roundw;case rel=>exact⟨_,d,ae,aa,congrArg _ ae,hid (uI.bad eo j),a.pick [0]⟩
        case measure=>grind[cg]
     .have f:=hid l;have j:aE (ow n ms _=au):=hid (by unfold ow;rw[v,x];simp[f.out]);clear l;go_upto_region 8 with fail;refine ar ?_;iterate 2 refine ag ?_
      refine pl a 0 1 ?_ (hv:=jh);refine aJ (aj aB) (by(have h:=b.out;go_simp;try omega)) ?_;refine ag ?_;refine bt a 0 (a6 o n g1 g2 (ad A ms.length c)) ?_ (hv:=(ef _)) (hk:=by omega) (hz:=(by rw[cN];rfl));refine ag ?_;refine a7 (p _ a.only) ?_;rintro e hT ⟨rfl,g⟩;replace a:=a.aI g;refine bb ?_;refine aJ (aj au) (by(have h:=f.out;go_simp;try omega)) ?_;iterate 2 refine ag ?_
      iterate 7 refine ps ?_
      refine ag ?_;refine ak ?_;go_upto_region 4 with fail;refine ar ?_;refine ag ?_;refine pad _ 1 (((s+1+1:Nat):Int) -1) ?_;refine ag ?_;refine ak ?_;go_wp2_with fail;go_roundw;case rel=>exact⟨_,d,ae,aa,congrArg _ ae,hid (r.out.ox j),a.pick [0]⟩
      case measure=>grind[cg]
    .have b:=hid k;have j:aE (ow n ms _=au):=hid (by unfold ow;rw[v];simp[b.out]);clear k;go_upto_region 8 with fail;refine ar ?_;iterate 2 refine ag ?_
     refine pl a 0 1 ?_ (hv:=jh);refine aJ (aj au) (by(have h:=b.out;go_simp;try omega)) ?_;refine ag ?_;iterate 4 refine ps ?_
     iterate 2 refine ag ?_
     iterate 7 refine ps ?_
     refine ag ?_;refine ak ?_;go_upto_region 4 with fail;refine ar ?_;refine ag ?_;refine pad _ 1 (((s+1+1:Nat):Int) -1) ?_;refine ag ?_;refine ak ?_;go_wp2_with fail;go_roundw;case rel=>exact⟨_,d,ae,aa,congrArg _ ae,hid (r.out.ox j),a.pick [0]⟩
     case measure=>grind[cg]
  .have cJ:¬((t:Int) -1)<(ms.length:Int):=ae;obtain rfl:t=ms.length+1:=ae;go_upto_region 3 with fail;refine ar ?_;iterate 2 refine ag ?_
   refine pl a 0 66 ?_ (hv:=eT);refine ag ?_;refine cd (aj au) ?_;refine ak ?_;go_upto_region 10 with fail;refine ar ?_;iterate 2 refine ag ?_
   refine ak ?_;go_wp2_with fail;go_ret;exact⟨d,aa,r,a.only⟩
end
end Go.Proofs.YtcmhplknoglbkaaGreat
