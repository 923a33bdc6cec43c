/- Part 9 of the proof of TopConvertsSaid. -/
import Derived.Deep.LoopGhost
import Derived.Shelf.Abstract
import Derived.Test.YtcmhplknoglbkaaGreat0
import Derived.Test.YtcmhplknoglbkaaGreat6
import Derived.Test.YtcmhplknoglbkaaGreat8
set_option linter.all false
set_option maxRecDepth 100000
set_option maxHeartbeats 4000000
open Go.Proofs.Tryz
open Bool renaming true->aB
open Go renaming Addr->bW,Calls->aD,Value->aP,World->aN,callFunc->kj,cell_of_one->pr,heap_alloc_new->ff,wpList_nil->ak,wp_region_lit->ar
open Go.Ending renaming returned->aA
open Go.IntKind renaming i64->R
open Go.Obj renaming cells->bf
open Go.Proofs.Tryz renaming prog->ax,underlying246->ahA,underlying82->ik
open Go.Value renaming agg->av,bool->aj,int->J,pointer->ay,slice->ad,tuple->bh
open List renaming getElem?_append_right->oa,getElem?_eq_getElem->cm,getElem?_eq_some_iff->eR,mem_of_getElem?->cM,range->dG,set_append_right->Xe,take_add_one->fv,take_append_drop->oR
open Nat renaming eq_zero_or_pos->lJ,le_refl->cp
open Option renaming none->af,some->ab
namespace Go.Proofs.YtcmhplknoglbkaaGreat
open Go.RowKit Go.MapKept
abbrev jQ:=(Int×Int)×Int
def ya:jQ:=((0,0),0)
def nb(w:aN)(A:Option bW)(S:List jQ):Prop:=
 0<S.length->∃b off,A=ab ⟨b,off,af⟩/\∀j,j<S.length->w.cell? ⟨b,off+j*3,af⟩=ab (J R (S[j]?.getD ya).1.1)/\w.cell? ⟨b,off+j*3+1,af⟩=ab (J R (S[j]?.getD ya).1.2)/\w.cell? ⟨b,off+j*3+2,af⟩=ab (J R (S[j]?.getD ya).2)
def nb.only{F w w' A S}(h:nb w A S)(k:aq F w w')(c:∀b off,A=ab ⟨b,off,af⟩->¬F b):nb w' A S:=λd=>by obtain⟨b,off,rfl,hc⟩:=h d;exact⟨b,_,rfl,λj a=>⟨k.cell (hc j a).1 (c b _ aa),k.cell (hc j a).2.1 (c b _ aa),k.cell (hc j a).2.2 (c b _ aa)⟩⟩
def nb.aI{w w' A S}(h:nb w A S)(k:ao w w'):nb w' A S:=h.only k (λ_ _ _ a=>a)
def n'(w:aN)(p:Nat)(S:List jQ):Prop:=∃A c,w.heap[p]?=ab (bf #[ad A S.length c] 411 (0,0))/\nb w A S/\S.length<=1048576
def n'.aI{w w' p S}(h:n' w p S)(k:ao w w'):n' w' p S:=by obtain⟨A,c,h1,a,b⟩:=h;exact⟨A,c,k.heap h1 (λh=>h),a.aI k,b⟩
def jS(S:List jQ):Prop:=S.Pairwise (λx y=>x.1.1+x.1.2<=y.1.1)/\∀x∈S,eE x.1/\0<x.1.2
def w6 p S w(h:n' w p S):aD ax 311 #[ay (ab ⟨p,0,af⟩)] w λe w'=>e=aA (J R S.length)/\w=w':=by obtain⟨A,c,h1,a,d⟩:=h;have f:=pr h1;have b:=hid a;clear h1 a;go_enter func311,ntmps311;go_wp2;go_ret;exact⟨aa,aa⟩
def IsCut(n:Nat)(p:Nat->Bool)(k:Nat):Prop:=k<=n/\(∀t,t<k->p t=false)/\(∀t,k<=t->t<n->p t=aB)
def MQ (g:Nat) dC n p w (G:n<=1048576) (A:∀args w,(kj g args).run ax w=.ok (.enter g args) w)
 (s:∀(W) (i:Nat),i<n->ao w W->aD ax g (#[J R i]++dC) W λe w'=>e=aA (aj (p i))/\ao W w')
 (c:∀a b,a<=b->b<n->p a=aB->p b=aB):
 aD ax 287 #[J R n,.func (.func g) #[] dC] w λe w'=>∃k:Nat,e=aA (J R k)/\IsCut n p k/\ao w w':=by
 have l:=hid (And.intro s c);clear s c;go_enter func287,ntmps287;go_wp2_with fail;go_loopg [5,6] (n+1) (λu y hv wr=>∃lo hi:Nat,y=J R lo/\hv=J R hi/\lo<=hi/\hi<=n/\hi -lo<u/\Hid ((∀t,t<lo->p t=false)/\(∀t,hi<=t->t<n->p t=aB))/\ao w wr);case atStart=>exact⟨0,n,aa,aa,Nat.zero_le _,cp _,ae,hid ⟨λt h=>ae,λt h1 q=>ae⟩,aq.refl _ _⟩
 case round=>
  obtain⟨lo,hi,rfl,rfl,h1,q,B,d,r⟩:=hrel;have f:=hid r;clear r;by_cases hlt:lo<hi
  .have C:(lo:Int)<(hi:Int):=ae;obtain⟨m,c⟩:∃m,m=(lo+hi)/2:=⟨_,aa⟩;have F:((lo:Int)+(hi:Int))/2=(m:Int):=ae;have D:lo<=m:=ae;have E:m<hi:=ae;have z:=hid c;have hc:=l.out.1 wr m ae f.out;clear c;cases hp:p m with
   |false=>
    rw[hp]at hc;have o:=hid hp;clear hp;go_wp2_with (go_at_fn g;refine hc.mono ?_;clear hc;rintro e w1 ⟨rfl,hg1⟩);have j:=hid (ao.trans f.out hg1);clear hg1;go_roundg (hi -(m+1)+1);case measure=>omega
    case rel=>exact⟨m+1,hi,aT,aa,ae,q,ae,hid ⟨λt H=>(by
     cases h:p t with
     |false=>rfl
     |true=>have:=l.out.2 t m ae ae h;rw[o.out]at this;cases this),d.out.2⟩,j.out⟩
   |true=>
    rw[hp]at hc;have o:=hid hp;clear hp;go_wp2_with (go_at_fn g;refine hc.mono ?_;clear hc;rintro e w1 ⟨rfl,hg1⟩);have j:=hid (ao.trans f.out hg1);clear hg1;go_roundg (m -lo+1);case measure=>omega
    case rel=>exact⟨lo,m,aa,aT,ae,ae,ae,hid ⟨d.out.1,λt v x=>l.out.2 m t v x o.out⟩,j.out⟩
  .obtain rfl:lo=hi:=ae;go_wp2;go_ret;exact⟨lo,aa,⟨q,d.out.1,d.out.2⟩,f.out⟩
def kF(E:List (Int×Int)):Int:=E.foldr (λe n=>e.2+n) 0
def YQ{E}(h:∀e∈E,0<=e.2):0<=kF E:=by
 induction E with
 |nil=>exact Int.le_refl _
 |cons e r a=>grind[kF]
def Q6(E F):kF (E++F)=kF E+kF F:=by
 induction E with
 |nil=>simp[kF]
 |cons e r a=>grind[kF]
def YS{E}(h:∀e∈E,0<=e.2)k:0<=kF (E.take k)/\kF (E.take k)<=kF E:=by have h1:=Q6 (E.take k) (E.drop k);rw[oR]at h1;have b:=YQ (E:=E.take k) (λe a=>h e (List.mem_of_mem_take a));have c:=YQ (E:=E.drop k) (λe a=>h e (List.mem_of_mem_drop a));omega
def YR{E:List (Int×Int)}{k x}(hx:E[k]?=ab x):kF (E.take (k+1))=kF (E.take k)+x.2:=by rw[fv,hx,Option.toList_some,Q6];simp[kF]
def auY A c E w(m:jy w A E)(hle:E.length<=1048576)(hv:∀e∈E,0<=e.2)(n:kF E<=4611686018427387903):
 aD ax 137 #[ad A E.length c] w λe w'=>e=aA (bh #[J R (kF E),aj aB])/\ao w w':=by
 have p:=hid m;have t:=hid hv;have r:=hid n;clear m hv n;go_enter func137,ntmps137;have a:=bg w;go_upto_region 0 with fail;refine ar ?_;refine v2 ?_;refine ak ?_;go_upto_region 1 with fail;refine ar ?_;refine ag ?_;refine ak ?_;go_upto_region 2 with fail;refine ar ?_;refine v3 ?_;refine KU ?_;go_loopw [4,9] (λo i wr=>∃q:Nat,q<=E.length/\i=J R q/\o=J R (kF (E.take q))/\ai w (λ_=>False) wr []) (λo i wr=>E.length -(intOf i).toNat);case atStart=>grind[kF]
 case round=>
  clear a;obtain⟨q,B,rfl,rfl,a⟩:=hrel;obtain⟨s,b⟩:=ex (kF (E.take q));rw[b];have j:=hid b;by_cases hlt:q<E.length
  .have z:(q:Int)<(E.length:Int):=ae;obtain⟨x,hx⟩:∃x,E[q]?=ab x:=⟨_,cm hlt⟩;have k:=hid hx;obtain⟨fU,of,rfl,hcell⟩:=p.out ae;obtain⟨d,f⟩:=hcell q hlt;simp only[hx,Option.getD_some]at d f;obtain⟨dc,bo⟩:=x;simp only at d f;have g:=YS t.out (q+1);rw[YR k.out,j.out]at g;have u:=r.out;simp only at g;have y:¬s+bo>4611686018427387903:=ae;have hg1:-9223372036854775808<=s+bo:=ae;have l:=hid (And.intro d f);clear b hx hcell g u d f;go_upto_region 4 with fail;refine ar ?_;refine aJ (ay (ab ⟨fU,(of+q*2),af⟩)) (cI 176 35 2 (.tmp 7) (.tmp 9) aa underlying176 aT _ _ _ _ _ _ aa aa hlt aa) ?_;refine aJ (av #[J R dc,J R bo]) (ab2 35 aa aa (a.only.cell l.out.1 (λh=>h)) (a.only.cell l.out.2 (λh=>h)) Tryz.underlying35 aa aT) ?_;refine bA a #[J _ 0,J _ 0] (λv w1 a=>?_);refine ba a 0 (av _) (λC a=>?_);refine ak ?_;go_upto_region 5 with fail;refine ar ?_;refine v2 ?_;refine pl a 0 1 ?_;refine pad s bo (s+bo) ?_;refine ag ?_;refine ak ?_;go_upto_region 6 with fail;refine ar ?_;refine v2 ?_;refine ak ?_;go_wp2_with fail;go_roundw;case rel=>exact⟨q+1,ae,by go_num,by rw[YR k.out,j.out],a.drop 0⟩
   case measure=>grind[intOf]
  .obtain rfl:q=E.length:=ae;rw[List.take_length]at b;go_upto_region 9 with fail;refine ar ?_;refine v3 ?_;refine ak ?_;go_wp2_with fail;go_ret2;exact⟨by rw[b];rfl,a.only⟩
def cD(w:aN)(A:Option bW)(ms:List bI):Prop:=0<ms.length->∃b off,A=ab ⟨b,off,af⟩/\∀(j:Nat) (m:bI),ms[j]?=ab m->∃a c,(w.cell? ⟨b,off+j*5,af⟩=ab (J R m.k)/\w.cell? ⟨b,off+j*5+1,af⟩=ab (J R m.to)/\w.cell? ⟨b,off+j*5+2,af⟩=ab (J R m.fr)/\w.cell? ⟨b,off+j*5+3,af⟩=ab (J R m.n)/\w.cell? ⟨b,off+j*5+4,af⟩=ab (ad a m.data.length c))/\qf w m a c
def cD.aI{w w' A ms}(h:cD w A ms)(g:ao w w'):cD w' A ms:=λo=>by obtain⟨b,off,e,hc⟩:=h o;refine⟨b,_,e,λj m n=>?_⟩;obtain⟨a,c,⟨d,h1,f,i,k⟩,l⟩:=hc j m n;exact⟨a,c,⟨g.cell d (λh=>h),g.cell h1 (λh=>h),g.cell f (λh=>h),g.cell i (λh=>h),g.cell k (λh=>h)⟩,l.aI g⟩
theorem cD.ia{w A ms}(h:cD w A ms){j m}(f:ms[j]?=ab m):∃d l a c,A=ab ⟨d,l,af⟩/\(∀W,ao w W->qf W m a c)/\∀W,ao w W->W.rangeAt d (l+j*5) [J R m.k,J R m.to,J R m.fr,J R m.n,ad a m.data.length c]:=by
 have u:=(eR.1 f).1;obtain⟨b,off,e,hc⟩:=h ae;obtain⟨a,c,⟨o,h1,p,q,r⟩,s⟩:=hc j m f;refine⟨b,_,a,c,e,λW g=>s.aI g,λW g i v hi=>?_⟩;have t:i<5:=(eR.1 hi).1;obtain rfl|rfl|rfl|rfl|rfl:i=0\/i=1\/i=2\/i=3\/i=4:=ae;·cases hi;exact g.cell o (λh=>h)
 .cases hi;exact g.cell h1 (λh=>h)
 .cases hi;exact g.cell p (λh=>h)
 .cases hi;exact g.cell q (λh=>h)
 .cases hi;exact g.cell r (λh=>h)
def GP(s:Int)(m:bI):List bI:=(dG (nF m s).toNat).map (λ(k:Nat)=>x9 m s (k:Int))
def ey(s:Int)(ms:List bI):List bI:=ms.flatMap (GP s)
def lL(s:Int)(ms:List bI)(i:Nat):Nat:=(ey s (ms.take i)).length
theorem alj s m:(GP s m).length=(nF m s).toNat:=by simp[GP]
theorem Yp s(a b):ey s (a++b)=ey s a++ey s b:=by simp[ey]
theorem QE{s ms i m}(h:ms[i]?=ab m):lL s ms (i+1)=lL s ms i+(nF m s).toNat:=by grind[lL,fv,ey,alj]
theorem QD s ms:lL s ms ms.length=(ey s ms).length:=by grind[lL]
def X9{s ms i j}(h:i<=j):lL s ms i<=lL s ms j:=by grind[lL,Yp,oR]
def alu{s ms k i m}(a:ms[k]?=ab m)(h1:lL s ms k<=i)(b:i<lL s ms (k+1)):(ey s ms)[i]?=ab (x9 m s ((i -lL s ms k:Nat):Int)):=by
 have hk:=(eR.1 a).1;have dT:ms=ms.take k++(m::ms.drop (k+1)):=by grind[oR,List.drop_eq_getElem_cons]
 have e:ey s ms=ey s (ms.take k)++(GP s m++ey s (ms.drop (k+1))):=by
  conv=>lhs;rw[dT]
  rw[Yp];rfl
 grind[QE,lL,GP]
structure Bf (w:aN) (p:Nat) (s:Int) (ms:List bI):Prop where
 ex:∃F gZ G qw A c,(w.cell? ⟨p,0,af⟩=ab (J R s)/\w.cell? ⟨p,1,af⟩=ab (ad F (ms.length+1) gZ)/\w.cell? ⟨p,2,af⟩=ab (ad G (ms.length+1) qw)/\w.cell? ⟨p,3,af⟩=ab (ad A ms.length c))/\
  cX w F ((dG (ms.length+1)).map (λi=>(lL s ms i:Int)))/\cD w A ms
 en:(ey s ms).length<=1048576/\ms.length<=1048576
 size:1<=s
 valid:∀m∈ms,hY m/\m.data.length<=140737488355328
def Bf.aI{w w' p s ms}(h:Bf w p s ms)(g:ao w w'):Bf w' p s ms:=by obtain⟨F,gZ,G,qw,A,c,⟨a,h1,b,d⟩,e,f⟩:=h.ex;exact⟨⟨F,gZ,G,qw,A,c,⟨g.cell a (λh=>h),g.cell h1 (λh=>h),g.cell b (λh=>h),g.cell d (λh=>h)⟩,e.aI g,f.aI g⟩,h.en,h.size,h.valid⟩
def auB s(F G)(n gZ qw)f w(h:n<=1048576)(c:cX w F ((dG (n+1)).map f)):
 aD ax 140 #[av #[J R s,ad F (n+1) gZ,ad G (n+1) qw]] w λe w'=>e=aA (J R (f n))/\ao w w':=by
 obtain⟨b,o,rfl,hcell⟩:=c aU;have z:=by have:=hcell n aU;simpa using this
 clear hcell c;have d:n<n+1:=Nat.lt_succ_self n;go_enter func140,ntmps140;have a:=bg w;go_upto_region 0 with fail;refine ar ?_;refine bO a (av _) (λg w1 a=>?_);refine cK ?_;refine pl a 0 1 ?_;refine ag ?_;refine pl a 0 1 ?_;refine ag ?_;refine mN _ 1 (n:Int) ?_;refine aJ _ (cI 82 3 1 _ _ aa ik aw _ _ _ _ _ ((o+n)) aa aa d ae) ?_;refine ME z a.only ?_;refine IZ ?_;exact⟨aa,a.only⟩
def anb F(n gZ da jN q)g f w(l:n<=1048576)(d:cX w F ((dG (n+1)).map f))(j:w.cell? ⟨da,1,af⟩=ab (ad F (n+1) gZ))(k:w.cell? ⟨jN,0,af⟩=ab (J R g))(m:q<n):
 aD ax 288 #[J R (q:Int),ay (ab ⟨da,0,af⟩),ay (ab ⟨jN,0,af⟩)] w λe w'=>e=aA (aj (decide (g<f (q+1))))/\ao w w':=by
 obtain⟨b,o,rfl,hcell⟩:=d aU;have h:w.cell? ⟨b,o+(q+1),af⟩=ab (J R (f (q+1))):=by have:=hcell (q+1) aG;simpa [show q+1<n+1 by omega]using this
 clear hcell d;obtain⟨c,i⟩:=ex (q+1);rw[i]at h⊢;have hb2:c<n+1:=ae;go_enter func288,ntmps288;have a:=bg w;go_upto_region 0 with fail;refine ar ?_;refine ih ?_;refine bP a [] (λ_ _=>undef) (λ_ _=>emp) (λ_=>[]) (λ_=>[]) (λ_=>[]) [] (λp=>?_);refine aL ?_;refine l8 j ?_;refine aL ?_;refine tO _ 1 (c:Int) ?_;refine aM _ (λ_ _ _=>cI 82 3 1 _ _ aa ik aw _ _ _ _ _ ((o+c)) aa aa hb2 ae) ?_;refine l8 h ?_;refine l8 k ?_;refine br ?_;refine bS λw1 a=>?_;refine bD ?_;exact⟨aa,a.only⟩
def amu args w:(kj 288 args).run ax w=.ok (.enter 288 args) w:=aT
def IsCut.place{n}{f:Nat->Int}{i q}(h:IsCut n (λq=>decide (i<f (q+1))) q)(h1:f 0<=i)(g:i<f n):q<n/\f q<=i/\i<f (q+1):=by
 obtain⟨a,b,c⟩:=h;simp only[decide_eq_true_eq,decide_eq_false_iff_not]at b c
 have e:q<n:=by
  rcases Nat.lt_or_ge q n with h|h;·omega
  .exfalso;obtain rfl:q=n:=ae;rcases lJ q with d|d;·grind
   .have:=b (q -1) ae;grind
 refine⟨e,?_,c q (cp _) e⟩;rcases lJ q with d|d;·grind
 .have:=b (q -1) ae;grind
def am8(s d)(F G)(n gZ qw)f w(j:n<=1048575)(p:cX w F ((dG (n+1)).map f))(r:∀a b,a<=b->b<=n->f a<=f b)(h1:f 0<=d)(o:d<f n):
 aD ax 221 #[av #[J R s,ad F (n+1) gZ,ad G (n+1) qw],J R d] w λe w'=>∃q:Nat,e=aA (J R (q:Int))/\(q<n/\f q<=d/\d<f (q+1))/\ao w w':=by
 have t:=hid p;have y:=hid j;have u:=hid r;have m:=hid (And.intro h1 o);have z:=j;clear p j r h1 o;go_enter func221,ntmps221;have c:=bg w;go_upto_region 0 with fail;refine ar ?_;refine bO c (av _) (λk w1 c=>?_);refine bO c (J _ d) (λl A c=>?_);refine cK ?_;refine pl c 1 1 ?_;refine ag ?_;refine mN _ 1 (n:Int) ?_;refine ag ?_;refine a7 (MQ 288 #[ay (ab ⟨k,0,af⟩),ay (ab ⟨l,0,af⟩)] n (λq=>decide (d<f (q+1))) _ ae amu (λW q x i=>anb F n gZ k l q d f W ae (t.out.aI (c.only.trans i (λ_ _ h=>h))) (aq.cell i ((c.a1 1).cell 1 aa) (λh=>h)) (aq.cell i ((c.a1 0).cell 0 aa) (λh=>h)) x) (λa b hab hb v=>by simp at v⊢;have:=u.out (a+1) (b+1) ae ae;omega)) ?_;rintro e B ⟨q,rfl,hcut,g⟩;replace c:=c.aI g;refine bb ?_;refine IZ ?_;exact⟨q,aa,IsCut.place hcut m.out.1 m.out.2,c.only⟩
def E4 p s ms w(f:Bf w p s ms):
 aD ax 60 #[ay (ab ⟨p,0,af⟩)] w λe w'=>e=aA (J R ((ey s ms).length:Int))/\ao w w':=by
 obtain⟨F,gZ,G,qw,A,c,⟨k,l,m,u⟩,n,x⟩:=f.ex;have t:=f.en;have d:=hid (λW r=>auB s F G ms.length gZ qw (λi=>(lL s ms i:Int)) W ae r);rw[QD]at d;have o:=hid n
 have q:Hid (∀W,ao w W->W.rangeAt p 0 [J R s,ad F (ms.length+1) gZ,ad G (ms.length+1) qw]):=hid (λW g j v b=>by
  match j,b with
  |0,b=>simpa using(g.cell k (λh=>h)).trans aG
  |1,b=>simpa using(g.cell l (λh=>h)).trans aG
  |2,b=>simpa using(g.cell m (λh=>h)).trans aG);clear t k l m u n x;go_enter func60,ntmps60;have a:=bg w;go_upto_region 0 with fail;refine ar ?_;refine ag ?_;refine aF ?_;refine v2 ?_;refine jt ?_;refine aJ (av #[J R s,ad F (ms.length+1) gZ,ad G (ms.length+1) qw]) (by(refine e7 _ _ aa p 0 aa _ (q.out _ a.only) ahA aa aw)) ?_;refine bC (d.out _ (o.out.aI a.only)) a (λw1 a=>?_);refine IZ ?_;exact⟨aa,a.only⟩
def adi(p x)s ms w(t:Bf w p s ms)(qH:ms.length<=1048575)(hi:x<(ey s ms).length):
 aD ax 139 #[ay (ab ⟨p,0,af⟩),J R (x:Int)] w λe w'=>∃(q:Nat) (S:Option bW) (Y:Nat) (m:bI),e=aA (bh #[av #[J R (x:Int),J R (q:Int),J R m.k,J R m.to,J R m.fr,J R m.n,ad S m.data.length Y],aj aB])/\(ey s ms)[x]?=ab m/\e3 w.heap.size w' S Y m.data/\ao w w':=by
 obtain⟨F,gZ,G,qw,A,c,⟨O,P,z2,z3⟩,Q,NK⟩:=t.ex;obtain⟨en,YX⟩:=t.en;have L:=t.size;have aio:=hid (λW E=>E4 p s ms W (t.aI E));have fm:0<ms.length:=by grind[ey]
 obtain⟨X,bM,rfl,ZZ⟩:=NK fm;obtain⟨B,z,rfl,Z0⟩:=Q aU;have cr:=hid (λW E=>am8 s (x:Int) (ab ⟨B,z,af⟩) G ms.length gZ qw (λi=>(lL s ms i:Int)) W qH (Q.aI E) (λa b hab _=>by have:=X9 (s:=s) (ms:=ms) hab;omega) (by simp[lL,ey]) (by grind[QD]))
 have PF:Hid (∀W,ao w W->W.rangeAt p 0 [J R s,ad (ab ⟨B,z,af⟩) (ms.length+1) gZ,ad G (ms.length+1) qw]):=hid (λW g j v o=>by
  match j,o with
  |0,o=>simpa using(g.cell O (λh=>h)).trans aG
  |1,o=>simpa using(g.cell P (λh=>h)).trans aG
  |2,o=>simpa using(g.cell z2 (λh=>h)).trans aG);have fl:(x:Int)<((ey s ms).length:Int):=ae;have cP:=hid (And.intro hi (And.intro en YX));have uY:=hid t.valid;have gT:=hid ZZ;have ri:=hid Z0;clear en YX hi ZZ Z0 NK Q t z2;go_enter Tryz.func139,Tryz.ntmps139;have f:=bg w;go_upto_region 0 with fail;refine ar ?_;refine bA f #[J _ 0,J _ 0,J _ 0,J _ 0,J _ 0,J _ 0,ad _ 0 0] (λee w1 f=>?_);refine ag ?_;refine aF ?_;refine v5 ?_;refine bC (aio.out _ f.only) f (λaS f=>?_);refine v2 ?_;refine jt ?_;refine aJ (av #[J R s,ad (ab ⟨B,z,af⟩) (ms.length+1) gZ,ad G (ms.length+1) qw]) (by(refine e7 _ _ aa p 0 aa _ (PF.out _ f.only) ahA aa aw)) ?_;refine ag ?_;refine a7 (cr.out _ f.only) ?_;rintro e bN ⟨q,rfl,hq,g⟩;replace f:=f.aI g;refine Fu ?_;obtain⟨nM,I,K⟩:=hq;try simp only at I K
 obtain⟨m,y⟩:∃m,ms[q]?=ab m:=⟨_,cm nM⟩;obtain⟨U,aR,⟨gL,dc,bo,lg,oH⟩,CL⟩:=gT.out q m y;have N:w.cell? ⟨B,z+q,af⟩=ab (J R (lL s ms q:Int)):=by have:=ri.out q aG;grind
 have hst:=alu (s:=s) y (i:=x) ae ae;have M:=QE (s:=s) y;have hv:=uY.out m (cM y);have cU:=(QB hv.1 L).1;obtain⟨D,zR⟩:=ex (lL s ms q);rw[zR]at I M hst N;rw[M]at K;obtain⟨d,hd⟩:=ex (x -D);rw[hd]at hst;obtain⟨l,H⟩:=ex (x9 m s (d:Int));rw[H]at hst;have eK:=hid hst;have V:=hid (λW g=>akQ m U aR s (d:Int) W (CL.aI g) hv.1 hv.2 L ae);rw[H]at V;have aza:(x:Int) -(D:Int)=(d:Int):=ae;have ayt:D<=x:=ae;have ay9:x<=1048576:=by have:=cP.out;omega
 have aiE:Hid (∀W,ao w W->W.rangeAt X _ [J R m.k,J R m.to,J R m.fr,J R m.n,ad U m.data.length aR]):=hid (λW g j v o=>by
  match j,o with
  |0,o=>simpa using(g.cell gL (λh=>h)).trans aG
  |1,o=>simpa using(g.cell dc (λh=>h)).trans aG
  |2,o=>simpa using(g.cell bo (λh=>h)).trans aG
  |3,o=>simpa using(g.cell lg (λh=>h)).trans aG
  |4,o=>simpa using(g.cell oH (λh=>h)).trans aG);have aaW:q<ms.length+1:=ae;have aiY:=hid N;have C:=hid (And.intro O (And.intro P z3));clear y hst M hv cU zR H hd I K L gL dc bo lg oH CL N O P z3;refine dh ?_;refine bP f [22,26,27] (λi u=>match i with|22=>bh #[av #[J R l.k,J R l.to,J R l.fr,J R l.n,ad u.A l.data.length u.c],aj aB]|26=>ay (ab ⟨u.b,0,af⟩)|_=>undef) (λr=>λ|22=>cf ((r 22).A) ((r 22).c) l.data|26=>ah ((r 26).b) #[J R 0,J R 0,J R 0,J R 0,ad af 0 0] 73|27=>ah ((r 26).b) #[J R l.k,J R l.to,J R l.fr,J R l.n,ad (r 22).A l.data.length (r 22).c] 73|_=>emp) (λ|27=>[27]|_=>[]) (λ_=>[]) (λ|22=>[22]|26=>[26]|27=>[22,26]|_=>[]) [0,23,28] (λr=>?_);refine c7 ?_;refine l8 C.out.2.2 ?_;refine aL ?_;refine aM _ (λ_ _ _=>cI 24 73 5 _ _ aa Tryz.underlying24 aw _ _ _ _ _ _ aa aa nM aa) ?_;refine aM _ (λ_ _ f=>e7 73 _ aa X _ aa _ (aiE.out _ f.only) Tryz.underlying73 aa aw) ?_;refine ix ?_;refine l8 C.out.1 ?_;refine oI ?_;refine l8 C.out.2.1 ?_;refine aL ?_;refine aM _ (λ_ _ _=>cI 82 3 1 _ _ aa ik aw _ _ _ _ _ ((z+q)) aa aa aaW ae) ?_;refine l8 aiY.out ?_;refine GU _ _ _ ?_;refine DT (λ_ _ f=>V.out _ f.only) ?_;refine c7 ?_;refine qy _ ?_;refine fZ _ ?_;refine aL ?_;refine bS λcc f=>?_;generalize (r 22).A=T at f⊢;generalize (r 22).c=Z at f⊢;generalize (r 26).b=awy at f⊢;refine jb ?_;refine bt f 2 #[J R l.k,J R l.to,J R l.fr,J R l.n,ad T l.data.length Z] ?_;refine v2 ?_;refine ba f 0 (av _) (λcG f=>?_);refine bR ?_;go_wp2_with fail;refine bodyPost_ret (v:=_) (mP aa aa aa (f.a1 0) aw aw) aa (⟨q,T,Z,l,aa,eK.out,(f.fresh 1).Cx,f.only⟩)
section
structure dY where
 l:List Int
 len:l.length=32
def dY.zero:dY:=⟨List.replicate 32 0,aa⟩
def a6(o n:Int)(g h:dY)(S:aP):Array Value:=(J R o::J R n::(g.l.map a'++(h.l.map a'++[S]))).toArray
abbrev dD(o n:Int)(g h:dY)(S:aP):Value:=av (a6 o n g h S)
section
variable {o n:Int} {g h:dY} {S:aP}
theorem cN:(a6 o n g h S).size=67:=by simp[a6,g.len,h.len]
def mA:(a6 o n g h S)[0]?=ab (J R o):=aT
def jh:(a6 o n g h S)[1]?=ab (J R n):=aT
def eT:(a6 o n g h S)[66]?=ab S:=by simp only[a6,List.getElem?_toArray,List.getElem?_cons_succ];rw[oa (by simp[g.len]),oa (by simp[g.len,h.len])];simp[g.len,h.len]
def alL{a}:(a6 o n g h S).setIfInBounds 66 a=a6 o n g h a:=by simp only[a6,List.setIfInBounds_toArray,List.set_cons_succ];congr 3;rw[Xe _ _ (by simp[g.len]),Xe _ _ (by simp[g.len,h.len])];simp[g.len,h.len]
def vg(b:S.oneCell'=aB):(a6 o n g h S).all (·.oneCell')=true:=by
 rw[Array.all_eq_true_iff_forall_mem];intro v hv;have hv':v∈(J R o::J R n::(g.l.map a'++(h.l.map a'++[S]))):=by grind[a6]
 simp at hv';rcases hv' with rfl|rfl|⟨a,_,rfl⟩|⟨a,_,rfl⟩|rfl;all_goals first|rfl|omega
end
def jk(m:bI)(A:Option bW)(c:Nat):List Value:=[J R m.k,J R m.to,J R m.fr,J R m.n,ad A m.data.length c]
def cA(l:List (bI×Option bW×Nat)):List Value:=l.flatMap (λx=>jk x.1 x.2.1 x.2.2)
def Bu(a b):cA (a++b)=cA a++cA b:=by simp[cA]
def DR m A c:cA [(m,A,c)]=jk m A c:=aT
theorem Yn l:(cA l).length=l.length*5:=by
 unfold cA;induction l with
 |nil=>rfl
 |cons a r b=>grind[jk]
def DQ{l j x}(hx:l[j]?=ab x):∀i v,(jk x.1 x.2.1 x.2.2)[i]?=ab v->(cA l)[j*5+i]?=ab v:=by
 induction l generalizing j with
 |nil=>grind
 |cons a r c=>
  intro i v hv;have b:(jk a.1 a.2.1 a.2.2).length=5:=rfl;unfold cA;rw[List.flatMap_cons];cases j with
  |zero=>grind
  |succ j=>
   simp at hx;rw[oa ae,b,show(j+1)*5+i -5=j*5+i by omega];exact c hx i v hv
def Qe(N:Nat)(w:aN)(A:Option bW)(c:Nat)(ms:List bI):Prop:=
 ∃l:List (bI×Option bW×Nat),l.map (·.1)=ms/\Row N w A ms.length c 73 5 (cA l)/\∀x∈l,e3 N w x.2.1 x.2.2 x.1.data
def Qe.s6{N w A c ms}(h:Qe N w A c ms):cD w A ms:=λo=>by
 obtain⟨l,h1,b,e⟩:=h;rcases b.cases with⟨_,n,_,_⟩|⟨g,cur,d,_⟩;·omega
 .refine⟨g,0,d,λj m a=>?_⟩;subst h1;rw[List.getElem?_map]at a;cases hx:l[j]? with
  |none=>rw[hx]at a;cases a
  |some x=>
   rw[hx]at a;simp at a;subst a;have f:=DQ hx
   have hc:∀i v,(jk _ _ _)[i]?=ab v->w.cell? ⟨g,0+j*5+i,_⟩=ab v:=λi v hv=>by obtain⟨k,bD,b9⟩:=b.cell (f i v hv);rw[d]at bD;injection bD with bD;injection bD with bD;subst bD;rw[Nat.zero_add];exact b9
   exact⟨_,_,⟨hc 0 _ aa,hc 1 _ aa,hc 2 _ aa,hc 3 _ aa,hc 4 _ aa⟩,(e x (cM hx)).cmd⟩
end
def n'.at{w p S}(h:n' w p S){i x}(hx:S[i]?=ab x):∃b o c,w.cell? ⟨p,0,af⟩=ab (ad (ab ⟨b,o,af⟩) S.length c)/\w.cell? ⟨b,o+i*3,af⟩=ab (J R x.1.1)/\w.cell? ⟨b,o+i*3+1,af⟩=ab (J R x.1.2)/\w.cell? ⟨b,o+i*3+2,af⟩=ab (J R x.2):=by obtain⟨A,c,h1,a,d⟩:=h;have hi:=(eR.1 hx).1;obtain⟨b,o,rfl,hc⟩:=a ae;grind[pr]
def ajF(i:Nat)(q4 da p)S off W x(hx:S[i]?=ab x)(q:eE x.1)(g:W.cell? ⟨q4,0,af⟩=ab (ay (ab ⟨p,0,af⟩)))(h1:W.cell? ⟨da,0,af⟩=ab (J R off))(j:n' W p S)r(hr:decide (off<x.1.1+x.1.2)=r):
 aD ax 344 #[J R i,ay (ab ⟨q4,0,af⟩),ay (ab ⟨da,0,af⟩)] W λe w'=>e=aA (aj r)/\ao W w':=by
 obtain⟨b,o,c,l,a,d,_⟩:=j.at hx;obtain⟨⟨dc,bo⟩,lg⟩:=x;obtain⟨m,v2,v3⟩:=q;simp only at a d m v2 v3 hr;have hi:=(eR.1 hx).1;have hb0:(i:Int)<(S.length:Int):=ae
 have f:Hid (∀w',ao W w'->w'.cell? ⟨q4,0,af⟩=ab (ay (ab ⟨p,0,af⟩))/\w'.cell? ⟨da,0,af⟩=ab (J R off)/\w'.cell? ⟨p,0,af⟩=ab (ad (ab ⟨b,o,af⟩) S.length c)/\w'.cell? ⟨b,o+i*3,af⟩=ab (J R dc)/\w'.cell? ⟨b,o+i*3+1,af⟩=ab (J R bo)):=
  hid (λw' h=>⟨h.cell g (λh=>h),h.cell h1 (λh=>h),h.cell l (λh=>h),h.cell a (λh=>h),h.cell d (λh=>h)⟩);clear g h1 l a d j hx;generalize S.length=n at*;go_enter func344,ntmps344;go_wp2_with fail
 go_region_held3 (λw'=>w'.cell? ⟨q4,0,af⟩=ab (ay (ab ⟨p,0,af⟩))/\w'.cell? ⟨da,0,af⟩=ab (J R off)/\w'.cell? ⟨p,0,af⟩=ab (ad (ab ⟨b,o,af⟩) n c)/\w'.cell? ⟨b,o+i*3,af⟩=ab (J R dc)/\w'.cell? ⟨b,o+i*3+1,af⟩=ab (J R bo))
  (first
    |exact f.out _ (aq.drew _)
    |exact f.out _ k)
  (first
    |(go_at_call 117;refine(lN dc bo _ m v2 v3).mono ?_;rintro e s ⟨rfl,ha0⟩;have k:ao W s:=ao.trans (aq.drew _) ha0))
 all_goals
  go_wp2;go_ret;exact⟨aT,k⟩
def amp args w:(kj 344 args).run ax w=.ok (.enter 344 args) w:=aT
def uw(S:List jQ)(off:Int)(i:Nat):Bool:=decide (off<(S[i]?.getD ya).1.1+(S[i]?.getD ya).1.2)
def jS.at{S}(h:jS S){i:Nat}{x}(hx:S[i]?=ab x):eE x.1/\0<x.1.2:=h.2 x (cM hx)
def jS.lt{S}(h:jS S){i j:Nat}{x y}(hx:S[i]?=ab x)(c:S[j]?=ab y)(a:i<j):x.1.1+x.1.2<=y.1.1:=by obtain⟨hi,rfl⟩:=eR.1 hx;obtain⟨b,rfl⟩:=eR.1 c;exact List.pairwise_iff_getElem.1 h.1 i j hi b a
def asi{S}(h:jS S)off(a b)(hab:a<=b)(hb:b<S.length)(e:uw S off a=aB):uw S off b=true:=by
 unfold uw at*;rcases Nat.lt_or_eq_of_le hab with hlt|rfl;·have c:=cm (l:=S) (i:=a) ae;have hb':=cm (l:=S) (i:=b) hb;have h1:=h.lt c hb' hlt;have d:=(h.at hb').2;grind
 .omega
def ajE p S off w(c:n' w p S)(j:jS S):
 aD ax 310 #[ay (ab ⟨p,0,af⟩),J R off] w λe w'=>∃k:Nat,e=aA (J R k)/\IsCut S.length (uw S off) k/\ao w w':=by
 have hlen:=c;obtain⟨_,_,_,_,n⟩:=hlen;have b:=hid (And.intro c j);have o:∀(g:Fn) (first cap:Array aP) (w:aN),(Instr.makeFunc g first cap).run ax w=.ok (.func g first cap) w:=λ_ _ _ _=>aa;clear c j
 have a:Hid (ao w ((w.alloc (bf #[ay (ab ⟨p,0,af⟩)] 295)).alloc (bf #[J R off] 3))/\((w.alloc (bf #[ay (ab ⟨p,0,af⟩)] 295)).alloc (bf #[J R off] 3)).cell? ⟨w.heap.size,0,af⟩=ab (ay (ab ⟨p,0,af⟩))/\((w.alloc (bf #[ay (ab ⟨p,0,af⟩)] 295)).alloc (bf #[J R off] 3)).cell? ⟨w.heap.size+1,0,af⟩=ab (J R off)):=hid (by have g1:=ff w (bf #[ay (ab ⟨p,0,af⟩)] 295);have g2:=ff (w.alloc (bf #[ay (ab ⟨p,0,af⟩)] 295)) (bf #[J R off] 3);rw[World.size_alloc]at g2;exact⟨ao.trans (aq.alloc _ _) (aq.alloc _ _),(aq.alloc (F:=λ_=>False) _ _).cell (pr g1) (λh=>h),pr g2⟩);go_enter func310,ntmps310;go_wp2_with fail;go_at_call 311;clear o;generalize (w.alloc (bf #[ay (ab ⟨p,0,af⟩)] 295)).alloc (bf #[J R off] 3)=an at*;refine(w6 p S an (b.out.1.aI a.out.1)).mono ?_;rintro e w1 ⟨rfl,rfl⟩
 have m:Hid (aD ax 287 #[J R S.length,.func (.func 344) #[] #[ay (ab ⟨w.heap.size,0,af⟩),ay (ab ⟨w.heap.size+1,0,af⟩)]] an λe w'=>∃k:Nat,e=aA (J R k)/\IsCut S.length (uw S off) k/\ao an w'):=hid (by refine MQ _ _ S.length (uw S off) an n amp (λW i hi d=>?_) (asi b.out.2 off);have hx:=cm (l:=S) (i:=i) hi;exact ajF i _ _ p S off W _ hx (b.out.2.at hx).1 (d.cell a.out.2.1 (λh=>h)) (d.cell a.out.2.2 (λh=>h)) (b.out.1.aI (ao.trans a.out.1 d)) _ (by grind[uw]));go_wp2_with (go_at_call 287;have f:=m.out;with_reducible refine f.mono ?_;clear f;rintro e q ⟨k,rfl,hk,hg2⟩);go_ret;exact⟨k,aa,hk,ao.trans a.out.1 hg2⟩
def IsCut.before{S off k}(h:IsCut S.length (uw S off) k){i x}(hx:S[i]?=ab x)(hi:i<k):x.1.1+x.1.2<=off:=by have:=h.2.1 i hi;grind[uw]
def IsCut.behind{S off k}(h:IsCut S.length (uw S off) k){i x}(hx:S[i]?=ab x)(hi:k<=i):off<x.1.1+x.1.2:=by have:=h.2.2 i hi (eR.1 hx).1;grind[uw]
end Go.Proofs.YtcmhplknoglbkaaGreat
