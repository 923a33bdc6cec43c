/- Part 28 of the proof of TopConvertsSaid. -/
import Derived.Test.YtcmhplknoglbkaaGreat0
import Derived.Test.YtcmhplknoglbkaaGreat5
import Derived.Test.YtcmhplknoglbkaaGreat6
import Derived.Test.YtcmhplknoglbkaaGreat10
import Derived.Test.YtcmhplknoglbkaaGreat27
set_option linter.all false
set_option maxRecDepth 100000
set_option maxHeartbeats 4000000
open Go.Proofs.Tryz
open Bool renaming false->au,true->aB
open Go renaming Calls->aD,World->aN,undef->aZ,wpList_nil->ak,wp_region_lit->ar
open Go.Ending renaming returned->aA
open Go.IntKind renaming i64->R,u64->aH
open Go.Operand renaming tmp->bc
open Go.Proofs.Tryz renaming prog->ax,underlying24->eB,underlying73->fX
open Go.RowKit renaming intOf->cx
open Go.Value renaming agg->av,bool->aj,int->J,pointer->ay,slice->ad,tuple->bh
open Int renaming toNat_of_nonneg->PU
open List renaming append_assoc->j5,getElem?_append_left->tB,getElem?_cons_succ->xT,getElem?_eq_getElem->cm,getElem?_map->kB,getElem?_toArray->zq,length_append->dw,mem_cons->gz,mem_of_getElem?->cM,not_mem_nil->gb,perm_append_comm->u7,perm_append_singleton->Gt,replicate->fu
open Nat renaming le_refl->cp,le_trans->eD,zero_le->cQ,zero_lt_succ->Kd
open Option renaming none->af,some->ab
namespace Go.Proofs.YtcmhplknoglbkaaGreat
open Go.RowKit Go.MapKept
def alM {P:Program} {ops:Array Oper} {rest:List Oper} {Q:Exit->Act->aN->Prop} {o:Oper} {a j:Act} {an:aN} {FX:Nat->Prop} {dst:Nat->Option Tmp} {LE:List Nat} {e:Nat->e4->Value} {c:List bu} {out:(Nat->e4)->Nat->bu} {ins rd:Nat->List Nat} {fin:List Nat} {QP:List PanicEntry->aN->Prop} {b:Nat->e4} {i k:Nat} {s:bu} (f:e4)
 (hr:∀w (Fr:List bu),ai an FX w ((ins i).map (dm c out b)++((rd i).map (dm c out b)++Fr))->∃w',(execOp a.eval o).run P w=.ok (.value (e i f)) w'/\Turned w w' s (out (dA b i f) i)) (h:c9 P ops Q dst LE e an FX c out ins rd fin QP b (i+1) rest j)
 (hn:ins i=[k]:=by rfl) (hk:dm c out b k=s:=by rfl) (hd:dst i=o.dst:=by rfl) (hlt:(match o.dst with|some d=>decide (d<a.tmps.size)|none=>au)=true:=by kernel_rfl)
 (hi:decide (i∈LE)=true:=by kernel_rfl) (hw:Region.wanted o (yielded ops a.tmps)=true:=by kernel_rfl) (ha:a.put o.dst (e i (b i))=j:=by((try simp only[Act.put,List.setIfInBounds_toArray,List.set_cons_zero,List.set_cons_succ]);rfl)):c9 P ops Q dst LE e an FX c out ins rd fin QP b i (o::rest) a:=by
 refine wL (λw Fr g K n=>?_) h hi ha;rw[if_pos hw];obtain⟨w',h1,m⟩:=hr w Fr g;rw[hn]at g;have l:ai an FX w (s::((rd i).map (dm c out b)++Fr)):=aG;unfold Oper.wp;rw[h1];show K _ _;refine n.out f _ _ ?_ (put_defers _ _ _) (l.yV m);rw[hd];cases hq:o.dst with
 |none=>grind
 |some d=>simp only[hq,decide_eq_true_eq]at hlt;simp[lC,Act.eval,Act.put,hlt]
def er(L:List Nat):Array Value:=(L.map (λ(n:Nat)=>J R (n:Int))).toArray
def T4(B t:Nat)L cs w(hb:aX w B cs t)(hcs:er L=cs)(g:∀n∈L,(n:Int)<=4611686018427387903)(i:L.length<=1048576):
 aD ax 204 #[ad (ab ⟨B,0,af⟩) L.length L.length] w λe w'=>e=aA (aj aB)/\ao w w':=by
 subst hcs;have d:=hid hb;clear hb;go_enter func204,ntmps204;have a:=bg w;go_upto_region 0 with fail;refine ar ?_;refine dR ?_;iterate 3 refine ag ?_
 refine ak ?_;go_wp2_with fail;go_loopw [7] (λb wr=>∃j:Nat,j<=L.length/\b=J R (j:Int)/\ai w (λ_=>False) wr []) (λb wr=>L.length -(cx b).toNat);case atStart=>grind
 case round=>
  clear a;obtain⟨j,k,rfl,a⟩:=hrel;by_cases hlt:j<L.length
  .have h:(j:Int)<(L.length:Int):=ae;obtain⟨x,hx⟩:∃x,L[j]?=ab x:=⟨_,cm hlt⟩;have l:=g x (cM hx);have c:(er L)[j]?=ab (J R (x:Int)):=by grind[er]
   have f:=hid c;clear hx c;go_upto_region 2 with fail;refine ar ?_;refine dR ?_;refine aJ (ay (ab ⟨B,j,af⟩)) (cI 82 3 1 (bc 5) (bc 7) aa Tryz.underlying82 aw B 0 (L.length) (L.length) j j aa aa hlt ae) ?_;refine aJ _ (fz aa aa (aX.aI d.out a.only) f.out aw) ?_;refine dR ?_;iterate 2 refine ag ?_
   refine bC (xm 0 (x:Int) _ ⟨ae,ae,ae⟩) a (λw1 a=>?_);refine dR ?_;refine pad (j:Int) 1 ((j+1:Nat):Int) ?_;refine bR ?_;go_wp2_with fail;go_roundw;case rel=>exact⟨j+1,ae,aa,a⟩
   case measure=>grind[cx]
  .have h:¬(j:Int)<(L.length:Int):=ae;go_upto_region 2 with fail;refine ar ?_;refine ag ?_;refine aF ?_;refine ag ?_;refine ak ?_;go_wp2_with fail;go_ret;exact⟨aa,a.only⟩
def u64_in x(h:0<=x/\x<18446744073709551616):aH.wrap x=x:=by grind[IntKind.wrap,IntKind.bits,IntKind.signed]
def BA(n:Nat)w(c:(n:Int)<=4611686018427387903):
 aD ax 127 #[J R (n:Int)] w λe w'=>e=aA (av #[J aH (n:Int),J R 8])/\ao w w':=by
 go_enter func127,ntmps127;have a:=bg w;go_upto_region 0 with fail;refine ar ?_;refine bA a #[J aH 0,J R 0] (λb w1 a=>?_);refine b6 ?_;refine aJ (J aH (n:Int)) (by(go_simp;exact u64_in _ ae)) ?_;refine ag ?_;refine ba a 0 (av #[J aH (n:Int),J R 8]) (λd a=>?_);refine ak ?_;go_wp2_with fail;refine bodyPost_ret (v:=_) (results_cell_row aa _ _ _ _ _ _ _ aa (a.a1 0) underlying227 aa aw) aa (⟨aa,a.only⟩)
def alX(o n:Nat)(g1 g2)A c ms w(V:(o:Int)<=4611686018427387903/\(n:Int)<=4611686018427387903)(C:cD w A ms)(hv:∀m∈ms,hY m)(U:ms.length<=1048576):
 aD ax 125 #[dD (o:Int) (n:Int) g1 g2 (ad A ms.length c)] w λe w'=>e=aA (J R 0)/\ao w w':=by
 have I:=hid C;have L:=hv;clear C hv;go_enter func125,ntmps125;have a:=bg w;go_upto_region 0 with fail;refine ar ?_;refine bO a (av (a6 (o:Int) (n:Int) g1 g2 (ad A ms.length c))) (λE w1 a=>?_);refine cK ?_;refine pl a 0 0 ?_ (hv:=mA);refine ag ?_;refine pl a 0 1 ?_ (hv:=jh);refine ga a #[J R (o:Int),J R (n:Int)] 3 (λF W a=>?_);refine bC (T4 F 3 [o,n] _ _ (a.a1 0) aa (by intro x hx;simp only[gz,gb,or_false]at hx;omega) (by show _<=_;simp)) a (λX a=>?_);refine cK ?_;refine pl a 1 66 ?_ (hv:=eT);iterate 2 refine ag ?_
 refine ak ?_;go_wp2_with fail;go_loopw [3,15] (λok t wr=>∃j:Nat,j<=ms.length/\ok=aj aB/\t=J R (j:Int)/\ai w (λ_=>False) wr [ah E (a6 (o:Int) (n:Int) g1 g2 (ad A ms.length c)) 26]) (λok t wr=>ms.length -(cx t).toNat);case atStart=>exact⟨0,cQ _,aa,aa,a.pick [1]⟩
 case round=>
  clear a;obtain⟨j,T,rfl,rfl,a⟩:=hrel;by_cases hlt:j<ms.length
  .have N:(j:Int)<(ms.length:Int):=ae;obtain⟨m,s⟩:∃m,ms[j]?=ab m:=⟨_,cm hlt⟩;obtain⟨q,i,l,r,v,y,z⟩:=cD.ia I.out s;have G:=hid v;have S:=hid y;have H:=hid z;have K:=hid s;clear v y z s;have O:=L m (cM K.out);go_upto_region 3 with fail;refine ar ?_;refine dR ?_;refine aJ (ay (ab ⟨q,(i+j*5),af⟩)) (cI 24 73 5 (bc 13) (bc 15) aa eB aw q i (ms.length) c j ((i+j*5)) (by show ad A _ _=_;rw[G.out]) aa hlt aa) ?_;refine aJ (av #[J R m.k,J R m.to,J R m.fr,J R m.n,ad l m.data.length r]) (by(refine e7 73 (bc 17) aa q (i+j*5) aa ([J R m.k,J R m.to,J R m.fr,J R m.n,ad l m.data.length r]:List Value) (H.out _ a.only) fX aa aw)) ?_;refine bA a #[J R 0,J R 0,J R 0,J R 0,ad af 0 0] (λQ Y a=>?_);refine ba a 0 (av #[J R m.k,J R m.to,J R m.fr,J R m.n,ad l m.data.length r]) (λZ a=>?_);refine b6 ?_;refine pl a 0 0 ?_;refine ak ?_;rcases O with⟨hk,⟨u,v2,v3⟩,⟨r6,s',uD⟩,lR,pP⟩|⟨hk,⟨u,v2,v3⟩,yn,lR,pP⟩
   .simp only at u v2 v3 r6 s' uD;obtain⟨cF,d⟩:∃x:Nat,m.to=(x:Int):=⟨m.to.toNat,ae⟩;obtain⟨dj,B⟩:∃x:Nat,m.fr=(x:Int):=⟨m.fr.toNat,ae⟩;obtain⟨P,D⟩:∃x:Nat,m.n=(x:Int):=⟨m.n.toNat,ae⟩;have M:(m.data.length:Int)=0:=by rw[pP];rfl
    have g:=hid hk;have b:=hid d;have f:=hid B;have h:=hid D;clear hk d B D;refine aF ?_;refine dt g (aj aB) ?_;refine dR ?_;iterate 3 refine ag ?_
    refine pl a 0 1 ?_;refine ag ?_;refine pl a 0 2 ?_;refine ag ?_;refine pl a 0 3 ?_;refine ga a #[J R m.to,J R m.fr,J R m.n] 3 (λp c6 a=>?_);refine bC (T4 p 3 [cF,dj,P] _ _ (a.a1 0) (by rw[b.out,f.out,h.out];rfl) (by intro x hx;simp only[gz,gb,or_false]at hx;have:=b.out;have:=f.out;have:=h.out;omega) (by show _<=_;simp)) a (λdX a=>?_);iterate 3 refine ag ?_
    refine pl a 1 4 ?_;refine ag ?_;refine aJ (aj aB) (by(go_simp;try simp[M];try omega)) ?_;iterate 2 refine ag ?_
    refine aF ?_;refine pad (j:Int) 1 ((j+1:Nat):Int) ?_;refine bR ?_;go_wp2_with fail;go_roundw;case rel=>exact⟨j+1,ae,aa,aa,a.pick [2]⟩
    case measure=>simp[cx]<;>omega
   .simp only at u v2 v3;obtain⟨cF,d⟩:∃x:Nat,m.to=(x:Int):=⟨m.to.toNat,ae⟩;have g:=hid hk;have b:=hid d;have f:=hid yn;have h:=hid lR;clear hk d yn lR;refine aF ?_;refine dt g (aj au) ?_;refine dR ?_;refine dt g (aj aB) ?_;refine dR ?_;iterate 3 refine ag ?_
    refine pl a 0 1 ?_;refine ga a #[J R m.to] 3 (λp dH a=>?_);refine bC (T4 p 3 [cF] _ _ (a.a1 0) (by rw[b.out];rfl) (by intro x hx;simp only[gz,gb,or_false]at hx;have:=b.out;omega) (by show _<=_;simp)) a (λe9 a=>?_);iterate 3 refine ag ?_
    refine pl a 1 2 ?_;refine dt f (aj aB) ?_;iterate 3 refine ag ?_
    refine pl a 1 3 ?_;refine dt h (aj aB) ?_;iterate 2 refine ag ?_
    refine aF ?_;refine pad (j:Int) 1 ((j+1:Nat):Int) ?_;refine bR ?_;go_wp2_with fail;go_roundw;case rel=>exact⟨j+1,ae,aa,aa,a.pick [2]⟩
    case measure=>simp[cx]<;>omega
  .have N:¬(j:Int)<(ms.length:Int):=ae;go_upto_region 3 with fail;refine ar ?_;refine dR ?_;iterate 2 refine ag ?_
   refine aF ?_;refine ag ?_;refine ak ?_;go_wp2_with fail;go_ret;exact⟨aa,a.only⟩
def rF(m:bI):List Int:=if m.k=1 then iT [(1,1),(m.to.toNat,8),(m.fr.toNat,8),(m.n.toNat,8)]else iT [(2,1),(m.to.toNat,8),(m.data.length,8)]++m.data
def EL:List Int:=[71,82,70,84]
def oz(o n:Nat):List Int:=EL++iT [(1,1),(o,8),(n,8)]
def wP(o n:Nat)(g1 g2:dY):List Int:=oz o n++g1.l++g2.l
def qD(o n:Nat)(g1 g2:dY)(k:Nat):List Int:=wP o n g1 g2++iT [(k,4)]
def jI(o n:Nat)(g1 g2:dY)(ms:List bI):List Int:=qD o n g1 g2 ms.length++ms.flatMap rF
def amx(o n)(g1 g2)ms j:(qD o n g1 g2 ms.length++(ms.take j).flatMap rF).length<=(jI o n g1 g2 ms).length:=by grind[jI,List.take_append_drop]
def zM(fs:List (Nat×Nat)):List Value:=fs.flatMap (λf=>[J aH (f.1:Int),J R (f.2:Int)])
def ang{fs i f}(h:fs[i]?=ab f):(zM fs)[i*2]?=ab (J aH (f.1:Int))/\(zM fs)[i*2+1]?=ab (J R (f.2:Int)):=by
 induction fs generalizing i with
 |nil=>grind
 |cons x r a=>
  cases i with
  |zero=>cases h;exact⟨aa,aa⟩
  |succ i=>
   have:=a (i:=i) aG;exact⟨by rw[show(i+1)*2=i*2+1+1 by omega];exact this.1,by rw[show(i+1)*2+1=i*2+1+1+1 by omega];exact this.2⟩
def Na A c bs F gZ fs w(n:bs.length<=8796093022208/\fs.length<=1048576)(h:0<fs.length)(hb:bT w A bs)(o:∀f∈fs,ye f)(l:Row 0 w F fs.length gZ 227 2 (zM fs)):
 aD ax 126 #[ad A bs.length c,ad F fs.length gZ] w λe w'=>∃a b,e=aA (bh #[ad a (bs++iT fs).length b,aj aB])/\Row w.heap.size w' a (bs++iT fs).length b 5 1 ((bs++iT fs).map a')/\ao w w':=by
 obtain⟨g,cur,rfl,hb2,_,_,_,j⟩:=l.blk h;refine ae9 A c bs g 0 gZ fs w n hb o (λi f m=>?_);have d:=ang m
 have key:∀(k) v,(zM fs)[k]?=ab v->w.cell? _=ab v:=λk v hk=>by
  rw[<-j,List.getElem?_take]at hk;split at hk;·exact hb2.cell k aG
  .grind
 rw[Nat.zero_add];exact⟨key _ _ d.1,key _ _ d.2⟩
def Y2{w B cs}fs(hb:aX w B cs 227)(hc:cs.toList=zM fs)(a:fs.length<=1048576):Row 0 w (ab ⟨B,0,af⟩) fs.length fs.length 227 2 (zM fs):=by
 have b:(zM fs).length=fs.length*2:=by
  clear hc a;induction fs with
  |nil=>rfl
  |cons x r d=>grind[zM]
 have h:=Iw (n:=fs.length) (c:=_) (sz:=2) hb (cp _) (by grind[maxLen]) aG;grind
def Yr{w}{B t:Nat}{o n g1 g2 S}(h:aX w B (a6 o n g1 g2 S) t):bT w (ab ⟨B,2,af⟩) g1.l/\bT w (ab ⟨B,34,af⟩) g2.l:=by
 have h1:=g1.len;have b:=g2.len;refine⟨λ_=>⟨B,2,rfl,λj a=>h.cell (2+j) ?_⟩,λ_=>⟨B,34,rfl,λj a=>h.cell (34+j) ?_⟩⟩;·rw[a6,zq,show 2+j=j+1+1 by omega,xT,xT,tB aG,kB,cm ae];simp
 .rw[a6,zq,show 34+j=(32+j)+1+1 by omega,xT,xT,List.getElem?_append_right aG,List.length_map,h1,show 32+j -32=j by omega,tB aG,kB,cm ae];simp
def am0(o n:Nat)(g1 g2)A c ms w(ho:(o:Int)<=4611686018427387903/\(n:Int)<=4611686018427387903)(X:cD w A ms)(hv:∀m∈ms,hY m)(eg:ms.length<=1048576)(hle:(jI o n g1 g2 ms).length<=8796093022208):
 aD ax 53 #[dD (o:Int) (n:Int) g1 g2 (ad A ms.length c)] w λe w'=>∃r s,e=aA (bh #[ad r (jI o n g1 g2 ms).length s,J R 0])/\b5 w w' (cf r s (jI o n g1 g2 ms)):=by
 have cw:=hid X;have cB:=hid hv;have lq:=hid (λW g=>alX o n g1 g2 A c ms W ho (X.aI g) hv eg);have hg1:=g1.len;have hg2:=g2.len;have anE:(oz o n).length<=1000:=by grind[oz,EL,iT,rD]
 have O0:Hid (∀W k F,bT W (ab ⟨k,0,af⟩) EL->aX W F #[J aH 1,J R 1,J aH (o:Int),J R 8,J aH (n:Int),J R 8] 227->aD ax 126 #[ad (ab ⟨k,0,af⟩) 4 4,ad (ab ⟨F,0,af⟩) 3 3] W λe w'=>∃r s,e=aA (bh #[ad r (oz o n).length s,aj aB])/\Row W.heap.size w' r (oz o n).length s 5 1 ((oz o n).map a')/\ao W w'):=hid (λW k F h1 B=>Na _ 4 EL (ab ⟨F,0,af⟩) 3 [(1,1),(o,8),(n,8)] W ⟨bj,aU⟩ (Kd _) h1 (λf D=>by grind[ye]) (Y2 [(1,1),(o,8),(n,8)] B aa aU));have O1:Hid (∀W k t F,bT W k (wP o n g1 g2)->aX W F #[J aH (ms.length:Int),J R 4] 227->aD ax 126 #[ad k (wP o n g1 g2).length t,ad (ab ⟨F,0,af⟩) 1 1] W λe w'=>∃r s,e=aA (bh #[ad r (qD o n g1 g2 ms.length).length s,aj aB])/\Row W.heap.size w' r (qD o n g1 g2 ms.length).length s 5 1 ((qD o n g1 g2 ms.length).map a')/\ao W w'):=hid (λW k t F h1 B=>Na k t (wP o n g1 g2) (ab ⟨F,0,af⟩) 1 [(ms.length,4)] W ⟨by grind[wP],aU⟩ (Kd _) h1 (λf D=>by grind[ye]) (Y2 [(ms.length,4)] B aa aU));have P:=hid hle;have P:=hid hle;have YJ:=λj=>amx o n g1 g2 ms j;clear X hv hle;go_enter func53,ntmps53;have a:=bg w;go_step;refine aF ?_;refine bO a (av _) (λM w1 a=>?_);iterate 2 refine ag ?_
 refine aF ?_;refine bt a 0 (a6 (o:Int) (n:Int) g1 g2 (ad A ms.length c)) ?_ (hv:=(ef _)) (hk:=by omega) (hz:=(by rw[cN];rfl));refine bC (lq _ a.only) a (λaS a=>?_);refine cK ?_;refine pk (aj au) ?_;refine dh ?_;refine bP a [0,1,5,8,9,10] (λi u=>match i with|0=>ad (ab ⟨u.b,0,af⟩) 4 4|1=>ad (ab ⟨u.b,0,af⟩) 4 4|5=>av #[J aH (o:Int),J R 8]|8=>av #[J aH (n:Int),J R 8]|9=>ad (ab ⟨u.b,0,af⟩) 3 3|10=>bh #[ad u.A (oz o n).length u.c,aj aB]|_=>aZ) (λd=>λ|0=>ah ((d 0).b) #[J .u8 71,J .u8 82,J .u8 70,J .u8 84] 5|1=>ro (ab ⟨(d 1).b,0,af⟩) EL|9=>ah ((d 9).b) #[J aH 1,J R 1,J aH (o:Int),J R 8,J aH (n:Int),J R 8] 227|10=>bp ((d 10).A) ((oz o n).length) ((d 10).c) 5 1 ((oz o n).map a')|_=>emp) (λ|1=>[1]|_=>[]) (λ|4=>[0]|7=>[0]|10=>[2,10]|_=>[]) (λ|0=>[0]|1=>[1]|9=>[9]|10=>[10]|_=>[]) [0,2,6,9,10,11] (λd=>?_);refine lM _ 5 ?_;refine alM _ (λ_ _ a=>EX _ aa aa (a.a1 0) aa Tryz.underlying22 Tryz.underlying5) ?_;refine br ?_;refine dl 0 0 ?_ (hv:=mA);refine dE (λ_ _ _=>BA o _ ae) ?_;refine aL ?_;refine dl 0 1 ?_ (hv:=jh);refine dE (λ_ _ _=>BA n _ ae) ?_;refine lM _ _ ?_;refine df (λwl Fr a=>(O0 _ _ _ (a.at 0) (a.a1 1)).mono ?_) ?_;·rintro e dn ⟨hB,gI,rfl,hrow,g⟩;exact⟨{A:=hB,c:=gI},aa,a.k8 g hrow⟩
 refine oI ?_;refine bS λbN a=>?_;generalize (d 0).b=Uy at a⊢;generalize (d 1).b=qe at a⊢;generalize (d 9).b=awB at a⊢;generalize (d 10).A=I3 at a⊢;generalize (d 10).c=KA at a⊢;replace a:=a.drop 2;replace a:=a.drop 2;refine dh ?_;refine bP a [3,6] (λi u=>match i with|3=>ad u.A ((oz o n).length+32) u.c|6=>ad u.A (((oz o n).length+32)+32) u.c|_=>aZ) (λd=>λ|3=>bp ((d 3).A) ((oz o n).length+32) ((d 3).c) 5 1 ((oz o n).map a'++(g1.l.map a'))|6=>bp ((d 6).A) (((oz o n).length+32)+32) ((d 6).c) 5 1 (((oz o n).map a'++(g1.l.map a'))++(g2.l.map a'))|_=>emp) (λ|3=>[3]|6=>[7]|_=>[]) (λ|3=>[0]|6=>[0]|_=>[]) (λ|3=>[3]|6=>[6]|_=>[]) [0,1,2,10] (λd=>?_);refine br ?_;refine gC (ad (ab ⟨M,2,af⟩) 32 32) ?_;refine tN (m:=32) 1 (λ_ _ a=>(by have h:=(Yr (a.a1 1)).1.cells;rw[hg1]at h;exact h)) (vG _) ?_ (hby:=by omega);refine aL ?_;refine gC (ad (ab ⟨M,34,af⟩) 32 32) ?_;refine tN (m:=32) 1 (λ_ _ a=>(by have h:=(Yr (a.a1 1)).2.cells;rw[hg2]at h;exact h)) (vG _) ?_ (hby:=by omega);refine aL ?_;refine bS λcc a=>?_;generalize (d 3).A=r' at a⊢;generalize (d 3).c=sB at a⊢;generalize (d 6).A=Uq at a⊢;generalize (d 6).c=XZ at a⊢;have YF:(((oz o n).map a'++(g1.l.map a'))++(g2.l.map a'))=(wP o n g1 g2).map a':=by simp[wP]
 have Q:(((oz o n).length+32)+32)=(wP o n g1 g2).length:=by simp only[wP,dw,hg1,hg2]
 rw[YF,Q]at a;clear YF;rw[Q];clear Q;refine aF ?_;iterate 2 refine ag ?_
 refine pl a 0 66 ?_ (hv:=eT);refine ag ?_;refine aJ (J aH _) (by(go_simp;exact u64_in _ ae)) ?_;refine ag ?_;refine ga a #[J aH (ms.length:Int),J R 4] 227 (λawA cG a=>?_);refine a7 (O1 _ _ _ _ (a.atR 4).Ff (a.a1 0)) ?_;rintro e c6 ⟨I6,DJ,rfl,hrow,g⟩;replace a:=a.k8 g hrow;refine Ul ?_;refine pl a 2 66 ?_ (hv:=eT);iterate 2 refine ag ?_
 refine ak ?_;have dT:(qD o n g1 g2 ms.length)=((qD o n g1 g2 ms.length)++(ms.take 0).flatMap rF):=aU;have ca:=a.pk [0,2];go_wp2_with fail;go_loopw [5,51] (λgE Z wr=>∃(j:Nat) (k:Option Addr) (t:Nat),j<=ms.length/\gE=ad k ((qD o n g1 g2 ms.length)++(ms.take j).flatMap rF).length t/\Z=J R (j:Int)/\ai w (λ_=>False) wr [bp k (((qD o n g1 g2 ms.length)++(ms.take j).flatMap rF).length) t 5 1 (((qD o n g1 g2 ms.length)++(ms.take j).flatMap rF).map a'),ah M (a6 (o:Int) (n:Int) g1 g2 (ad A ms.length c)) 26]) (λgE Z wr=>ms.length -(cx Z).toNat);case atStart=>exact⟨0,I6,DJ,cQ _,by rw[<-dT],aa,by rw[<-dT];exact ca⟩
 case round=>
  clear a ca dT;obtain⟨j,k,t,hj,rfl,rfl,a⟩:=hrel;by_cases hlt:j<ms.length
  .have cJ:(j:Int)<(ms.length:Int):=ae;have U:=eD (YJ j) P;obtain⟨m,Y⟩:∃m,ms[j]?=ab m:=⟨_,cm hlt⟩;obtain⟨E,H,aQ,aR,bx,dN,cU⟩:=cD.ia cw Y;have b7:=hid bx;have O:=hid dN;have L:=hid cU;have bX:=hid Y;clear bx dN cU Y;obtain⟨bs,S⟩:=ex (((qD o n g1 g2 ms.length)++(ms.take j).flatMap rF));have gg:((qD o n g1 g2 ms.length)++(ms.take (j+1)).flatMap rF)=bs++rF m:=by rw[List.take_add_one,bX,List.flatMap_append,<-j5,S];simp
   rw[S]at a U⊢;have v:=hid gg;clear gg S;have jq:=cB m (cM bX);rcases jq with⟨hk,⟨z,v2,v3⟩,⟨r6,s',uD⟩,G,I⟩|⟨hk,⟨z,v2,v3⟩,T,G,I⟩
   .simp only at z v2 v3 r6 s' uD;obtain⟨cF,dj,x,rfl⟩:∃cF dj x:Nat,m=⟨1,(cF:Int),(dj:Int),(x:Int),[]⟩:=⟨m.to.toNat,m.fr.toNat,m.n.toNat,by rcases m with⟨mk,mt,aqU,rX,p⟩;simp only at hk z v2 v3 r6 s' uD G I⊢;rw[hk,PU z,PU r6,PU v2,List.eq_nil_of_length_eq_zero I]⟩;dsimp only at L O v z v2 v3 r6 s' uD;have hcb:rF ⟨1,(cF:Int),(dj:Int),(x:Int),[]⟩=iT [(1,1),(cF,8),(dj,8),(x,8)]:=aT;rw[hcb]at v;obtain⟨y,C⟩:=ex (bs++iT [(1,1),(cF,8),(dj,8),(x,8)]);rw[C]at v;have N:Hid (∀W F gZ,bT W k bs->Row 0 W F 4 gZ 227 2 [J aH 1,J R 1,J aH (cF:Int),J R 8,J aH (dj:Int),J R 8,J aH (x:Int),J R 8]->aD ax 126 #[ad k bs.length t,ad F 4 gZ] W λe w'=>∃r s,e=aA _/\Row _ w' r y.length s 5 1 _/\ao W w'):=hid (λW F gZ h1 B=>by have q:=Na k t bs F gZ [(1,1),(cF,8),(dj,8),(x,8)] W ⟨U,aU⟩ (Kd _) h1 (λf D=>by simp only[gz,gb,or_false]at D;rcases D with rfl|rfl|rfl|rfl<;>(unfold ye;simp;try omega)) B;rw[C]at q;exact q);clear C hcb hk G I;go_step;refine aF ?_;refine dR ?_;refine aJ (ay (ab ⟨E,(H+j*5),af⟩)) (cI 24 73 5 (bc 49) (bc 51) aa eB aw E H (ms.length) c j ((H+j*5)) (by show ad A _ _=_;rw[b7]) aa hlt aa) ?_;refine aJ _ (by(refine e7 73 _ aa E _ aa _ (L _ a.only) fX aa aw)) ?_;refine bA a #[J _ 0,J _ 0,J _ 0,J _ 0,ad _ 0 0] (λjO dX a=>?_);refine ba a 0 (av #[J R 1,J R _,J R _,J R _,ad aQ 0 aR]) (λdH a=>?_);refine dh ?_;refine bP a [6,7] (λi u=>match i with|6=>av #[J aH (cF:Int),J R 8]|7=>ad (ab ⟨u.b,0,af⟩) 2 2|_=>aZ) (λd=>λ|7=>ah ((d 7).b) #[J aH 1,J R 1,J aH (cF:Int),J R 8] 227|_=>emp) (λ_=>[]) (λ|1=>[0]|5=>[0]|_=>[]) (λ|7=>[7]|_=>[]) [0,1,2,9,10] (λd=>?_);refine aL ?_;refine dl 0 0 ?_;refine gC (J aH 1) ?_;refine br ?_;refine dl 0 1 ?_;refine dE (λ_ _ _=>BA cF _ ae) ?_;refine lM _ _ ?_;refine aL ?_;refine bS λe9 a=>?_;generalize (d 7).b=afy at a⊢;replace a:=a.drop 3;refine b6 ?_;refine pl a 0 0 ?_;refine pk (aj aB) ?_;refine ak ?_;replace a:=a.Az 3 2 2 2 [J _ 1,J _ 1,J _ _,J _ 8] aa (cp _) (by unfold maxLen;omega) aa;refine dh ?_;refine bP a [4,7,8,9,10] (λi u=>match i with|4=>av #[J aH (dj:Int),J R 8]|7=>av #[J aH (x:Int),J R 8]|8=>ad (ab ⟨u.b,0,af⟩) 2 2|9=>ad u.A (2+2) u.c|10=>bh #[ad u.A y.length u.c,aj aB]|_=>aZ) (λd=>λ|8=>ah ((d 8).b) #[J aH (dj:Int),J R 8,J aH (x:Int),J R 8] 227|9=>bp ((d 9).A) (2+2) ((d 9).c) 227 2 ([J aH 1,J R 1,J aH (cF:Int),J R 8]++([J aH (dj:Int),J R 8,J aH (x:Int),J R 8]))|10=>bp ((d 10).A) y.length ((d 10).c) 5 1 (y.map a')|_=>emp) (λ|9=>[3]|_=>[]) (λ|3=>[0]|6=>[0]|9=>[12]|10=>[1,13]|_=>[]) (λ|8=>[8]|9=>[9]|10=>[10]|_=>[]) [0,1,2,8,11,12,13,14] (λd=>?_);refine c7 ?_;refine dl 0 2 ?_;refine dE (λ_ _ _=>BA dj _ ae) ?_;refine aL ?_;refine dl 0 3 ?_;refine dE (λ_ _ _=>BA x _ ae) ?_;refine lM _ _ ?_;refine tN (m:=2) 16 (λ_ _ a=>aX.cellsOf (m:=2) (a.a1 1) aa) (by intro u K;simp only[gz,gb,or_false]at K;rcases K with rfl|rfl|rfl|rfl<;>rfl) ?_ (hby:=by decide);refine df (λwl Fr a=>(N _ _ _ (a.atR 0).Ff (a.atR 1)).mono ?_) ?_;·rintro e dn ⟨lF,oj,rfl,hrow,g⟩;exact⟨{A:=lF,c:=oj},aa,a.k8 g hrow⟩
    refine ix ?_;refine bS λhT a=>?_;generalize (d 8).b=afx at a⊢;generalize (d 9).A=awm at a⊢;generalize (d 9).c=axB at a⊢;generalize (d 10).A=Ut at a⊢;generalize (d 10).c=Qy at a⊢;replace a:=a.drop 3;replace a:=a.drop 3;refine aF ?_;refine pad (j:Int) 1 ((j+1:Nat):Int) ?_;refine bR ?_;go_wp2_with fail;go_roundw;case rel=>exact⟨j+1,_,_,ae,by rw[v],aa,by rw[v];exact a.pick [5,2]⟩
    case measure=>simp[cx]<;>omega
   .simp only at z v2 v3;obtain⟨cF,p,rfl⟩:∃(cF:Nat) (p:List Int),m=⟨2,(cF:Int),0,0,p⟩:=⟨m.to.toNat,m.data,by rcases m with⟨mk,mt,aqU,rX,p⟩;simp only at hk z T G⊢;rw[hk,PU z,T,G]⟩;dsimp only at L O v z v2 v3 I;have hcb:rF ⟨2,(cF:Int),0,0,p⟩=iT [(2,1),(cF,8),(p.length,8)]++p:=aT;rw[hcb,<-j5]at v;obtain⟨y,C⟩:=ex (bs++iT [(2,1),(cF,8),(p.length,8)]);rw[C]at v;have V:=YJ (j+1);rw[v]at V;have aop:=eD V P;rw[dw]at aop;have N:Hid (∀W F gZ,bT W k bs->Row 0 W F 3 gZ 227 2 [J aH 2,J R 1,J aH (cF:Int),J R 8,J aH (p.length:Int),J R 8]->aD ax 126 #[ad k bs.length t,ad F 3 gZ] W λe w'=>∃r s,e=aA _/\Row W.heap.size w' r y.length s 5 1 _/\ao W w'):=hid (λW F gZ h1 B=>by have q:=Na k t bs F gZ [(2,1),(cF,8),(p.length,8)] W ⟨U,aU⟩ (Kd _) h1 (λf D=>by simp only[gz,gb,or_false]at D;rcases D with rfl|rfl|rfl<;>(unfold ye;simp;try omega)) B;rw[C]at q;exact q);clear C hcb hk T G V;go_step;refine aF ?_;refine dR ?_;refine aJ (ay (ab ⟨E,(H+j*5),af⟩)) (cI 24 73 5 (bc 49) (bc 51) aa eB aw E H (ms.length) c j ((H+j*5)) (by show ad A _ _=_;rw[b7]) aa hlt aa) ?_;refine aJ _ (by(refine e7 73 _ aa E _ aa _ (L _ a.only) fX aa aw)) ?_;refine bA a #[J _ 0,J _ 0,J _ 0,J _ 0,ad _ 0 0] (λjO i' a=>?_);refine ba a 0 (av _) (λks a=>?_);refine dh ?_;refine bP a [6,7] (λi u=>match i with|6=>av #[J aH (cF:Int),J R 8]|7=>ad (ab ⟨u.b,0,af⟩) 2 2|_=>aZ) (λd=>λ|7=>ah ((d 7).b) #[J aH 2,J R 1,J aH (cF:Int),J R 8] 227|_=>emp) (λ_=>[]) (λ|1=>[0]|5=>[0]|_=>[]) (λ|7=>[7]|_=>[]) [0,1,2,9,10] (λd=>?_);refine aL ?_;refine dl 0 0 ?_;refine gC (J aH 2) ?_;refine br ?_;refine dl 0 1 ?_;refine dE (λ_ _ _=>BA cF _ ae) ?_;refine lM _ _ ?_;refine aL ?_;refine bS λlf a=>?_;generalize (d 7).b=afy at a⊢;replace a:=a.drop 3;refine b6 ?_;refine pl a 0 0 ?_;refine pk (aj au) ?_;refine ak ?_;replace a:=a.Az 3 2 2 2 [J _ 2,J _ 1,J _ _,J _ 8] aa (cp _) (by unfold maxLen;omega) aa;refine aF ?_;iterate 3 refine ag ?_
    refine pl a 0 4 ?_;refine ag ?_;refine bC (BA p.length _ ae) a (λmm a=>?_);refine ga a #[J aH (p.length:Int),J R 8] 227 (λafx nU a=>?_);refine np (m:=1) a 4 16 (aX.cellsOf (m:=1) (a.a1 0) aa) (by intro u K;simp only[gz,gb,or_false]at K;rcases K with rfl|rfl<;>rfl) (λawn axC pa a=>?_) (hby:=by decide);refine a7 (N.out _ _ _ (a.atR 2).Ff (a.atR 4)) ?_;rintro e ta ⟨lF,oj,rfl,hrow,g⟩;replace a:=a.k8 g hrow;refine bb ?_;refine v4 ?_;refine aF ?_;iterate 2 refine ag ?_
    refine pl a 2 4 ?_;refine np (m:=p.length) a 0 1 ((O.out _ a.only).1.cells) (vG _) (λawp axE tb a=>?_) (hby:=by omega);refine bR ?_;have By:(y.map a'++(p.map a'))=(y++p).map a':=aU;have DV:y.length+p.length=(y++p).length:=by rw[dw]
    rw[By]at a;have UF:=hid DV;clear By DV;refine aF ?_;refine pad (j:Int) 1 ((j+1:Nat):Int) ?_;refine bR ?_;go_wp2_with fail;go_roundw;case rel=>exact⟨j+1,_,_,ae,by rw[v,<-UF],aa,by rw[v,<-UF];exact a.pick [0,4]⟩
    case measure=>simp[cx]<;>omega
  .have cJ:¬(j:Int)<(ms.length:Int):=ae;have qG:j=ms.length:=ae;have hJ:((qD o n g1 g2 ms.length)++(ms.take j).flatMap rF)=jI o n g1 g2 ms:=by rw[qG,List.take_length,jI]
   rw[hJ]at a⊢;go_step;refine aF ?_;refine dR ?_;iterate 2 refine ag ?_
   refine aF ?_;iterate 3 refine ag ?_
   refine ak ?_;go_wp2_with fail;go_ret2;exact⟨k,t,aa,b5.S8 a.only (Row.nS (a.fresh 0).row)⟩
def mJ(bs:List Int):Int:=(k' ⟨ic bs,0,0,0⟩ 8).1
def am1(p c1)A c bs w(E:bs.length<=8796093022208)(l:w.cell? ⟨p,0,af⟩=ab (ad A bs.length c))(hb:bT w A bs)(j:∀b off,A=ab ⟨b,off,af⟩->b<w.heap.size):
 aD ax 55 #[ad (ab ⟨p,0,af⟩) 1 c1] w λe w'=>e=aA (J aH (mJ bs))/\ao w w':=by
 obtain⟨D,i⟩:=ex (ic bs);have f:D.length=32:=by grind[sG]
 have t:Hid (∀W,ao w W->aD ax 76 #[ad (ab ⟨p,0,af⟩) 1 c1] W λe w'=>e=aA (av (aY a' D []))/\ao W w'):=hid (λW g=>by have q:=aef p 0 c1 A c bs W ae (g.cell l (λh=>h)) (hb.aI g) (λb off e=>Nat.lt_of_lt_of_le (j b off e) g.size);rw[i]at q;exact q);have k:mJ bs=(k' ⟨D,0,0,0⟩ 8).1:=by rw[mJ,i]
 rw[k];have s:Hid (∀W d,bT W (ab ⟨d,0,af⟩) D->aD ax 134 #[ad (ab ⟨d,0,af⟩) 32 32] W λe w'=>∃B m u,e=aA (ay (ab ⟨B,0,af⟩))/\b5 W w' (ep B m u ⟨D,0,0,0⟩)):=hid (λW d h=>by have q:=acr (ab ⟨d,0,af⟩) 32 D W ae h;rw[f]at q;exact q);have C:qt ⟨D,0,0,0⟩:=⟨cQ _,aG⟩;clear k l hb i j;go_enter func55,ntmps55;have a:=bg w;go_upto_region 0 with fail;refine ar ?_;refine cK ?_;refine bC (t.out _ a.only) a (λw1 a=>?_);refine bA a (aY a' (fu 32 0) []) (λo F a=>?_);refine My a 0 (Fi (av (aY a' D [])) aa aa aa (a.a1 0) (by show 0+(aY a' D []).size<=(aY a' (fu 32 0) []).size;rw[j7,j7,f];simp) (by show _=ab (aY a' D []).size;rw[j7,f];kernel_rfl) (Qi (λ_=>aa) (λv hv=>absurd hv gb)) (lay_all (by show(aY a' D []).size=(aY a' (fu 32 0) []).size;rw[j7,j7,f];simp))) (λG a=>?_);refine aF ?_;refine pk (ad (ab ⟨o,0,af⟩) 32 32) ?_;refine a7 (s.out _ _ (GD (a.a1 0))) ?_;rintro e H ⟨r,n,x,rfl,y⟩;replace a:=a.new _ y;refine bb ?_;refine a7 (Iy r n x _ 8 _ (a.has 0) C ae) ?_;rintro e I ⟨rfl,z⟩;replace a:=a.eG 0 z;refine Fu ?_;go_wp2_with fail;go_ret;exact⟨aa,a.only⟩
section
theorem GJ{w w' p v}(g:ao w w')(h:w.cell? p=ab v):w'.cell? p=ab v:=(World.cell?_of_block (w:=w) (g.block p.block (World.block_lt_of_cell? w _ h) (λh=>h))).trans h
section
variable {an w:aN} {FX:Nat->Prop}
def ai.tail(l l')(h:ai an FX w (l++l')):ai an FX w (l++[Go.Proofs.YtcmhplknoglbkaaGreat.bQ l']):=by have h1:ai an FX w (l'++l):=h.perm u7;exact h1.bQ.perm (by simpa using(Gt (Go.Proofs.YtcmhplknoglbkaaGreat.bQ l') l).symm)
def ai.iv(l l')(h:ai an FX w (l++[Go.Proofs.YtcmhplknoglbkaaGreat.bQ l'])):ai an FX w (l++l'):=by have h1:ai an FX w (Go.Proofs.YtcmhplknoglbkaaGreat.bQ l'::l):=h.perm (Gt _ _);exact h1.kq.perm u7
end
end
end Go.Proofs.YtcmhplknoglbkaaGreat
