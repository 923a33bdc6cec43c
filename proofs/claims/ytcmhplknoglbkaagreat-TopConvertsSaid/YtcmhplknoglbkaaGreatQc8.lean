/- Part 8 of the proof of TopConvertsSaid. -/
import Derived.Test.YtcmhplknoglbkaaGreatQc0
import Derived.Test.YtcmhplknoglbkaaGreatQc3
import Derived.Test.YtcmhplknoglbkaaGreatQc4
import Derived.Test.YtcmhplknoglbkaaGreatQc7
set_option linter.all false
set_option maxRecDepth 100000
set_option maxHeartbeats 4000000
open Go.Proofs.Tryz
open Array renaming replicate_succ->qf,replicate_zero->qg,size->jD
open Bool renaming false->au,true->aB
open Decidable renaming of_not_not->C9
open Go renaming Addr->bU,Calls->aD,Oper->cR,PanicEntry->re,Program->eu,Value->aO,World->aM,bodyPost_ret->dn,callFunc->kj,execOp->bt,madeCells->F9,results_cell_row->jd,undef->aY,wpList->cG,wpList_nil->an,yielded->cY
open Go.Calls renaming mono->JB
open Go.Ending renaming panicked->JD,returned->aA
open Go.Exit renaming panic->tm
open Go.Fn renaming func->ej
open Go.IntKind renaming i64->R,u64->aG
open Go.LoopState renaming busy->sl
open Go.Next renaming value->c8
open Go.Obj renaming loop->fS
open Go.Oper renaming wp->hB
open Go.Operand renaming const->qk,tmp->bb
open Go.Proofs.Tryz renaming func108->OM,func228->Vr,func278->Vx,ntmps108->VP,ntmps228->VV,prog->ax,underlying22->dI,underlying23->tq,underlying24->eA,underlying26->F5,underlying49->xS,underlying5->lj,underlying73->fW,underlying82->ij
open Go.Proofs renaming enters_of->ll
open Go.Region renaming wanted->c4
open Go.Result renaming ok->a7
open Go.RowKit renaming Hid->aE,intOf->cw
open Go.Sem renaming run_bind->gj
open Go.Value renaming agg->av,bool->ak,func->dJ,iface->uP,int->J,pointer->ay,slice->ad,tuple->bg
open Int renaming eq_ofNat_of_zero_le->tC,toNat_of_nonneg->Qj
open List renaming append_assoc->j5,append_nil->j6,append_toArray->qu,cons_append->pB,getElem?_append_left->tD,getElem?_append_right->oe,getElem?_cons_succ->x8,getElem?_eq_getElem->cj,getElem?_map->kB,getElem?_toArray->zG,getElem_mem->DQ,length_append->dv,length_cons->jT,length_filterMap_le->XE,length_map->gU,length_nil->l2,length_range->DR,length_set->wN,mem_cons->gy,mem_of_getElem?->cL,nil_append->nd,not_mem_nil->ga,perm_append_comm->vk,perm_append_singleton->GN,push_toArray->qv,range->dF,replicate->fq,size_toArray->iQ,take_add_one->fu,take_append_drop->oV,take_of_length_le->tF
open Min renaming min->gW
open Nat renaming add_sub_cancel_left->tG,div_le_iff_le_mul_add_pred->aj7,le_of_eq->XK,le_refl->cm,le_trans->eC,mul_le_mul_right->tH,zero_add->kV,zero_le->cQ,zero_lt_succ->Kz
open Option renaming map_some->oW,none->af,some->ab
open Option.some renaming injEq->wQ
open Or renaming inl->bH
namespace Go.Proofs.YtcmhplknoglbkaaGreat
open Go.RowKit Go.MapKept
def rI(m:bG):List Int:=if m.k=1 then iS [(1,1),(m.to.toNat,8),(m.fr.toNat,8),(m.n.toNat,8)]else iS [(2,1),(m.to.toNat,8),(m.data.length,8)]++m.data
def E4:List Int:=[71,82,70,84]
def oC(o n:Nat):List Int:=E4++iS [(1,1),(o,8),(n,8)]
def w4(o n:Nat)(g1 g2:dX):List Int:=oC o n++g1.l++g2.l
def qG(o n:Nat)(g1 g2:dX)(k:Nat):List Int:=w4 o n g1 g2++iS [(k,4)]
def jI(o n:Nat)(g1 g2:dX)(ms:List bG):List Int:=qG o n g1 g2 ms.length++ms.flatMap rI
def anj(o n)(g1 g2)ms j:(qG o n g1 g2 ms.length++(ms.take j).flatMap rI).length<=(jI o n g1 g2 ms).length:=by grind[jI,oV]
def z7(fs:List (Nat×Nat)):List Value:=fs.flatMap (λf=>[J aG (f.1:Int),J R (f.2:Int)])
def an2{fs i f}(h:fs[i]?=ab f):(z7 fs)[i*2]?=ab (J aG (f.1:Int))/\(z7 fs)[i*2+1]?=ab (J R (f.2:Int)):=by
 induction fs generalizing i with
 |nil=>grind
 |cons x r a=>
  cases i with
  |zero=>cases h;exact⟨aa,aa⟩
  |succ i=>
   have:=a (i:=i) aF;exact⟨by rw[show(i+1)*2=i*2+1+1 by omega];exact this.1,by rw[show(i+1)*2+1=i*2+1+1+1 by omega];exact this.2⟩
def Nz A c bs F gY fs w(n:bs.length<=8796093022208/\fs.length<=1048576)(h:0<fs.length)(hb:bR w A bs)(o:∀f∈fs,yt f)(l:Row 0 w F fs.length gY 227 2 (z7 fs)):
 aD ax 126 #[ad A bs.length c,ad F fs.length gY] w λe w'=>∃a b,e=aA (bg #[ad a (bs++iS fs).length b,ak aB])/\Row w.heap.size w' a (bs++iS fs).length b 5 1 ((bs++iS fs).map a8)/\aq w w':=by
 obtain⟨g,cur,rfl,hb2,_,_,_,j⟩:=l.blk h;refine afD A c bs g 0 gY fs w n hb o (λi f m=>?_);have d:=an2 m
 have key:∀(k) v,(z7 fs)[k]?=ab v->w.cell? _=ab v:=λk v hk=>by
  rw[<-j,List.getElem?_take]at hk;split at hk;·exact hb2.cell k aF
  .grind
 rw[kV];exact⟨key _ _ d.1,key _ _ d.2⟩
def Zv{w B cs}fs(hb:aW w B cs 227)(hc:cs.toList=z7 fs)(a:fs.length<=1048576):Row 0 w (ab ⟨B,0,af⟩) fs.length fs.length 227 2 (z7 fs):=by
 have b:(z7 fs).length=fs.length*2:=by
  clear hc a;induction fs with
  |nil=>rfl
  |cons x r d=>grind[z7]
 have h:=IS (n:=fs.length) (c:=_) (sz:=2) hb (cm _) (by grind[maxLen]) aF;grind
def YV{w}{B t:Nat}{o n g1 g2 S}(h:aW w B (a1 o n g1 g2 S) t):bR w (ab ⟨B,2,af⟩) g1.l/\bR w (ab ⟨B,34,af⟩) g2.l:=by
 have h1:=g1.len;have b:=g2.len;refine⟨λ_=>⟨B,2,rfl,λj a=>h.cell (2+j) ?_⟩,λ_=>⟨B,34,rfl,λj a=>h.cell (34+j) ?_⟩⟩;·rw[a1,zG,show 2+j=j+1+1 by omega,x8,x8,tD aF,kB,cj ae];simp
 .rw[a1,zG,show 34+j=(32+j)+1+1 by omega,x8,x8,oe aF,gU,h1,show 32+j -32=j by omega,tD aF,kB,cj ae];simp
def anN(o n:Nat)(g1 g2)A c ms w(ho:(o:Int)<=4611686018427387903/\(n:Int)<=4611686018427387903)(X:cC w A ms)(hv:∀m∈ms,hX m)(ef:ms.length<=1048576)(hle:(jI o n g1 g2 ms).length<=8796093022208):
 aD ax 53 #[dC (o:Int) (n:Int) g1 g2 (ad A ms.length c)] w λe w'=>∃r s,e=aA (bg #[ad r (jI o n g1 g2 ms).length s,J R 0])/\b3 w w' (cc r s (jI o n g1 g2 ms)):=by
 have cv:=hid X;have cA:=hid hv;have lq:=hid (λW g=>amI o n g1 g2 A c ms W ho (X.aH g) hv ef);have hg1:=g1.len;have hg2:=g2.len;have aop:(oC o n).length<=1000:=by grind[oC,E4,iS,rG]
 have Pq:aE (∀W k F,bR W (ab ⟨k,0,af⟩) E4->aW W F #[J aG 1,J R 1,J aG (o:Int),J R 8,J aG (n:Int),J R 8] 227->aD ax 126 #[ad (ab ⟨k,0,af⟩) 4 4,ad (ab ⟨F,0,af⟩) 3 3] W λe w'=>∃r s,e=aA (bg #[ad r (oC o n).length s,ak aB])/\Row W.heap.size w' r (oC o n).length s 5 1 ((oC o n).map a8)/\aq W w'):=hid (λW k F h1 B=>Nz _ 4 E4 (ab ⟨F,0,af⟩) 3 [(1,1),(o,8),(n,8)] W ⟨bh,aT⟩ (Kz _) h1 (λf D=>by grind[yt]) (Zv [(1,1),(o,8),(n,8)] B aa aT));have Pr:aE (∀W k t F,bR W k (w4 o n g1 g2)->aW W F #[J aG (ms.length:Int),J R 4] 227->aD ax 126 #[ad k (w4 o n g1 g2).length t,ad (ab ⟨F,0,af⟩) 1 1] W λe w'=>∃r s,e=aA (bg #[ad r (qG o n g1 g2 ms.length).length s,ak aB])/\Row W.heap.size w' r (qG o n g1 g2 ms.length).length s 5 1 ((qG o n g1 g2 ms.length).map a8)/\aq W w'):=hid (λW k t F h1 B=>Nz k t (w4 o n g1 g2) (ab ⟨F,0,af⟩) 1 [(ms.length,4)] W ⟨by grind[w4],aT⟩ (Kz _) h1 (λf D=>by grind[yt]) (Zv [(ms.length,4)] B aa aT));have P:=hid hle;have P:=hid hle;have Zc:=λj=>anj o n g1 g2 ms j;clear X hv hle;go_enter func53,ntmps53;have a:=bf w;go_step;refine ag ?_;refine bM a (av _) (λM w1 a=>?_);iterate 2 refine ah ?_
 refine ag ?_;refine bq a 0 (a1 (o:Int) (n:Int) g1 g2 (ad A ms.length c)) ?_ (hv:=(ee _)) (hk:=by omega) (hz:=(by rw[cN];rfl));refine bA (lq _ a.only) a (λaR a=>?_);refine cJ ?_;refine pk (ak au) ?_;refine ct ?_;refine bN a [0,1,5,8,9,10] (λi u=>match i with|0=>ad (ab ⟨u.b,0,af⟩) 4 4|1=>ad (ab ⟨u.b,0,af⟩) 4 4|5=>av #[J aG (o:Int),J R 8]|8=>av #[J aG (n:Int),J R 8]|9=>ad (ab ⟨u.b,0,af⟩) 3 3|10=>bg #[ad u.A (oC o n).length u.c,ak aB]|_=>aY) (λd=>λ|0=>ai ((d 0).b) #[J .u8 71,J .u8 82,J .u8 70,J .u8 84] 5|1=>ro (ab ⟨(d 1).b,0,af⟩) E4|9=>ai ((d 9).b) #[J aG 1,J R 1,J aG (o:Int),J R 8,J aG (n:Int),J R 8] 227|10=>bn ((d 10).A) ((oC o n).length) ((d 10).c) 5 1 ((oC o n).map a8)|_=>emp) (λ|1=>[1]|_=>[]) (λ|4=>[0]|7=>[0]|10=>[2,10]|_=>[]) (λ|0=>[0]|1=>[1]|9=>[9]|10=>[10]|_=>[]) [0,2,6,9,10,11] (λd=>?_);refine lM _ 5 ?_;refine amx _ (λ_ _ a=>Fg _ aa aa (a.aZ 0) aa dI lj) ?_;refine bp ?_;refine dl 0 0 ?_ (hv:=mA);refine dD (λ_ _ _=>BR o _ ae) ?_;refine aK ?_;refine dl 0 1 ?_ (hv:=jh);refine dD (λ_ _ _=>BR n _ ae) ?_;refine lM _ _ ?_;refine df (λwl Fr a=>(Pq _ _ _ (a.at 0) (a.aZ 1)).mono ?_) ?_;·rintro e dm ⟨hA,gH,rfl,hrow,g⟩;exact⟨{A:=hA,c:=gH},aa,a.k8 g hrow⟩
 refine oL ?_;refine bQ λbL a=>?_;generalize (d 0).b=UZ at a⊢;generalize (d 1).b=qh at a⊢;generalize (d 9).b=axm at a⊢;generalize (d 10).A=Jm at a⊢;generalize (d 10).c=KX at a⊢;replace a:=a.drop 2;replace a:=a.drop 2;refine ct ?_;refine bN a [3,6] (λi u=>match i with|3=>ad u.A ((oC o n).length+32) u.c|6=>ad u.A (((oC o n).length+32)+32) u.c|_=>aY) (λd=>λ|3=>bn ((d 3).A) ((oC o n).length+32) ((d 3).c) 5 1 ((oC o n).map a8++(g1.l.map a8))|6=>bn ((d 6).A) (((oC o n).length+32)+32) ((d 6).c) 5 1 (((oC o n).map a8++(g1.l.map a8))++(g2.l.map a8))|_=>emp) (λ|3=>[3]|6=>[7]|_=>[]) (λ|3=>[0]|6=>[0]|_=>[]) (λ|3=>[3]|6=>[6]|_=>[]) [0,1,2,10] (λd=>?_);refine bp ?_;refine gB (ad (ab ⟨M,2,af⟩) 32 32) ?_;refine tQ (m:=32) 1 (λ_ _ a=>(by have h:=(YV (a.aZ 1)).1.cells;rw[hg1]at h;exact h)) (vT _) ?_ (hby:=by omega);refine aK ?_;refine gB (ad (ab ⟨M,34,af⟩) 32 32) ?_;refine tQ (m:=32) 1 (λ_ _ a=>(by have h:=(YV (a.aZ 1)).2.cells;rw[hg2]at h;exact h)) (vT _) ?_ (hby:=by omega);refine aK ?_;refine bQ λca a=>?_;generalize (d 3).A=sc at a⊢;generalize (d 3).c=sD at a⊢;generalize (d 6).A=UP at a⊢;generalize (d 6).c=Ys at a⊢;have Y9:(((oC o n).map a8++(g1.l.map a8))++(g2.l.map a8))=(w4 o n g1 g2).map a8:=by simp[w4]
 have Q:(((oC o n).length+32)+32)=(w4 o n g1 g2).length:=by simp only[w4,dv,hg1,hg2]
 rw[Y9,Q]at a;clear Y9;rw[Q];clear Q;refine ag ?_;iterate 2 refine ah ?_
 refine pl a 0 66 ?_ (hv:=eS);refine ah ?_;refine aI (J aG _) (by(go_simp;exact u64_in _ ae)) ?_;refine ah ?_;refine f' a #[J aG (ms.length:Int),J R 4] 227 (λaxl cF a=>?_);refine a6 (Pr _ _ _ _ (a.atR 4).Fz (a.aZ 0)) ?_;rintro e c6 ⟨Jp,D1,rfl,hrow,g⟩;replace a:=a.k8 g hrow;refine UK ?_;refine pl a 2 66 ?_ (hv:=eS);iterate 2 refine ah ?_
 refine an ?_;have dS:(qG o n g1 g2 ms.length)=((qG o n g1 g2 ms.length)++(ms.take 0).flatMap rI):=aT;have b9:=a.pk [0,2];go_wp2_with fail;go_loopw [5,51] (λgD Z wr=>∃(j:Nat) (k:Option bU) (t:Nat),j<=ms.length/\gD=ad k ((qG o n g1 g2 ms.length)++(ms.take j).flatMap rI).length t/\Z=J R (j:Int)/\aj w (λ_=>False) wr [bn k (((qG o n g1 g2 ms.length)++(ms.take j).flatMap rI).length) t 5 1 (((qG o n g1 g2 ms.length)++(ms.take j).flatMap rI).map a8),ai M (a1 (o:Int) (n:Int) g1 g2 (ad A ms.length c)) 26]) (λgD Z wr=>ms.length -(cw Z).toNat);case atStart=>exact⟨0,Jp,D1,cQ _,by rw[<-dS],aa,by rw[<-dS];exact b9⟩
 case round=>
  clear a b9 dS;obtain⟨j,k,t,hj,rfl,rfl,a⟩:=hrel;by_cases hlt:j<ms.length
  .have cI:(j:Int)<(ms.length:Int):=ae;have U:=eC (Zc j) P;obtain⟨m,Y⟩:∃m,ms[j]?=ab m:=⟨_,cj hlt⟩;obtain⟨E,H,aP,aQ,bu,dM,cU⟩:=cC.h9 cv Y;have b5:=hid bu;have O:=hid dM;have L:=hid cU;have bV:=hid Y;clear bu dM cU Y;obtain⟨bs,S⟩:=ex (((qG o n g1 g2 ms.length)++(ms.take j).flatMap rI));have gd:((qG o n g1 g2 ms.length)++(ms.take (j+1)).flatMap rI)=bs++rI m:=by rw[fu,bV,List.flatMap_append,<-j5,S];simp
   rw[S]at a U⊢;have v:=hid gd;clear gd S;have jq:=cA m (cL bV);rcases jq with⟨hk,⟨z,v2,v3⟩,⟨r9,tb,uG⟩,G,I⟩|⟨hk,⟨z,v2,v3⟩,T,G,I⟩
   .simp only at z v2 v3 r9 tb uG;obtain⟨cE,di,x,rfl⟩:∃cE di x:Nat,m=⟨1,(cE:Int),(di:Int),(x:Int),[]⟩:=⟨m.to.toNat,m.fr.toNat,m.n.toNat,by rcases m with⟨mk,mt,arI,r0,p⟩;simp only at hk z v2 v3 r9 tb uG G I⊢;rw[hk,Qj z,Qj r9,Qj v2,List.eq_nil_of_length_eq_zero I]⟩;dsimp only at L O v z v2 v3 r9 tb uG;have hcb:rI ⟨1,(cE:Int),(di:Int),(x:Int),[]⟩=iS [(1,1),(cE,8),(di,8),(x,8)]:=aS;rw[hcb]at v;obtain⟨y,C⟩:=ex (bs++iS [(1,1),(cE,8),(di,8),(x,8)]);rw[C]at v;have N:aE (∀W F gY,bR W k bs->Row 0 W F 4 gY 227 2 [J aG 1,J R 1,J aG (cE:Int),J R 8,J aG (di:Int),J R 8,J aG (x:Int),J R 8]->aD ax 126 #[ad k bs.length t,ad F 4 gY] W λe w'=>∃r s,e=aA _/\Row _ w' r y.length s 5 1 _/\aq W w'):=hid (λW F gY h1 B=>by have q:=Nz k t bs F gY [(1,1),(cE,8),(di,8),(x,8)] W ⟨U,aT⟩ (Kz _) h1 (λf D=>by simp only[gy,ga,or_false]at D;rcases D with rfl|rfl|rfl|rfl<;>(unfold yt;simp;try omega)) B;rw[C]at q;exact q);clear C hcb hk G I;go_step;refine ag ?_;refine dQ ?_;refine aI (ay (ab ⟨E,(H+j*5),af⟩)) (cH 24 73 5 (bb 49) (bb 51) aa eA aw E H (ms.length) c j ((H+j*5)) (by show ad A _ _=_;rw[b5]) aa hlt aa) ?_;refine aI _ (by(refine e6 73 _ aa E _ aa _ (L _ a.only) fW aa aw)) ?_;refine bx a #[J _ 0,J _ 0,J _ 0,J _ 0,ad _ 0 0] (λjO dW a=>?_);refine a' a 0 (av #[J R 1,J R _,J R _,J R _,ad aP 0 aQ]) (λdG a=>?_);refine ct ?_;refine bN a [6,7] (λi u=>match i with|6=>av #[J aG (cE:Int),J R 8]|7=>ad (ab ⟨u.b,0,af⟩) 2 2|_=>aY) (λd=>λ|7=>ai ((d 7).b) #[J aG 1,J R 1,J aG (cE:Int),J R 8] 227|_=>emp) (λ_=>[]) (λ|1=>[0]|5=>[0]|_=>[]) (λ|7=>[7]|_=>[]) [0,1,2,9,10] (λd=>?_);refine aK ?_;refine dl 0 0 ?_;refine gB (J aG 1) ?_;refine bp ?_;refine dl 0 1 ?_;refine dD (λ_ _ _=>BR cE _ ae) ?_;refine lM _ _ ?_;refine aK ?_;refine bQ λe8 a=>?_;generalize (d 7).b=af2 at a⊢;replace a:=a.drop 3;refine b4 ?_;refine pl a 0 0 ?_;refine pk (ak aB) ?_;refine an ?_;replace a:=a.AQ 3 2 2 2 [J _ 1,J _ 1,J _ _,J _ 8] aa (cm _) (by unfold maxLen;omega) aa;refine ct ?_;refine bN a [4,7,8,9,10] (λi u=>match i with|4=>av #[J aG (di:Int),J R 8]|7=>av #[J aG (x:Int),J R 8]|8=>ad (ab ⟨u.b,0,af⟩) 2 2|9=>ad u.A (2+2) u.c|10=>bg #[ad u.A y.length u.c,ak aB]|_=>aY) (λd=>λ|8=>ai ((d 8).b) #[J aG (di:Int),J R 8,J aG (x:Int),J R 8] 227|9=>bn ((d 9).A) (2+2) ((d 9).c) 227 2 ([J aG 1,J R 1,J aG (cE:Int),J R 8]++([J aG (di:Int),J R 8,J aG (x:Int),J R 8]))|10=>bn ((d 10).A) y.length ((d 10).c) 5 1 (y.map a8)|_=>emp) (λ|9=>[3]|_=>[]) (λ|3=>[0]|6=>[0]|9=>[12]|10=>[1,13]|_=>[]) (λ|8=>[8]|9=>[9]|10=>[10]|_=>[]) [0,1,2,8,11,12,13,14] (λd=>?_);refine c7 ?_;refine dl 0 2 ?_;refine dD (λ_ _ _=>BR di _ ae) ?_;refine aK ?_;refine dl 0 3 ?_;refine dD (λ_ _ _=>BR x _ ae) ?_;refine lM _ _ ?_;refine tQ (m:=2) 16 (λ_ _ a=>aW.cellsOf (m:=2) (a.aZ 1) aa) (by intro u K;simp only[gy,ga,or_false]at K;rcases K with rfl|rfl|rfl|rfl<;>rfl) ?_ (hby:=by decide);refine df (λwl Fr a=>(N _ _ _ (a.atR 0).Fz (a.atR 1)).mono ?_) ?_;·rintro e dm ⟨lF,oq,rfl,hrow,g⟩;exact⟨{A:=lF,c:=oq},aa,a.k8 g hrow⟩
    refine iw ?_;refine bQ λhR a=>?_;generalize (d 8).b=af1 at a⊢;generalize (d 9).A=aw7 at a⊢;generalize (d 9).c=aym at a⊢;generalize (d 10).A=US at a⊢;generalize (d 10).c=QY at a⊢;replace a:=a.drop 3;replace a:=a.drop 3;refine ag ?_;refine pad (j:Int) 1 ((j+1:Nat):Int) ?_;refine bP ?_;go_wp2_with fail;go_roundw;case rel=>exact⟨j+1,_,_,ae,by rw[v],aa,by rw[v];exact a.pick [5,2]⟩
    case measure=>simp[cw]<;>omega
   .simp only at z v2 v3;obtain⟨cE,p,rfl⟩:∃(cE:Nat) (p:List Int),m=⟨2,(cE:Int),0,0,p⟩:=⟨m.to.toNat,m.data,by rcases m with⟨mk,mt,arI,r0,p⟩;simp only at hk z T G⊢;rw[hk,Qj z,T,G]⟩;dsimp only at L O v z v2 v3 I;have hcb:rI ⟨2,(cE:Int),0,0,p⟩=iS [(2,1),(cE,8),(p.length,8)]++p:=aS;rw[hcb,<-j5]at v;obtain⟨y,C⟩:=ex (bs++iS [(2,1),(cE,8),(p.length,8)]);rw[C]at v;have V:=Zc (j+1);rw[v]at V;have apa:=eC V P;rw[dv]at apa;have N:aE (∀W F gY,bR W k bs->Row 0 W F 3 gY 227 2 [J aG 2,J R 1,J aG (cE:Int),J R 8,J aG (p.length:Int),J R 8]->aD ax 126 #[ad k bs.length t,ad F 3 gY] W λe w'=>∃r s,e=aA _/\Row W.heap.size w' r y.length s 5 1 _/\aq W w'):=hid (λW F gY h1 B=>by have q:=Nz k t bs F gY [(2,1),(cE,8),(p.length,8)] W ⟨U,aT⟩ (Kz _) h1 (λf D=>by simp only[gy,ga,or_false]at D;rcases D with rfl|rfl|rfl<;>(unfold yt;simp;try omega)) B;rw[C]at q;exact q);clear C hcb hk T G V;go_step;refine ag ?_;refine dQ ?_;refine aI (ay (ab ⟨E,(H+j*5),af⟩)) (cH 24 73 5 (bb 49) (bb 51) aa eA aw E H (ms.length) c j ((H+j*5)) (by show ad A _ _=_;rw[b5]) aa hlt aa) ?_;refine aI _ (by(refine e6 73 _ aa E _ aa _ (L _ a.only) fW aa aw)) ?_;refine bx a #[J _ 0,J _ 0,J _ 0,J _ 0,ad _ 0 0] (λjO iZ a=>?_);refine a' a 0 (av _) (λks a=>?_);refine ct ?_;refine bN a [6,7] (λi u=>match i with|6=>av #[J aG (cE:Int),J R 8]|7=>ad (ab ⟨u.b,0,af⟩) 2 2|_=>aY) (λd=>λ|7=>ai ((d 7).b) #[J aG 2,J R 1,J aG (cE:Int),J R 8] 227|_=>emp) (λ_=>[]) (λ|1=>[0]|5=>[0]|_=>[]) (λ|7=>[7]|_=>[]) [0,1,2,9,10] (λd=>?_);refine aK ?_;refine dl 0 0 ?_;refine gB (J aG 2) ?_;refine bp ?_;refine dl 0 1 ?_;refine dD (λ_ _ _=>BR cE _ ae) ?_;refine lM _ _ ?_;refine aK ?_;refine bQ λlf a=>?_;generalize (d 7).b=af2 at a⊢;replace a:=a.drop 3;refine b4 ?_;refine pl a 0 0 ?_;refine pk (ak au) ?_;refine an ?_;replace a:=a.AQ 3 2 2 2 [J _ 2,J _ 1,J _ _,J _ 8] aa (cm _) (by unfold maxLen;omega) aa;refine ag ?_;iterate 3 refine ah ?_
    refine pl a 0 4 ?_;refine ah ?_;refine bA (BR p.length _ ae) a (λmm a=>?_);refine f' a #[J aG (p.length:Int),J R 8] 227 (λaf1 nX a=>?_);refine nt (m:=1) a 4 16 (aW.cellsOf (m:=1) (a.aZ 0) aa) (by intro u K;simp only[gy,ga,or_false]at K;rcases K with rfl|rfl<;>rfl) (λaw8 ayn pd a=>?_) (hby:=by decide);refine a6 (N.out _ _ _ (a.atR 2).Fz (a.atR 4)) ?_;rintro e tc ⟨lF,oq,rfl,hrow,g⟩;replace a:=a.k8 g hrow;refine ba ?_;refine v4 ?_;refine ag ?_;iterate 2 refine ah ?_
    refine pl a 2 4 ?_;refine nt (m:=p.length) a 0 1 ((O.out _ a.only).1.cells) (vT _) (λaxa ayp td a=>?_) (hby:=by omega);refine bP ?_;have BP:(y.map a8++(p.map a8))=(y++p).map a8:=aT;have Ec:y.length+p.length=(y++p).length:=by rw[dv]
    rw[BP]at a;have U6:=hid Ec;clear BP Ec;refine ag ?_;refine pad (j:Int) 1 ((j+1:Nat):Int) ?_;refine bP ?_;go_wp2_with fail;go_roundw;case rel=>exact⟨j+1,_,_,ae,by rw[v,<-U6],aa,by rw[v,<-U6];exact a.pick [0,4]⟩
    case measure=>simp[cw]<;>omega
  .have cI:¬(j:Int)<(ms.length:Int):=ae;have qJ:j=ms.length:=ae;have hI:((qG o n g1 g2 ms.length)++(ms.take j).flatMap rI)=jI o n g1 g2 ms:=by rw[qJ,List.take_length,jI]
   rw[hI]at a⊢;go_step;refine ag ?_;refine dQ ?_;iterate 2 refine ah ?_
   refine ag ?_;iterate 3 refine ah ?_
   refine an ?_;go_wp2_with fail;go_ret2;exact⟨k,t,aa,b3.Tw a.only (Row.nV (a.fresh 0).row)⟩
def mJ(bs:List Int):Int:=(k' ⟨ib bs,0,0,0⟩ 8).1
def anO(p c1)A c bs w(E:bs.length<=8796093022208)(l:w.cell? ⟨p,0,af⟩=ab (ad A bs.length c))(hb:bR w A bs)(j:∀b off,A=ab ⟨b,off,af⟩->b<w.heap.size):
 aD ax 55 #[ad (ab ⟨p,0,af⟩) 1 c1] w λe w'=>e=aA (J aG (mJ bs))/\aq w w':=by
 obtain⟨D,i⟩:=ex (ib bs);have f:D.length=32:=by grind[sI]
 have t:aE (∀W,aq w W->aD ax 76 #[ad (ab ⟨p,0,af⟩) 1 c1] W λe w'=>e=aA (av (aX a8 D []))/\aq W w'):=hid (λW g=>by have q:=aeJ p 0 c1 A c bs W ae (g.cell l (λh=>h)) (hb.aH g) (λb off e=>Nat.lt_of_lt_of_le (j b off e) g.size);rw[i]at q;exact q);have k:mJ bs=(k' ⟨D,0,0,0⟩ 8).1:=by rw[mJ,i]
 rw[k];have s:aE (∀W d,bR W (ab ⟨d,0,af⟩) D->aD ax 134 #[ad (ab ⟨d,0,af⟩) 32 32] W λe w'=>∃B m u,e=aA (ay (ab ⟨B,0,af⟩))/\b3 W w' (eo B m u ⟨D,0,0,0⟩)):=hid (λW d h=>by have q:=acW (ab ⟨d,0,af⟩) 32 D W ae h;rw[f]at q;exact q);have C:qw ⟨D,0,0,0⟩:=⟨cQ _,aF⟩;clear k l hb i j;go_enter func55,ntmps55;have a:=bf w;go_step;refine ag ?_;refine cJ ?_;refine bA (t.out _ a.only) a (λw1 a=>?_);refine bx a (aX a8 (fq 32 0) []) (λo F a=>?_);refine MV a 0 (FC (av (aX a8 D [])) aa aa aa (a.aZ 0) (by show 0+(aX a8 D []).size<=(aX a8 (fq 32 0) []).size;rw[j7,j7,f];simp) (by show _=ab (aX a8 D []).size;rw[j7,f];kernel_rfl) (QH (λ_=>aa) (λv hv=>absurd hv ga)) (lay_all (by show(aX a8 D []).size=(aX a8 (fq 32 0) []).size;rw[j7,j7,f];simp))) (λG a=>?_);refine ag ?_;refine pk (ad (ab ⟨o,0,af⟩) 32 32) ?_;refine a6 (s _ _ (GY (a.aZ 0))) ?_;rintro e H ⟨r,n,x,rfl,y⟩;replace a:=a.new _ y;refine ba ?_;refine a6 (IU r n x _ 8 _ (a.has 0) C ae) ?_;rintro e I ⟨rfl,z⟩;replace a:=a.eF 0 z;refine FM ?_;go_wp2_with fail;go_ret;exact⟨aa,a.only⟩
section
theorem G3{w w' p v}(g:aq w w')(h:w.cell? p=ab v):w'.cell? p=ab v:=(World.cell?_of_block (w:=w) (g.block p.block (World.block_lt_of_cell? w _ h) (λh=>h))).trans h
section
variable {ao w:aM} {FX:Nat->Prop}
def aj.tail(l l')(h:aj ao FX w (l++l')):aj ao FX w (l++[Go.Proofs.YtcmhplknoglbkaaGreat.bO l']):=by have h1:aj ao FX w (l'++l):=h.perm vk;exact h1.bO.perm (by simpa using(GN (Go.Proofs.YtcmhplknoglbkaaGreat.bO l') l).symm)
def aj.iu(l l')(h:aj ao FX w (l++[Go.Proofs.YtcmhplknoglbkaaGreat.bO l'])):aj ao FX w (l++l'):=by have h1:aj ao FX w (Go.Proofs.YtcmhplknoglbkaaGreat.bO l'::l):=h.perm (GN _ _);exact h1.kq.perm vk
end
end
def sink(lt:Nat->Nat->Bool):Nat->List Nat->List Nat
 |0,L=>L
 |j+1,L=>if lt (L[j+1]?.getD 0) (L[j]?.getD 0)=aB then sink lt j ((L.set (j+1) (L[j]?.getD 0)).set j (L[j+1]?.getD 0))else L
def k3(lt:Nat->Nat->Bool)(L:List Nat):Nat->List Nat
 |0=>L
 |i+1=>sink lt i (k3 lt L i)
def aeL lt:∀j L,(sink lt j L).length=L.length
 |0,_=>aa
 |j+1,L=>by
  unfold sink;split;·rw[aeL lt j];simp
  .rfl
def afc{L:List Nat}{j}(a:j+1<L.length){x}(h:x∈(L.set (j+1) (L[j]?.getD 0)).set j (L[j+1]?.getD 0)):x∈L:=aF
def aeM lt:∀j L x,j<L.length->x∈sink lt j L->x∈L
 |0,_,_,_,h=>h
 |j+1,L,x,a,h=>by
  unfold sink at h;split at h;·exact afc a (aeM lt j _ x (by simp;omega) h)
  .exact h
theorem EU lt L:∀i,(k3 lt L i).length=L.length
 |0=>aa
 |i+1=>by rw[k3,aeL,EU lt L i]
def S6 lt L:∀i x,i<=L.length->x∈k3 lt L i->x∈L
 |0,_,_,h=>h
 |i+1,x,hi,h=>S6 lt L i x ae (aeM lt i _ x (by grind[EU]) h)
theorem Tn{L j}(h:j<L.length):(ep L)[j]?=ab (J R ((L[j]?.getD 0:Nat):Int)):=by grind[ep]
def To L:(ep L).size=L.length:=by simp[ep]
def Tb L(j y:Nat):lay (ep L) j [J R (y:Int)]=ep (L.set j y):=by grind[lay,ep]
def aqx (G c g:Nat) lb L lt (k:Nat->Nat->Int) w (hb:aW w G (ep L) 3) (T:L.length<=1048576) (hc:L.length<=c) (V:∀x y,lt x y=decide (k x y<0)) (C:∀args w,(kj g args).run ax w=a7 (.enter g args) w)
 (hp:∀x y W,x∈L->y∈L->ar (λb=>b=G) w W->aD ax g (#[J R (x:Int),J R (y:Int)]++lb) W λe w'=>e=aA (J R (k x y))/\aq W w'):
 aD ax 355 #[ad (ab ⟨G,0,af⟩) L.length c,J R (0:Int),J R (L.length:Int),dJ (ej g) #[] lb] w λe w'=>e=aA (bg #[])/\Turned w w' (ai G (ep L) 3) (ai G (ep (k3 lt L L.length)) 3):=by
 have K:=hid C;have M:=hid hp;have W6:=hid T;clear C hp;go_enter Tryz.func355,Tryz.ntmps355;have a:aj w (λb=>b=G) w [ai G (ep L) 3]:=aj.start (t:=ai G (ep L) 3) ⟨hb,λb h=>by rw[show b=G from h];exact aW.lt hb⟩;go_step;refine ag ?_;refine v3 ?_;refine an ?_;go_wp2_with fail;go_loopw [8] (λp wr=>∃i:Nat,1<=i/\(i<=L.length\/i=1)/\p=J R (i:Int)/\aj w (λb=>b=G) wr [ai G (ep (k3 lt L i)) 3]) (λp wr=>L.length -(cw p).toNat);case atStart=>exact⟨1,cm _,.inr aa,aa,a⟩
 case round=>
  clear a;obtain⟨i,Ad,ue,rfl,a⟩:=hrel;by_cases hlt:i<L.length
  .have Y:(i:Int)<(L.length:Int):=ae;go_step;refine ag ?_;refine v3 ?_;refine ag ?_;refine dP ?_;go_wp2_with fail;go_loopw [9] (λr wr=>∃(j:Nat) (d:List Nat),j<=i/\r=J R (j:Int)/\d.length=L.length/\(∀x∈d,x∈L)/\sink lt j d=k3 lt L (i+1)/\aj w (λb=>b=G) wr [ai G (ep d) 3]) (λr wr=>(cw r).toNat);case atStart=>exact⟨i,k3 lt L i,cm _,rfl,EU lt L i,λx hx=>S6 lt L i x ae hx,aa,a⟩
   case round=>
    clear a;obtain⟨j,d,hj,rfl,U,m,hsk,a⟩:=hrel;by_cases Q:j=0
    .subst Q;have l:aE (d=k3 lt L (i+1)):=hid hsk;clear hsk;go_step;refine ct ?_;refine bN a [] (λ_ _=>aY) (λ_ _=>emp) (λ_=>[]) (λ_=>[]) (λ_=>[]) [0] (λI=>?_);refine bp ?_;refine aL (ak au) (λ_ _ _=>by(go_simp;try omega)) ?_;refine aK ?_;iterate 12 refine ds ?_
     refine gB (ak au) ?_;refine bQ λw1 a=>?_;refine b4 ?_;refine pad (i:Int) 1 ((i+1:Nat):Int) ?_;refine bP ?_;go_wp2_with fail;go_roundw;case rel=>exact⟨i+1,ae,bH ae,aa,by rw[<-l];exact a.pick [0]⟩
     case measure=>simp[cw]<;>omega
    .obtain⟨q,rfl⟩:∃q,j=q+1:=⟨j -1,ae⟩;obtain⟨x,hx⟩:=ex (d[q+1]?.getD 0);obtain⟨y,f⟩:=ex (d[q]?.getD 0);have n:q+1<d.length:=ae;have A:aE ((ep d)[q+1]?=ab (J R (x:Int))):=hid (by rw[Tn n,hx]);have B:aE ((ep d)[q]?=ab (J R (y:Int))):=hid (by rw[Tn ae,f]);have F:=m x (by rw[<-hx,cj n];exact DQ _);have H:=m y (by rw[<-f,cj (show q<d.length by omega)];exact DQ _);have hsw:∀z∈(d.set (q+1) y).set q x,z∈L:=λz hz=>m z (by rw[<-hx,<-f]at hz;exact afc n hz);have E:(if lt x y=aB then sink lt q ((d.set (q+1) y).set q x)else d)=k3 lt L (i+1):=by rw[<-hsk,sink,hx,f]
     have P:=hid hsw;have v:=hid E;obtain⟨dB,hcb⟩:=ex (lt x y);have u:aE (decide (k x y<0)=dB):=hid (by rw[<-V,hcb]);have s:=hid hcb;obtain⟨iE,hcv⟩:=ex (k x y);have Z:=hid hcv;have N:aE (∀W,ar (λb=>b=G) w W->aD ax g (#[J R (x:Int),J R (y:Int)]++lb) W λe w'=>e=aA (J R iE)/\aq W w'):=hid (λW o=>by have q:=M x y W F H o;rw[hcv]at q;exact q);rw[hcv]at u;clear hx f F H hsw hsk E hcb hcv;go_step;refine ct ?_;refine bN a [14] (λi _=>match i with|14=>J R iE|_=>aY) (λ_ _=>emp) (λ_=>[]) (λ|8=>[0]|13=>[0]|_=>[]) (λ_=>[]) [0,15] (λI=>?_);refine bp ?_;refine aL (ak aB) (λ_ _ _=>by(go_simp;try omega)) ?_;refine iw ?_;refine aL (ay (ab ⟨G,(q+1),af⟩)) (λ_ _ _=>cH 82 3 1 (bb 23) (bb 24) aa ij aw G 0 (L.length) c ((q+1)) ((q+1)) aa aa ae ae) ?_;refine aL (J R (x:Int)) (λ_ _ a=>fy aa aa (a.aZ 0) A aw) ?_;refine bp ?_;refine aL (J R (q:Int)) (λ_ _ _=>pK 3 (bb 28) (qk (J R 1)) 3 aa (((q+1:Nat):Int)) 1 (q:Int) aa aa ae ae ae) ?_;refine aL (ay (ab ⟨G,q,af⟩)) (λ_ _ _=>cH 82 3 1 (bb 27) (bb 29) aa ij aw G 0 (L.length) c q q aa aa ae ae) ?_;refine aL (J R (y:Int)) (λ_ _ a=>fy aa aa (a.aZ 0) B aw) ?_;refine dD (λ_ _ a=>N.out _ a.only) ?_ (hr:=by(intro _;first|(go_simp;done)|(go_simp;exact K _ _)));refine aL (ak dB) (λ_ _ _=>by(have h:=u.out;first|(go_simp;done)|(go_simp;rw[<-h];done)|(go_simp;simp[<-h]))) ?_;refine gB (ak dB) ?_;refine bQ λaR a=>?_;replace a:=a.drop 1;cases dB with
     |false=>
      have l:aE (d=k3 lt L (i+1)):=hid (by have h:=v.out;rw[s]at h;simpa using h);refine b4 ?_;refine pad (i:Int) 1 ((i+1:Nat):Int) ?_;refine bP ?_;go_wp2_with fail;go_roundw;case rel=>exact⟨i+1,ae,bH ae,aa,by rw[<-l];exact a.pick [0]⟩
      case measure=>simp[cw]<;>omega
     |true=>
      have O:aE (sink lt q ((d.set (q+1) y).set q x)=k3 lt L (i+1)):=hid (by have h:=v.out;rw[s]at h;simpa using h);refine ct ?_;refine bN a [15,17] (λ_ _=>aY) (λ_=>λ|15=>ai G (ep (d.set (q+1) y)) 3|17=>ai G (ep ((d.set (q+1) y).set q x)) 3|_=>emp) (λ|15=>[0]|17=>[16]|_=>[]) (λ|9=>[0]|13=>[0]|_=>[]) (λ_=>[]) [18] (λI=>?_);refine iw ?_;refine aL (J R (q:Int)) (λ_ _ _=>pK 3 (bb 40) (qk (J R 1)) 3 aa (((q+1:Nat):Int)) 1 (q:Int) aa aa ae ae ae) ?_;refine bp ?_;refine aL (J R (q:Int)) (λ_ _ _=>pK 3 (bb 43) (qk (J R 1)) 3 aa (((q+1:Nat):Int)) 1 (q:Int) aa aa ae ae ae) ?_;refine aL (ay (ab ⟨G,q,af⟩)) (λ_ _ _=>cH 82 3 1 (bb 42) (bb 44) aa ij aw G 0 (L.length) c q q aa aa ae ae) ?_;refine aL (J R (y:Int)) (λ_ _ a=>fy aa aa (a.aZ 0) B aw) ?_;refine bp ?_;refine aL (ay (ab ⟨G,(q+1),af⟩)) (λ_ _ _=>cH 82 3 1 (bb 47) (bb 48) aa ij aw G 0 (L.length) c ((q+1)) ((q+1)) aa aa ae ae) ?_;refine aL (J R (x:Int)) (λ_ _ a=>fy aa aa (a.aZ 0) A aw) ?_;refine aL (ay (ab ⟨G,(q+1),af⟩)) (λ_ _ _=>cH 82 3 1 (bb 37) (bb 38) aa ij aw G 0 (L.length) c ((q+1)) ((q+1)) aa aa ae ae) ?_;refine K' (λ_ _ a=>FC (J R (y:Int)) aa aa aa (a.aZ 0) (by show(q+1)+1<=(ep d).size;rw[To];(try simp only[wN]);omega) aw aw (Tb d (q+1) y)) ?_;refine aL (ay (ab ⟨G,q,af⟩)) (λ_ _ _=>cH 82 3 1 (bb 39) (bb 41) aa ij aw G 0 (L.length) c q q aa aa ae ae) ?_;refine K' (λ_ _ a=>FC (J R (x:Int)) aa aa aa (a.aZ 0) (by show q+1<=(ep (d.set (q+1) y)).size;rw[To];(try simp only[wN]);omega) aw aw (Tb (d.set (q+1) y) q x)) ?_;refine bQ λbL a=>?_;refine b4 ?_;refine mN ((q+1:Nat):Int) 1 (q:Int) ?_;refine bP ?_;go_wp2_with fail;go_roundw;case rel=>exact⟨q,(d.set (q+1) y).set q x,ae,aa,by simpa using U,P,O,a.pick [0]⟩
      case measure=>simp[cw]<;>omega
  .have Y:¬(i:Int)<(L.length:Int):=ae
   have D:k3 lt L i=k3 lt L L.length:=by
    by_cases X:i=L.length;·rw[X]
    .have h1:i=1:=ae;have S:L.length=0:=ae;rw[h1,S];rfl
   rw[D]at a;clear D;go_step;refine ag ?_;refine v3 ?_;refine an ?_;go_wp2_with fail;first|go_end0|refine bodyPost_ret (results_none rfl _ _ _) rfl ?_
   exact⟨aa,a.gi 0⟩
def aqw(G n c g a:Nat)lb(f:a<=1048576)w:
 aD ax 355 #[ad (ab ⟨G,0,af⟩) n c,J R (a:Int),J R (a:Int),dJ (ej g) #[] lb] w λe w'=>e=aA (bg #[])/\aq w w':=by
 go_enter Tryz.func355,Tryz.ntmps355;have b:=bf w;go_step;refine ag ?_;refine ah ?_;refine pad _ 1 ((a+1:Nat):Int) ?_;refine bP ?_;go_wp2_with fail;go_loopw [8] (λd wr=>d=J R ((a+1:Nat):Int)/\aj w (λ_=>False) wr []) (λd wr=>0);case atStart=>grind
 case round=>
  clear b;obtain⟨rfl,b⟩:=hrel;go_step;refine ag ?_;refine v2 ?_;refine cb (ak au) ?_;refine an ?_;go_wp2_with fail;first|go_end0|refine bodyPost_ret (results_none rfl _ _ _) rfl ?_
  exact⟨aa,b.only⟩
def avj (G c g:Nat) lb L lt (j:Nat->Nat->Int) w (hb:aW w G (ep L) 3) (v:L.length<=20) (hc:L.length<=c) (r:∀x y,lt x y=decide (j x y<0)) (p:∀args w,(kj g args).run ax w=a7 (.enter g args) w)
 (hp:∀x y W,x∈L->y∈L->ar (λb=>b=G) w W->aD ax g (#[J R (x:Int),J R (y:Int)]++lb) W λe w'=>e=aA (J R (j x y))/\aq W w'):
 aD ax 322 #[ad (ab ⟨G,0,af⟩) L.length c,J R (L.length:Int),dJ (ej g) #[] lb] w λe w'=>e=aA (bg #[])/\Turned w w' (ai G (ep L) 3) (ai G (ep (k3 lt L L.length)) 3):=by
 obtain⟨n,l⟩:=ex L.length;have m:aE (∀W,ar (λb=>b=G) w W->aW W G (ep L) 3->aD ax 355 #[ad (ab ⟨G,0,af⟩) n c,J R (0:Int),J R (n:Int),dJ (ej g) #[] lb] W λe w'=>e=aA (bg #[])/\Turned W w' (ai G (ep L) 3) (ai G (ep (k3 lt L n)) 3)):=hid (λW o h=>by have q:=aqx G c g lb L lt j W h ae hc r p (λx y s hx z A=>hp x y s hx z (o.trans A (λ_ _ h=>h)));rw[l]at q;exact q);rw[l]at v⊢;clear p hp r l hc;go_enter func322,ntmps322;have a:aj w (λb=>b=G) w [ai G (ep L) 3]:=aj.start (t:=ai G (ep L) 3) ⟨hb,λb h=>by rw[show b=G from h];exact aW.lt hb⟩;go_step;refine ag ?_;refine ah ?_;refine an ?_;go_step;refine ag ?_;refine v3 ?_;refine an ?_;go_wp2_with fail;go_loopw [7,8] (λi f wr=>((i=J R ((0:Nat):Int)/\f=J R ((20:Nat):Int)/\aj w (λb=>b=G) wr [ai G (ep L) 3])\/(n=20/\i=J R ((20:Nat):Int)/\f=J R ((40:Nat):Int)/\aj w (λb=>b=G) wr [ai G (ep (k3 lt L n)) 3]))) (λi f wr=>40 -(cw f).toNat);case atStart=>grind
 case round=>
  clear a;rcases hrel with⟨rfl,rfl,a⟩|⟨rfl,rfl,rfl,a⟩
  .by_cases u:n=20
   .subst u;go_step;refine ag ?_;refine v2 ?_;refine cb (ak aB) ?_;refine an ?_;go_step;refine ag ?_;refine v4 ?_;refine a6 (m _ a.only (a.aZ 0)) ?_;rintro e w1 ⟨rfl,k⟩;replace a:=a.eF 0 k;refine ba ?_;refine an ?_;go_step;refine ag ?_;refine v2 ?_;refine an ?_;go_step;refine ag ?_;refine v2 ?_;refine pad _ 20 ((40:Nat):Int) ?_;refine ah ?_;refine an ?_;go_wp2_with fail;go_roundw;case rel=>grind
    case measure=>grind[cw]
   .have hz:¬(20:Int)<=(n:Int):=ae;go_step;refine ag ?_;refine v2 ?_;refine cb (ak au) ?_;refine an ?_;go_step;refine ag ?_;refine v4 ?_;refine a6 (m _ a.only (a.aZ 0)) ?_;rintro e C ⟨rfl,k⟩;replace a:=a.eF 0 k;refine ba ?_;refine an ?_;go_wp2_with fail;go_loopw [6] (λd wr=>d=J R 20/\aj w (λb=>b=G) wr [ai G (ep (k3 lt L n)) 3]) (λd wr=>0);case atStart=>grind
    case round=>
     clear a;obtain⟨rfl,a⟩:=hrel;go_step;refine ag ?_;refine v2 ?_;refine cb (ak au) ?_;refine an ?_;go_wp2_with fail;first|go_end0|refine bodyPost_ret (results_none rfl _ _ _) rfl ?_
     exact⟨aa,a.gi 0⟩
  .
   have B:True:=trivial;go_step;refine ag ?_;refine v2 ?_;refine cb (ak au) ?_;refine an ?_;go_step;refine ag ?_;refine v4 ?_;refine a6 (aqw G 20 c g 20 lb ae _) ?_;rintro e D ⟨rfl,g⟩;replace a:=a.aH g;refine ba ?_;refine an ?_;go_wp2_with fail;go_loopw [6] (λd wr=>d=J R 20/\aj w (λb=>b=G) wr [ai G (ep (k3 lt L 20)) 3]) (λd wr=>0);case atStart=>grind
   case round=>
    clear a;obtain⟨rfl,a⟩:=hrel;go_step;refine ag ?_;refine v2 ?_;refine cb (ak au) ?_;refine an ?_;go_wp2_with fail;first|go_end0|refine bodyPost_ret (results_none rfl _ _ _) rfl ?_
    exact⟨aa,a.gi 0⟩
def au8 (G c g:Nat) lb L lt (d:Nat->Nat->Int) w (hb:aW w G (ep L) 3) (l:L.length<=20) (hc:L.length<=c) (i:∀x y,lt x y=decide (d x y<0)) (f:∀args w,(kj g args).run ax w=a7 (.enter g args) w)
 (hp:∀x y W,x∈L->y∈L->ar (λb=>b=G) w W->aD ax g (#[J R (x:Int),J R (y:Int)]++lb) W λe w'=>e=aA (J R (d x y))/\aq W w'):
 aD ax 276 #[ad (ab ⟨G,0,af⟩) L.length c,dJ (ej g) #[] lb] w λe w'=>e=aA (bg #[])/\Turned w w' (ai G (ep L) 3) (ai G (ep (k3 lt L L.length)) 3):=by
 have j:aE (∀W,ar (λb=>b=G) w W->aW W G (ep L) 3->aD ax 322 #[ad (ab ⟨G,0,af⟩) L.length c,J R (L.length:Int),dJ (ej g) #[] lb] W λe w'=>e=aA (bg #[])/\Turned W w' (ai G (ep L) 3) (ai G (ep (k3 lt L L.length)) 3)):=hid (λW o h=>avj G c g lb L lt d W h l hc i f (λx y k hx n p=>hp x y k hx n (o.trans p (λ_ _ h=>h))));clear f hp i;go_enter func276,ntmps276;have a:aj w (λb=>b=G) w [ai G (ep L) 3]:=aj.start (t:=ai G (ep L) 3) ⟨hb,λb h=>by rw[show b=G from h];exact aW.lt hb⟩;go_step;refine ag ?_;refine v4 ?_;refine a6 (j _ a.only (a.aZ 0)) ?_;rintro e w1 ⟨rfl,m⟩;replace a:=a.eF 0 m;refine AU ?_;go_wp2_with fail;first|go_end0|refine bodyPost_ret (results_none rfl _ _ _) rfl ?_
 exact⟨aa,a.gi 0⟩
section
def ET x w:
 aD ax 194 #[J R x] w λe w'=>e=aA (ak au)/\aq w w':=by
 go_enter Tryz.func194,ntmps194;have a:=bf w;go_step;refine ag ?_;refine ku ?_;refine aI (ak au) (by(go_simp;try simp)) ?_;refine bP ?_;go_wp2_with fail;go_ret;exact⟨aa,a.only⟩
def pM(x y:Int):Int:=if x<y then -1 else if y<x then 1 else 0
def alL(x y)w:
 aD ax 108 #[J R x,J R y] w λe w'=>e=aA (J R (pM x y))/\aq w w':=by
 have bB:x<y->pM x y=-1:=λh=>if_pos h;have b7:¬x<y->y<x->pM x y=1:=λh c=>by grind[pM]
 have b:¬x<y->¬y<x->pM x y=0:=λh c=>by grind[pM]
 obtain⟨z,hz⟩:=ex (pM x y);rw[hz]at bB b7 b⊢;clear hz;by_cases h1:x<y;·obtain rfl:z=-1:=bB h1;clear bB b7 b;go_enter OM,VP;have a:=bf w;go_step;refine ag ?_;refine ah ?_;refine an ?_;go_step;refine ag ?_;refine ah ?_;refine a6 (ET x _) ?_;rintro e w1 ⟨rfl,g⟩;replace a:=a.aH g;refine ba ?_;refine ah ?_;refine an ?_;go_step;refine ag ?_;refine ah ?_;refine a6 (ET y _) ?_;rintro e d ⟨rfl,g⟩;replace a:=a.aH g;refine ba ?_;refine ah ?_;refine an ?_;go_step;refine ag ?_;refine ah ?_;refine an ?_;go_step;refine ag ?_;refine ah ?_;refine an ?_;go_step;refine ag ?_;refine v2 ?_;refine cb (ak aB) ?_;refine an ?_;go_step;refine ag ?_;refine ah ?_;refine an ?_;go_wp2_with fail;go_ret;exact⟨aa,a.only⟩
 .by_cases c:y<x;·obtain rfl:z=1:=b7 h1 c;clear bB b7 b;go_enter OM,VP;have a:=bf w;go_step;refine ag ?_;refine ah ?_;refine an ?_;go_step;refine ag ?_;refine ah ?_;refine a6 (ET x _) ?_;rintro e f ⟨rfl,g⟩;replace a:=a.aH g;refine ba ?_;refine ah ?_;refine an ?_;go_step;refine ag ?_;refine ah ?_;refine a6 (ET y _) ?_;rintro e i ⟨rfl,g⟩;replace a:=a.aH g;refine ba ?_;refine ah ?_;refine an ?_;go_step;refine ag ?_;refine ah ?_;refine an ?_;go_step;refine ag ?_;refine ah ?_;refine an ?_;go_step;refine ag ?_;refine v2 ?_;refine cb (ak au) ?_;refine an ?_;go_step;refine ag ?_;refine v2 ?_;refine cb (ak aB) ?_;refine an ?_;go_step;refine ag ?_;refine ah ?_;refine an ?_;go_wp2_with fail;go_ret;exact⟨aa,a.only⟩
  .obtain rfl:z=0:=b h1 c;clear bB b7 b;go_enter OM,VP;have a:=bf w;go_step;refine ag ?_;refine ah ?_;refine an ?_;go_step;refine ag ?_;refine ah ?_;refine a6 (ET x _) ?_;rintro e j ⟨rfl,g⟩;replace a:=a.aH g;refine ba ?_;refine ah ?_;refine an ?_;go_step;refine ag ?_;refine ah ?_;refine a6 (ET y _) ?_;rintro e k ⟨rfl,g⟩;replace a:=a.aH g;refine ba ?_;refine ah ?_;refine an ?_;go_step;refine ag ?_;refine ah ?_;refine an ?_;go_step;refine ag ?_;refine ah ?_;refine an ?_;go_step;refine ag ?_;refine v2 ?_;refine cb (ak au) ?_;refine an ?_;go_step;refine ag ?_;refine v2 ?_;refine cb (ak au) ?_;refine an ?_;go_step;refine ag ?_;refine ah ?_;refine an ?_;go_wp2_with fail;go_ret;exact⟨aa,a.only⟩
section
variable {P:eu} {o:cR} {a:Act} {w:aM}
def aru n:F9 #[J R 0] n=ep (fq n 0):=by
 apply Array.ext;·simp[F9,ep]
 grind[F9,ep]
def asg{t e:Nat}{x y}(n:Nat)(c:o.op=.makeSlice t x y)(hx:a.eval x=J R (n:Int))(f:a.eval y=J R (n:Int))(d:P.underlying t=ab (.slice e))(hi:(P.info? e).map (λi=>(i.zero,i.size,i.bytes))=ab (ab (J R 0),1,8))(j:n<=1048576):
 ∃B w',(bt a.eval o).run P w=a7 (c8 (ad (ab ⟨B,0,af⟩) n n)) w'/\b3 w w' (ai B (ep (fq n 0)) e):=by
 cases hq:P.info? e with
 |none=>grind
 |some i=>
  rw[hq]at hi;simp only[oW,wQ,Prod.mk.injEq]at hi;obtain⟨h1,b,g⟩:=hi;have h:=run_make (P:=P) w t e i (J R 0) d hq h1 R R (n:Int) (n:Int) ae (Int.le_refl _) aF ae;refine⟨_,_,?_,yh (ar.alloc _ _) (heap_alloc_new w _) (cm _)⟩;rw[b,Nat.mul_one]at h;have hc:(J R 0).cells=#[J R 0]:=rfl;rw[hc,Int.toNat_natCast,aru]at h;unfold bt;simp only[c,hx,f,gj,h,Result.andThen_ok,Sem.run_pure]
end
end
def mR(ms:List bG)(x:Nat):Int:=((ms[x]?).map (·.to)).getD 0
def E1{P o}{a:Act}{w}ty x(b:o.op=.load ty x)(B k){v}(hx:a.eval x=ay (ab ⟨B,k,af⟩))(hc:w.cell? ⟨B,k,af⟩=ab v)(e:(P.underlying ty).map (λd=>d.isRow)=ab au):
 (bt a.eval o).run P w=a7 (c8 v) w:=by
 cases hq:P.underlying ty with
 |none=>grind
 |some d=>
  have c:d.isRow=false:=aF
  have hagg:(isAgg ty).run P w=a7 au w:=by unfold isAgg;rw[gj,run_underlying hq w];cases d<;>simp_all
  unfold bt;simp[b,hx,Instr.loadAt,Instr.sureAddr,loadVar,hagg,hc]
def ava(da x y)A c ms w(hb:aW w da #[ad A ms.length c] 24)(j:cC w A ms)(hx:x<ms.length)(q:y<ms.length)(E:ms.length<=1048576):
 aD ax 277 #[J R (x:Int),J R (y:Int),ay (ab ⟨da,0,af⟩)] w λe w'=>e=aA (J R (pM (mR ms x) (mR ms y)))/\aq w w':=by
 have z:=hid j;have n:=hid hb;obtain⟨m,k⟩:∃m,ms[x]?=ab m:=⟨_,cj hx⟩;obtain⟨h,l⟩:∃m,ms[y]?=ab m:=⟨_,cj q⟩;have e:pM (mR ms x) (mR ms y)=pM m.to h.to:=by simp[mR,k,l]
 rw[e];obtain⟨d,a,u,C,t,_,o⟩:=cC.h9 j k;obtain⟨B,F,v,D,f,_,p⟩:=cC.h9 j l;subst t;injection f with f;injection f with f RG;subst f;subst RG;have r:aE (∀W,aq w W->W.cell? ⟨d,a+x*5+1,af⟩=ab (J R m.to)):=hid (λW g=>o W g 1 _ aa);have s:aE (∀W,aq w W->W.cell? ⟨d,a+y*5+1,af⟩=ab (J R h.to)):=hid (λW g=>p W g 1 _ aa);clear j hb k l e o p;go_enter Tryz.func277,ntmps277;have b:=bf w;go_step;refine ag ?_;refine ig ?_;refine bN b [10] (λi _=>match i with|10=>J R (pM m.to h.to)|_=>aY) (λ_ _=>emp) (λ_=>[]) (λ_=>[]) (λ_=>[]) [10] (λG=>?_);refine aL (ad (ab ⟨d,a,af⟩) ms.length c) (λ_ _ b=>fy aa aa (aW.aH n b.only) aa aw) ?_;refine aK ?_;refine aL (ay (ab ⟨d,(a+x*5),af⟩)) (λ_ _ _=>cH 24 73 5 (bb 6) (bb 7) aa eA aw d a (ms.length) c x ((a+x*5)) aa aa hx aa) ?_;refine aL (ay (ab ⟨d,a+x*5+1,af⟩)) (λ_ _ _=>by(go_simp;try rfl)) ?_;refine aL (J R m.to) (λ_ _ b=>E1 3 (bb 9) aa d (a+x*5+1) aa (r _ b.only) aw) ?_;refine aL (ad (ab ⟨d,a,af⟩) ms.length c) (λ_ _ b=>fy aa aa (aW.aH n b.only) aa aw) ?_;refine aK ?_;refine aL (ay (ab ⟨d,(a+y*5),af⟩)) (λ_ _ _=>cH 24 73 5 (bb 11) (bb 12) aa eA aw d a (ms.length) c y ((a+y*5)) aa aa q aa) ?_;refine aL (ay (ab ⟨d,a+y*5+1,af⟩)) (λ_ _ _=>by(go_simp;try rfl)) ?_;refine aL (J R h.to) (λ_ _ b=>E1 3 (bb 14) aa d (a+y*5+1) aa (s _ b.only) aw) ?_;refine dD (λ_ _ _=>alL m.to h.to _) ?_;refine aK ?_;refine bQ λw1 b=>?_;replace b:=b.drop 0;go_wp2_with fail;go_ret;exact⟨aa,b.only⟩
def lX(ms:List bG):List Nat:=k3 (λx y=>decide (pM (mR ms x) (mR ms y)<0)) (dF ms.length) ms.length
theorem MQ ms:(lX ms).length=ms.length:=by grind[lX,EU]
def adm{ms x}(h:x∈lX ms):x<ms.length:=List.mem_range.1 (S6 _ _ _ _ aT h)
def vW(n j:Nat):List Nat:=dF j++fq (n -j) 0
theorem atu{n j}(h:j<n):(vW n j).set j j=vW n (j+1):=by unfold vW;rw[List.set_append_right _ _ aT,DR,Nat.sub_self,List.range_succ,j5];congr 1;rw[show n -j=(n -(j+1))+1 by omega,List.replicate_succ];rfl
def att{n j}(h:j<=n):(vW n j).length=n:=by grind[vW]
def sorted_at A c ms w(r:cC w A ms)(H:ms.length<=20):
 aD ax 201 #[ad A ms.length c] w λe w'=>∃fR da,e=aA (dJ (ej 278) #[] #[ay (ab ⟨fR,0,af⟩),ay (ab ⟨da,0,af⟩)])/\∃G,b3 w w' (bO [ai fR #[ad (ab ⟨G,0,af⟩) ms.length ms.length] 82,ai da #[ad A ms.length c] 24,ai G (ep (lX ms)) 3]):=by
 have t:=hid r;obtain⟨n,f⟩:=ex ms.length
 have u:aE (∀W da G,aq w W->w.heap.size<=G->aW W da #[ad A n c] 24->¬da=G->aW W G (ep (dF n)) 3->aD ax 276 #[ad (ab ⟨G,0,af⟩) n n,dJ (ej 277) #[] #[ay (ab ⟨da,0,af⟩)]] W λe w'=>e=aA (bg #[])/\Turned W w' (ai G (ep (dF n)) 3) (ai G (ep (lX ms)) 3)):=hid (λW da G g I h1 hne v=>by
  have hr:(dF n).length=n:=DR
  have q:=au8 G n 277 #[ay (ab ⟨da,0,af⟩)] (dF n) (λx y=>decide (pM (mR ms x) (mR ms y)<0)) (λx y=>pM (mR ms x) (mR ms y)) W v ae ae (λ_ _=>aa) (ll Tryz.func277 aw aa) (λx y k hx K o=>by
   have g2:aq w k:=((g.to (F:=λb=>b=G)).trans o (λ_ _ h=>h)).mono (λi hi h=>ae);have z:aW k da #[ad A ms.length c] 24:=by rw[f];exact o.heap h1 hne
   exact ava da x y A c ms k z (t.out.aH g2) aF aF ae);rw[hr]at q;rw[lX,f];exact q);rw[f]at H⊢;clear r f;go_enter func201,ntmps201;have a:=bf w;go_step;refine ag ?_;refine bM a (ad A n c) (λm w1 a=>?_);refine dQ ?_;refine pl a 0 0 ?_;refine ah ?_;refine IH a (asg n aa aa aa ij aw ae) (λd L a=>?_);refine bx a #[ad af 0 0] (λs M a=>?_);refine a' a 0 (ad (ab ⟨d,0,af⟩) n n) (λN a=>?_);refine ag ?_;refine pl a 0 0 ?_;refine dP ?_;have p:=a.pk [0,1,2];go_wp2_with fail;go_loopw [10] (λl wr=>∃j:Nat,j<=n/\l=J R (j:Int)/\aj w (λ_=>False) wr [ai s #[ad (ab ⟨d,0,af⟩) n n] 82,ai d (ep (vW n j)) 3,ai m #[ad A n c] 24]) (λl wr=>n -(cw l).toNat);case atStart=>exact⟨0,cQ _,aa,by rw[show vW n 0=fq n 0 from aS];exact p⟩
 case round=>
  clear a p;obtain⟨j,C,rfl,a⟩:=hrel;by_cases hlt:j<n
  .have E:(j:Int)<(n:Int):=ae;go_step;refine ag ?_;refine ah ?_;refine ag ?_;refine v2 ?_;refine ag ?_;refine pl a 0 0 ?_;refine v2 ?_;refine aI _ (cH 82 3 1 _ _ aa ij aw d 0 n n j j aa aa hlt ae) ?_;refine MV a 1 (FC (J R (j:Int)) aa aa aa (a.aZ 1) (by show j+1<=(ep (vW n j)).size;rw[To,att C];omega) aw aw (Tb (vW n j) j j)) (λO a=>?_);refine ag ?_;refine pad (j:Int) 1 ((j+1:Nat):Int) ?_;refine bP ?_;go_wp2_with fail;go_roundw;case rel=>exact⟨j+1,ae,aa,by grind[atu]⟩
   case measure=>grind[cw]
  .have E:¬(j:Int)<(n:Int):=ae;have D:j=n:=ae;rw[show vW n j=dF n from by rw[D];simp[vW]]at a;go_step;refine ag ?_;refine dQ ?_;refine pl a 0 0 ?_;refine ah ?_;refine a6 (u _ _ d a.only ((a.low _ (cL (i:=1) aa) d aa).2.resolve_right (λh=>h)) (a.aZ 2) (λh=>a.ne (i:=2) (j:=1) aa aa bh m aa h) (a.aZ 1)) ?_;rintro e P ⟨rfl,B⟩;replace a:=a.eF 1 B;refine ba ?_;refine ag ?_;refine dP ?_;go_wp2_with fail;go_ret;exact⟨_,_,aa,d,((a.pick (l':=[ai _ _ 82,ai _ _ 24,ai d _ 3]) [0,2,1]).fB 3).fresh 0⟩
def Mv(ms:List bG)(x:Nat):Int:=((ms[x]?).map cS).getD 0
def hQ(ms:List bG):List (Nat×Int×Int):=(lX ms).map (λi=>(i,mR ms i,Mv ms i))
def ae3 ms:(hQ ms).length=ms.length:=by grind[hQ,MQ]
def cC.KS{FX ao A ms}(h:∀W,ar FX ao W->cC W A ms){W}(g:ar FX ao W){j m}(e:ms[j]?=ab m):∃a b c d,A=ab ⟨a,b,af⟩/\W.rangeAt a (b+j*5) [J R m.k,J R m.to,J R m.fr,J R m.n,ad c m.data.length d]:=by grind[cC.h9,ar.refl]
def aeZ(fR da G)A c ms ao FX(O:∀W,ar FX ao W->cC W A ms)(ef:ms.length<=20):
 yd ax 278 #[ay (ab ⟨fR,0,af⟩),ay (ab ⟨da,0,af⟩)] (λx:Nat×Int×Int=>#[J R (x.1:Int),gI x.2]) ao FX (bO [ai fR #[ad (ab ⟨G,0,af⟩) ms.length ms.length] 82,ai da #[ad A ms.length c] 24,ai G (ep (lX ms)) 3]) (λ_=>True) (hQ ms):=by
 intro l S gM W F t bJ I a;have B:=hid O;obtain⟨n,d⟩:=ex ms.length;have P:(lX ms).length=n:=by rw[MQ,d]
 have Q:(hQ ms).length=n:=by rw[ae3,d]
 rw[d]at a ef;have C:=hid d;have PY:=hid P;have wK:=hid Q;clear O d P Q;go_enter Vx,ntmps278;replace a:aj ao FX W [ai fR #[ad (ab ⟨G,0,af⟩) n n] 82,ai da #[ad A n c] 24,ai G (ep (lX ms)) 3,t,F]:=a.kq;go_step;refine ag ?_;refine pl a 0 0 ?_;refine dP ?_;go_wp2_with fail;go_loopw [8] (λv wr=>∃(j:Nat) (t:br),j<=n/\v=J R (j:Int)/\S ((hQ ms).take j) t/\aj ao FX wr [ai fR #[ad (ab ⟨G,0,af⟩) n n] 82,ai da #[ad A n c] 24,ai G (ep (lX ms)) 3,t,F]) (λv wr=>n -(cw v).toNat);case atStart=>exact⟨0,t,cQ _,aa,I,a⟩
 case round=>
  clear a I;obtain⟨j,t,hj,rfl,p,a⟩:=hrel;by_cases hlt:j<n
  .have cI:(j:Int)<(n:Int):=ae;have N:j<(lX ms).length:=by rw[PY];exact hlt
   obtain⟨i,hi⟩:∃i,(lX ms)[j]?=ab i:=⟨_,cj N⟩;have M:i<n:=by rw[<-C];exact adm (cL hi)
   obtain⟨m,f⟩:∃m,ms[i]?=ab m:=⟨_,cj (by rw[C];exact M)⟩;have aqa:(hQ ms)[j]?=ab (i,m.to,cS m):=by rw[hQ,kB,hi];simp[mR,Mv,f]
   have u:(hQ ms).take (j+1)=(hQ ms).take j++[(i,m.to,cS m)]:=by grind[fu]
   have s:(hQ ms).take j++[(i,m.to,cS m)]<+:hQ ms:=aF;have aiT:aE ((ep (lX ms))[j]?=ab (J R (i:Int))):=hid (by grind[Tn]);obtain⟨o,U,y,H,K,_⟩:=cC.KS B.out a.only f
   have Z:aE (∀W,ar FX ao W->∃y H,W.rangeAt o (U+i*5) [J R m.k,J R m.to,J R m.fr,J R m.n,ad y m.data.length H]):=hid (λW g=>by obtain⟨eY,et,aJ,c2,h1,h2⟩:=cC.KS B g f;grind);obtain⟨w,E,L⟩:=Z _ a.only;obtain⟨T,r⟩:=ex (cS m);rw[r]at s u;have pA:aE (∀W,aD ax 136 #[av #[J R m.k,J R m.to,J R m.fr,J R m.n,ad w m.data.length E]] W λe w'=>e=aA (av #[J R m.to,J R T])/\aq W w'):=hid (λW=>by rw[<-r];exact uE _ _ _ _ w _ E W);have Y:=hid L;have X:=hid K;have D:=hid s;have Qg:=hid u;clear hi f aqa u s K N L r;go_step;refine ag ?_;refine dQ ?_;refine aI (ay (ab ⟨G,j,af⟩)) (cH 82 3 1 (bb 6) (bb 8) aa ij aw G 0 n n j j aa aa hlt ae) ?_;refine aI _ (fy aa aa (a.aZ 2) aiT aw) ?_;refine ig ?_;refine NB 7 ?_;refine v2 ?_;refine pl a 1 0 ?_;refine ah ?_;refine aI _ (cH 24 73 5 _ _ aa eA aw o U n c i _ (by show ad A _ _=_;rw[X]) aa M aa) ?_;refine aI _ (by(refine e6 73 _ aa o _ aa _ Y fW aa aw)) ?_;refine bA (pA _) a (λw1 a=>?_);refine an ?_;have z:=(a.pick (l':=[t,ai fR #[ad (ab ⟨G,0,af⟩) n n] 82,ai da #[ad A n c] 24,ai G (ep (lX ms)) 3,F]) [3,0,1,2,4]).G0;refine Jd (bJ ((hQ ms).take j) (i,m.to,T) _ _ _ D p z) (λb aR hb=>?_) (λ_ _ he=>he.elim (λh=>⟨_,h.1⟩) (λh=>⟨_,h.1⟩)) (Hf aa aa (by simp only[List.map_toArray,List.map_cons,List.map_nil];rfl));clear z a;rcases I4 hb with⟨rfl,V,q,a⟩|⟨rfl,V,q,a⟩
   .clear hb;replace a:=a.xz;refine vS ?_;refine dQ ?_;refine pad (j:Int) 1 ((j+1:Nat):Int) ?_;refine bP ?_;go_wp2_with fail;go_roundw;case rel=>exact⟨j+1,_,ae,aa,by rw[Qg.out];exact q,a.pick [1,2,3,0,4]⟩
    case measure=>simp[cw]<;>omega
   .clear hb;replace a:=a.xz;refine vS ?_;refine bP ?_;go_wp2_with fail;first|go_end0|refine bodyPost_ret (results_none rfl _ _ _) rfl ?_
    exact vo.cut D q (((a.pick (l':=[ai fR _ 82,ai da _ 24,ai G _ 3,V,F]) [1,2,3,0,4]).fB 3).pick [1,0,2])
  .have cI:¬(j:Int)<(n:Int):=ae;have hI:(hQ ms).take j=hQ ms:=tF (by rw[wK];omega);rw[hI]at p;go_step;refine ag ?_;refine bP ?_;go_wp2_with fail;first|go_end0|refine bodyPost_ret (results_none rfl _ _ _) rfl ?_
   exact vo.all p trivial ((a.fB 3).pick [1,0,2])
def ab4(n:Nat)(b:(n:Int)<=4611686018427387903)w:
 aD ax 120 #[J R (n:Int)] w λe w'=>e=aA (ak aB)/\aq w w':=by
 go_enter func120,ntmps120;have a:=bf w;go_step;refine ag ?_;refine ku ?_;refine bA (xB 0 (n:Int) _ ⟨ae,ae,ae⟩) a (λw1 a=>?_);refine bP ?_;go_wp2_with fail;go_ret;exact⟨aa,a.only⟩
def jb(o n:Nat)(m:bG):Prop:=hX m/\(m.k=1->m.fr+m.n<=(o:Int))/\m.to+cS m<=(n:Int)
def auV(o n)(g1 g2)f(B:f.oneCell'=aB)m b c(h:jb o n m)(C:(o:Int)<=4611686018427387903/\(n:Int)<=4611686018427387903)w:
 aD ax 121 #[dC (o:Int) (n:Int) g1 g2 f,av #[J R m.k,J R m.to,J R m.fr,J R m.n,ad b m.data.length c]] w λe w'=>e=aA (J R 0)/\aq w w':=by
 obtain⟨hv,l,y⟩:=h;obtain⟨d,g⟩:=ex (cS m);have s:=hv.b8;have hb:0<=m.to/\0<d/\m.to+d<=4611686018427387903:=ae;rw[g]at y;obtain⟨eR,eY,sC⟩:=hb;have q:aE (∀W,aD ax 200 #[av #[J R m.k,J R m.to,J R m.fr,J R m.n,ad b m.data.length c]] W λe w'=>e=aA (J R 0)/\aq W w'):=hid (λW=>alx m.k m.to m.fr m.n b m.data.length c W hv);have r:aE (∀W,aD ax 136 #[av #[J R m.k,J R m.to,J R m.fr,J R m.n,ad b m.data.length c]] W λe w'=>e=aA (av #[J R m.to,J R d])/\aq W w'):=hid (λW=>by rw[<-g];exact uE _ _ _ _ b _ c W);by_cases hk:m.k=1
 .have hf2:=l hk;have x:0<=m.fr/\0<=m.n:=by rcases hv with⟨_,_,⟨z,A,_⟩,_⟩|⟨h2,_⟩;exact⟨z,A⟩;omega
  obtain⟨D,E⟩:=x;have j:aE (∀W,aD ax 79 #[av #[J R m.k,J R m.to,J R m.fr,J R m.n,ad b m.data.length c]] W λe w'=>e=aA (bg #[av #[J R m.fr,J R m.n],ak aB])/\aq W w'):=hid (λW=>by rw[hk];exact y4 _ _ _ b _ c W);clear hk l g hv s;go_enter Tryz.func121,Tryz.ntmps121;have a:=bf w;go_step;refine ag ?_;refine bM a (av (a1 (o:Int) (n:Int) g1 g2 f)) (λt w1 a=>?_);refine bM a (av #[J R m.k,J R m.to,J R m.fr,J R m.n,ad b m.data.length c]) (λu N a=>?_);refine dQ ?_;refine bq a 0 #[J R m.k,J R m.to,J R m.fr,J R m.n,ad b m.data.length c] ?_;refine bA (q _) a (λO a=>?_);refine cJ ?_;refine pk (ak au) ?_;refine ag ?_;refine bq a 0 #[J R m.k,J R m.to,J R m.fr,J R m.n,ad b m.data.length c] ?_;refine bA (j _) a (λP a=>?_);refine v3 ?_;refine bx a #[J R 0,J R 0] (λv Q a=>?_);refine a' a 0 (av #[J R m.fr,J R m.n]) (λS a=>?_);refine ig ?_;refine bN a [3] (λi _=>match i with|3=>J R (m.fr+m.n)|_=>aY) (λ_ _=>emp) (λ_=>[]) (λ|2=>[0]|5=>[2]|_=>[]) (λ_=>[]) [0,1,2,6] (λp=>?_);refine bp ?_;refine ea 0 #[J R m.fr,J R m.n] ?_;refine dD (λ_ _ _=>lN m.fr _ _ ae ae ae) ?_;refine aK ?_;refine dl 0 0 ?_ (hv:=mA);refine aL (ak au) (λ_ _ _=>by(go_simp;try omega)) ?_;refine aK ?_;refine bQ λT a=>?_;replace a:=a.drop 3;refine ct ?_;refine bN a [1,2] (λi _=>match i with|1=>av #[J R m.to,J R d]|2=>J R (m.to+d)|_=>aY) (λ_ _=>emp) (λ_=>[]) (λ|0=>[1]|4=>[2]|_=>[]) (λ_=>[]) [0,1,2,4,5] (λp=>?_);refine ea 0 #[J R m.k,J R m.to,J R m.fr,J R m.n,ad b m.data.length c] ?_;refine dD (λ_ _ _=>r _) ?_;refine dD (λ_ _ _=>lN m.to d _ ae ae ae) ?_;refine aK ?_;refine dl 0 1 ?_ (hv:=jh);refine aL (ak au) (λ_ _ _=>by(go_simp;try omega)) ?_;refine bQ λU a=>?_;replace a:=a.drop 3;replace a:=a.drop 3;refine ag ?_;refine ah ?_;refine an ?_;go_wp2_with fail;go_ret;exact⟨aa,a.only⟩
 .have j:aE (∀W,aD ax 79 #[av #[J R m.k,J R m.to,J R m.fr,J R m.n,ad b m.data.length c]] W λe w'=>e=aA (bg #[av #[J R 0,J R 0],ak au])/\aq W w'):=hid (λW=>y5 m.k m.to m.fr m.n b m.data.length c W hk);clear hk l g hv s;go_enter Tryz.func121,Tryz.ntmps121;have a:=bf w;go_step;refine ag ?_;refine bM a (av (a1 (o:Int) (n:Int) g1 g2 f)) (λt V a=>?_);refine bM a (av #[J R m.k,J R m.to,J R m.fr,J R m.n,ad b m.data.length c]) (λu F a=>?_);refine dQ ?_;refine bq a 0 #[J R m.k,J R m.to,J R m.fr,J R m.n,ad b m.data.length c] ?_;refine bA (q _) a (λG a=>?_);refine cJ ?_;refine pk (ak au) ?_;refine ag ?_;refine bq a 0 #[J R m.k,J R m.to,J R m.fr,J R m.n,ad b m.data.length c] ?_;refine bA (j _) a (λH a=>?_);refine v3 ?_;refine bx a #[J R 0,J R 0] (λv I a=>?_);refine a' a 0 (av #[J R 0,J R 0]) (λK a=>?_);refine ig ?_;refine bN a [] (λ_ _=>aY) (λ_ _=>emp) (λ_=>[]) (λ_=>[]) (λ_=>[]) [0,1,2] (λp=>?_);refine bp ?_;iterate 5 refine ds ?_
  refine aK ?_;refine bQ λL a=>?_;refine ct ?_;refine bN a [1,2] (λi _=>match i with|1=>av #[J R m.to,J R d]|2=>J R (m.to+d)|_=>aY) (λ_ _=>emp) (λ_=>[]) (λ|0=>[1]|4=>[2]|_=>[]) (λ_=>[]) [0,1,2,4,5] (λp=>?_);refine ea 0 #[J R m.k,J R m.to,J R m.fr,J R m.n,ad b m.data.length c] ?_;refine dD (λ_ _ _=>r _) ?_;refine dD (λ_ _ _=>lN _ d _ ae ae ae) ?_;refine aK ?_;refine dl 0 1 ?_ (hv:=jh);refine aL (ak au) (λ_ _ _=>by(go_simp;try omega)) ?_;refine bQ λM a=>?_;replace a:=a.drop 3;replace a:=a.drop 3;refine ag ?_;refine ah ?_;refine an ?_;go_wp2_with fail;go_ret;exact⟨aa,a.only⟩
def im(l:List (Nat×Int×Int)):Int:=l.foldl (λe x=>e+x.2.2) 0
theorem Y8 l x:im (l++[x])=im l+x.2.2:=by grind[im]
structure KG (n:Nat) (ms:List bG):Prop where
 next:∀pre x,pre++[x]<+:hQ ms->x.2.1=im pre/\0<=im pre/\0<=x.2.2/\im pre+x.2.2<=4611686018427387903
 all:im (hQ ms)=(n:Int)
def avD n A c ms w(k:cC w A ms)(y:ms.length<=20)(f:KG n ms):
 aD ax 122 #[ad A ms.length c] w λe w'=>e=aA (bg #[J R (n:Int),ak au])/\aq w w':=by
 have j:=hid f;have o:=λW g=>sorted_at A c ms W (k.aH g) y;have p:∀fR da G,yd ax 278 #[ay (ab ⟨fR,0,af⟩),ay (ab ⟨da,0,af⟩)] (λx:Nat×Int×Int=>#[J R (x.1:Int),gI x.2]) w (λ_=>False) (bO [ai fR #[ad (ab ⟨G,0,af⟩) ms.length ms.length] 82,ai da #[ad A ms.length c] 24,ai G (ep (lX ms)) 3]) (λ_=>True) (hQ ms):=λfR da G=>aeZ fR da G A c ms w _ (λW g=>k.aH g) y;have N:=hid o;obtain⟨xs,C⟩:=ex (hQ ms);have m:=f.next;have hall:=f.all;rw[C]at p m hall;have L:=hid m;have K:=hid hall;clear o f k m hall C;refine BH func122 aa ?_;simp only[ntmps122,iQ,jT,l2,qf,qg,qv,qu,nd,pB];have a:=bf w;go_step;refine ag ?_;refine bx a #[J R 0] (λE w1 a=>?_);refine bx a #[ak au] (λH aR a=>?_);refine an ?_;go_step;refine ag ?_;refine bx a #[J R 0] (λb bL a=>?_);refine bx a #[J R 0] (λd ca a=>?_);refine a' a 1 (J R 0) (λcF a=>?_);refine a' a 0 (J R (-1)) (λc6 a=>?_);refine an ?_;go_step;refine ag ?_;refine ah ?_;refine a6 (N _ a.only) ?_;rintro e dW ⟨fR,da,rfl,G,P⟩;replace a:=a.new _ P;refine ba ?_;refine an ?_;go_wp2_with fail;have j:aj _ _ _ [bO [ai fR #[ad (ab ⟨G,0,af⟩) ms.length ms.length] 82,ai da #[ad A ms.length c] 24,ai G (ep (lX ms)) 3],bO [ai b #[J R 0] 3,ai d #[J R (-1)] 3],bO [ai H #[ak au] 4,ai E #[J R 0] 3]]:=aj.D0 (a.pick [0,2,1,3,4]);refine Jc (encs:=(λx:Nat×Int×Int=>#[J R (x.1:Int),gI x.2])) aa (ll Vx aS aa) (λ_=>aa) (p _ _ _) (λpre t=>t=bO [ai b #[J R (im pre)] 3,ai d _ 3]) (λ_ _ _=>False) aa j ?_ ?_ ?_;all_goals clear j a
 .rintro l rd pre x W t F z Q rfl a;replace a:=a.lE;repeat((fail_if_success (with_reducible refine at_region ?_));gi_step)
  refine ke ?_;refine bx a #[J R 0,J R 0] (λI dG a=>?_);refine a' a 0 (av #[J R x.2.1,J R x.2.2]) (λe8 a=>?_);refine an ?_;first|refine wpIn_skip ?_|skip
  simp only[Exit.then];refine BB a 3 Q (λU a=>?_);replace a:aj _ _ _ [ai I #[J R x.2.1,J R x.2.2] 35,ai b #[J R (im pre)] 3,ai d #[J R (-1)] 3,obj l (fS {rd with state:=sl}),F]:=a;obtain⟨h1,r,O,s⟩:=L pre x z;obtain⟨S,v⟩:=ex (im pre);have B:im (pre++[x])=x.2.1+x.2.2:=by grind[Y8]
  have M:=hid B;rw[v]at h1 r s a;have hx1:0<=x.2.1:=ae;have hx2:x.2.1+x.2.2<=4611686018427387903:=ae;have q:=hid h1;clear B v h1 r s z;repeat((fail_if_success (with_reducible refine at_region ?_));gi_step)
  refine ke ?_;refine ah ?_;refine pl a 0 0 ?_;refine pl a 1 0 ?_;refine aI (ak au) (by(have h:=q.out;go_simp;try omega)) ?_;refine an ?_;repeat((fail_if_success (with_reducible refine at_region ?_));gi_step)
  refine ke ?_;refine ah ?_;refine pl a 0 0 ?_;refine pl a 1 0 ?_;refine aI (ak au) (by(have h:=q.out;go_simp;try omega)) ?_;refine ah ?_;iterate 2 refine ps ?_
  refine pk (ak au) ?_;refine an ?_;repeat((fail_if_success (with_reducible refine at_region ?_));gi_step)
  refine ke ?_;refine bq a 0 #[J R x.2.1,J R x.2.2] ?_;refine a6 (lN _ _ _ hx1 O hx2) ?_;rintro e V ⟨rfl,g⟩;replace a:=a.aH g;refine ba ?_;refine a' a 1 (J R (x.2.1+x.2.2)) (λX a=>?_);refine an ?_;repeat gi_step
  have i:=a.pk [1,2,3,4];replace i:aj _ _ _ [bO [ai b #[J R (x.2.1+x.2.2)] 3,ai d #[J R (-1)] 3],obj l (fS {rd with state:=sl}),F]:=i.fB 2;refine⟨_,?_,i⟩;exact(by show _=_;rw[M])
 .rintro D t u W rfl T a;replace a:=a.lE;replace a:=(a.pk [4,0,1,2,3]).lE;rw[K]at a;go_step;refine ag ?_;refine pl a 3 0 ?_;refine pk (ak au) ?_;refine an ?_;go_step;refine ag ?_;refine pl a 2 0 ?_;refine a' a 1 (J R (n:Int)) (λY a=>?_);refine a' a 0 (ak au) (λZ a=>?_);refine an ?_;go_wp2_with fail;refine yU a 5 (λw' a=>⟨aec aa aa (a.aZ 1) aw aa (a.aZ 0) aw,aa,a.only⟩)
 .simp
structure nF (o n:Nat) (ms:List bG):Prop where
 fa:(o:Int)<=4611686018427387903
 qO:(n:Int)<=4611686018427387903
 fits:∀m∈ms,jb o n m
 tiled:KG n ms
 ek:ms.length<=20
def Rk(o n)(g1 g2)A c ms w(h:cC w A ms)(hv:nF o n ms):
 aD ax 50 #[dC (o:Int) (n:Int) g1 g2 (ad A ms.length c)] w λe w'=>e=aA (av #[J R 0,J R 0])/\aq w w':=by
 have E:=hid h;have I:=hid hv;have O:=hv.ek;have x:(o:Int)<=4611686018427387903/\(n:Int)<=4611686018427387903:=⟨hv.fa,hv.qO⟩;have G:=hid x;obtain⟨Q,P⟩:=x;have H:aE (∀W,aq w W->aD ax 122 #[ad A ms.length c] W λe w'=>e=aA (bg #[J R (n:Int),ak au])/\aq W w'):=hid (λW g=>avD n A c ms W (h.aH g) hv.ek hv.tiled);clear h hv;go_enter func50,ntmps50;have a:=bf w;go_step;refine ag ?_;refine bM a (av (a1 (o:Int) (n:Int) g1 g2 (ad A ms.length c))) (λy w1 a=>?_);refine bx a #[J R 0,J R 0] (λz S a=>?_);refine b4 ?_;refine pl a 1 0 ?_ (hv:=mA);refine bA (ab4 o ae _) a (λT a=>?_);refine v3 ?_;refine pl a 1 1 ?_ (hv:=jh);refine bA (ab4 n ae _) a (λU a=>?_);refine C4 ?_;refine pl a 1 66 ?_ (hv:=eS);refine dP ?_;have q:=a.pk [1,0];go_wp2_with fail;go_loopw [22] (λl wr=>∃j:Nat,j<=ms.length/\l=J R (j:Int)/\aj w (λ_=>False) wr [ai y (a1 (o:Int) (n:Int) g1 g2 (ad A ms.length c)) 26,ai z #[J R 0,J R 0] 49]) (λl wr=>ms.length -(cw l).toNat);case atStart=>exact⟨0,cQ _,aa,q⟩
 case round=>
  clear a q;obtain⟨j,N,rfl,a⟩:=hrel;by_cases hlt:j<ms.length
  .have K:(j:Int)<(ms.length:Int):=ae;obtain⟨m,i⟩:∃m,ms[j]?=ab m:=⟨_,cj hlt⟩;obtain⟨d,p,b,f,r,s,t⟩:=cC.h9 E i;have B:=hid r;have M:=hid s;have C:=hid t;have F:=hid i;clear r s t i;have u:=I.out.fits m (cL F);have D:=hid u;clear u;go_step;refine ag ?_;refine cJ ?_;refine aI (ay (ab ⟨d,(p+j*5),af⟩)) (cH 24 73 5 (bb 20) (bb 22) aa eA aw d p (ms.length) c j ((p+j*5)) (by show ad A _ _=_;rw[B]) aa hlt aa) ?_;refine aI _ (by(refine e6 73 _ aa d _ aa _ (C _ a.only) fW aa aw)) ?_;refine bx a #[J R 0,J R 0,J R 0,J R 0,ad af 0 0] (λL V a=>?_);refine ah ?_;refine a' a 0 (av #[J R m.k,J R m.to,J R m.fr,J R m.n,ad b m.data.length f]) (λX a=>?_);refine ag ?_;refine bq a 1 (a1 (o:Int) (n:Int) g1 g2 (ad A ms.length c)) ?_ (hv:=(ee _)) (hk:=by omega) (hz:=(by rw[cN];rfl));refine bq a 0 #[J R m.k,J R m.to,J R m.fr,J R m.n,ad b m.data.length f] ?_;refine bA (auV o n g1 g2 (ad A ms.length c) aa m b f D G _) a (λY a=>?_);refine cJ ?_;refine pk (ak au) ?_;refine ag ?_;refine pad (j:Int) 1 ((j+1:Nat):Int) ?_;refine bP ?_;go_wp2_with fail;go_roundw;case rel=>exact⟨j+1,ae,aa,a.pick [1,2]⟩
   case measure=>simp[cw]<;>omega
  .have K:¬(j:Int)<(ms.length:Int):=ae;go_step;refine ag ?_;refine cJ ?_;refine pl a 0 66 ?_ (hv:=eS);refine bA (H _ a.only) a (λZ a=>?_);refine v5 ?_;refine ag ?_;refine ku ?_;refine pl a 0 1 ?_ (hv:=jh);refine cb (ak au) ?_;refine b4 ?_;refine a' a 1 (av #[J R 0,J R 0]) (λe8 a=>?_);refine an ?_;go_wp2_with fail;refine dn (v:=_) (jd aa _ _ _ _ _ _ _ aa (a.aZ 1) xS aa aw) aa (⟨aa,a.only⟩)
def oJ(ms:List bG):List bG:=(lX ms).filterMap (λi=>ms[i]?)
def r6(ms:List bG)(l:List (Nat×Int×Int)):List bG:=l.filterMap (λx=>ms[x.1]?)
def aeF{ms l x m}(h:ms[x.1]?=ab m):r6 ms (l++[x])=r6 ms l++[m]:=by grind[r6]
def aeE ms:r6 ms (hQ ms)=oJ ms:=by unfold r6 hQ oJ;rw[List.filterMap_map];rfl
def auP ms l:(r6 ms l).length<=l.length:=XE _ _
def FA{ms m}(h:m∈oJ ms):m∈ms:=by obtain⟨i,_,hi⟩:=List.mem_filterMap.1 h;exact cL hi
def Ue ms:(oJ ms).length<=ms.length:=eC (XE _ _) (XK (MQ ms))
def ae4{ms x}(h:x∈hQ ms):x.1<ms.length:=by obtain⟨i,hi,e⟩:=List.mem_map.1 h;subst e;exact adm hi
def aeP{N n c w A ms l}(b:Row N w A n c 73 5 (cz l))(h1:l.map (·.1)=ms)(o:n=ms.length)(d:∀x∈l,qi w x.1 x.2.1 x.2.2):cC w A ms:=λp=>by
 rcases b.cases with⟨_,k,_,_⟩|⟨g,cur,e,_⟩;·omega
 .refine⟨g,0,e,λj m a=>?_⟩;subst h1;rw[kB]at a;cases hx:l[j]? with
  |none=>grind
  |some x=>
   rw[hx]at a;simp only[oW,wQ]at a;subst a;have f:=D8 hx
   have hc:∀i v,(jk x.1 x.2.1 x.2.2)[i]?=ab v->w.cell? ⟨g,0+j*5+i,af⟩=ab v:=λi v hv=>by obtain⟨h,bB,b7⟩:=b.cell (f i v hv);grind
   exact⟨_,_,⟨hc 0 _ aa,hc 1 _ aa,hc 2 _ aa,hc 3 _ aa,hc 4 _ aa⟩,d x (cL hx)⟩
def D2 m A c:∀u∈jk m A c,u.oneCell'=true:=by intro u a;simp only[jk,gy,ga,or_false]at a;rcases a with rfl|rfl|rfl|rfl|rfl<;>rfl
def Bx(w:aM)(l:List (bG×Option bU×Nat)):Prop:=∀x∈l,∀W,aq w W->qi W x.1 x.2.1 x.2.2
theorem Bx.nil w:Bx w []:=λ_ h=>(ga h).elim
def Bx.snoc{w l m A c}(h:Bx w l)(a:∀W,aq w W->qi W m A c):Bx w (l++[(m,A,c)]):=λx hx=>by
 rcases List.mem_append.1 hx with hx|hx;·exact h x hx
 .grind
def aeY(o n)(g h)A c ms w(z:cC w A ms)(L:ms.length<=20)(pT:∀m∈ms,m.data.length<=140737488355328):
 aD ax 166 #[dC o n g h (ad A ms.length c)] w λe w'=>∃P Z t,e=aA (dC o n g h (ad P (oJ ms).length Z))/\b3 w w' t/\hD t P Z (oJ ms):=by
 have cv:=hid z;have U:=hid L;have sq:=hid pT;have X:=hid (λW g=>sorted_at A c ms W (z.aH g) L);have E:∀fR da G,yd ax 278 #[ay (ab ⟨fR,0,af⟩),ay (ab ⟨da,0,af⟩)] (λx:Nat×Int×Int=>#[J R (x.1:Int),gI x.2]) w (λ_=>False) (bO [ai fR #[ad (ab ⟨G,0,af⟩) ms.length ms.length] 82,ai da #[ad A ms.length c] 24,ai G (ep (lX ms)) 3]) (λ_=>True) (hQ ms):=λfR da G=>aeZ fR da G A c ms w _ (λW g=>z.aH g) L;have S:=hid (aeE ms);clear z pT;refine BH func166 aa ?_;simp only[ntmps166,iQ,jT,l2,qf,qg,qv,qu,nd,pB];have a:=bf w;go_step;refine ag ?_;refine bM a (av (a1 o n g h (ad A ms.length c))) (λv w1 a=>?_);refine bx a (a1 0 0 dX.zero dX.zero (ad af 0 0)) (λcy aR a=>?_);refine an ?_;go_step;refine ag ?_;refine bx a #[ad af 0 0] (λq bL a=>?_);refine an ?_;replace a:=a.new (bn af 0 0 73 5 []) ⟨ar.refl _ _,Row.nil _ _ _ _,λb ⟨_,_,e⟩=>aF⟩;go_step;refine ag ?_;refine ah ?_;refine pl a 3 66 ?_ (hv:=eS);refine a6 (X _ a.only) ?_;rintro e ca ⟨fR,da,rfl,G,K⟩;replace a:=a.new _ K;refine ba ?_;refine an ?_;go_wp2_with fail;have Y:aj _ _ _ [bO [ai fR #[ad (ab ⟨G,0,af⟩) ms.length ms.length] 82,ai da #[ad A ms.length c] 24,ai G (ep (lX ms)) 3],bO [ai v (a1 o n g h (ad A ms.length c)) 26,ai q #[ad af 0 0] 24,bn af 0 0 73 5 []],bO [ai cy (a1 0 0 dX.zero dX.zero (ad af 0 0)) 26]]:=aj.D0 (a.pick [0,4,2,1,3]);refine Jc (encs:=(λx:Nat×Int×Int=>#[J R (x.1:Int),gI x.2])) aa (ll Vx aS aa) (λ_=>aa) (E _ _ _) (λpre t=>∃f c1 l,aE (l.map (·.1)=r6 ms pre)/\aE (Bx w l)/\t=bO [ai v _ 26,ai q #[ad f (r6 ms pre).length c1] 24,bn f ((r6 ms pre).length) c1 73 5 (cz l)]) (λ_ _ _=>False) (⟨af,0,[],hid aa,hid (Bx.nil w),aa⟩) Y ?_ ?_ ?_;all_goals clear Y a
 .rintro l rd pre x W t F e4 p1 ⟨f,c1,B,y,H,rfl⟩ a;replace a:=a.lE;repeat((fail_if_success (with_reducible refine at_region ?_));gi_step)
  refine ke ?_;refine ah ?_;refine an ?_;first|refine wpIn_skip ?_|skip
  simp only[Exit.then];refine BB a 3 p1 (λcF a=>?_);replace a:aj _ _ _ [ai v (a1 o n g h (ad A ms.length c)) 26,ai q #[ad f (r6 ms pre).length c1] 24,bn f ((r6 ms pre).length) c1 73 5 (cz B),obj l (fS {rd with state:=sl}),F]:=a;have hx1:x.1<ms.length:=ae4 (e4.subset aT);obtain⟨m,r⟩:∃m,ms[x.1]?=ab m:=⟨_,cj hx1⟩;obtain⟨I,N,j,p,bu,dM,cU⟩:=cC.h9 cv r;have b5:=hid bu;have gR:=hid dM;have T:=hid cU;have V:=hid (aeF (l:=pre) r);have hL:(r6 ms pre).length<=20:=eC (auP ms pre) (eC aF (eC (XK (ae3 ms)) U));obtain⟨s,M⟩:=ex ((r6 ms pre).length);rw[M]at hL a;have dp:=hid M;obtain⟨O,ER⟩:=ex x.1;rw[ER]at hx1 T⊢;clear bu dM cU r e4 M ER S E;repeat((fail_if_success (with_reducible refine at_region ?_));gi_step)
  refine Uu a [6,7,8] (λi u=>match i with|6=>ad (ab ⟨u.b,0,af⟩) 1 1|7=>ad u.A (s+1) u.c|_=>aY) (λd=>λ|6=>ai ((d 6).b) #[J R m.k,J R m.to,J R m.fr,J R m.n,ad j m.data.length p] 73|7=>bn ((d 7).A) (s+1) ((d 7).c) 73 5 ((cz B)++(jk m j p))|8=>ai q #[ad (d 7).A (s+1) (d 7).c] 24|_=>emp) (λ|7=>[2]|8=>[1]|_=>[]) (λ|0=>[1]|2=>[0]|7=>[11]|_=>[]) (λ|6=>[6]|7=>[7]|8=>[7]|_=>[]) [0,3,4,11,12,13] (λd=>?_);refine dl 0 0 ?_;refine aK ?_;refine dl 0 66 ?_ (hv:=eS);refine aK ?_;refine aL (ay (ab ⟨I,(N+O*5),af⟩)) (λ_ _ _=>cH 24 73 5 (bb 12) (bb 13) aa eA aS I N _ c O _ (by show ad A _ _=_;rw[b5]) aa hx1 aa) ?_;refine aL (av #[J R m.k,J R m.to,J R m.fr,J R m.n,ad j m.data.length p]) (λ_ _ a=>e6 73 (bb 14) aa I (N+O*5) aa ([J R m.k,J R m.to,J R m.fr,J R m.n,ad j m.data.length p]:List aO) (T _ a.only) fW aa aS) ?_;refine lM _ 73 ?_;refine tQ (m:=1) 56 (λ_ _ a=>aW.cellsOf (m:=1) (a.aZ 1) aa) (D2 m j p) ?_ (hby:=by omega);refine fY _ ?_;refine bQ λc6 a=>?_;generalize (d 6).b=C7 at a⊢;generalize (d 7).A=Q at a⊢;generalize (d 7).c=BG at a⊢;repeat gi_step
  have C:=a.pk [0,5,4,1,2];replace C:aj _ _ _ [bO [ai v (a1 o n g h (ad A ms.length c)) 26,ai q #[ad Q (s+1) BG] 24,bn Q (s+1) BG 73 5 ((cz B)++(jk m j p))],obj l (fS {rd with state:=sl}),F]:=C.fB 3;refine⟨_,?_,C⟩;exact⟨_,_,_,hid (by rw[List.map_append,y,V];rfl),hid (H.out.snoc gR),by rw[V.out,dv,dp.out,BL,D9];rfl⟩
 .rintro D t u W ⟨f,c1,B,y,H,rfl⟩ hu a;replace a:=a.lE;replace a:=(a.pk [5,0,1,2,3,4]).lE;rw[S]at a y;clear E X;go_step;refine ag ?_;refine bq a 1 (a1 o n g h (ad A ms.length c)) ?_ (hv:=(ee _)) (hk:=by omega) (hz:=(by rw[cN];rfl));refine pl a 2 0 ?_;refine a6 (Ja o n g h _ f c1 (oJ ms) _ aa (aeP (a.atR 3) y aa (λx hx=>H x hx _ a.only)) (eC (Ue ms) (eC U bh)) (λm r=>sq m (FA r))) ?_;rintro e dW ⟨aJ,c2,bE,rfl,K,j4⟩;replace a:=a.new _ K;refine ba ?_;refine a' a 1 (av (a1 o n g h (ad aJ (oJ ms).length c2))) (λdG a=>?_) (hk:=by show 0+jD (a1 _ _ _ _ _)<=_;simp only[cN];decide) (hz:=by show _=ab (jD (a1 _ _ _ _ _));rw[cN];rfl) (h1:=(vt aa)) (hc:=vQ);refine an ?_;go_wp2_with fail;refine yU a 6 (λw' a=>⟨jd aa _ _ _ _ _ _ _ aa (a.aZ 1) F5 aa (by rw[cN];rfl),_,_,bE,aa,a.fresh 0,j4⟩)
 .simp
def ak9(g b)(n0 bZ d c f q)cE w(h1:f+q<=n0)(j:n0<=bZ)(k:((f+q:Nat):Int)<=4611686018427387903):
 aD ax 87 #[ad g n0 bZ,av #[J R 1,J R cE,J R (f:Int),J R (q:Int),ad b d c]] w λe w'=>e=aA (ad (fE g bZ f 1) q (bZ -f))/\aq w w':=by
 go_enter Tryz.func87,Tryz.ntmps87;have a:=bf w;go_step;refine ag ?_;refine bM a (av #[J R 1,J R cE,J R (f:Int),J R (q:Int),ad b d c]) (λh w1 a=>?_);refine dQ ?_;refine bq a 0 #[J R 1,J R cE,J R (f:Int),J R (q:Int),ad b d c] ?_;refine bA (y4 cE (f:Int) (q:Int) b d c _) a (λl a=>?_);refine v3 ?_;refine bx a #[J R 0,J R 0] (λi m a=>?_);refine a' a 0 (av #[J R (f:Int),J R (q:Int)]) (λn a=>?_);refine ah ?_;refine ag ?_;refine ku ?_;refine pl a 0 0 ?_;refine ah ?_;refine pl a 0 0 ?_;refine ah ?_;refine pl a 0 1 ?_;refine pad _ _ ((f+q:Nat):Int) ?_;refine aI _ (IW 22 5 1 _ _ _ aa dI aw g n0 bZ f (f+q) q aa aa aa ae ae) ?_;refine bP ?_;go_wp2_with fail;go_ret;exact⟨aa,a.only⟩
def ala(f b)(n0 bZ d c)(k cE fr n)(hk:k≠1)w:
 aD ax 87 #[ad f n0 bZ,av #[J R k,J R cE,J R fr,J R n,ad b d c]] w λe w'=>e=aA (ad b d c)/\aq w w':=by
 go_enter Tryz.func87,Tryz.ntmps87;have a:=bf w;go_step;refine ag ?_;refine bM a (av #[J R k,J R cE,J R fr,J R n,ad b d c]) (λg w1 a=>?_);refine dQ ?_;refine bq a 0 #[J R k,J R cE,J R fr,J R n,ad b d c] ?_;refine bA (y5 k cE fr n b d c _ hk) a (λi a=>?_);refine v3 ?_;refine bx a #[J R 0,J R 0] (λh j a=>?_);refine a' a 0 (av #[J R 0,J R 0]) (λl a=>?_);refine ah ?_;refine UI ?_;refine pl a 1 4 ?_;refine bP ?_;go_wp2_with fail;go_ret;exact⟨aa,a.only⟩
def fN(old:List Int)(m:bG):List Int:=if m.k=1 then(old.drop m.fr.toNat).take m.n.toNat else m.data
def hX.copy{m}(h:hX m)(hk:m.k=1):0<=m.fr/\0<m.n/\m.fr+m.n<=4611686018427387903/\m.data=[]:=by
 rcases h with⟨_,_,a,b,c⟩|⟨h1,_⟩;·obtain⟨d,e,f⟩:=a;grind
 .omega
def hX.lit{m}(h:hX m)(hk:m.k≠1):m.k=2/\m.fr=0/\m.n=0/\0<m.data.length:=by
 rcases h with⟨h1,_⟩|⟨h1,_,a,b,c⟩;·omega
 .omega
def G1{o n old m}(h:jb o n m)(c:old.length=o):((fN old m).length:Int)=cS m:=by
 unfold fN cS;by_cases hk:m.k=1;·obtain⟨h1,a,_⟩:=h.1.copy hk;have b:=h.2.1 hk;grind
 .grind
def Yo(o n bZ)(a c)d old m w(h:jb o n m)(x:old.length=o)(hc0:o<=bZ)(v:m.data.length<=d):
 aD ax 87 #[ad a old.length bZ,mz m c d] w λe w'=>∃g j,e=aA (ad g (fN old m).length j)/\(∀W,bR W a old->bR W c m.data->bR W g (fN old m))/\(fN old m).length<=j/\(∀b,dU g b->dU a b\/dU c b)/\aq w w':=by
 subst x;have hlen:=G1 h aa;obtain⟨k,cE,fr,q,ds⟩:=m;by_cases hk:k=1;·subst hk;obtain⟨h1,l,p,r⟩:=h.1.copy aa;have s:=h.2.1 aa;simp only at h1 l p r s;obtain⟨f,rfl⟩:=tC h1;obtain⟨q,rfl⟩:=tC (Int.le_of_lt l);have hb:fN old ⟨1,cE,(f:Int),(q:Int),ds⟩=(old.drop f).take q:=aS;rw[hb]at hlen⊢;have u:((old.drop f).take q).length=q:=aF;rw[u];refine(ak9 a c old.length bZ ds.length d f q cE w ae hc0 ae).mono λe w' h=>⟨_,_,h.1,λW hold _=>?_,ae,λb hb=>bH (S2 hb),h.2⟩;have:=hold.win (i:=f) (q:=f+q) hc0 ae;rwa [show f+q -f=q by omega]at this
 .have hb:fN old ⟨k,cE,fr,q,ds⟩=ds:=by grind[fN]
  rw[hb];exact(ala a c _ bZ _ d k cE fr q hk w).mono λe w' h=>⟨_,_,h.1,λW _ t=>t,v,λb hb=>.inr hb,h.2⟩
def afw(o n)(g1 g2)A c ms w(b:cC w A ms)(hv:nF o n ms):
 aD ax 32 #[dC (o:Int) (n:Int) g1 g2 (ad A ms.length c)] w λe w'=>e=aA (ak aB)/\aq w w':=by
 have d:=hid (λW g=>Rk o n g1 g2 A c ms W (b.aH g) hv);clear b hv;go_enter func32,ntmps32;have a:=bf w;go_step;refine ag ?_;refine bM a (av (a1 (o:Int) (n:Int) g1 g2 (ad A ms.length c))) (λf w1 a=>?_);refine dQ ?_;refine bq a 0 (a1 (o:Int) (n:Int) g1 g2 (ad A ms.length c)) ?_ (hv:=(ee _)) (hk:=by omega) (hz:=(by rw[cN];rfl));refine bA (d _ a.only) a (λh a=>?_);refine ah ?_;refine pk (ak aB) ?_;refine bP ?_;go_wp2_with fail;go_ret;exact⟨aa,a.only⟩
def xt(old:List Int)(l:List bG)(j:Nat):List Int:=(l.take j).flatMap (fN old)
def vV(old:List Int)(ms:List bG):List Int:=(oJ ms).flatMap (fN old)
def atg{old l j m}(h:l[j]?=ab m):xt old l (j+1)=xt old l j++fN old m:=by grind[xt,fu]
def atf old l j:(xt old l j).length<=(l.flatMap (fN old)).length:=by grind[xt,oV]
def ate old l:xt old l l.length=l.flatMap (fN old):=by grind[xt]
def aj.old{w W:aM}{l:List br}{s:br}{A:Option bU}(c:aj w (λ_=>False) W l)(i:Nat)(h:nE w A)(hi:l[i]?=ab s:=by rfl):∀b,dU A b->¬s.c5 b:=λb hb d=>by
 have h1:=h b hb;have a:=(c.low s (cL hi) b d).2;rcases a with a|a;·omega
 .omega
def avY(o n bZ)(g1 g2)(d A)c old ms w(ho:old.length=o)(LS:o<=1048576)(hc0:o<=bZ)(hold:bR w d old)(k0:nE w d)(C:cC w A ms)(hv:nF o n ms)(L:∀m∈ms,m.data.length<=140737488355328)(hg1:g1.l=ib old)(hg2:g2.l=ib (vV old ms))(x:(vV old ms).length<=1048576):
 aD ax 78 #[ad d o bZ,dC (o:Int) (n:Int) g1 g2 (ad A ms.length c)] w λe w'=>e=aA (av #[J R 0,J R 0])/\aq w w':=by
 have hlen:o<=1048576:=ae;have cA:=hid hv;have cv:=hid C;have X:=hid hold;have U:=hid k0;have T:=hid hg1;have G:=hid hg2;have H:=hid x;have c0:=hid (λW g=>Rk o n g1 g2 A c ms W (C.aH g) hv);have eJ:=hid (λW g=>aeY (o:Int) (n:Int) g1 g2 A c ms W (C.aH g) hv.ek L);have Du:=hid L;have z:=hid ho;clear C hv hold k0 hg1 hg2 x L ho;go_enter func78,ntmps78;have a:=bf w;go_step;refine ag ?_;refine bM a (av (a1 (o:Int) (n:Int) g1 g2 (ad A ms.length c))) (λb6 w1 a=>?_);refine bx a #[J R 0,J R 0] (λed aR a=>?_);refine ag ?_;refine bq a 1 (a1 (o:Int) (n:Int) g1 g2 (ad A ms.length c)) ?_ (hv:=(ee _)) (hk:=by omega) (hz:=(by rw[cN];rfl));refine bA (c0 _ a.only) a (λbL a=>?_);refine bx a #[J R 0,J R 0] (λeK ca a=>?_);refine a' a 0 (av #[J R 0,J R 0]) (λcF a=>?_);refine ag ?_;refine bq a 0 #[J R 0,J R 0] ?_;refine ah ?_;refine pk (ak au) ?_;refine b4 ?_;refine pl a 2 0 ?_ (hv:=mA);refine v2 ?_;refine cb (ak au) ?_;refine ig ?_;refine bN a [1,2] (λi u=>match i with|1=>ad (ab ⟨u.b,0,af⟩) 1 1|2=>av (aX a8 (ib old) [])|_=>aY) (λD=>λ|1=>ai ((D 1).b) #[ad d o bZ] 22|_=>emp) (λ_=>[]) (λ|2=>[4]|4=>[2]|_=>[]) (λ|1=>[1]|_=>[]) [0,1,2,4,5] (λD=>?_);refine aK ?_;refine lM _ 22 ?_;refine dD (λO _ a=>Tx _ d bZ _ O 22 (by rw[z];omega) (by rw[z.out];exact a.aZ 0) (X.out.aH a.only) (U.out.aH a.only)) ?_;refine aK ?_;refine aL _ (λ_ _ a=>mg aa aa (a.aZ 0) amu (by rw[cN];simp[aX,g1.len]) aw (by simp only[aX,j6,iQ,gU,g1.len];kernel_rfl)) ?_;refine aL (ak au) (λ_ _ _=>by(refine(yg 23 5 32 _ _ 23 aa tq lj aw aw _ _ aa aa (by rw[<-T];exact g1.len) g1.len).trans ?_;rw[T];simp)) ?_;refine aK ?_;refine bQ λc6 a=>?_;generalize (D 1).b=axt at a⊢;replace a:=a.drop 4;refine ag ?_;refine a6 (Aw _) ?_;rintro e dW ⟨F,rfl,K⟩;replace a:=a.new _ K;refine ba ?_;refine dQ ?_;refine bq a 3 (a1 (o:Int) (n:Int) g1 g2 (ad A ms.length c)) ?_ (hv:=(ee _)) (hk:=by omega) (hz:=(by rw[cN];rfl));refine a6 (eJ _ a.only) ?_;rintro e dG ⟨aJ,c2,bE,rfl,K,j4⟩;replace a:=a.new _ K;refine ba ?_;refine aI _ (adh (ft:=24) (k:=66) 26 _ 4 aa aa aw aw eS) ?_;refine dP ?_;obtain⟨l,t⟩:=ex (oJ ms);have azq:l.length<=20:=by rw[<-t];exact eC (Ue ms) cA.out.ek
 have zy:aE (∀m∈l,jb o n m/\m.data.length<=140737488355328):=hid (λm q=>by rw[<-t]at q;exact⟨cA.out.fits m (FA q),Du m (FA q)⟩);rw[vV,t]at H G;rw[t]at j4⊢;clear t;have Z:=a.pk [1,0,4,3];go_wp2_with fail;go_loopw [37] (λN wr=>∃(j:Nat) (y:Option bU),j<=l.length/\N=J R (j:Int)/\aj w (λ_=>False) wr [ir F y (xt old l j),bE,ai b6 (a1 (o:Int) (n:Int) g1 g2 (ad A ms.length c)) 26,ai ed #[J R 0,J R 0] 49]) (λN wr=>l.length -(cw N).toNat);case atStart=>exact⟨0,_,cQ _,aa,Z⟩
 case round=>
  clear a Z;obtain⟨j,y,hj,rfl,a⟩:=hrel;by_cases hlt:j<l.length
  .have cI:(j:Int)<(l.length:Int):=ae;obtain⟨m,q⟩:∃m,l[j]?=ab m:=⟨_,cj hlt⟩;obtain⟨f,s,vE,hcm⟩:=j4.cmd q;obtain⟨_,B,I,_⟩:=hcm _ (a.at 1)
   have dj:aE (∀W,bE.p W->W.rangeAt B (0+j*5) [J R m.k,J R m.to,J R m.fr,J R m.n,ad f m.data.length s]):=hid (λW M=>by obtain⟨_,fH,bB,b7⟩:=hcm W M;rw[I]at bB;injection bB with bB;injection bB with bB;rw[<-bB]at b7;exact b7);have S:=hid (λW M=>(hcm W M).1);have b5:=hid I;have PQ:=hid vE;have V:=hid q;clear I hcm vE q;have r:=atg (old:=old) V;have hpl:=atf old l (j+1);rw[r,dv]at hpl;have Y:=hid r;have x:=H.out;have abB:(xt old l j).length+(fN old m).length<=1048576:=ae;obtain⟨msg,HY⟩:=ex (xt old l j);have rR:=zy m (cL V);have Q:aE (∀W,aD ax 87 #[ad d o bZ,av #[J R m.k,J R m.to,J R m.fr,J R m.n,ad f m.data.length s]] W λe w'=>∃E aC,e=aA (ad E (fN old m).length aC)/\(∀W,bR W d old->bR W f m.data->bR W E (fN old m))/\(fN old m).length<=aC/\(∀b,dU E b->dU d b\/dU f b)/\aq W w'):=hid (λW=>by have h:=Yo o n bZ d f s old m W rR.1 z hc0 (S _ (a.at 1)).2;rw[z]at h;exact h);rw[HY]at abB r a;obtain⟨bs,gN⟩:=ex (fN old m);rw[gN]at abB Q r;have Y:=hid r;clear r hpl x rR HY gN;go_step;refine ag ?_;refine dQ ?_;refine aI (ay (ab ⟨B,(0+j*5),af⟩)) (cH 24 73 5 (bb 35) (bb 37) aa eA aw B 0 (l.length) c2 j ((0+j*5)) (by show ad aJ _ _=_;rw[b5]) aa hlt aa) ?_;refine aI _ (e6 73 (bb 39) aa B (0+j*5) aa _ (dj _ (a.at 1)) fW aa aw) ?_;refine bx a #[J R 0,J R 0,J R 0,J R 0,ad af 0 0] (λeW e8 a=>?_);refine a' a 0 (av #[J R m.k,J R m.to,J R m.fr,J R m.n,ad f m.data.length s]) (λhR a=>?_);refine ja ?_;refine bq a 0 #[J R m.k,J R m.to,J R m.fr,J R m.n,ad f m.data.length s] ?_;refine a6 (Q _) ?_;rintro e iZ ⟨P,fF,rfl,oF,hlc,hloc,g⟩;have ajn:=hid oF;have ai1:=hid hloc;clear oF hloc;replace a:=a.aH g;refine ba ?_;refine f' a #[ad P bs.length fF] 22 (λFQ ks a=>?_);refine a6 (Uy F _ 0 1 y P fF msg bs _ ae (a.has 2) ((a.aZ 0).cell 0 aa) (ajn _ (X.out.aH a.only) (S _ (a.at 3)).1) (λb hb=>(ai1 b hb).elim (a.old 2 U aa b) (λh=>a.ne (i:=3) (j:=2) aa aa bh b (PQ b h)))) ?_;rintro e lf ⟨Od,rfl,bF⟩;replace a:=a.eF 2 bF;refine ba ?_;refine ag ?_;refine pad (j:Int) 1 ((j+1:Nat):Int) ?_;refine bP ?_;go_wp2_with fail;go_roundw;case rel=>exact⟨j+1,_,ae,aa,by rw[Y.out];exact a.pick [2,3,4,5]⟩
   case measure=>simp[cw]<;>omega
  .have cI:¬(j:Int)<(l.length:Int):=ae;have qJ:j=l.length:=ae;rw[qJ,ate]at a;have x:=H.out;go_step;refine ag ?_;refine ig ?_;refine bN a [1] (λi _=>match i with|1=>av (aX a8 (ib (l.flatMap (fN old))) [])|_=>aY) (λ_ _=>emp) (λ_=>[]) (λ|1=>[0]|3=>[2]|_=>[]) (λ_=>[]) [0,1,2,3,5] (λD=>?_);refine aK ?_;refine dD (λO _ a=>y6 F y (l.flatMap (fN old)) O ae (a.at 0)) ?_;refine aK ?_;refine aL _ (λ_ _ a=>mg aa aa (a.aZ 0) amv (by rw[cN];simp[aX,g2.len]) aw (by simp only[aX,j6,iQ,gU,g2.len];kernel_rfl)) ?_;refine aL (ak au) (λ_ _ _=>by(refine(yg 23 5 32 _ _ 23 aa tq lj aw aw _ g2.l aa aa (by rw[<-G];exact g2.len) g2.len).trans ?_;rw[G];simp)) ?_;refine bQ λmm a=>?_;replace a:=a.drop 4;refine b4 ?_;refine a' a 3 (av #[J R 0,J R 0]) (λnX a=>?_);refine an ?_;go_wp2_with fail;refine dn (v:=_) (jd aa _ _ _ _ _ _ _ aa (a.aZ 3) xS aa aw) aa (⟨aa,a.only⟩)
def Mp{F:Type}(l:List F)(h:l.length=32):∃a dc bm lg oK A B C D E b c d e f g i j k m n o p q r s t u v w x z,l=[a,dc,bm,lg,oK,A,B,C,D,E,b,c,d,e,f,g,i,j,k,m,n,o,p,q,r,s,t,u,v,w,x,z]:=by
 rcases l with _|⟨a,l⟩;·grind
 rcases l with _|⟨dc,l⟩;·grind
 rcases l with _|⟨bm,l⟩;·grind
 rcases l with _|⟨lg,l⟩;·grind
 rcases l with _|⟨oK,l⟩;·grind
 rcases l with _|⟨A,l⟩;·exact absurd h aT
 rcases l with _|⟨B,l⟩;·exact absurd h aT
 rcases l with _|⟨C,l⟩;·exact absurd h aT
 rcases l with _|⟨D,l⟩;·exact absurd h aT
 rcases l with _|⟨E,l⟩;·exact absurd h aT
 rcases l with _|⟨b,l⟩;·exact absurd h aT
 rcases l with _|⟨c,l⟩;·exact absurd h aT
 rcases l with _|⟨d,l⟩;·exact absurd h aT
 rcases l with _|⟨e,l⟩;·exact absurd h aT
 rcases l with _|⟨f,l⟩;·exact absurd h aT
 rcases l with _|⟨g,l⟩;·exact absurd h aT
 rcases l with _|⟨i,l⟩;·exact absurd h aT
 rcases l with _|⟨j,l⟩;·exact absurd h aT
 rcases l with _|⟨k,l⟩;·exact absurd h aT
 rcases l with _|⟨m,l⟩;·exact absurd h aT
 rcases l with _|⟨n,l⟩;·exact absurd h aT
 rcases l with _|⟨o,l⟩;·exact absurd h aT
 rcases l with _|⟨p,l⟩;·exact absurd h aT
 rcases l with _|⟨q,l⟩;·exact absurd h aT
 rcases l with _|⟨r,l⟩;·exact absurd h aT
 rcases l with _|⟨s,l⟩;·exact absurd h aT
 rcases l with _|⟨t,l⟩;·exact absurd h aT
 rcases l with _|⟨u,l⟩;·exact absurd h aT
 rcases l with _|⟨v,l⟩;·exact absurd h aT
 rcases l with _|⟨w,l⟩;·exact absurd h aT
 rcases l with _|⟨x,l⟩;·exact absurd h aT
 rcases l with _|⟨z,l⟩;·exact absurd h aT
 rcases l with _|⟨y,l⟩;·grind
 .exact absurd h aT
def iU(bs:List Int):dX:=⟨ib bs,sI bs⟩
def aur(o n)(g h)w:(Instr.build 26 #[(0,J R o),(1,J R n),(2,av (aX a8 g.l [])),(3,av (aX a8 h.l []))]).run ax w=a7 (dC o n g h (ad af 0 0)) w:=by obtain⟨a,bB⟩:=g;obtain⟨b,b7⟩:=h;obtain⟨c,dc,bm,lg,oK,F,G,H,I,K,d,e,f,i,j,k,m,p,q,r,s,t,u,v,x,y,z,A,B,C,D,E,rfl⟩:=Mp a bB;obtain⟨L,M,bp,c7,iw,oL,N4,N5,C3,N6,N,O,P,Q,S,T,U,V,W,X,Y,Z,awG,awH,awI,awJ,awK,awL,awM,awN,awO,awP,rfl⟩:=Mp b b7;kernel_rfl
def ak5{o}{a:Act}{w b dc bm lg p q eR eY}(c:o.op=.build 26 #[(0,b),(1,dc),(2,bm),(3,lg)])(d:a.eval b=J R p)(h1:a.eval dc=J R q)(f:a.eval bm=av (aX a8 (ib eR) []))(g:a.eval lg=av (aX a8 (ib eY) [])):
 (bt a.eval o).run ax w=a7 (c8 (dC p q (iU eR) (iU eY) (ad af 0 0))) w:=by
 have h:=aur p q (iU eR) (iU eY) w;unfold bt;simp only[c,gj];have e:(#[(0,b),(1,dc),(2,bm),(3,lg)].map λ(i,x)=>(i,a.eval x))=(#[(0,J R p),(1,J R q),(2,av (aX a8 (iU eR).l [])),(3,av (aX a8 (iU eY).l []))]:Array (Nat×aO)):=by grind[iU]
 rw[e,h];rfl
def Y1(bZ c1)(b d A)c(old new)ms w(F:old.length<=1048576)(E:new.length<=1048576)(hold:bR w b old)(j:nE w b)(l:bR w d new)(k:nE w d)(i:cC w A ms)(hv:ms.length<=20)(h:∀m∈ms,m.data.length<=140737488355328):
 aD ax 26 #[ad b old.length bZ,ad d new.length c1,ad A ms.length c] w λe w'=>∃f g t,e=aA (dC (old.length:Int) (new.length:Int) (iU old) (iU new) (ad f ms.length g))/\b3 w w' t/\hD t f g ms:=by
 have o:=hid i;have s:=hid hold;have q:=hid j;have r:=hid l;have p:=hid k;have x:=hid hv;have n:=hid h;clear i hold j l k h hv;go_enter func26,ntmps26;have a:=bf w;go_step;refine ag ?_;refine bx a (a1 0 0 dX.zero dX.zero (ad af 0 0)) (λD w1 a=>?_);refine ag ?_;refine v5 ?_;refine f' a #[ad b old.length bZ] 22 (λB G a=>?_);refine bA (Tx _ b bZ old _ 22 ae (a.aZ 0) (s.out.aH a.only) (q.out.aH a.only)) a (λH a=>?_);refine ah ?_;refine f' a #[ad d new.length c1] 22 (λC I a=>?_);refine bA (Tx _ d c1 new _ 22 ae (a.aZ 0) (r.out.aH a.only) (p.out.aH a.only)) a (λJ a=>?_);refine aI (av _) (ak5 aa aa aa aa aa) ?_;refine ah ?_;refine a6 (Ja _ _ _ _ _ A c ms _ aa (o.out.aH a.only) (eC x bh) n) ?_;rintro e K ⟨aJ,c2,z,rfl,y,u⟩;replace a:=a.new _ y;refine ba ?_;refine a' a 3 (av (a1 (old.length:Int) (new.length:Int) (iU old) (iU new) (ad aJ ms.length c2))) (λL a=>?_) (hk:=by show 0+jD (a1 _ _ _ _ _)<=_;simp only[cN];decide) (hz:=by show _=ab (jD (a1 _ _ _ _ _));rw[cN];rfl) (h1:=(vt aa)) (hc:=vQ);refine an ?_;go_wp2_with fail;refine dn (v:=_) (jd aa _ _ _ _ _ _ _ aa (a.aZ 3) F5 aa (by rw[cN];rfl)) aa (⟨aJ,c2,z,aa,a.fresh 0,u⟩)
section
def tO(bo:Int):List PanicEntry:=[{v:=uP 47 (J R bo),recovered:=au}]
def rL(bo:Int)(v:aO):Ending:=if bo=0 then aA v else JD (tO bo)
def tY:br:=⟨λ_=>False,λ_=>False,λ_ _ _ _ h=>h⟩
section
variable {P:eu} {ops:Array cR} {rest:List cR} {Q:Exit->Act->aM->Prop} {o:cR} {a:Act} {w:aM}
def TL{f:FuncId}{args:Array aO}{b:aM->Prop}{ch:List re}(hc:aD P f args w (λe w'=>e=JD ch/\b w'))(h:∀w',b w'->Q (tm ch) a w')(hr:(bt a.eval o).run P w=a7 (.enter f args) w:=by(go_simp;try with_reducible rfl))(c:c4 o (cY ops a.tmps)=true:=by kernel_rfl):
 cG P ops Q (o::rest) a w:=by
 unfold cG;rw[if_pos c];refine bH ?_;unfold hB;rw[hr];exact JB hc (λe w' ⟨d,h1⟩=>aF)
def MX{t:TypeId}{u:aO}{x:Operand}(h:Q (tm [{v:=uP t u,recovered:=au}]) a w)(b:o.op=.panic x:=by rfl)(hx:a.eval x=uP t u:=by rfl)(c:c4 o (cY ops a.tmps)=true:=by kernel_rfl):
 cG P ops Q (o::rest) a w:=by
 have hr:(bt a.eval o).run P w=.halt (.panic (uP t u)) w:=by unfold bt;simp[b,hx,run_panic_iface]
 unfold cG;rw[if_pos c];refine bH ?_;unfold hB;rw[hr];exact h
end
def FJ {P:eu} {ops:Array cR} {Q:Exit->Act->aM->Prop} {ao:aM} {FX:Nat->Prop} {bk:List br} {f:Nat} {w:aM} {a0:Act} (QP:List re->aM->Prop) (e:∀c a w,a.defers=a0.defers->QP c w->Q (tm c) a w) (b:aj ao FX w bk) (LE:List Nat) (bS:Nat->e3->aO) (out:(Nat->e3)->Nat->br) (ins rd look:Nat->List Nat) (fin:List Nat)
 (j':∀us,c9 P ops Q (ou ops) LE bS ao FX bk out ins rd fin QP us 0 ops.toList a0)
 (hloc:Bt look out LE:=by(repeat' (first|exact trivial|refine And.intro (λus g h=>?_) ?_|rfl|(simp(disch:=decide) only[h];done))))
 (hm:P.follows .mixedOrders=true:=by kernel_rfl) (hk:Ed ops (ou ops) (yq ops)=true:=by kernel_rfl) (hsz:((dF ops.size).all λi=>match ou ops i with|some d=>decide (d<a0.tmps.size)|none=>LE.contains i)=true:=by kernel_rfl) (hs:Fx bk.length ops.size (yq ops) LE ins rd look fin=true:=by kernel_rfl):
 (Code.region f ops aB).wp P Q a0 w:=wp_region_any hm (Ut b (yq ops) (ou ops) LE bS out ins rd look fin _ hk hsz hs e (hloc.spec) j')
section
variable {P:eu} {ops:Array cR} {rest:List cR} {Q:Exit->Act->aM->Prop} {o:cR} {a bw:Act} {ao:aM} {FX:Nat->Prop} {dst:Nat->Option Tmp} {LE:List Nat} {bS:Nat->e3->aO} {bk:List br} {out:(Nat->e3)->Nat->br} {ins rd:Nat->List Nat} {fin:List Nat} {QP:List re->aM->Prop} {us:Nat->e3} {i:Nat}
def Eb {f:FuncId} {args:Array aO} (hc:∀w (Fr:List br),aj ao FX w ((ins i).map (dk bk out us)++((rd i).map (dk bk out us)++Fr))->aD P f args w λe w'=>∃ch,e=JD ch/\QP ch w') (h:c9 P ops Q dst LE bS ao FX bk out ins rd fin QP us (i+1) rest bw)
 (hr:∀w,(bt a.eval o).run P w=a7 (.enter f args) w:=by(intro _;go_simp;try with_reducible rfl)) (hi:decide (i∈LE)=true:=by kernel_rfl) (hw:c4 o (cY ops a.tmps)=true:=by kernel_rfl) (ha:a.put o.dst (bS i (us i))=bw:=by((try simp only[Act.put,List.setIfInBounds_toArray,List.set_cons_zero,List.set_cons_succ]);rfl)):c9 P ops Q dst LE bS ao FX bk out ins rd fin QP us i (o::rest) a:=by
 refine wZ (λw Fr b K d=>?_) h hi ha;rw[if_pos hw];unfold hB;rw[hr];exact JB (hc w Fr b) (λe w' ⟨ch,g,c⟩=>aF)
end
section
variable {hG S pl jp:aO} {bd pk o n st nx:Int} {g h:dX} {bC:Bool}
def qx(S pl jp:aO)(st nx:Int)(bC:Bool):List Value:=[S,pl,jp,J R st,J R nx,ak bC]
def tJ(hG:aO)(bd pk o n:Int):List Value:=[hG,J R bd,J R pk,J R o,J R n]
def gX(hG:aO)(bd pk:Int)(o n:Int)(g h:dX)(S pl jp:aO)(st nx:Int)(bC:Bool):Array Value:=(tJ hG bd pk o n++((g.l.map a8++h.l.map a8)++qx S pl jp st nx bC)).toArray
theorem QK(g h:dX):(g.l.map a8++h.l.map a8).length=64:=by simp[g.len,h.len]
def oX:(gX hG bd pk o n g h S pl jp st nx bC).size=75:=by simp[gX,tJ,qx,g.len,h.len]
def rD{j:Nat}{v}(hv:(tJ hG bd pk o n)[j]?=ab v):(gX hG bd pk o n g h S pl jp st nx bC)[j]?=ab v:=by grind[gX]
def fi{j v}(hv:(qx S pl jp st nx bC)[j]?=ab v):(gX hG bd pk o n g h S pl jp st nx bC)[69+j]?=ab v:=by rw[gX,zG,oe (by show 5<=_;omega),show 69+j -(tJ hG bd pk o n).length=64+j by show 69+j -5=_;omega,oe (by grind[QK]),QK,tG];exact hv
def akx{v}:lay (gX hG bd pk o n g h S pl jp st nx bC) 2 [J R v]=gX hG bd v o n g h S pl jp st nx bC:=aS
def QJ{j}{T:List aO}{v a d b i c f}(p:j<6)(m:(qx S pl jp st nx bC).take j++(v::(qx S pl jp st nx bC).drop (j+1))=qx a d b i c f):lay (gX hG bd pk o n g h S pl jp st nx bC) (69+j) [v]=gX hG bd pk o n g h a d b i c f:=by
 have e:=Ct [v] (tJ hG bd pk o n++((g.l.map a8++h.l.map a8)++(qx S pl jp st nx bC).take j)) ((qx S pl jp st nx bC).drop j) (by show 1<=_;rw[List.length_drop];show 1<=6 -j;omega)
 have k:(tJ hG bd pk o n++((g.l.map a8++h.l.map a8)++(qx S pl jp st nx bC).take j)).length=69+j:=by rw[dv,dv,QK,List.length_take];show 5+(64+gW j 6)=_;omega
 rw[k]at e;have h1:tJ hG bd pk o n++((g.l.map a8++h.l.map a8)++(qx S pl jp st nx bC).take j)++(qx S pl jp st nx bC).drop j=tJ hG bd pk o n++((g.l.map a8++h.l.map a8)++qx S pl jp st nx bC):=by grind[oV]
 grind[gX,List.drop_drop,List.length_singleton]
def KR{v}:lay (gX hG bd pk o n g h S pl jp st nx bC) 72 [J R v]=gX hG bd pk o n g h S pl jp v nx bC:=QJ (T:=[]) (j:=3) bh aa
def X8{v}:lay (gX hG bd pk o n g h S pl jp st nx bC) 73 [J R v]=gX hG bd pk o n g h S pl jp st v bC:=QJ (T:=[]) (j:=4) bh aa
def X9{v}:lay (gX hG bd pk o n g h S pl jp st nx bC) 74 [ak v]=gX hG bd pk o n g h S pl jp st nx v:=QJ (T:=[]) (j:=5) bh aa
def Ry{L A B C:List aO}(c:L=A++(B++C)){k m}(a:A.length=k)(b:B.length=m):L.toArray.extract k (k+m)=B.toArray:=aF
def akw:(gX hG bd pk o n g h S pl jp st nx bC).extract 3 (3+(a1 o n g h S).size)=a1 o n g h S:=by rw[cN];exact Ry (A:=[hG,J R bd,J R pk]) (B:=_) (C:=[pl,jp,J R st,J R nx,ak bC]) (by simp[tJ,qx]) aa (by simp[g.len,h.len])
def X7:(gX hG bd pk o n g h S pl jp st nx bC).extract 5 (5+(aX a8 g.l []).size)=aX a8 g.l []:=by
 have h1:(aX a8 g.l []).size=32:=by simp[aX,g.len]
 rw[h1];exact Ry (A:=tJ hG bd pk o n) (B:=_) (C:=h.l.map a8++qx S pl jp st nx bC) aT aa (by simp[g.len])
def GU:(gX hG bd pk o n g h S pl jp st nx bC).extract 37 (37+(aX a8 h.l []).size)=aX a8 h.l []:=by
 have h1:(aX a8 h.l []).size=32:=by simp[aX,h.len]
 rw[h1];exact Ry (A:=tJ hG bd pk o n++g.l.map a8) (B:=_) (C:=qx S pl jp st nx bC) aT (by simp[tJ,g.len]) (by simp[h.len])
end
structure pg where
 B:Nat
 dg:Nat
 dw:Nat
 bd:Nat
 o:Nat
 n:Nat
 p:Nat
 c:Nat
 first:Nat
 id:Nat
 g1:dX
 g2:dX
 A:Option bU
 ms:List bG
def cq(E:pg)(pk st nx:Int)(bC:Bool):br:=ai E.dg (gX (dh E.B) (E.bd:Int) pk (E.o:Int) (E.n:Int) E.g1 E.g2 (ad E.A E.ms.length E.c) (ay (ab ⟨E.p,0,af⟩)) (ay (ab ⟨E.dw,0,af⟩)) st nx bC) 135
def cV(E:pg)(j:oQ)(A:Option bU)(c:Nat):br:=p3 E.dw E.B E.first E.bd (E.id:Int) j A c
end
def IZ w:
 aD ax 226 #[J R 0] w λe w'=>e=aA (bg #[])/\aq w w':=by
 go_enter Tryz.func226,Tryz.ntmps226;have a:=bf w;go_step;refine ag ?_;refine ah ?_;refine pk (ak au) ?_;refine an ?_;go_wp2_with fail;first|go_end0|refine bodyPost_ret (results_none rfl _ _ _) rfl ?_
 exact⟨aa,a.only⟩
def IY bo(h:bo≠0)w:
 aD ax 226 #[J R bo] w λe w'=>e=JD (tO bo)/\aq w w':=by
 go_enter Tryz.func226,Tryz.ntmps226;have a:=bf w;go_step;refine ag ?_;refine ah ?_;refine aI (ak aB) (by(go_simp;try simp[h])) ?_;refine b4 ?_;refine pk (uP 47 (J R bo)) ?_;refine MX ?_;exact⟨aa,aa,a.only⟩
def ad1 E(pk st nx)bC m d(a q)(ao w)FX F(k:dR d)(l:d.down=au)(n:a+q<=d.bytes.length)(b:aj ao FX w [cq E pk st nx bC,aN E.B m d,F]):
 aD ax 225 #[ay (ab ⟨E.dg,0,af⟩),gI ((a:Int),(q:Int))] w λe w'=>∃g h,e=aA (ad g q h)/\aj ao FX w' [cc g h (pb d a q),cq E (max pk (q:Int)) st nx bC,aN E.B m d,F]:=by
 have o:=hid k;have p:=hid l;have r:=hid n;clear k l n;go_enter func225,ntmps225;go_step;refine ag ?_;refine bM b (av #[J R (a:Int),J R (q:Int)]) (λx w1 b=>?_);refine ig ?_;refine bN b [5] (λi u=>match i with|5=>bg #[ad u.A q u.c,J R 0]|_=>aY) (λf=>λ|5=>cc ((f 5).A) ((f 5).c) (pb d a q)|_=>emp) (λ_=>[]) (λ|3=>[1]|4=>[0]|5=>[2]|_=>[]) (λ|5=>[5]|_=>[]) [0,1,2,3,9] (λf=>?_);refine c7 ?_;refine dl 0 0 ?_ (hv:=rD (j:=0) aa);refine ea 0 #[J R (a:Int),J R (q:Int)] ?_;refine df (λt Fr b=>(Zy E.B m d a q t (b.has 0) o p r).mono ?_) ?_;·rintro e G ⟨g,h,rfl,s⟩;exact⟨{A:=g,c:=h},aa,b.new _ s⟩
 refine oL ?_;refine bQ λz b=>?_;generalize (f 5).A=v at b⊢;generalize (f 5).c=y at b⊢;refine b4 ?_;refine bA (IZ _) b (λC b=>?_);refine oM ?_;refine pl b 1 2 ?_ (hv:=rD (j:=2) aa);refine v2 ?_;refine aI _ (by(go_simp;try rfl)) ?_;refine v2 ?_;refine a' b 1 (J R (max pk (q:Int))) (λD b=>?_) (hk:=by show _+1<=_;rw[oX];decide) (hc:=akx);refine ag ?_;refine dP ?_;go_wp2_with fail;go_ret;exact⟨_,_,aa,b.pick [4,1,2,3]⟩
def TN{s}(d:1<=s):∀{f o n x},x∈qR s f o n->∃a q:Nat,x=((a:Int),(q:Int))/\o<=a/\1<=q/\q<=s/\a+q<=o+n
 |0,_,_,_,h=>(ga h).elim
 |f+1,o,n,x,h=>by
  rw[qR]at h;split at h;·exact(ga h).elim
  .rcases gy.1 h with rfl|h;·exact⟨o,gW s n,aa,ae,ae,ae,ae⟩
   .obtain⟨a,q,e,h1,b,c,g⟩:=TN d h;exact⟨a,q,e,ae,b,c,ae⟩
def jB(d:dL)(l:List (Int×Int)):List Int:=l.flatMap (λx=>pb d x.1.toNat x.2.toNat)
def lx(pk:Int)(l:List (Int×Int)):Int:=l.foldl (λk x=>max k x.2) pk
theorem anJ d l x:jB d (l++[x])=jB d l++pb d x.1.toNat x.2.toNat:=by simp[jB]
theorem anL pk l x:lx pk (l++[x])=max (lx pk l) x.2:=by simp[lx]
def Hh{d}(a:dR d){s}(b:1<=s):∀(f o n),o+n<=d.bytes.length->(jB d (qR s f o n)).length<=n
 |0,_,_,_=>by simp[qR,jB]
 |f+1,o,n,h=>by
  rw[qR];split;·simp[jB]
  .have c:=Hh a b f (o+gW s n) (n -gW s n) ae;have e:jB d (((o:Int),((gW s n:Nat):Int))::qR s f (o+gW s n) (n -gW s n))=pb d o (gW s n)++jB d (qR s f (o+gW s n) (n -gW s n)):=rfl;rw[e,dv,AF a ae];omega
def anK d l j:(jB d (l.take j)).length<=(jB d l).length:=by grind[jB,oV]
def avv{a:Type}{l:List a}{j x}(h:l[j]?=ab x):l.take (j+1)=l.take j++[x]:=by grind[fu]
theorem anz l:(qC l).length=l.length*2:=by
 induction l with
 |nil=>rfl
 |cons x l a=>grind[qC]
def anx{l j x}(hx:l[j]?=ab x):∀(i) v,([J R x.1,J R x.2]:List aO)[i]?=ab v->(qC l)[j*2+i]?=ab v:=λi v hv=>by
 obtain⟨a,rfl⟩:=List.getElem?_eq_some_iff.1 hx;have e:qC l=qC (l.take j)++([J R l[j].1,J R l[j].2]++qC (l.drop (j+1))):=by grind[List.drop_eq_getElem_cons,oV,qC]
 grind[anz,tG]
def anM E(pk st nx)bC m d(a q o)y msg(ao w)FX F(G:dR d)(cZ:d.down=au)(K:a+q<=d.bytes.length)(p:1<=E.bd)(hb2:E.bd<=65536)(hq:a+q<=1048576)(I:msg.length<=1099511627776)(f:aj ao FX w [cq E pk st nx bC,ir o y msg,aN E.B m d,F]):
 aD ax 224 #[ay (ab ⟨E.dg,0,af⟩),ay (ab ⟨o,0,af⟩),gI ((a:Int),(q:Int))] w λe w'=>e=aA (bg #[])/\∃FO,aj ao FX w' [cq E (lx pk (hP E.bd a q)) st nx bC,ir o FO (msg++jB d (hP E.bd a q)),aN E.B m d,F]:=by
 have T:=hid G;have l1:=hid cZ;have U:=hid K;obtain⟨l,r⟩:=ex (hP E.bd a q);have zy:=hid (λ(x:Int×Int) (h:x∈l)=>by rw[<-r]at h;exact TN (s:=_) p h);have iV:(jB d l).length<=q:=by rw[<-r];exact Hh G p q a q K
 have gb:l.length<=1048576:=by rw[<-r];have h:=TM E.bd p q a q (cm _);have h2:(q+E.bd -1)/E.bd<=q:=(by rw[aj7 ae];have:=tH q p;omega);unfold hP;omega
 have X:=hid (λW=>avg a q E.bd ⟨ae,ae⟩ ae (by have h2:(q+E.bd -1)/E.bd<=q:=(by rw[aj7 ae];have:=tH q p;omega);omega) W);rw[r]at X⊢;have lH:=hid iV;have aiF:=hid (show d.bytes.length<=d.bytes.length from cm _);clear G cZ K r iV aiF;go_enter func224,ntmps224;go_step;refine ag ?_;refine bM f (av #[J R (a:Int),J R (q:Int)]) (λeK w1 f=>?_);refine ct ?_;refine bN f [5] (λi u=>match i with|5=>ad u.A l.length u.c|_=>aY) (λt=>λ|5=>bn ((t 5).A) l.length ((t 5).c) 35 2 (qC l)|_=>emp) (λ_=>[]) (λ|0=>[0]|4=>[1]|_=>[]) (λ|5=>[5]|_=>[]) [0,1,2,3,4,10] (λt=>?_);refine ea 0 #[J R (a:Int),J R (q:Int)] ?_;refine c7 ?_;refine dl 0 1 ?_ (hv:=rD (j:=1) aa);refine df (λwl Fr f=>(X _).mono ?_) ?_;·rintro e dm ⟨az,aC,rfl,iT,g⟩;exact⟨{A:=az,c:=aC},aa,f.k8 g iT⟩
 refine bp ?_;refine bQ λaR f=>?_;generalize (t 5).A=N at f⊢;generalize (t 5).c=Y at f⊢;have V:=f.pk [1,2,3,5,4];go_wp2_with fail;go_loopw [15] (λM wr=>∃(j:Nat) (y:Option bU),j<=l.length/\M=J R (j:Int)/\aj ao FX wr [cq E (lx pk (l.take j)) st nx bC,ir o y (msg++jB d (l.take j)),aN E.B m d,bn N l.length Y 35 2 (qC l),F]) (λM wr=>l.length -(cw M).toNat);case atStart=>exact⟨0,y,cQ _,aa,by rw[show msg++jB d _=msg from by simp[jB]];exact V⟩
 case round=>
  clear f V;obtain⟨j,Od,hj,rfl,f⟩:=hrel;by_cases hlt:j<l.length
  .have cI:(j:Int)<(l.length:Int):=ae;obtain⟨x,hx⟩:∃x,l[j]?=ab x:=⟨_,cj hlt⟩;obtain⟨n,k,rfl,nP,mI,Cn,abq⟩:=zy x (cL hx);obtain⟨D,bu⟩:=(f.atR 3).at ae;have tA:=hid (anx hx);have yO:=avv hx;have aiP:aE (lx pk (l.take (j+1))=max (lx pk (l.take j)) (k:Int)):=hid (by grind[anL]);have H:jB d (l.take (j+1))=jB d (l.take j)++pb d n k:=by grind[anJ]
   have jK:=anK d l (j+1);rw[H,dv]at jK;have Dv:=hid H;have P:=hid bu;obtain⟨AB,L⟩:=ex (lx pk (l.take j));obtain⟨acR,C⟩:=ex (msg++jB d (l.take j));have I:acR.length+(pb d n k).length<=70368744177664:=by rw[<-C,dv];have:=lH.out;omega
   obtain⟨bs,z⟩:=ex (pb d n k);have hbl:bs.length=k:=by rw[<-z];exact AF T (by have:=U.out;omega)
   rw[L,C]at f;rw[z]at I;have su:=hid L;have nC:=hid C;have S:=hid z;have ln:=hid hbl;clear hx bu yO H jK L C z hbl;go_step;refine ag ?_;refine dQ ?_;refine aI (ay (ab ⟨D,(0+j*2),af⟩)) (cH 176 35 2 (bb 13) (bb 15) aa underlying176 aw D 0 (l.length) Y j ((0+j*2)) (by show ad N _ _=_;rw[P]) aa hlt aa) ?_;refine aI _ (e6 35 (bb 17) aa D (0+j*2) aa _ (Row.range (f.atR 3) P (λi v hi=>by rw[kV];exact tA i v hi)) Tryz.underlying35 aa aw) ?_;refine bx f #[J R 0,J R 0] (λfL bL f=>?_);refine a' f 0 (av #[J R (n:Int),J R (k:Int)]) (λca f=>?_);refine ja ?_;refine bq f 0 #[J R (n:Int),J R (k:Int)] ?_;have Q:=(f.pk [1,3,0,2,4,5]).t2;refine a6 (ad1 E _ st nx bC m d n k _ _ _ _ T l1 (by have:=U.out;omega) Q) ?_;rintro e cF ⟨O,Z,rfl,f⟩;clear Q;rw[S]at f;replace f:=f.lg;refine ba ?_;refine f' f #[ad O k Z] 22 (λaxr c6 f=>?_);refine a6 ((by have h:=Uy o _ 0 1 Od O Z acR bs _ I (f.has 5) (by rw[ln.out];exact(f.aZ 0).cell 0 aa) (f.lr 1).1 (λb hb=>f.ne (i:=1) (j:=5) aa aa bh b hb);exact h)) ?_;rintro e dW ⟨axb,rfl,bF⟩;replace f:=f.eF 5 bF;refine ba ?_;refine ag ?_;refine pad (j:Int) 1 ((j+1:Nat):Int) ?_;refine bP ?_;go_wp2_with fail;go_roundw;case rel=>exact⟨j+1,_,ae,aa,by rw[aiP.out,Dv.out,su.out,<-j5,nC.out,S.out];exact f.pick [2,5,3,6,7]⟩
   case measure=>simp[cw]<;>omega
  .have cI:¬(j:Int)<(l.length:Int):=ae;have qJ:l.take j=l:=tF ae;rw[qJ]at f;go_step;refine ag ?_;refine bP ?_;go_wp2_with fail;first|go_end0|refine bodyPost_ret (results_none rfl _ _ _) rfl ?_
   exact⟨aa,_,f.pick [0,1,2,4]⟩
def j0(d:dL)(a:Nat)(bs:List Int):Int×dL:=if(ma d a bs).1≠0 then ma d a bs else l9 (ma d a bs).2
def tX{bo}(h:bo≠0)v:rL bo v=JD (tO bo):=if_neg h
def ZC E(pk st nx)bC m d a c dB bs(ao w)FX F(t:dR d)(v:d.down=au)(x:a+bs.length<=d.bytes.length)(s:d.cache.length<=1000000000)(b:aj ao FX w [cq E pk st nx bC,cc c dB bs,aN E.B m d,F]):
 aD ax 228 #[ay (ab ⟨E.dg,0,af⟩),J R (a:Int),ad c bs.length dB] w λe w'=>e=rL (j0 d a bs).1 (bg #[])/\∃k,aj ao FX w' [cq E pk st nx bC,cc c dB bs,aN E.B k (j0 d a bs).2,F]:=by
 have K:=hid t;have L:=hid v;have M:=hid x;have I:=hid s;have z:=ZA t x v s;obtain⟨c1,hc1⟩:=ex ((ma d a bs).1);obtain⟨g,u⟩:=ex ((ma d a bs).2);have hfw:ma d a bs=(c1,g):=aF;rw[u]at z;have N:=hid z
 have o:aE (∀W p,Has W (aN E.B m d)->aW W p #[ad c bs.length dB] 22->bR W c bs->¬(aN E.B m d).c5 p->(∀y,dU c y->¬(aN E.B m d).c5 y)->aD ax 291 #[dh E.B,J R (a:Int),ad (ab ⟨p,0,af⟩) 1 1] W λe w'=>e=aA (J R c1)/\∃k,Turned W w' (aN E.B m d) (aN E.B k g)):=hid (λW p h P hb h1 O=>by have q:=ZD E.B m d a p c dB bs W h K L M I (P.cell 0 aa) h1 hb O;rw[hc1,u]at q;exact q);have n:=hid hfw;clear t v x s z hc1 u hfw;by_cases hz:c1=0
 .subst hz;have hwr:j0 d a bs=l9 g:=by unfold j0;rw[n];rfl
  rw[hwr];have l:=hid (λm W h=>Y3 E.B m g W h N);obtain⟨c2,hc2⟩:=ex ((l9 g).1);obtain⟨Q,G⟩:=ex ((l9 g).2);rw[hc2,G]at l⊢;clear hwr hc2 G;by_cases hz2:c2=0
  .subst hz2;go_enter Vr,VV;go_step;refine ag ?_;refine v3 ?_;refine pl b 0 0 ?_ (hv:=rD (j:=0) aa);refine v2 ?_;refine f' b #[ad c bs.length dB] 22 (λD w1 b=>?_);refine a6 (o _ _ (b.has 3) (b.aZ 0) (b.lr 2).1 (λh=>b.ne (i:=0) (j:=3) aa aa bh _ aa h) (b.ne (i:=2) (j:=3) aa aa bh)) ?_;rintro e U ⟨rfl,A,f⟩;replace b:=b.eF 3 f;refine ba ?_;refine bA (IZ _) b (λV b=>?_);refine jt ?_;refine pl b 1 0 ?_ (hv:=rD (j:=0) aa);refine a6 (l _ _ (b.has 3)) ?_;rintro e X ⟨rfl,C,f⟩;replace b:=b.eF 3 f;refine ba ?_;refine bA (IZ _) b (λY b=>?_);refine an ?_;go_wp2_with fail;first|go_end0|refine bodyPost_ret (results_none rfl _ _ _) rfl ?_
   exact⟨aa,C,b.pick [1,2,3,4]⟩
  .rw[tX hz2];go_enter Vr,VV;go_step;refine ag ?_;refine v3 ?_;refine pl b 0 0 ?_ (hv:=rD (j:=0) aa);refine v2 ?_;refine f' b #[ad c bs.length dB] 22 (λD Z b=>?_);refine a6 (o _ _ (b.has 3) (b.aZ 0) (b.lr 2).1 (λh=>b.ne (i:=0) (j:=3) aa aa bh _ aa h) (b.ne (i:=2) (j:=3) aa aa bh)) ?_;rintro e dW ⟨rfl,A,f⟩;replace b:=b.eF 3 f;refine ba ?_;refine bA (IZ _) b (λdG b=>?_);refine jt ?_;refine pl b 1 0 ?_ (hv:=rD (j:=0) aa);refine a6 (l _ _ (b.has 3)) ?_;rintro e H ⟨rfl,C,f⟩;replace b:=b.eF 3 f;refine ba ?_;refine TL (IY c2 hz2 _) (λH r=>?_);replace b:=b.aH r;exact⟨aa,aa,C,b.pick [1,2,3,4]⟩
 .have hwr:j0 d a bs=(c1,g):=by unfold j0;rw[if_pos (by rw[n];exact hz),n]
  rw[hwr];show aD _ _ _ _ λe w'=>e=rL c1 _/\∃k,aj _ _ w' [_,_,aN E.B k g,_];rw[tX hz];go_enter Vr,VV;go_step;refine ag ?_;refine v3 ?_;refine pl b 0 0 ?_ (hv:=rD (j:=0) aa);refine v2 ?_;refine f' b #[ad c bs.length dB] 22 (λD S b=>?_);refine a6 (o _ _ (b.has 3) (b.aZ 0) (b.lr 2).1 (λh=>b.ne (i:=0) (j:=3) aa aa bh _ aa h) (b.ne (i:=2) (j:=3) aa aa bh)) ?_;rintro e T ⟨rfl,A,f⟩;replace b:=b.eF 3 f;refine ba ?_;refine TL (IY c1 hz _) (λH r=>?_);replace b:=b.aH r;exact⟨aa,aa,A,b.pick [1,2,3,4]⟩
def QI E(pk st)(nx:Nat)bC(m:ny)(d:dL)(ao w)FX F(b:nx<=1048576)(a:aj ao FX w [cq E pk st (nx:Int) bC,F]):
 aD ax 229 #[ay (ab ⟨E.dg,0,af⟩)] w λe w'=>e=aA (bg #[])/\aj ao FX w' [cq E pk 1 ((nx+1:Nat):Int) au,F]:=by
 go_enter func229,ntmps229;go_step;refine ag ?_;refine v4 ?_;refine a' a 0 (J R 1) (λw1 a=>?_) (hk:=by show _+1<=_;rw[oX];decide) (hc:=KR);refine v2 ?_;refine a' a 0 (ak au) (λc a=>?_) (hk:=by show _+1<=_;rw[oX];decide) (hc:=X9);refine jt ?_;refine pl a 0 73 ?_ (hv:=fi (j:=4) aa);refine pad _ 1 ((nx+1:Nat):Int) ?_;refine v2 ?_;refine a' a 0 (J R ((nx+1:Nat):Int)) (λf a=>?_) (hk:=by show _+1<=_;rw[oX];decide) (hc:=X8);refine an ?_;go_wp2_with fail;first|go_end0|refine bodyPost_ret (results_none rfl _ _ _) rfl ?_
 exact⟨aa,a⟩
def aqD E (nx cu of k:Nat) j o p m d f dB ds (ao w) FX F (A:j.next=(nx:Int)) (q:kk d E.first E.bd) (v:d.down=au) (z:d.cache.length<=1000000000) (x:ds.length<=E.bd) (t:nx<18446744073709551616/\E.id<18446744073709551616/\cu<=4611686018427387903/\of<=4611686018427387903)
 (I:aj ao FX w [cV E j o p,aN E.B m d,cc f dB ds,ai k #[ad f ds.length dB] 22,F]):
 aD ax 227 #[ay (ab ⟨E.dw,0,af⟩),J R (cu:Int),J R (of:Int),ad (ab ⟨k,0,af⟩) 1 1] w λe w'=>∃c l n,e=aA (J R (jz d E.first E.bd E.id j nx cu of ds).1)/\aj ao FX w' [cV E (jz d E.first E.bd E.id j nx cu of ds).2.1 c l,aN E.B n (jz d E.first E.bd E.id j nx cu of ds).2.2,cc f dB ds,ai k #[ad f ds.length dB] 22,F]:=by
 have a:=I.star;have h1:=q.eY;refine(acb E.dw E.B E.first E.bd E.id nx cu of j o p m d ds _ w (a.has 0) A q v z x t (λW g=>?_)).mono λe w' ⟨y,c,l,n,u⟩=>⟨c,l,n,y,aj.fh (a.CT 0 aa u)⟩;have C:=(a.aZ 2).cell 0 aa;have hb:=(a.lr 1).1;exact(G6 k f dB ds W (g.cell C (λh=>a.ne (i:=2) (j:=0) aa aa bh k aa h)) (hb.only g (λb off e=>a.ne (i:=1) (j:=0) aa aa bh b ⟨_,_,e⟩)) ae).mono (λe w' ⟨c,l,h1,r,s⟩=>⟨c,l,h1,Row.nV r,s⟩)
def aqC E (nx cu of:Nat) j f i m d (ao w) FX F (t:j.next=(nx:Int)) (s:kk d E.first E.bd) (p:d.down=au) (r:d.cache.length<=1000000000) (n:nx<18446744073709551616/\E.id<18446744073709551616/\cu<=4611686018427387903/\of<=4611686018427387903)
 (I:aj ao FX w [cV E j f i,aN E.B m d,F]):
 aD ax 227 #[ay (ab ⟨E.dw,0,af⟩),J R (cu:Int),J R (of:Int),ad af 0 0] w λe w'=>∃a b c,e=aA (J R (jz d E.first E.bd E.id j nx cu of []).1)/\aj ao FX w' [cV E (jz d E.first E.bd E.id j nx cu of []).2.1 a b,aN E.B c (jz d E.first E.bd E.id j nx cu of []).2.2,F]:=by
 have h:=I.star;exact(acb _ _ _ _ _ nx cu of j f i m d [] _ w (h.has 0) t s p r (cQ _) n (λW g=>(alN W).mono (λe w' ⟨a,b,h1,k,l⟩=>⟨a,b,h1,Row.nV k,l⟩))).mono λe w' ⟨q,a,b,c,o⟩=>⟨a,b,c,q,aj.fh (h.CT 0 aa o)⟩
def atN E(pk st)(nx:Nat)bC m d a j i k(ao w)FX F(u:dR d)(x:d.down=au)(y:a+j.last.data.length<=d.bytes.length)(s:d.cache.length<=1000000000)(U:nx<=1048576)(hh:j.has=aB)(L:j.last.off=(a:Int))(K:j.last.data.length<=140737488355328)(b:aj ao FX w [cq E pk st (nx:Int) bC,cV E j i k,aN E.B m d,F]):
 aD ax 144 #[ay (ab ⟨E.dg,0,af⟩)] w λe w'=>e=rL (j0 d a j.last.data).1 (bg #[])/\((j0 d a j.last.data).1=0->∃c,aj ao FX w' [cq E pk 1 ((nx+1:Nat):Int) au,cV E j i k,aN E.B c (j0 d a j.last.data).2,F])/\((j0 d a j.last.data).1≠0->∃c,aj ao FX w' [cq E pk st (nx:Int) bC,cV E j i k,aN E.B c (j0 d a j.last.data).2,F]):=by
 have Q:=hid u;have S:=hid x;have T:=hid y;have P:=hid s;have D:aE (∀W,Has W (cV E j i k)->aD ax 58 #[ay (ab ⟨E.dw,0,af⟩)] W λe w'=>∃A I,e=aA (bg #[av (recC j.last A I),ak aB])/\b3 W w' (cc A I j.last.data)):=hid (λW h=>by have q:=S8 E.dw E.B E.first E.bd (E.id:Int) j i k W h K;rw[hh]at q;exact q);obtain⟨bo,r⟩:=ex ((j0 d a j.last.data).1);obtain⟨n,v⟩:=ex ((j0 d a j.last.data).2);have H:aE (∀W l dB F m,aj ao FX W [cq E pk st (nx:Int) bC,cc l dB j.last.data,aN E.B m d,F]->aD ax 228 #[ay (ab ⟨E.dg,0,af⟩),J R (a:Int),ad l j.last.data.length dB] W λe w'=>e=rL bo (bg #[])/\∃c,aj ao FX w' [cq E pk st (nx:Int) bC,cc l dB j.last.data,aN E.B c n,F]):=hid (λW l dB F m h=>by have q:=ZC E pk st nx bC m d a l dB j.last.data ao W FX F u x y s h;rw[r,v]at q;exact q);rw[r,v];have G:=hid L;clear u x y s hh r v K L;by_cases hz:bo=0
 .subst hz;go_enter Tryz.func144,Tryz.ntmps144;go_step;refine ag ?_;refine v3 ?_;refine pl b 0 71 ?_ (hv:=fi (j:=2) aa);refine a6 (D _ (b.has 1)) ?_;rintro e w1 ⟨f,g,rfl,p⟩;replace b:=b.new _ p;refine ba ?_;refine v3 ?_;refine bx b #[J aG 0,J aG 0,J R 0,J R 0,ad af 0 0] (λM X b=>?_);refine a' b 0 (av #[J aG j.last.seq,J aG j.last.id,J R j.last.cur,J R j.last.off,ad f j.last.data.length g]) (λY b=>?_);refine ig ?_;refine bN b [7] (λ_ _=>aY) (λo=>λ|7=>aN E.B (o 7).m n|_=>emp) (λ|7=>[4]|_=>[]) (λ|4=>[0]|6=>[0]|7=>[2,1]|_=>[]) (λ|7=>[7]|_=>[]) [0,1,2,3,5,13] (λo=>?_);refine iw ?_;refine aL (J _ (a:Int)) (λ_ _ b=>by(rw[<-G.out];exact fy aa aa (b.aZ 0) aa aw)) ?_;refine aK ?_;refine dl 0 4 ?_;refine df (λz Fr b=>((H z f g (bO Fr) m (b.t3.pick [1,2,0,3]))).mono ?_) ?_;·rintro e dm ⟨rfl,c,b⟩;exact⟨{m:=c},aa,aj.iu [aN _ c n,cq E pk st _ bC,cc f g _] Fr (b.pick [2,0,1,3])⟩
  refine bQ λZ b=>?_;generalize (o 7).m=V at b⊢;refine ag ?_;refine ah ?_;have C:=(b.pk [2,0,1,3,4,5]).t1;refine a6 (QI E pk st nx bC m d _ _ _ _ ae C) ?_;rintro e cF ⟨rfl,b⟩;clear C;replace b:=b.dc;refine AU ?_;go_wp2_with fail;first|go_end0|refine bodyPost_ret (results_none rfl _ _ _) rfl ?_
  exact⟨rfl,λ_=>⟨_,b.pick [0,3,5,4]⟩,λh=>(h aa).elim⟩
 .have hz':=hz;go_enter Tryz.func144,Tryz.ntmps144;go_step;refine ag ?_;refine v3 ?_;refine pl b 0 71 ?_ (hv:=fi (j:=2) aa);refine a6 (D _ (b.has 1)) ?_;rintro e c6 ⟨f,g,rfl,p⟩;replace b:=b.new _ p;refine ba ?_;refine v3 ?_;refine bx b #[J aG 0,J aG 0,J R 0,J R 0,ad af 0 0] (λM dW b=>?_);refine a' b 0 (av #[J aG j.last.seq,J aG j.last.id,J R j.last.cur,J R j.last.off,ad f j.last.data.length g]) (λdG b=>?_);refine ig ?_;refine FJ (λch w'=>ch=tO bo/\∃c Fr,aj ao FX w' ([cq E pk st (nx:Int) bC,cc f g j.last.data,aN E.B c n,cV E j i k,F]++Fr)) (λch a w' had O=>by obtain⟨rfl,c,Fr,b⟩:=O;exact⟨had,(tX hz _).symm,λh=>(hz h).elim,λ_=>⟨c,(aj.tail _ Fr b).pick [0,3,2,4]⟩⟩) b [7] (λ_ _=>aY) (λ_=>λ|7=>tY|_=>emp) (λ_=>[]) (λ|4=>[0]|6=>[0]|7=>[2,1,4,3,5]|_=>[]) (λ_=>[]) [0,1,2,3,4,5,13] (λo=>?_);refine iw ?_;refine aL (J _ (a:Int)) (λ_ _ b=>by(rw[<-G.out];exact fy aa aa (b.aZ 0) aa aw)) ?_;refine aK ?_;refine dl 0 4 ?_;refine Eb (λz Fr b=>(H z f g _ m (aj.tail [cq E pk st (nx:Int) bC,cc f g j.last.data,aN E.B m d] _ b)).mono λe w' ⟨N,c,b⟩=>⟨_,N.trans (tX hz _),aa,c,Fr,aj.iu [cq E pk st (nx:Int) bC,cc f g j.last.data,aN E.B c n] ([cV E j i k,F]++Fr) b⟩) ?_;refine pc (λe8 b=>?_);exact(b.at (t:=tY) 6).elim
structure kg (d cD:dL):Prop where
 ok:dR cD
 size:cD.size=d.size
 cnt:cD.cnt=d.cnt
theorem kg.refl{d}(h:dR d):kg d d:=⟨h,aa,aa⟩
theorem kg.trans{d cD a}(h:kg d cD)(k:kg cD a):kg d a:=⟨k.ok,k.size.trans h.size,k.cnt.trans h.cnt⟩
def kg.len{d cD}(h:kg d cD)(a:dR d):cD.bytes.length=d.bytes.length:=by rw[h.ok.len,a.len,h.size,h.cnt]
def aws d i b:(jC d i b).2.size=d.size/\(jC d i b).2.cnt=d.cnt:=by
 unfold jC;split;·simp
 .split;·simp
  .split;·exact⟨aa,aa⟩
   .split<;>exact⟨aa,aa⟩
def atl(d:dL)(o n):(oI d.size o n).length<=o+n+1:=by
 rw[oI,gU,DR];unfold fg;split;·omega
 .exact Nat.succ_le_succ (eC (Nat.sub_le _ _) (eC (Nat.div_le_self _ _) ae))
def Zz{d o bs}(a:dR d)(j:o+bs.length<=d.bytes.length)(f:d.down=au)(i:d.cache.length<=1000000000):
 kg d (ma d o bs).2/\((ma d o bs).1=0->(ma d o bs).2.down=au/\(ma d o bs).2.cache.length<=d.cache.length+(o+bs.length+1)):=by
 have hsm:d.bytes.length<=1048576:=by rw[a.len];exact a.small
 have m:=atl d o bs.length
 have key:∀(l:List (Nat×Nat×Nat)) (k:Nat) (cD:dL),DV d cD k->d.cache.length+k+l.length<1073741824->kg d (l.foldl (mn o bs) (0,cD)).2/\((l.foldl (mn o bs) (0,cD)).1=0->(l.foldl (mn o bs) (0,cD)).2.down=au/\(l.foldl (mn o bs) (0,cD)).2.cache.length<=d.cache.length+(k+l.length)):=by
  intro l;induction l with
  |nil=>intro k cD h _;exact⟨⟨h.ok,h.size,h.cnt⟩,λ_=>⟨h.down,h.ek⟩⟩
  |cons x l n=>
   intro k cD h hk;rw[jT]at hk;rw[List.foldl_cons];by_cases hx:(mn o bs (0,cD) x).1=0;·have g:=h.step ae hx;grind
   .rw[NC l _ hx];refine⟨?_,λh=>absurd h hx⟩;have e:mn o bs (0,cD) x=jC cD (x.1:Int) (ie (mO cD x.1) (x.2.1 -x.1*cD.size) ((bs.drop (x.2.1 -o)).take x.2.2)):=aS;rw[e];have c:=aws cD (x.1:Int) (ie (mO cD x.1) (x.2.1 -x.1*cD.size) ((bs.drop (x.2.1 -o)).take x.2.2));exact⟨Ux h.ok _ _ (by have:=h.ek;omega),c.1.trans h.size,c.2.trans h.cnt⟩
 have h:=key (oI d.size o bs.length) 0 d ⟨a,aa,aa,f,cm _⟩ ae;exact⟨h.1,λb=>⟨(h.2 b).1,eC (h.2 b).2 ae⟩⟩
def Zw{d}(e:dR d):kg d (l9 d).2/\((l9 d).1=0->(l9 d).2.down=au/\(l9 d).2.cache=[]):=by
 unfold l9;by_cases h:j9 d 0≠0;·grind[kg.refl]
 .rw[if_neg h];have a:=TP e (λ_=>aB);refine⟨⟨⟨a.mj,a.vr,a.len,a.small,a.cache,a.ek,a.wr⟩,rfl,rfl⟩,λ_=>⟨?_,aa⟩⟩;have b:=C9 h;unfold j9 at b;split at b;·omega
  .rename_i c;show d.down=au;simpa using c
def afP{d o bs}(b:dR d)(f:o+bs.length<=d.bytes.length)(c:d.down=au)(e:d.cache.length<=1000000000):
 kg d (j0 d o bs).2/\((j0 d o bs).1=0->(j0 d o bs).2.down=au/\(j0 d o bs).2.cache=[]):=by
 have h1:=Zz b f c e;unfold j0;by_cases h:(ma d o bs).1≠0;·grind
 .rw[if_neg h];have a:=Zw h1.1.ok;exact⟨h1.1.trans a.1,a.2⟩
def aqM{d first bd}(a:kk d first bd):44+bd<=vO d bd:=by have h:=Nat.lt_mul_div_succ (bd+43) (show 0<d.size from a.dev.mj);unfold vO jZ;rw[Nat.mul_comm];omega
theorem QL{d first bd id nx cu of j ds}(c:kk d first bd)(f:d.down=au)(g:d.cache.length<=1000000000)(k:ds.length<=bd):
 kg d (jz d first bd id j nx cu of ds).2.2/\((jz d first bd id j nx cu of ds).1=0->(jz d first bd id j nx cu of ds).2.2.down=au/\(jz d first bd id j nx cu of ds).2.2.cache=[]/\(jz d first bd id j nx cu of ds).2.1=⟨aG.wrap ((nx:Int)+1),⟨(nx:Int),(id:Int),(cu:Int),(of:Int),ds⟩,aB⟩)/\((jz d first bd id j nx cu of ds).1≠0->(jz d first bd id j nx cu of ds).2.1=j):=by
 have hb1:=c.eR
 have hroom:uq d first bd (nx%2)+(vw nx id cu of ds).length<=d.bytes.length:=by have h1:=c.room (i:=nx%2) ae;have a:44+bd<=vO d bd:=aqM c;rw[Zb];omega
 have h1:=Zz c.dev hroom f g;unfold jz;by_cases h:(ma d (uq d first bd (nx%2)) (vw nx id cu of ds)).1≠0;·grind
 .simp only[if_neg h];have a:=Zw h1.1.ok;by_cases b:(l9 (ma d (uq d first bd (nx%2)) (vw nx id cu of ds)).2).1≠0;·simp only[if_pos b];exact⟨h1.1.trans a.1,λe=>absurd e b,λ_=>trivial⟩
  .simp only[if_neg b];exact⟨h1.1.trans a.1,λ_=>⟨(a.2 (C9 b)).1,(a.2 (C9 b)).2,trivial⟩,λe=>absurd aa e⟩
def kk.ys{d cD first bd}(h:kk d first bd)(e:kg d cD):kk cD first bd:=⟨e.ok,h.eR,h.eY,by rw[e.size,e.cnt];exact h.fits⟩
end Go.Proofs.YtcmhplknoglbkaaGreat
