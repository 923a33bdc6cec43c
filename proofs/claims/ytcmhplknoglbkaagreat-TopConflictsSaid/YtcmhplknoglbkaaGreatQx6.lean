/- Part 6 of the proof of TopConflictsSaid. -/
import Derived.Test.YtcmhplknoglbkaaGreatQx0
import Derived.Test.YtcmhplknoglbkaaGreatQx3
import Derived.Test.YtcmhplknoglbkaaGreatQx4
import Derived.Test.YtcmhplknoglbkaaGreatQx5
set_option linter.all false
set_option maxRecDepth 100000
set_option maxHeartbeats 4000000
open Go.Proofs.Tryz
open Array renaming replicate_succ->pC,replicate_zero->pD,size->ja
open Bool renaming false->ao,true->az
open Decidable renaming of_not_not->DA
open Go renaming Addr->bQ,Calls->aD,Oper->cU,PanicEntry->rv,Program->ee,Value->aO,World->aM,bodyPost_ret->dp,callFunc->km,execOp->bt,madeCells->GG,results_cell_row->jd,undef->a1,wpList->cL,wpList_nil->an,yielded->cZ
open Go.Calls renaming mono->JO
open Go.Ending renaming panicked->JR,returned->aB
open Go.Exit renaming panic->tx
open Go.Fn renaming func->ed
open Go.IntKind renaming i64->R,u64->aH
open Go.LoopState renaming busy->sv
open Go.Next renaming value->c9
open Go.Obj renaming loop->fP
open Go.Oper renaming wp->ih
open Go.Operand renaming const->qB,tmp->bj
open Go.Proofs.Tryz renaming func108->O2,func228->Vz,func278->VF,ntmps108->VW,ntmps228->V2,prog->aw,underlying22->dL,underlying23->tB,underlying24->eA,underlying26->J3,underlying49->x4,underlying5->l2,underlying73->fy,underlying82->hR
open Go.Proofs renaming enters_of->kW
open Go.Region renaming wanted->c6
open Go.Result renaming ok->a6
open Go.RowKit renaming Hid->aE,intOf->cy
open Go.Sem renaming run_bind->ga
open Go.Value renaming agg->av,bool->ai,func->dC,iface->u2,int->J,pointer->ax,slice->ae,tuple->bm
open Int renaming eq_ofNat_of_zero_le->wJ,toNat_of_nonneg->KD
open List renaming append_assoc->j0,append_nil->j1,append_toArray->pM,cons_append->oZ,getElem?_append_left->wM,getElem?_append_right->o0,getElem?_cons_succ->vi,getElem?_eq_getElem->cC,getElem?_map->lr,getElem?_toArray->zV,getElem_mem->Ed,length_append->c',length_cons->js,length_filterMap_le->XU,length_map->gV,length_nil->l4,length_range->BO,length_set->wN,mem_cons->gF,mem_of_getElem?->cY,nil_append->lK,not_mem_nil->fQ,perm_append_comm->vm,perm_append_singleton->Hi,push_toArray->pP,range->dG,replicate->eU,size_toArray->iG,take_add_one->gg,take_append_drop->o1,take_of_length_le->tQ
open Min renaming min->fW
open Nat renaming add_sub_cancel_left->tS,div_le_iff_le_mul_add_pred->aki,le_of_eq->X2,le_refl->b4,le_trans->ea,mul_le_mul_right->o2,zero_add->jt,zero_le->cF,zero_lt_succ->KL
open Option renaming map_some->pR,none->af,some->ab
open Option.some renaming injEq->wR
open Or renaming inl->bM
namespace Go.Proofs.YtcmhplknoglbkaaGreat
open Go.RowKit Go.MapKept
def rQ(m:bJ):List Int:=if m.k=1 then iU [(1,1),(m.to.toNat,8),(m.fr.toNat,8),(m.n.toNat,8)]else iU [(2,1),(m.to.toNat,8),(m.data.length,8)]++m.data
def Ft:List Int:=[71,82,70,84]
def oB(o n:Nat):List Int:=Ft++iU [(1,1),(o,8),(n,8)]
def xb(o n:Nat)(g1 g2:dS):List Int:=oB o n++g1.l++g2.l
def qY(o n:Nat)(g1 g2:dS)(k:Nat):List Int:=xb o n g1 g2++iU [(k,4)]
def jk(o n:Nat)(g1 g2:dS)(ms:List bJ):List Int:=qY o n g1 g2 ms.length++ms.flatMap rQ
def anw(o n)(g1 g2)ms j:(qY o n g1 g2 ms.length++(ms.take j).flatMap rQ).length<=(jk o n g1 g2 ms).length:=by grind[jk,o1]
def Ap(fs:List (Nat×Nat)):List Value:=fs.flatMap (λf=>[J aH (f.1:Int),J R (f.2:Int)])
def aoa{fs i f}(h:fs[i]?=ab f):(Ap fs)[i*2]?=ab (J aH (f.1:Int))/\(Ap fs)[i*2+1]?=ab (J R (f.2:Int)):=by
 induction fs generalizing i with
 |nil=>grind
 |cons x r a=>
  cases i with
  |zero=>cases h;exact⟨aa,aa⟩
  |succ i=>
   have:=a (i:=i) aF;exact⟨by rw[show(i+1)*2=i*2+1+1 by omega];exact this.1,by rw[show(i+1)*2+1=i*2+1+1+1 by omega];exact this.2⟩
def NN A c bs F iW fs w(n:bs.length<=8796093022208/\fs.length<=1048576)(h:0<fs.length)(hb:bX w A bs)(o:∀f∈fs,yO f)(l:Row 0 w F fs.length iW 227 2 (Ap fs)):
 aD aw 126 #[ae A bs.length c,ae F fs.length iW] w λe w'=>∃a b,e=aB (bm #[ae a (bs++iU fs).length b,ai az])/\Row w.heap.size w' a (bs++iU fs).length b 5 1 ((bs++iU fs).map bb)/\ar w w':=by
 obtain⟨g,cur,rfl,hb2,_,_,_,j⟩:=l.blk h;refine afW A c bs g 0 iW fs w n hb o (λi f m=>?_);have d:=aoa m
 have key:∀(k) v,(Ap fs)[k]?=ab v->w.cell? _=ab v:=λk v hk=>by
  rw[<-j,List.getElem?_take]at hk;split at hk;·exact hb2.cell k aF
  .grind
 rw[jt];exact⟨key _ _ d.1,key _ _ d.2⟩
def ZR{w B cs}fs(hb:aU w B cs 227)(hc:cs.toList=Ap fs)(hn:fs.length<=1048576):Row 0 w (ab ⟨B,0,af⟩) fs.length fs.length 227 2 (Ap fs):=by
 have a:(Ap fs).length=fs.length*2:=by
  clear hc hn;induction fs with
  |nil=>rfl
  |cons x r b=>grind[Ap]
 have h:=Jb (n:=fs.length) (c:=_) (sz:=2) hb (b4 _) (by grind[maxLen]) aF;grind
def Zc{w}{B t:Nat}{o n g1 g2 S}(h:aU w B (a7 o n g1 g2 S) t):bX w (ab ⟨B,2,af⟩) g1.l/\bX w (ab ⟨B,34,af⟩) g2.l:=by
 have h1:=g1.len;have b:=g2.len;refine⟨λ_=>⟨B,2,rfl,λj a=>h.cell (2+j) ?_⟩,λ_=>⟨B,34,rfl,λj a=>h.cell (34+j) ?_⟩⟩;·rw[a7,zV,show 2+j=j+1+1 by omega,vi,vi,wM aF,lr,cC ad];simp
 .rw[a7,zV,show 34+j=(32+j)+1+1 by omega,vi,vi,o0 aF,gV,h1,show 32+j -32=j by omega,wM aF,lr,cC ad];simp
def anY(o n:Nat)(g1 g2)A c ms w(ho:(o:Int)<=4611686018427387903/\(n:Int)<=4611686018427387903)(X:cX w A ms)(hv:∀m∈ms,gW m)(dR:ms.length<=1048576)(hle:(jk o n g1 g2 ms).length<=8796093022208):
 aD aw 53 #[eB (o:Int) (n:Int) g1 g2 (ae A ms.length c)] w λe w'=>∃r s,e=aB (bm #[ae r (jk o n g1 g2 ms).length s,J R 0])/\cf w w' (cg r s (jk o n g1 g2 ms)):=by
 have cH:=hid X;have cB:=hid hv;have jL:=hid (λW g=>amW o n g1 g2 A c ms W ho (X.aG g) hv dR);have hg1:=g1.len;have hg2:=g2.len;have Z9:(oB o n).length<=1000:=by grind[oB,Ft,iU,rO]
 have PD:aE (∀W k F,bX W (ab ⟨k,0,af⟩) Ft->aU W F #[J aH 1,J R 1,J aH (o:Int),J R 8,J aH (n:Int),J R 8] 227->aD aw 126 #[ae (ab ⟨k,0,af⟩) 4 4,ae (ab ⟨F,0,af⟩) 3 3] W λe w'=>∃r s,e=aB (bm #[ae r (oB o n).length s,ai az])/\Row W.heap.size w' r (oB o n).length s 5 1 ((oB o n).map bb)/\ar W w'):=hid (λW k F h1 B=>NN _ 4 Ft (ab ⟨F,0,af⟩) 3 [(1,1),(o,8),(n,8)] W ⟨bf,a8⟩ (KL _) h1 (λf D=>by grind[yO]) (ZR [(1,1),(o,8),(n,8)] B aa a8));have PE:aE (∀W k t F,bX W k (xb o n g1 g2)->aU W F #[J aH (ms.length:Int),J R 4] 227->aD aw 126 #[ae k (xb o n g1 g2).length t,ae (ab ⟨F,0,af⟩) 1 1] W λe w'=>∃r s,e=aB (bm #[ae r (qY o n g1 g2 ms.length).length s,ai az])/\Row W.heap.size w' r (qY o n g1 g2 ms.length).length s 5 1 ((qY o n g1 g2 ms.length).map bb)/\ar W w'):=hid (λW k t F h1 B=>NN k t (xb o n g1 g2) (ab ⟨F,0,af⟩) 1 [(ms.length,4)] W ⟨by grind[xb],a8⟩ (KL _) h1 (λf D=>by grind[yO]) (ZR [(ms.length,4)] B aa a8));have P:=hid hle;have P:=hid hle;have Zy:=λj=>anw o n g1 g2 ms j;clear X hv hle;go_enter func53,ntmps53;have a:=bc w;go_step;refine ah ?_;refine bG a (av _) (λM w1 a=>?_);iterate 2 refine ag ?_
 refine ah ?_;refine bh a 0 (a7 (o:Int) (n:Int) g1 g2 (ae A ms.length c)) ?_ (hv:=(eW _)) (hk:=by omega) (hz:=(by rw[bW];rfl));refine bH (jL _ a.only) a (λaW a=>?_);refine cK ?_;refine pk (ai ao) ?_;refine cx ?_;refine bN a [0,1,5,8,9,10] (λi u=>match i with|0=>ae (ab ⟨u.b,0,af⟩) 4 4|1=>ae (ab ⟨u.b,0,af⟩) 4 4|5=>av #[J aH (o:Int),J R 8]|8=>av #[J aH (n:Int),J R 8]|9=>ae (ab ⟨u.b,0,af⟩) 3 3|10=>bm #[ae u.A (oB o n).length u.c,ai az]|_=>a1) (λd=>λ|0=>aj ((d 0).b) #[J .u8 71,J .u8 82,J .u8 70,J .u8 84] 5|1=>ro (ab ⟨(d 1).b,0,af⟩) Ft|9=>aj ((d 9).b) #[J aH 1,J R 1,J aH (o:Int),J R 8,J aH (n:Int),J R 8] 227|10=>bk ((d 10).A) ((oB o n).length) ((d 10).c) 5 1 ((oB o n).map bb)|_=>emp) (λ|1=>[1]|_=>[]) (λ|4=>[0]|7=>[0]|10=>[2,10]|_=>[]) (λ|0=>[0]|1=>[1]|9=>[9]|10=>[10]|_=>[]) [0,2,6,9,10,11] (λd=>?_);refine lN _ 5 ?_;refine amL _ (λ_ _ a=>FF _ aa aa (a.aX 0) aa dL l2) ?_;refine bF ?_;refine dl 0 0 ?_ (hv:=ku);refine dD (λ_ _ _=>Ce o _ ad) ?_;refine aK ?_;refine dl 0 1 ?_ (hv:=hZ);refine dD (λ_ _ _=>Ce n _ ad) ?_;refine lN _ _ ?_;refine du (λwl Fr a=>(PD _ _ _ (a.at 0) (a.aX 1)).mono ?_) ?_;·rintro e dA ⟨gR,gy,rfl,hrow,g⟩;exact⟨{A:=gR,c:=gy},aa,a.k9 g hrow⟩
 refine oO ?_;refine bU λbI a=>?_;generalize (d 0).b=U8 at a⊢;generalize (d 1).b=qy at a⊢;generalize (d 9).b=axJ at a⊢;generalize (d 10).A=JC at a⊢;generalize (d 10).c=Lc at a⊢;replace a:=a.drop 2;replace a:=a.drop 2;refine cx ?_;refine bN a [3,6] (λi u=>match i with|3=>ae u.A ((oB o n).length+32) u.c|6=>ae u.A (((oB o n).length+32)+32) u.c|_=>a1) (λd=>λ|3=>bk ((d 3).A) ((oB o n).length+32) ((d 3).c) 5 1 ((oB o n).map bb++(g1.l.map bb))|6=>bk ((d 6).A) (((oB o n).length+32)+32) ((d 6).c) 5 1 (((oB o n).map bb++(g1.l.map bb))++(g2.l.map bb))|_=>emp) (λ|3=>[3]|6=>[7]|_=>[]) (λ|3=>[0]|6=>[0]|_=>[]) (λ|3=>[3]|6=>[6]|_=>[]) [0,1,2,10] (λd=>?_);refine bF ?_;refine gZ (ae (ab ⟨M,2,af⟩) 32 32) ?_;refine ub (m:=32) 1 (λ_ _ a=>(by have h:=(Zc (a.aX 1)).1.cells;rw[hg1]at h;exact h)) (xE _) ?_ (hby:=by omega);refine aK ?_;refine gZ (ae (ab ⟨M,34,af⟩) 32 32) ?_;refine ub (m:=32) 1 (λ_ _ a=>(by have h:=(Zc (a.aX 1)).2.cells;rw[hg2]at h;exact h)) (xE _) ?_ (hby:=by omega);refine aK ?_;refine bU λcc a=>?_;generalize (d 3).A=sk at a⊢;generalize (d 3).c=sN at a⊢;generalize (d 6).A=U0 at a⊢;generalize (d 6).c=YK at a⊢;have Zs:(((oB o n).map bb++(g1.l.map bb))++(g2.l.map bb))=(xb o n g1 g2).map bb:=by simp[xb]
 have Q:(((oB o n).length+32)+32)=(xb o n g1 g2).length:=by simp only[xb,c',hg1,hg2]
 rw[Zs,Q]at a;clear Zs;rw[Q];clear Q;refine ah ?_;iterate 2 refine ag ?_
 refine pl a 0 66 ?_ (hv:=eH);refine ag ?_;refine aI (J aH _) (by(go_simp;exact u64_in _ ad)) ?_;refine ag ?_;refine fC a #[J aH (ms.length:Int),J R 4] 227 (λaxI cJ a=>?_);refine aP (PE _ _ _ _ (a.atR 4).F2 (a.aX 0)) ?_;rintro e c5 ⟨Du,Af,rfl,hrow,g⟩;replace a:=a.k9 g hrow;refine Om ?_;refine pl a 2 66 ?_ (hv:=eH);iterate 2 refine ag ?_
 refine an ?_;have dN:(qY o n g1 g2 ms.length)=((qY o n g1 g2 ms.length)++(ms.take 0).flatMap rQ):=a8;have cj:=a.pk [0,2];go_wp2_with fail;go_loopw [5,51] (λic Z wr=>∃(j:Nat) (k:Option bQ) (t:Nat),j<=ms.length/\ic=ae k ((qY o n g1 g2 ms.length)++(ms.take j).flatMap rQ).length t/\Z=J R (j:Int)/\ak w (λ_=>False) wr [bk k (((qY o n g1 g2 ms.length)++(ms.take j).flatMap rQ).length) t 5 1 (((qY o n g1 g2 ms.length)++(ms.take j).flatMap rQ).map bb),aj M (a7 (o:Int) (n:Int) g1 g2 (ae A ms.length c)) 26]) (λic Z wr=>ms.length -(cy Z).toNat);case atStart=>exact⟨0,Du,Af,cF _,by rw[<-dN],aa,by rw[<-dN];exact cj⟩
 case round=>
  clear a cj dN;obtain⟨j,k,t,hj,rfl,rfl,a⟩:=hrel;by_cases hlt:j<ms.length
  .have cN:(j:Int)<(ms.length:Int):=ad;have U:=ea (Zy j) P;obtain⟨m,Y⟩:∃m,ms[j]?=ab m:=⟨_,cC hlt⟩;obtain⟨E,H,aR,aT,bC,eu,dh⟩:=cX.ji cH Y;have cn:=hid bC;have O:=hid eu;have L:=hid dh;have b9:=hid Y;clear bC eu dh Y;obtain⟨bs,S⟩:=ex (((qY o n g1 g2 ms.length)++(ms.take j).flatMap rQ));have hM:((qY o n g1 g2 ms.length)++(ms.take (j+1)).flatMap rQ)=bs++rQ m:=by rw[gg,b9,List.flatMap_append,<-j0,S];simp
   rw[S]at a U⊢;have v:=hid hM;clear hM S;have lz:=cB m (cY b9);rcases lz with⟨hk,⟨z,v2,v3⟩,⟨pw,ns,sf⟩,G,I⟩|⟨hk,⟨z,v2,v3⟩,T,G,I⟩
   .simp only at z v2 v3 pw ns sf;obtain⟨cQ,dg,x,rfl⟩:∃cQ dg x:Nat,m=⟨1,(cQ:Int),(dg:Int),(x:Int),[]⟩:=⟨m.to.toNat,m.fr.toNat,m.n.toNat,by rcases m with⟨mk,mt,arY,r9,p⟩;simp only at hk z v2 v3 pw ns sf G I⊢;rw[hk,KD z,KD pw,KD v2,List.eq_nil_of_length_eq_zero I]⟩;dsimp only at L O v z v2 v3 pw ns sf;have hcb:rQ ⟨1,(cQ:Int),(dg:Int),(x:Int),[]⟩=iU [(1,1),(cQ,8),(dg,8),(x,8)]:=aY;rw[hcb]at v;obtain⟨y,C⟩:=ex (bs++iU [(1,1),(cQ,8),(dg,8),(x,8)]);rw[C]at v;have N:aE (∀W F iW,bX W k bs->Row 0 W F 4 iW 227 2 [J aH 1,J R 1,J aH (cQ:Int),J R 8,J aH (dg:Int),J R 8,J aH (x:Int),J R 8]->aD aw 126 #[ae k bs.length t,ae F 4 iW] W λe w'=>∃r s,e=aB _/\Row _ w' r y.length s 5 1 _/\ar W w'):=hid (λW F iW h1 B=>by have q:=NN k t bs F iW [(1,1),(cQ,8),(dg,8),(x,8)] W ⟨U,a8⟩ (KL _) h1 (λf D=>by simp only[gF,fQ,or_false]at D;rcases D with rfl|rfl|rfl|rfl<;>(unfold yO;simp;try omega)) B;rw[C]at q;exact q);clear C hcb hk G I;go_step;refine ah ?_;refine en ?_;refine aI (ax (ab ⟨E,(H+j*5),af⟩)) (cq 24 73 5 (bj 49) (bj 51) aa eA ay E H (ms.length) c j ((H+j*5)) (by show ae A _ _=_;rw[cn]) aa hlt aa) ?_;refine aI _ (by(refine eC 73 _ aa E _ aa _ (L _ a.only) fy aa ay)) ?_;refine bA a #[J _ 0,J _ 0,J _ 0,J _ 0,ae _ 0 0] (λjT dK a=>?_);refine a' a 0 (av #[J R 1,J R _,J R _,J R _,ae aR 0 aT]) (λdz a=>?_);refine cx ?_;refine bN a [6,7] (λi u=>match i with|6=>av #[J aH (cQ:Int),J R 8]|7=>ae (ab ⟨u.b,0,af⟩) 2 2|_=>a1) (λd=>λ|7=>aj ((d 7).b) #[J aH 1,J R 1,J aH (cQ:Int),J R 8] 227|_=>emp) (λ_=>[]) (λ|1=>[0]|5=>[0]|_=>[]) (λ|7=>[7]|_=>[]) [0,1,2,9,10] (λd=>?_);refine aK ?_;refine dl 0 0 ?_;refine gZ (J aH 1) ?_;refine bF ?_;refine dl 0 1 ?_;refine dD (λ_ _ _=>Ce cQ _ ad) ?_;refine lN _ _ ?_;refine aK ?_;refine bU λeY a=>?_;generalize (d 7).b=agl at a⊢;replace a:=a.drop 3;refine b' ?_;refine pl a 0 0 ?_;refine pk (ai az) ?_;refine an ?_;replace a:=a.A9 3 2 2 2 [J _ 1,J _ 1,J _ _,J _ 8] aa (b4 _) (by unfold maxLen;omega) aa;refine cx ?_;refine bN a [4,7,8,9,10] (λi u=>match i with|4=>av #[J aH (dg:Int),J R 8]|7=>av #[J aH (x:Int),J R 8]|8=>ae (ab ⟨u.b,0,af⟩) 2 2|9=>ae u.A (2+2) u.c|10=>bm #[ae u.A y.length u.c,ai az]|_=>a1) (λd=>λ|8=>aj ((d 8).b) #[J aH (dg:Int),J R 8,J aH (x:Int),J R 8] 227|9=>bk ((d 9).A) (2+2) ((d 9).c) 227 2 ([J aH 1,J R 1,J aH (cQ:Int),J R 8]++([J aH (dg:Int),J R 8,J aH (x:Int),J R 8]))|10=>bk ((d 10).A) y.length ((d 10).c) 5 1 (y.map bb)|_=>emp) (λ|9=>[3]|_=>[]) (λ|3=>[0]|6=>[0]|9=>[12]|10=>[1,13]|_=>[]) (λ|8=>[8]|9=>[9]|10=>[10]|_=>[]) [0,1,2,8,11,12,13,14] (λd=>?_);refine da ?_;refine dl 0 2 ?_;refine dD (λ_ _ _=>Ce dg _ ad) ?_;refine aK ?_;refine dl 0 3 ?_;refine dD (λ_ _ _=>Ce x _ ad) ?_;refine lN _ _ ?_;refine ub (m:=2) 16 (λ_ _ a=>aU.cellsOf (m:=2) (a.aX 1) aa) (by intro u K;simp only[gF,fQ,or_false]at K;rcases K with rfl|rfl|rfl|rfl<;>rfl) ?_ (hby:=by decide);refine du (λwl Fr a=>(N _ _ _ (a.atR 0).F2 (a.atR 1)).mono ?_) ?_;·rintro e dA ⟨n',sP,rfl,hrow,g⟩;exact⟨{A:=n',c:=sP},aa,a.k9 g hrow⟩
    refine hD ?_;refine bU λgQ a=>?_;generalize (d 8).b=agk at a⊢;generalize (d 9).A=axw at a⊢;generalize (d 9).c=ayM at a⊢;generalize (d 10).A=U3 at a⊢;generalize (d 10).c=Rp at a⊢;replace a:=a.drop 3;replace a:=a.drop 3;refine ah ?_;refine pad (j:Int) 1 ((j+1:Nat):Int) ?_;refine bP ?_;go_wp2_with fail;go_roundw;case rel=>exact⟨j+1,_,_,ad,by rw[v],aa,by rw[v];exact a.pick [5,2]⟩
    case measure=>simp[cy]<;>omega
   .simp only at z v2 v3;obtain⟨cQ,p,rfl⟩:∃(cQ:Nat) (p:List Int),m=⟨2,(cQ:Int),0,0,p⟩:=⟨m.to.toNat,m.data,by rcases m with⟨mk,mt,arY,r9,p⟩;simp only at hk z T G⊢;rw[hk,KD z,T,G]⟩;dsimp only at L O v z v2 v3 I;have hcb:rQ ⟨2,(cQ:Int),0,0,p⟩=iU [(2,1),(cQ,8),(p.length,8)]++p:=aY;rw[hcb,<-j0]at v;obtain⟨y,C⟩:=ex (bs++iU [(2,1),(cQ,8),(p.length,8)]);rw[C]at v;have V:=Zy (j+1);rw[v]at V;have apj:=ea V P;rw[c']at apj;have N:aE (∀W F iW,bX W k bs->Row 0 W F 3 iW 227 2 [J aH 2,J R 1,J aH (cQ:Int),J R 8,J aH (p.length:Int),J R 8]->aD aw 126 #[ae k bs.length t,ae F 3 iW] W λe w'=>∃r s,e=aB _/\Row W.heap.size w' r y.length s 5 1 _/\ar W w'):=hid (λW F iW h1 B=>by have q:=NN k t bs F iW [(2,1),(cQ,8),(p.length,8)] W ⟨U,a8⟩ (KL _) h1 (λf D=>by simp only[gF,fQ,or_false]at D;rcases D with rfl|rfl|rfl<;>(unfold yO;simp;try omega)) B;rw[C]at q;exact q);clear C hcb hk T G V;go_step;refine ah ?_;refine en ?_;refine aI (ax (ab ⟨E,(H+j*5),af⟩)) (cq 24 73 5 (bj 49) (bj 51) aa eA ay E H (ms.length) c j ((H+j*5)) (by show ae A _ _=_;rw[cn]) aa hlt aa) ?_;refine aI _ (by(refine eC 73 _ aa E _ aa _ (L _ a.only) fy aa ay)) ?_;refine bA a #[J _ 0,J _ 0,J _ 0,J _ 0,ae _ 0 0] (λjT ib a=>?_);refine a' a 0 (av _) (λjS a=>?_);refine cx ?_;refine bN a [6,7] (λi u=>match i with|6=>av #[J aH (cQ:Int),J R 8]|7=>ae (ab ⟨u.b,0,af⟩) 2 2|_=>a1) (λd=>λ|7=>aj ((d 7).b) #[J aH 2,J R 1,J aH (cQ:Int),J R 8] 227|_=>emp) (λ_=>[]) (λ|1=>[0]|5=>[0]|_=>[]) (λ|7=>[7]|_=>[]) [0,1,2,9,10] (λd=>?_);refine aK ?_;refine dl 0 0 ?_;refine gZ (J aH 2) ?_;refine bF ?_;refine dl 0 1 ?_;refine dD (λ_ _ _=>Ce cQ _ ad) ?_;refine lN _ _ ?_;refine aK ?_;refine bU λkh a=>?_;generalize (d 7).b=agl at a⊢;replace a:=a.drop 3;refine b' ?_;refine pl a 0 0 ?_;refine pk (ai ao) ?_;refine an ?_;replace a:=a.A9 3 2 2 2 [J _ 2,J _ 1,J _ _,J _ 8] aa (b4 _) (by unfold maxLen;omega) aa;refine ah ?_;iterate 3 refine ag ?_
    refine pl a 0 4 ?_;refine ag ?_;refine bH (Ce p.length _ ad) a (λlf a=>?_);refine fC a #[J aH (p.length:Int),J R 8] 227 (λagk mr a=>?_);refine lZ (m:=1) a 4 16 (aU.cellsOf (m:=1) (a.aX 0) aa) (by intro u K;simp only[gF,fQ,or_false]at K;rcases K with rfl|rfl<;>rfl) (λaxx ayN n1 a=>?_) (hby:=by decide);refine aP (N.out _ _ _ (a.atR 2).F2 (a.atR 4)) ?_;rintro e re ⟨n',sP,rfl,hrow,g⟩;replace a:=a.k9 g hrow;refine aQ ?_;refine v4 ?_;refine ah ?_;iterate 2 refine ag ?_
    refine pl a 2 4 ?_;refine lZ (m:=p.length) a 0 1 ((O.out _ a.only).1.cells) (xE _) (λaxy ayO rf a=>?_) (hby:=by omega);refine bP ?_;have Cb:(y.map bb++(p.map bb))=(y++p).map bb:=a8;have Ez:y.length+p.length=(y++p).length:=by rw[c']
    rw[Cb]at a;have DB:=hid Ez;clear Cb Ez;refine ah ?_;refine pad (j:Int) 1 ((j+1:Nat):Int) ?_;refine bP ?_;go_wp2_with fail;go_roundw;case rel=>exact⟨j+1,_,_,ad,by rw[v,<-DB],aa,by rw[v,<-DB];exact a.pick [0,4]⟩
    case measure=>simp[cy]<;>omega
  .have cN:¬(j:Int)<(ms.length:Int):=ad;have s3:j=ms.length:=ad;have iq:((qY o n g1 g2 ms.length)++(ms.take j).flatMap rQ)=jk o n g1 g2 ms:=by rw[s3,List.take_length,jk]
   rw[iq]at a⊢;go_step;refine ah ?_;refine en ?_;iterate 2 refine ag ?_
   refine ah ?_;iterate 3 refine ag ?_
   refine an ?_;go_wp2_with fail;go_ret2;exact⟨k,t,aa,cf.TO a.only (Row.nZ (a.fresh 0).row)⟩
def lB(bs:List Int):Int:=(k' ⟨gz bs,0,0,0⟩ 8).1
def anZ(p c1)A c bs w(E:bs.length<=8796093022208)(l:w.cell? ⟨p,0,af⟩=ab (ae A bs.length c))(hb:bX w A bs)(j:∀b off,A=ab ⟨b,off,af⟩->b<w.heap.size):
 aD aw 55 #[ae (ab ⟨p,0,af⟩) 1 c1] w λe w'=>e=aB (J aH (lB bs))/\ar w w':=by
 obtain⟨D,i⟩:=ex (gz bs);have f:D.length=32:=by grind[sT]
 have t:aE (∀W,ar w W->aD aw 76 #[ae (ab ⟨p,0,af⟩) 1 c1] W λe w'=>e=aB (av (aZ bb D []))/\ar W w'):=hid (λW g=>by have q:=ae8 p 0 c1 A c bs W ad (g.cell l (λh=>h)) (hb.aG g) (λb off e=>Nat.lt_of_lt_of_le (j b off e) g.size);rw[i]at q;exact q);have k:lB bs=(k' ⟨D,0,0,0⟩ 8).1:=by rw[lB,i]
 rw[k];have s:aE (∀W d,bX W (ab ⟨d,0,af⟩) D->aD aw 134 #[ae (ab ⟨d,0,af⟩) 32 32] W λe w'=>∃B m u,e=aB (ax (ab ⟨B,0,af⟩))/\cf W w' (ej B m u ⟨D,0,0,0⟩)):=hid (λW d h=>by have q:=adl (ab ⟨d,0,af⟩) 32 D W ad h;rw[f]at q;exact q);have C:qO ⟨D,0,0,0⟩:=⟨cF _,aF⟩;clear k l hb i j;go_enter func55,ntmps55;have a:=bc w;go_step;refine ah ?_;refine cK ?_;refine bH (t.out _ a.only) a (λw1 a=>?_);refine bA a (aZ bb (eU 32 0) []) (λo F a=>?_);refine I2 a 0 (F5 (av (aZ bb D [])) aa aa aa (a.aX 0) (by show 0+(aZ bb D []).size<=(aZ bb (eU 32 0) []).size;rw[kr,kr,f];simp) (by show _=ab (aZ bb D []).size;rw[kr,f];kernel_rfl) (Q7 (λ_=>aa) (λv hv=>absurd hv fQ)) (lay_all (by show(aZ bb D []).size=(aZ bb (eU 32 0) []).size;rw[kr,kr,f];simp))) (λG a=>?_);refine ah ?_;refine pk (ae (ab ⟨o,0,af⟩) 32 32) ?_;refine aP (s _ _ (K9 (a.aX 0))) ?_;rintro e H ⟨r,n,x,rfl,y⟩;replace a:=a.new _ y;refine aQ ?_;refine aP (Je r n x _ 8 _ (a.has 0) C ad) ?_;rintro e I ⟨rfl,z⟩;replace a:=a.ek 0 z;refine Ds ?_;go_wp2_with fail;go_ret;exact⟨aa,a.only⟩
section
theorem Ht{w w' p v}(g:ar w w')(h:w.cell? p=ab v):w'.cell? p=ab v:=(World.cell?_of_block (w:=w) (g.block p.block (World.block_lt_of_cell? w _ h) (λh=>h))).trans h
section
variable {aq w:aM} {FX:Nat->Prop}
def ak.tail(l l')(h:ak aq FX w (l++l')):ak aq FX w (l++[Go.Proofs.YtcmhplknoglbkaaGreat.bK l']):=by have h1:ak aq FX w (l'++l):=h.perm vm;exact h1.bK.perm (by simpa using(Hi (Go.Proofs.YtcmhplknoglbkaaGreat.bK l') l).symm)
def ak.iz(l l')(h:ak aq FX w (l++[Go.Proofs.YtcmhplknoglbkaaGreat.bK l'])):ak aq FX w (l++l'):=by have h1:ak aq FX w (Go.Proofs.YtcmhplknoglbkaaGreat.bK l'::l):=h.perm (Hi _ _);exact h1.kT.perm vm
end
end
def sink(lt:Nat->Nat->Bool):Nat->List Nat->List Nat
 |0,L=>L
 |j+1,L=>if lt (L[j+1]?.getD 0) (L[j]?.getD 0)=az then sink lt j ((L.set (j+1) (L[j]?.getD 0)).set j (L[j+1]?.getD 0))else L
def k6(lt:Nat->Nat->Bool)(L:List Nat):Nat->List Nat
 |0=>L
 |i+1=>sink lt i (k6 lt L i)
def afa lt:∀j L,(sink lt j L).length=L.length
 |0,_=>aa
 |j+1,L=>by
  unfold sink;split;·rw[afa lt j];simp
  .rfl
def afy{L:List Nat}{j}(a:j+1<L.length){x}(h:x∈(L.set (j+1) (L[j]?.getD 0)).set j (L[j+1]?.getD 0)):x∈L:=aF
def afb lt:∀j L x,j<L.length->x∈sink lt j L->x∈L
 |0,_,_,_,h=>h
 |j+1,L,x,a,h=>by
  unfold sink at h;split at h;·exact afy a (afb lt j _ x (by simp;omega) h)
  .exact h
theorem Fg lt L:∀i,(k6 lt L i).length=L.length
 |0=>aa
 |i+1=>by rw[k6,afa,Fg lt L i]
def Ti lt L:∀i x,i<=L.length->x∈k6 lt L i->x∈L
 |0,_,_,h=>h
 |i+1,x,hi,h=>Ti lt L i x ad (afb lt i _ x (by grind[Fg]) h)
theorem TE{L j}(h:j<L.length):(eo L)[j]?=ab (J R ((L[j]?.getD 0:Nat):Int)):=by grind[eo]
def TF L:(eo L).size=L.length:=by simp[eo]
def Tr L(j y:Nat):lay (eo L) j [J R (y:Int)]=eo (L.set j y):=by grind[lay,eo]
def aqM (G c g:Nat) lb L lt (k:Nat->Nat->Int) w (hb:aU w G (eo L) 3) (cz:L.length<=1048576) (hc:L.length<=c) (U:∀x y,lt x y=decide (k x y<0)) (C:∀args w,(km g args).run aw w=a6 (.enter g args) w)
 (hp:∀x y W,x∈L->y∈L->au (λb=>b=G) w W->aD aw g (#[J R (x:Int),J R (y:Int)]++lb) W λe w'=>e=aB (J R (k x y))/\ar W w'):
 aD aw 355 #[ae (ab ⟨G,0,af⟩) L.length c,J R (0:Int),J R (L.length:Int),dC (ed g) #[] lb] w λe w'=>e=aB (bm #[])/\Turned w w' (aj G (eo L) 3) (aj G (eo (k6 lt L L.length)) 3):=by
 have K:=hid C;have M:=hid hp;have Z:=hid cz;clear C hp;go_enter Tryz.func355,Tryz.ntmps355;have a:ak w (λb=>b=G) w [aj G (eo L) 3]:=ak.start (t:=aj G (eo L) 3) ⟨hb,λb h=>by rw[show b=G from h];exact aU.lt hb⟩;go_step;refine ah ?_;refine v3 ?_;refine an ?_;go_wp2_with fail;go_loopw [8] (λp wr=>∃i:Nat,1<=i/\(i<=L.length\/i=1)/\p=J R (i:Int)/\ak w (λb=>b=G) wr [aj G (eo (k6 lt L i)) 3]) (λp wr=>L.length -(cy p).toNat);case atStart=>exact⟨1,b4 _,.inr aa,aa,a⟩
 case round=>
  clear a;obtain⟨i,aa9,xg,rfl,a⟩:=hrel;by_cases hlt:i<L.length
  .have X:(i:Int)<(L.length:Int):=ad;go_step;refine ah ?_;refine v3 ?_;refine ah ?_;refine dZ ?_;go_wp2_with fail;go_loopw [9] (λr wr=>∃(j:Nat) (d:List Nat),j<=i/\r=J R (j:Int)/\d.length=L.length/\(∀x∈d,x∈L)/\sink lt j d=k6 lt L (i+1)/\ak w (λb=>b=G) wr [aj G (eo d) 3]) (λr wr=>(cy r).toNat);case atStart=>exact⟨i,k6 lt L i,b4 _,rfl,Fg lt L i,λx hx=>Ti lt L i x ad hx,aa,a⟩
   case round=>
    clear a;obtain⟨j,d,hj,rfl,T,m,hsk,a⟩:=hrel;by_cases Q:j=0
    .subst Q;have l:aE (d=k6 lt L (i+1)):=hid hsk;clear hsk;go_step;refine cx ?_;refine bN a [] (λ_ _=>a1) (λ_ _=>emp) (λ_=>[]) (λ_=>[]) (λ_=>[]) [0] (λI=>?_);refine bF ?_;refine aN (ai ao) (λ_ _ _=>by(go_simp;try omega)) ?_;refine aK ?_;iterate 12 refine ds ?_
     refine gZ (ai ao) ?_;refine bU λw1 a=>?_;refine b' ?_;refine pad (i:Int) 1 ((i+1:Nat):Int) ?_;refine bP ?_;go_wp2_with fail;go_roundw;case rel=>exact⟨i+1,ad,bM ad,aa,by rw[<-l];exact a.pick [0]⟩
     case measure=>simp[cy]<;>omega
    .obtain⟨q,rfl⟩:∃q,j=q+1:=⟨j -1,ad⟩;obtain⟨x,hx⟩:=ex (d[q+1]?.getD 0);obtain⟨y,f⟩:=ex (d[q]?.getD 0);have n:q+1<d.length:=ad;have A:aE ((eo d)[q+1]?=ab (J R (x:Int))):=hid (by rw[TE n,hx]);have B:aE ((eo d)[q]?=ab (J R (y:Int))):=hid (by rw[TE ad,f]);have F:=m x (by rw[<-hx,cC n];exact Ed _);have H:=m y (by rw[<-f,cC (show q<d.length by omega)];exact Ed _);have hsw:∀z∈(d.set (q+1) y).set q x,z∈L:=λz hz=>m z (by rw[<-hx,<-f]at hz;exact afy n hz);have E:(if lt x y=az then sink lt q ((d.set (q+1) y).set q x)else d)=k6 lt L (i+1):=by rw[<-hsk,sink,hx,f]
     have P:=hid hsw;have v:=hid E;obtain⟨dB,hcb⟩:=ex (lt x y);have u:aE (decide (k x y<0)=dB):=hid (by rw[<-U,hcb]);have s:=hid hcb;obtain⟨ow,hcv⟩:=ex (k x y);have Y:=hid hcv;have N:aE (∀W,au (λb=>b=G) w W->aD aw g (#[J R (x:Int),J R (y:Int)]++lb) W λe w'=>e=aB (J R ow)/\ar W w'):=hid (λW o=>by have q:=M x y W F H o;rw[hcv]at q;exact q);rw[hcv]at u;clear hx f F H hsw hsk E hcb hcv;go_step;refine cx ?_;refine bN a [14] (λi _=>match i with|14=>J R ow|_=>a1) (λ_ _=>emp) (λ_=>[]) (λ|8=>[0]|13=>[0]|_=>[]) (λ_=>[]) [0,15] (λI=>?_);refine bF ?_;refine aN (ai az) (λ_ _ _=>by(go_simp;try omega)) ?_;refine hD ?_;refine aN (ax (ab ⟨G,(q+1),af⟩)) (λ_ _ _=>cq 82 3 1 (bj 23) (bj 24) aa hR ay G 0 (L.length) c ((q+1)) ((q+1)) aa aa ad ad) ?_;refine aN (J R (x:Int)) (λ_ _ a=>fw aa aa (a.aX 0) A ay) ?_;refine bF ?_;refine aN (J R (q:Int)) (λ_ _ _=>qQ 3 (bj 28) (qB (J R 1)) 3 aa (((q+1:Nat):Int)) 1 (q:Int) aa aa ad ad ad) ?_;refine aN (ax (ab ⟨G,q,af⟩)) (λ_ _ _=>cq 82 3 1 (bj 27) (bj 29) aa hR ay G 0 (L.length) c q q aa aa ad ad) ?_;refine aN (J R (y:Int)) (λ_ _ a=>fw aa aa (a.aX 0) B ay) ?_;refine dD (λ_ _ a=>N.out _ a.only) ?_ (hr:=by(intro _;first|(go_simp;done)|(go_simp;exact K _ _)));refine aN (ai dB) (λ_ _ _=>by(have h:=u.out;first|(go_simp;done)|(go_simp;rw[<-h];done)|(go_simp;simp[<-h]))) ?_;refine gZ (ai dB) ?_;refine bU λaW a=>?_;replace a:=a.drop 1;cases dB with
     |false=>
      have l:aE (d=k6 lt L (i+1)):=hid (by have h:=v.out;rw[s]at h;simpa using h);refine b' ?_;refine pad (i:Int) 1 ((i+1:Nat):Int) ?_;refine bP ?_;go_wp2_with fail;go_roundw;case rel=>exact⟨i+1,ad,bM ad,aa,by rw[<-l];exact a.pick [0]⟩
      case measure=>simp[cy]<;>omega
     |true=>
      have O:aE (sink lt q ((d.set (q+1) y).set q x)=k6 lt L (i+1)):=hid (by have h:=v.out;rw[s]at h;simpa using h);refine cx ?_;refine bN a [15,17] (λ_ _=>a1) (λ_=>λ|15=>aj G (eo (d.set (q+1) y)) 3|17=>aj G (eo ((d.set (q+1) y).set q x)) 3|_=>emp) (λ|15=>[0]|17=>[16]|_=>[]) (λ|9=>[0]|13=>[0]|_=>[]) (λ_=>[]) [18] (λI=>?_);refine hD ?_;refine aN (J R (q:Int)) (λ_ _ _=>qQ 3 (bj 40) (qB (J R 1)) 3 aa (((q+1:Nat):Int)) 1 (q:Int) aa aa ad ad ad) ?_;refine bF ?_;refine aN (J R (q:Int)) (λ_ _ _=>qQ 3 (bj 43) (qB (J R 1)) 3 aa (((q+1:Nat):Int)) 1 (q:Int) aa aa ad ad ad) ?_;refine aN (ax (ab ⟨G,q,af⟩)) (λ_ _ _=>cq 82 3 1 (bj 42) (bj 44) aa hR ay G 0 (L.length) c q q aa aa ad ad) ?_;refine aN (J R (y:Int)) (λ_ _ a=>fw aa aa (a.aX 0) B ay) ?_;refine bF ?_;refine aN (ax (ab ⟨G,(q+1),af⟩)) (λ_ _ _=>cq 82 3 1 (bj 47) (bj 48) aa hR ay G 0 (L.length) c ((q+1)) ((q+1)) aa aa ad ad) ?_;refine aN (J R (x:Int)) (λ_ _ a=>fw aa aa (a.aX 0) A ay) ?_;refine aN (ax (ab ⟨G,(q+1),af⟩)) (λ_ _ _=>cq 82 3 1 (bj 37) (bj 38) aa hR ay G 0 (L.length) c ((q+1)) ((q+1)) aa aa ad ad) ?_;refine Lm (λ_ _ a=>F5 (J R (y:Int)) aa aa aa (a.aX 0) (by show(q+1)+1<=(eo d).size;rw[TF];(try simp only[wN]);omega) ay ay (Tr d (q+1) y)) ?_;refine aN (ax (ab ⟨G,q,af⟩)) (λ_ _ _=>cq 82 3 1 (bj 39) (bj 41) aa hR ay G 0 (L.length) c q q aa aa ad ad) ?_;refine Lm (λ_ _ a=>F5 (J R (x:Int)) aa aa aa (a.aX 0) (by show q+1<=(eo (d.set (q+1) y)).size;rw[TF];(try simp only[wN]);omega) ay ay (Tr (d.set (q+1) y) q x)) ?_;refine bU λbI a=>?_;refine b' ?_;refine lH ((q+1:Nat):Int) 1 (q:Int) ?_;refine bP ?_;go_wp2_with fail;go_roundw;case rel=>exact⟨q,(d.set (q+1) y).set q x,ad,aa,by simpa using T,P,O,a.pick [0]⟩
      case measure=>simp[cy]<;>omega
  .have X:¬(i:Int)<(L.length:Int):=ad
   have D:k6 lt L i=k6 lt L L.length:=by
    by_cases V:i=L.length;·rw[V]
    .have h1:i=1:=ad;have S:L.length=0:=ad;rw[h1,S];rfl
   rw[D]at a;clear D;go_step;refine ah ?_;refine v3 ?_;refine an ?_;go_wp2_with fail;first|go_end0|refine bodyPost_ret (results_none rfl _ _ _) rfl ?_
   exact⟨aa,a.fM 0⟩
def aqL(G n c g a:Nat)lb(f:a<=1048576)w:
 aD aw 355 #[ae (ab ⟨G,0,af⟩) n c,J R (a:Int),J R (a:Int),dC (ed g) #[] lb] w λe w'=>e=aB (bm #[])/\ar w w':=by
 go_enter Tryz.func355,Tryz.ntmps355;have b:=bc w;go_step;refine ah ?_;refine ag ?_;refine pad _ 1 ((a+1:Nat):Int) ?_;refine bP ?_;go_wp2_with fail;go_loopw [8] (λd wr=>d=J R ((a+1:Nat):Int)/\ak w (λ_=>False) wr []) (λd wr=>0);case atStart=>grind
 case round=>
  clear b;obtain⟨rfl,b⟩:=hrel;go_step;refine ah ?_;refine v2 ?_;refine bu (ai ao) ?_;refine an ?_;go_wp2_with fail;first|go_end0|refine bodyPost_ret (results_none rfl _ _ _) rfl ?_
  exact⟨aa,b.only⟩
def avC (G c g:Nat) lb L lt (j:Nat->Nat->Int) w (hb:aU w G (eo L) 3) (cz:L.length<=20) (hc:L.length<=c) (p:∀x y,lt x y=decide (j x y<0)) (m:∀args w,(km g args).run aw w=a6 (.enter g args) w)
 (hp:∀x y W,x∈L->y∈L->au (λb=>b=G) w W->aD aw g (#[J R (x:Int),J R (y:Int)]++lb) W λe w'=>e=aB (J R (j x y))/\ar W w'):
 aD aw 322 #[ae (ab ⟨G,0,af⟩) L.length c,J R (L.length:Int),dC (ed g) #[] lb] w λe w'=>e=aB (bm #[])/\Turned w w' (aj G (eo L) 3) (aj G (eo (k6 lt L L.length)) 3):=by
 obtain⟨n,hn⟩:=ex L.length;have l:aE (∀W,au (λb=>b=G) w W->aU W G (eo L) 3->aD aw 355 #[ae (ab ⟨G,0,af⟩) n c,J R (0:Int),J R (n:Int),dC (ed g) #[] lb] W λe w'=>e=aB (bm #[])/\Turned W w' (aj G (eo L) 3) (aj G (eo (k6 lt L n)) 3)):=hid (λW o h=>by have q:=aqM G c g lb L lt j W h ad hc p m (λx y r hx u v=>hp x y r hx u (o.trans v (λ_ _ h=>h)));rw[hn]at q;exact q);rw[hn]at cz⊢;clear m hp p hn hc;go_enter func322,ntmps322;have a:ak w (λb=>b=G) w [aj G (eo L) 3]:=ak.start (t:=aj G (eo L) 3) ⟨hb,λb h=>by rw[show b=G from h];exact aU.lt hb⟩;go_step;refine ah ?_;refine ag ?_;refine an ?_;go_step;refine ah ?_;refine v3 ?_;refine an ?_;go_wp2_with fail;go_loopw [7,8] (λi f wr=>((i=J R ((0:Nat):Int)/\f=J R ((20:Nat):Int)/\ak w (λb=>b=G) wr [aj G (eo L) 3])\/(n=20/\i=J R ((20:Nat):Int)/\f=J R ((40:Nat):Int)/\ak w (λb=>b=G) wr [aj G (eo (k6 lt L n)) 3]))) (λi f wr=>40 -(cy f).toNat);case atStart=>grind
 case round=>
  clear a;rcases hrel with⟨rfl,rfl,a⟩|⟨rfl,rfl,rfl,a⟩
  .by_cases s:n=20
   .subst s;go_step;refine ah ?_;refine v2 ?_;refine bu (ai az) ?_;refine an ?_;go_step;refine ah ?_;refine v4 ?_;refine aP (l _ a.only (a.aX 0)) ?_;rintro e w1 ⟨rfl,k⟩;replace a:=a.ek 0 k;refine aQ ?_;refine an ?_;go_step;refine ah ?_;refine v2 ?_;refine an ?_;go_step;refine ah ?_;refine v2 ?_;refine pad _ 20 ((40:Nat):Int) ?_;refine ag ?_;refine an ?_;go_wp2_with fail;go_roundw;case rel=>grind
    case measure=>grind[cy]
   .have hz:¬(20:Int)<=(n:Int):=ad;go_step;refine ah ?_;refine v2 ?_;refine bu (ai ao) ?_;refine an ?_;go_step;refine ah ?_;refine v4 ?_;refine aP (l _ a.only (a.aX 0)) ?_;rintro e A ⟨rfl,k⟩;replace a:=a.ek 0 k;refine aQ ?_;refine an ?_;go_wp2_with fail;go_loopw [6] (λd wr=>d=J R 20/\ak w (λb=>b=G) wr [aj G (eo (k6 lt L n)) 3]) (λd wr=>0);case atStart=>grind
    case round=>
     clear a;obtain⟨rfl,a⟩:=hrel;go_step;refine ah ?_;refine v2 ?_;refine bu (ai ao) ?_;refine an ?_;go_wp2_with fail;first|go_end0|refine bodyPost_ret (results_none rfl _ _ _) rfl ?_
     exact⟨aa,a.fM 0⟩
  .
   have z:True:=trivial;go_step;refine ah ?_;refine v2 ?_;refine bu (ai ao) ?_;refine an ?_;go_step;refine ah ?_;refine v4 ?_;refine aP (aqL G 20 c g 20 lb ad _) ?_;rintro e B ⟨rfl,g⟩;replace a:=a.aG g;refine aQ ?_;refine an ?_;go_wp2_with fail;go_loopw [6] (λd wr=>d=J R 20/\ak w (λb=>b=G) wr [aj G (eo (k6 lt L 20)) 3]) (λd wr=>0);case atStart=>grind
   case round=>
    clear a;obtain⟨rfl,a⟩:=hrel;go_step;refine ah ?_;refine v2 ?_;refine bu (ai ao) ?_;refine an ?_;go_wp2_with fail;first|go_end0|refine bodyPost_ret (results_none rfl _ _ _) rfl ?_
    exact⟨aa,a.fM 0⟩
def avs (G c g:Nat) lb L lt (d:Nat->Nat->Int) w (hb:aU w G (eo L) 3) (cz:L.length<=20) (hc:L.length<=c) (i:∀x y,lt x y=decide (d x y<0)) (f:∀args w,(km g args).run aw w=a6 (.enter g args) w)
 (hp:∀x y W,x∈L->y∈L->au (λb=>b=G) w W->aD aw g (#[J R (x:Int),J R (y:Int)]++lb) W λe w'=>e=aB (J R (d x y))/\ar W w'):
 aD aw 276 #[ae (ab ⟨G,0,af⟩) L.length c,dC (ed g) #[] lb] w λe w'=>e=aB (bm #[])/\Turned w w' (aj G (eo L) 3) (aj G (eo (k6 lt L L.length)) 3):=by
 have j:aE (∀W,au (λb=>b=G) w W->aU W G (eo L) 3->aD aw 322 #[ae (ab ⟨G,0,af⟩) L.length c,J R (L.length:Int),dC (ed g) #[] lb] W λe w'=>e=aB (bm #[])/\Turned W w' (aj G (eo L) 3) (aj G (eo (k6 lt L L.length)) 3)):=hid (λW o h=>avC G c g lb L lt d W h cz hc i f (λx y k hx m n=>hp x y k hx m (o.trans n (λ_ _ h=>h))));clear f hp i;go_enter func276,ntmps276;have a:ak w (λb=>b=G) w [aj G (eo L) 3]:=ak.start (t:=aj G (eo L) 3) ⟨hb,λb h=>by rw[show b=G from h];exact aU.lt hb⟩;go_step;refine ah ?_;refine v4 ?_;refine aP (j _ a.only (a.aX 0)) ?_;rintro e w1 ⟨rfl,l⟩;replace a:=a.ek 0 l;refine Be ?_;go_wp2_with fail;first|go_end0|refine bodyPost_ret (results_none rfl _ _ _) rfl ?_
 exact⟨aa,a.fM 0⟩
section
def Ff x w:
 aD aw 194 #[J R x] w λe w'=>e=aB (ai ao)/\ar w w':=by
 go_enter Tryz.func194,ntmps194;have a:=bc w;go_step;refine ah ?_;refine mO ?_;refine aI (ai ao) (by(go_simp;try simp)) ?_;refine bP ?_;go_wp2_with fail;go_ret;exact⟨aa,a.only⟩
def pZ(x y:Int):Int:=if x<y then -1 else if y<x then 1 else 0
def al5(x y)w:
 aD aw 108 #[J R x,J R y] w λe w'=>e=aB (J R (pZ x y))/\ar w w':=by
 have bB:x<y->pZ x y=-1:=λh=>if_pos h;have bY:¬x<y->y<x->pZ x y=1:=λh c=>by grind[pZ]
 have b:¬x<y->¬y<x->pZ x y=0:=λh c=>by grind[pZ]
 obtain⟨z,hz⟩:=ex (pZ x y);rw[hz]at bB bY b⊢;clear hz;by_cases h1:x<y;·obtain rfl:z=-1:=bB h1;clear bB bY b;go_enter O2,VW;have a:=bc w;go_step;refine ah ?_;refine ag ?_;refine an ?_;go_step;refine ah ?_;refine ag ?_;refine aP (Ff x _) ?_;rintro e w1 ⟨rfl,g⟩;replace a:=a.aG g;refine aQ ?_;refine ag ?_;refine an ?_;go_step;refine ah ?_;refine ag ?_;refine aP (Ff y _) ?_;rintro e d ⟨rfl,g⟩;replace a:=a.aG g;refine aQ ?_;refine ag ?_;refine an ?_;go_step;refine ah ?_;refine ag ?_;refine an ?_;go_step;refine ah ?_;refine ag ?_;refine an ?_;go_step;refine ah ?_;refine v2 ?_;refine bu (ai az) ?_;refine an ?_;go_step;refine ah ?_;refine ag ?_;refine an ?_;go_wp2_with fail;go_ret;exact⟨aa,a.only⟩
 .by_cases c:y<x;·obtain rfl:z=1:=bY h1 c;clear bB bY b;go_enter O2,VW;have a:=bc w;go_step;refine ah ?_;refine ag ?_;refine an ?_;go_step;refine ah ?_;refine ag ?_;refine aP (Ff x _) ?_;rintro e f ⟨rfl,g⟩;replace a:=a.aG g;refine aQ ?_;refine ag ?_;refine an ?_;go_step;refine ah ?_;refine ag ?_;refine aP (Ff y _) ?_;rintro e i ⟨rfl,g⟩;replace a:=a.aG g;refine aQ ?_;refine ag ?_;refine an ?_;go_step;refine ah ?_;refine ag ?_;refine an ?_;go_step;refine ah ?_;refine ag ?_;refine an ?_;go_step;refine ah ?_;refine v2 ?_;refine bu (ai ao) ?_;refine an ?_;go_step;refine ah ?_;refine v2 ?_;refine bu (ai az) ?_;refine an ?_;go_step;refine ah ?_;refine ag ?_;refine an ?_;go_wp2_with fail;go_ret;exact⟨aa,a.only⟩
  .obtain rfl:z=0:=b h1 c;clear bB bY b;go_enter O2,VW;have a:=bc w;go_step;refine ah ?_;refine ag ?_;refine an ?_;go_step;refine ah ?_;refine ag ?_;refine aP (Ff x _) ?_;rintro e j ⟨rfl,g⟩;replace a:=a.aG g;refine aQ ?_;refine ag ?_;refine an ?_;go_step;refine ah ?_;refine ag ?_;refine aP (Ff y _) ?_;rintro e k ⟨rfl,g⟩;replace a:=a.aG g;refine aQ ?_;refine ag ?_;refine an ?_;go_step;refine ah ?_;refine ag ?_;refine an ?_;go_step;refine ah ?_;refine ag ?_;refine an ?_;go_step;refine ah ?_;refine v2 ?_;refine bu (ai ao) ?_;refine an ?_;go_step;refine ah ?_;refine v2 ?_;refine bu (ai ao) ?_;refine an ?_;go_step;refine ah ?_;refine ag ?_;refine an ?_;go_wp2_with fail;go_ret;exact⟨aa,a.only⟩
section
variable {P:ee} {o:cU} {a:Act} {w:aM}
def arH n:GG #[J R 0] n=eo (eU n 0):=by
 apply Array.ext;·simp[GG,eo]
 grind[GG,eo]
def asv{t e:Nat}{x y}(n:Nat)(ho:o.op=.makeSlice t x y)(hx:a.eval x=J R (n:Int))(d:a.eval y=J R (n:Int))(c:P.underlying t=ab (.slice e))(hi:(P.info? e).map (λi=>(i.zero,i.size,i.bytes))=ab (ab (J R 0),1,8))(hn:n<=1048576):
 ∃B w',(bt a.eval o).run P w=a6 (c9 (ae (ab ⟨B,0,af⟩) n n)) w'/\cf w w' (aj B (eo (eU n 0)) e):=by
 cases hq:P.info? e with
 |none=>grind
 |some i=>
  rw[hq]at hi;simp only[pR,wR,Prod.mk.injEq]at hi;obtain⟨h1,b,f⟩:=hi;have h:=run_make (P:=P) w t e i (J R 0) c hq h1 R R (n:Int) (n:Int) ad (Int.le_refl _) aF ad;refine⟨_,_,?_,yz (au.alloc _ _) (heap_alloc_new w _) (b4 _)⟩;rw[b,Nat.mul_one]at h;have hc:(J R 0).cells=#[J R 0]:=rfl;rw[hc,Int.toNat_natCast,arH]at h;unfold bt;simp only[ho,hx,d,ga,h,Result.andThen_ok,Sem.run_pure]
end
end
def nr(ms:List bJ)(x:Nat):Int:=((ms[x]?).map (·.to)).getD 0
def Fo{P o}{a:Act}{w}ty x(ho:o.op=.load ty x)(B k){v}(hx:a.eval x=ax (ab ⟨B,k,af⟩))(hc:w.cell? ⟨B,k,af⟩=ab v)(c:(P.underlying ty).map (λd=>d.isRow)=ab ao):
 (bt a.eval o).run P w=a6 (c9 v) w:=by
 cases hq:P.underlying ty with
 |none=>grind
 |some d=>
  have b:d.isRow=false:=aF
  have hagg:(isAgg ty).run P w=a6 ao w:=by unfold isAgg;rw[ga,run_underlying hq w];cases d<;>simp_all
  unfold bt;simp[ho,hx,Instr.loadAt,Instr.sureAddr,loadVar,hagg,hc]
def avu(cT x y)A c ms w(hb:aU w cT #[ae A ms.length c] 24)(j:cX w A ms)(hx:x<ms.length)(q:y<ms.length)(E:ms.length<=1048576):
 aD aw 277 #[J R (x:Int),J R (y:Int),ax (ab ⟨cT,0,af⟩)] w λe w'=>e=aB (J R (pZ (nr ms x) (nr ms y)))/\ar w w':=by
 have z:=hid j;have n:=hid hb;obtain⟨m,k⟩:∃m,ms[x]?=ab m:=⟨_,cC hx⟩;obtain⟨h,l⟩:∃m,ms[y]?=ab m:=⟨_,cC q⟩;have e:pZ (nr ms x) (nr ms y)=pZ m.to h.to:=by simp[nr,k,l]
 rw[e];obtain⟨d,a,u,C,t,_,o⟩:=cX.ji j k;obtain⟨B,F,v,D,f,_,p⟩:=cX.ji j l;subst t;injection f with f;injection f with f RZ;subst f;subst RZ;have r:aE (∀W,ar w W->W.cell? ⟨d,a+x*5+1,af⟩=ab (J R m.to)):=hid (λW g=>o W g 1 _ aa);have s:aE (∀W,ar w W->W.cell? ⟨d,a+y*5+1,af⟩=ab (J R h.to)):=hid (λW g=>p W g 1 _ aa);clear j hb k l e o p;go_enter Tryz.func277,ntmps277;have b:=bc w;go_step;refine ah ?_;refine iB ?_;refine bN b [10] (λi _=>match i with|10=>J R (pZ m.to h.to)|_=>a1) (λ_ _=>emp) (λ_=>[]) (λ_=>[]) (λ_=>[]) [10] (λG=>?_);refine aN (ae (ab ⟨d,a,af⟩) ms.length c) (λ_ _ b=>fw aa aa (aU.aG n b.only) aa ay) ?_;refine aK ?_;refine aN (ax (ab ⟨d,(a+x*5),af⟩)) (λ_ _ _=>cq 24 73 5 (bj 6) (bj 7) aa eA ay d a (ms.length) c x ((a+x*5)) aa aa hx aa) ?_;refine aN (ax (ab ⟨d,a+x*5+1,af⟩)) (λ_ _ _=>by(go_simp;try rfl)) ?_;refine aN (J R m.to) (λ_ _ b=>Fo 3 (bj 9) aa d (a+x*5+1) aa (r _ b.only) ay) ?_;refine aN (ae (ab ⟨d,a,af⟩) ms.length c) (λ_ _ b=>fw aa aa (aU.aG n b.only) aa ay) ?_;refine aK ?_;refine aN (ax (ab ⟨d,(a+y*5),af⟩)) (λ_ _ _=>cq 24 73 5 (bj 11) (bj 12) aa eA ay d a (ms.length) c y ((a+y*5)) aa aa q aa) ?_;refine aN (ax (ab ⟨d,a+y*5+1,af⟩)) (λ_ _ _=>by(go_simp;try rfl)) ?_;refine aN (J R h.to) (λ_ _ b=>Fo 3 (bj 14) aa d (a+y*5+1) aa (s _ b.only) ay) ?_;refine dD (λ_ _ _=>al5 m.to h.to _) ?_;refine aK ?_;refine bU λw1 b=>?_;replace b:=b.drop 0;go_wp2_with fail;go_ret;exact⟨aa,b.only⟩
def lY(ms:List bJ):List Nat:=k6 (λx y=>decide (pZ (nr ms x) (nr ms y)<0)) (dG ms.length) ms.length
theorem M3 ms:(lY ms).length=ms.length:=by grind[lY,Fg]
def adM{ms x}(h:x∈lY ms):x<ms.length:=List.mem_range.1 (Ti _ _ _ _ a8 h)
def vX(n j:Nat):List Nat:=dG j++eU (n -j) 0
theorem atO{n j}(h:j<n):(vX n j).set j j=vX n (j+1):=by unfold vX;rw[List.set_append_right _ _ a8,BO,Nat.sub_self,List.range_succ,j0];congr 1;rw[show n -j=(n -(j+1))+1 by omega,List.replicate_succ];rfl
def atN{n j}(h:j<=n):(vX n j).length=n:=by grind[vX]
def sorted_at A c ms w(p:cX w A ms)(E:ms.length<=20):
 aD aw 201 #[ae A ms.length c] w λe w'=>∃fO cT,e=aB (dC (ed 278) #[] #[ax (ab ⟨fO,0,af⟩),ax (ab ⟨cT,0,af⟩)])/\∃G,cf w w' (bK [aj fO #[ae (ab ⟨G,0,af⟩) ms.length ms.length] 82,aj cT #[ae A ms.length c] 24,aj G (eo (lY ms)) 3]):=by
 have s:=hid p;obtain⟨n,hn⟩:=ex ms.length
 have t:aE (∀W cT G,ar w W->w.heap.size<=G->aU W cT #[ae A n c] 24->¬cT=G->aU W G (eo (dG n)) 3->aD aw 276 #[ae (ab ⟨G,0,af⟩) n n,dC (ed 277) #[] #[ax (ab ⟨cT,0,af⟩)]] W λe w'=>e=aB (bm #[])/\Turned W w' (aj G (eo (dG n)) 3) (aj G (eo (lY ms)) 3)):=hid (λW cT G g H h1 hne u=>by
  have hr:(dG n).length=n:=BO
  have q:=avs G n 277 #[ax (ab ⟨cT,0,af⟩)] (dG n) (λx y=>decide (pZ (nr ms x) (nr ms y)<0)) (λx y=>pZ (nr ms x) (nr ms y)) W u ad ad (λ_ _=>aa) (kW Tryz.func277 ay aa) (λx y f hx I o=>by
   have g2:ar w f:=((g.to (F:=λb=>b=G)).trans o (λ_ _ h=>h)).mono (λi hi h=>ad);have v:aU f cT #[ae A ms.length c] 24:=by rw[hn];exact o.heap h1 hne
   exact avu cT x y A c ms f v (s.out.aG g2) aF aF ad);rw[hr]at q;rw[lY,hn];exact q);rw[hn]at E⊢;clear p hn;go_enter func201,ntmps201;have a:=bc w;go_step;refine ah ?_;refine bG a (ae A n c) (λl w1 a=>?_);refine en ?_;refine pl a 0 0 ?_;refine ag ?_;refine I3 a (asv n aa aa aa hR ay ad) (λd K a=>?_);refine bA a #[ae af 0 0] (λr L a=>?_);refine a' a 0 (ae (ab ⟨d,0,af⟩) n n) (λM a=>?_);refine ah ?_;refine pl a 0 0 ?_;refine dZ ?_;have m:=a.pk [0,1,2];go_wp2_with fail;go_loopw [10] (λk wr=>∃j:Nat,j<=n/\k=J R (j:Int)/\ak w (λ_=>False) wr [aj r #[ae (ab ⟨d,0,af⟩) n n] 82,aj d (eo (vX n j)) 3,aj l #[ae A n c] 24]) (λk wr=>n -(cy k).toNat);case atStart=>exact⟨0,cF _,aa,by rw[show vX n 0=eU n 0 from aY];exact m⟩
 case round=>
  clear a m;obtain⟨j,B,rfl,a⟩:=hrel;by_cases hlt:j<n
  .have D:(j:Int)<(n:Int):=ad;go_step;refine ah ?_;refine ag ?_;refine ah ?_;refine v2 ?_;refine ah ?_;refine pl a 0 0 ?_;refine v2 ?_;refine aI _ (cq 82 3 1 _ _ aa hR ay d 0 n n j j aa aa hlt ad) ?_;refine I2 a 1 (F5 (J R (j:Int)) aa aa aa (a.aX 1) (by show j+1<=(eo (vX n j)).size;rw[TF,atN B];omega) ay ay (Tr (vX n j) j j)) (λN a=>?_);refine ah ?_;refine pad (j:Int) 1 ((j+1:Nat):Int) ?_;refine bP ?_;go_wp2_with fail;go_roundw;case rel=>exact⟨j+1,ad,aa,by grind[atO]⟩
   case measure=>grind[cy]
  .have D:¬(j:Int)<(n:Int):=ad;have C:j=n:=ad;rw[show vX n j=dG n from by rw[C];simp[vX]]at a;go_step;refine ah ?_;refine en ?_;refine pl a 0 0 ?_;refine ag ?_;refine aP (t _ _ d a.only ((a.low _ (cY (i:=1) aa) d aa).2.resolve_right (λh=>h)) (a.aX 2) (λh=>a.ne (i:=2) (j:=1) aa aa bf l aa h) (a.aX 1)) ?_;rintro e O ⟨rfl,z⟩;replace a:=a.ek 1 z;refine aQ ?_;refine ah ?_;refine dZ ?_;go_wp2_with fail;go_ret;exact⟨_,_,aa,d,((a.pick (l':=[aj _ _ 82,aj _ _ 24,aj d _ 3]) [0,2,1]).fv 3).fresh 0⟩
def MH(ms:List bJ)(x:Nat):Int:=((ms[x]?).map b5).getD 0
def hQ(ms:List bJ):List (Nat×Int×Int):=(lY ms).map (λi=>(i,nr ms i,MH ms i))
def afr ms:(hQ ms).length=ms.length:=by grind[hQ,M3]
def cX.K7{FX aq A ms}(h:∀W,au FX aq W->cX W A ms){W}(g:au FX aq W){j m}(e:ms[j]?=ab m):∃a b c d,A=ab ⟨a,b,af⟩/\W.rangeAt a (b+j*5) [J R m.k,J R m.to,J R m.fr,J R m.n,ae c m.data.length d]:=by grind[cX.ji,au.refl]
def afn(fO cT G)A c ms aq FX(N:∀W,au FX aq W->cX W A ms)(dR:ms.length<=20):
 wT aw 278 #[ax (ab ⟨fO,0,af⟩),ax (ab ⟨cT,0,af⟩)] (λx:Nat×Int×Int=>#[J R (x.1:Int),gI x.2]) aq FX (bK [aj fO #[ae (ab ⟨G,0,af⟩) ms.length ms.length] 82,aj cT #[ae A ms.length c] 24,aj G (eo (lY ms)) 3]) (λ_=>True) (hQ ms):=by
 intro l S gH W F t bO H a;have z:=hid N;obtain⟨n,hn⟩:=ex ms.length;have O:(lY ms).length=n:=by rw[M3,hn]
 have P:(hQ ms).length=n:=by rw[afr,hn]
 rw[hn]at a dR;have B:=hid hn;have Qf:=hid O;have wI:=hid P;clear N hn O P;go_enter VF,ntmps278;replace a:ak aq FX W [aj fO #[ae (ab ⟨G,0,af⟩) n n] 82,aj cT #[ae A n c] 24,aj G (eo (lY ms)) 3,t,F]:=a.kT;go_step;refine ah ?_;refine pl a 0 0 ?_;refine dZ ?_;go_wp2_with fail;go_loopw [8] (λu wr=>∃(j:Nat) (t:bp),j<=n/\u=J R (j:Int)/\S ((hQ ms).take j) t/\ak aq FX wr [aj fO #[ae (ab ⟨G,0,af⟩) n n] 82,aj cT #[ae A n c] 24,aj G (eo (lY ms)) 3,t,F]) (λu wr=>n -(cy u).toNat);case atStart=>exact⟨0,t,cF _,aa,H,a⟩
 case round=>
  clear a H;obtain⟨j,t,hj,rfl,o,a⟩:=hrel;by_cases hlt:j<n
  .have cN:(j:Int)<(n:Int):=ad;have M:j<(lY ms).length:=by rw[Qf];exact hlt
   obtain⟨i,hi⟩:∃i,(lY ms)[j]?=ab i:=⟨_,cC M⟩;have L:i<n:=by rw[<-B];exact adM (cY hi)
   obtain⟨m,d⟩:∃m,ms[i]?=ab m:=⟨_,cC (by rw[B];exact L)⟩;have aqr:(hQ ms)[j]?=ab (i,m.to,b5 m):=by rw[hQ,lr,hi];simp[nr,MH,d]
   have s:(hQ ms).take (j+1)=(hQ ms).take j++[(i,m.to,b5 m)]:=by grind[gg]
   have r:(hQ ms).take j++[(i,m.to,b5 m)]<+:hQ ms:=aF;have Z:aE ((eo (lY ms))[j]?=ab (J R (i:Int))):=hid (by grind[TE]);obtain⟨f,T,w,E,I,_⟩:=cX.K7 z.out a.only d
   have Y:aE (∀W,au FX aq W->∃w E,W.rangeAt f (T+i*5) [J R m.k,J R m.to,J R m.fr,J R m.n,ae w m.data.length E]):=hid (λW g=>by obtain⟨eV,ef,aJ,c2,h1,h2⟩:=cX.K7 z g d;grind);obtain⟨v,D,K⟩:=Y _ a.only;obtain⟨Q,q⟩:=ex (b5 m);rw[q]at r s;have pK:aE (∀W,aD aw 136 #[av #[J R m.k,J R m.to,J R m.fr,J R m.n,ae v m.data.length D]] W λe w'=>e=aB (av #[J R m.to,J R Q])/\ar W w'):=hid (λW=>by rw[<-q];exact uN _ _ _ _ v _ D W);have X:=hid K;have V:=hid I;have C:=hid r;have Qy:=hid s;clear hi d aqr s r I M K q;go_step;refine ah ?_;refine en ?_;refine aI (ax (ab ⟨G,j,af⟩)) (cq 82 3 1 (bj 6) (bj 8) aa hR ay G 0 n n j j aa aa hlt ad) ?_;refine aI _ (fw aa aa (a.aX 2) Z ay) ?_;refine iB ?_;refine Jt 7 ?_;refine v2 ?_;refine pl a 1 0 ?_;refine ag ?_;refine aI _ (cq 24 73 5 _ _ aa eA ay f T n c i _ (by show ae A _ _=_;rw[V]) aa L aa) ?_;refine aI _ (by(refine eC 73 _ aa f _ aa _ X fy aa ay)) ?_;refine bH (pK _) a (λw1 a=>?_);refine an ?_;have y:=(a.pick (l':=[t,aj fO #[ae (ab ⟨G,0,af⟩) n n] 82,aj cT #[ae A n c] 24,aj G (eo (lY ms)) 3,F]) [3,0,1,2,4]).Ep;refine Gf (bO ((hQ ms).take j) (i,m.to,Q) _ _ _ C o y) (λb aW hb=>?_) (λ_ _ he=>he.elim (λh=>⟨_,h.1⟩) (λh=>⟨_,h.1⟩)) (EC aa aa (by simp only[List.map_toArray,List.map_cons,List.map_nil];rfl));clear y a;rcases F8 hb with⟨rfl,U,p,a⟩|⟨rfl,U,p,a⟩
   .clear hb;replace a:=a.uR;refine s8 ?_;refine en ?_;refine pad (j:Int) 1 ((j+1:Nat):Int) ?_;refine bP ?_;go_wp2_with fail;go_roundw;case rel=>exact⟨j+1,_,ad,aa,by rw[Qy.out];exact p,a.pick [1,2,3,0,4]⟩
    case measure=>simp[cy]<;>omega
   .clear hb;replace a:=a.uR;refine s8 ?_;refine bP ?_;go_wp2_with fail;first|go_end0|refine bodyPost_ret (results_none rfl _ _ _) rfl ?_
    exact sI.cut C p (((a.pick (l':=[aj fO _ 82,aj cT _ 24,aj G _ 3,U,F]) [1,2,3,0,4]).fv 3).pick [1,0,2])
  .have cN:¬(j:Int)<(n:Int):=ad;have iq:(hQ ms).take j=hQ ms:=tQ (by rw[wI];omega);rw[iq]at o;go_step;refine ah ?_;refine bP ?_;go_wp2_with fail;first|go_end0|refine bodyPost_ret (results_none rfl _ _ _) rfl ?_
   exact sI.all o trivial ((a.fv 3).pick [1,0,2])
def acC(n:Nat)(hn:(n:Int)<=4611686018427387903)w:
 aD aw 120 #[J R (n:Int)] w λe w'=>e=aB (ai az)/\ar w w':=by
 go_enter func120,ntmps120;have a:=bc w;go_step;refine ah ?_;refine mO ?_;refine bH (xP 0 (n:Int) _ ⟨ad,ad,ad⟩) a (λw1 a=>?_);refine bP ?_;go_wp2_with fail;go_ret;exact⟨aa,a.only⟩
def mP(o n:Nat)(m:bJ):Prop:=gW m/\(m.k=1->m.fr+m.n<=(o:Int))/\m.to+b5 m<=(n:Int)
def avd(o n)(g1 g2)f(B:f.oneCell'=az)m b c(h:mP o n m)(C:(o:Int)<=4611686018427387903/\(n:Int)<=4611686018427387903)w:
 aD aw 121 #[eB (o:Int) (n:Int) g1 g2 f,av #[J R m.k,J R m.to,J R m.fr,J R m.n,ae b m.data.length c]] w λe w'=>e=aB (J R 0)/\ar w w':=by
 obtain⟨hv,l,y⟩:=h;obtain⟨d,g⟩:=ex (b5 m);have s:=hv.ck;have hb:0<=m.to/\0<d/\m.to+d<=4611686018427387903:=ad;rw[g]at y;obtain⟨eF,eV,sL⟩:=hb;have q:aE (∀W,aD aw 200 #[av #[J R m.k,J R m.to,J R m.fr,J R m.n,ae b m.data.length c]] W λe w'=>e=aB (J R 0)/\ar W w'):=hid (λW=>alU m.k m.to m.fr m.n b m.data.length c W hv);have r:aE (∀W,aD aw 136 #[av #[J R m.k,J R m.to,J R m.fr,J R m.n,ae b m.data.length c]] W λe w'=>e=aB (av #[J R m.to,J R d])/\ar W w'):=hid (λW=>by rw[<-g];exact uN _ _ _ _ b _ c W);by_cases hk:m.k=1
 .have hf2:=l hk;have x:0<=m.fr/\0<=m.n:=by rcases hv with⟨_,_,⟨z,A,_⟩,_⟩|⟨h2,_⟩;exact⟨z,A⟩;omega
  obtain⟨D,E⟩:=x;have j:aE (∀W,aD aw 79 #[av #[J R m.k,J R m.to,J R m.fr,J R m.n,ae b m.data.length c]] W λe w'=>e=aB (bm #[av #[J R m.fr,J R m.n],ai az])/\ar W w'):=hid (λW=>by rw[hk];exact A4 _ _ _ b _ c W);clear hk l g hv s;go_enter Tryz.func121,Tryz.ntmps121;have a:=bc w;go_step;refine ah ?_;refine bG a (av (a7 (o:Int) (n:Int) g1 g2 f)) (λt w1 a=>?_);refine bG a (av #[J R m.k,J R m.to,J R m.fr,J R m.n,ae b m.data.length c]) (λu N a=>?_);refine en ?_;refine bh a 0 #[J R m.k,J R m.to,J R m.fr,J R m.n,ae b m.data.length c] ?_;refine bH (q _) a (λO a=>?_);refine cK ?_;refine pk (ai ao) ?_;refine ah ?_;refine bh a 0 #[J R m.k,J R m.to,J R m.fr,J R m.n,ae b m.data.length c] ?_;refine bH (j _) a (λP a=>?_);refine v3 ?_;refine bA a #[J R 0,J R 0] (λv Q a=>?_);refine a' a 0 (av #[J R m.fr,J R m.n]) (λS a=>?_);refine iB ?_;refine bN a [3] (λi _=>match i with|3=>J R (m.fr+m.n)|_=>a1) (λ_ _=>emp) (λ_=>[]) (λ|2=>[0]|5=>[2]|_=>[]) (λ_=>[]) [0,1,2,6] (λp=>?_);refine bF ?_;refine eI 0 #[J R m.fr,J R m.n] ?_;refine dD (λ_ _ _=>lO m.fr _ _ ad ad ad) ?_;refine aK ?_;refine dl 0 0 ?_ (hv:=ku);refine aN (ai ao) (λ_ _ _=>by(go_simp;try omega)) ?_;refine aK ?_;refine bU λT a=>?_;replace a:=a.drop 3;refine cx ?_;refine bN a [1,2] (λi _=>match i with|1=>av #[J R m.to,J R d]|2=>J R (m.to+d)|_=>a1) (λ_ _=>emp) (λ_=>[]) (λ|0=>[1]|4=>[2]|_=>[]) (λ_=>[]) [0,1,2,4,5] (λp=>?_);refine eI 0 #[J R m.k,J R m.to,J R m.fr,J R m.n,ae b m.data.length c] ?_;refine dD (λ_ _ _=>r _) ?_;refine dD (λ_ _ _=>lO m.to d _ ad ad ad) ?_;refine aK ?_;refine dl 0 1 ?_ (hv:=hZ);refine aN (ai ao) (λ_ _ _=>by(go_simp;try omega)) ?_;refine bU λU a=>?_;replace a:=a.drop 3;replace a:=a.drop 3;refine ah ?_;refine ag ?_;refine an ?_;go_wp2_with fail;go_ret;exact⟨aa,a.only⟩
 .have j:aE (∀W,aD aw 79 #[av #[J R m.k,J R m.to,J R m.fr,J R m.n,ae b m.data.length c]] W λe w'=>e=aB (bm #[av #[J R 0,J R 0],ai ao])/\ar W w'):=hid (λW=>A5 m.k m.to m.fr m.n b m.data.length c W hk);clear hk l g hv s;go_enter Tryz.func121,Tryz.ntmps121;have a:=bc w;go_step;refine ah ?_;refine bG a (av (a7 (o:Int) (n:Int) g1 g2 f)) (λt V a=>?_);refine bG a (av #[J R m.k,J R m.to,J R m.fr,J R m.n,ae b m.data.length c]) (λu F a=>?_);refine en ?_;refine bh a 0 #[J R m.k,J R m.to,J R m.fr,J R m.n,ae b m.data.length c] ?_;refine bH (q _) a (λG a=>?_);refine cK ?_;refine pk (ai ao) ?_;refine ah ?_;refine bh a 0 #[J R m.k,J R m.to,J R m.fr,J R m.n,ae b m.data.length c] ?_;refine bH (j _) a (λH a=>?_);refine v3 ?_;refine bA a #[J R 0,J R 0] (λv I a=>?_);refine a' a 0 (av #[J R 0,J R 0]) (λK a=>?_);refine iB ?_;refine bN a [] (λ_ _=>a1) (λ_ _=>emp) (λ_=>[]) (λ_=>[]) (λ_=>[]) [0,1,2] (λp=>?_);refine bF ?_;iterate 5 refine ds ?_
  refine aK ?_;refine bU λL a=>?_;refine cx ?_;refine bN a [1,2] (λi _=>match i with|1=>av #[J R m.to,J R d]|2=>J R (m.to+d)|_=>a1) (λ_ _=>emp) (λ_=>[]) (λ|0=>[1]|4=>[2]|_=>[]) (λ_=>[]) [0,1,2,4,5] (λp=>?_);refine eI 0 #[J R m.k,J R m.to,J R m.fr,J R m.n,ae b m.data.length c] ?_;refine dD (λ_ _ _=>r _) ?_;refine dD (λ_ _ _=>lO _ d _ ad ad ad) ?_;refine aK ?_;refine dl 0 1 ?_ (hv:=hZ);refine aN (ai ao) (λ_ _ _=>by(go_simp;try omega)) ?_;refine bU λM a=>?_;replace a:=a.drop 3;replace a:=a.drop 3;refine ah ?_;refine ag ?_;refine an ?_;go_wp2_with fail;go_ret;exact⟨aa,a.only⟩
def ij(l:List (Nat×Int×Int)):Int:=l.foldl (λe x=>e+x.2.2) 0
theorem Zr l x:ij (l++[x])=ij l+x.2.2:=by grind[ij]
structure KU (n:Nat) (ms:List bJ):Prop where
 next:∀pre x,pre++[x]<+:hQ ms->x.2.1=ij pre/\0<=ij pre/\0<=x.2.2/\ij pre+x.2.2<=4611686018427387903
 all:ij (hQ ms)=(n:Int)
def av1 n A c ms w(k:cX w A ms)(y:ms.length<=20)(f:KU n ms):
 aD aw 122 #[ae A ms.length c] w λe w'=>e=aB (bm #[J R (n:Int),ai ao])/\ar w w':=by
 have j:=hid f;have o:=λW g=>sorted_at A c ms W (k.aG g) y;have p:∀fO cT G,wT aw 278 #[ax (ab ⟨fO,0,af⟩),ax (ab ⟨cT,0,af⟩)] (λx:Nat×Int×Int=>#[J R (x.1:Int),gI x.2]) w (λ_=>False) (bK [aj fO #[ae (ab ⟨G,0,af⟩) ms.length ms.length] 82,aj cT #[ae A ms.length c] 24,aj G (eo (lY ms)) 3]) (λ_=>True) (hQ ms):=λfO cT G=>afn fO cT G A c ms w _ (λW g=>k.aG g) y;have N:=hid o;obtain⟨xs,C⟩:=ex (hQ ms);have m:=f.next;have hall:=f.all;rw[C]at p m hall;have L:=hid m;have K:=hid hall;clear o f k m hall C;refine Ag func122 aa ?_;simp only[ntmps122,iG,js,l4,pC,pD,pP,pM,lK,oZ];have a:=bc w;go_step;refine ah ?_;refine bA a #[J R 0] (λE w1 a=>?_);refine bA a #[ai ao] (λH aW a=>?_);refine an ?_;go_step;refine ah ?_;refine bA a #[J R 0] (λb bI a=>?_);refine bA a #[J R 0] (λd cc a=>?_);refine a' a 1 (J R 0) (λcJ a=>?_);refine a' a 0 (J R (-1)) (λc5 a=>?_);refine an ?_;go_step;refine ah ?_;refine ag ?_;refine aP (N _ a.only) ?_;rintro e dK ⟨fO,cT,rfl,G,P⟩;replace a:=a.new _ P;refine aQ ?_;refine an ?_;go_wp2_with fail;have j:ak _ _ _ [bK [aj fO #[ae (ab ⟨G,0,af⟩) ms.length ms.length] 82,aj cT #[ae A ms.length c] 24,aj G (eo (lY ms)) 3],bK [aj b #[J R 0] 3,aj d #[J R (-1)] 3],bK [aj H #[ai ao] 4,aj E #[J R 0] 3]]:=ak.B2 (a.pick [0,2,1,3,4]);refine Gd (encs:=(λx:Nat×Int×Int=>#[J R (x.1:Int),gI x.2])) aa (kW VF aY aa) (λ_=>aa) (p _ _ _) (λpre t=>t=bK [aj b #[J R (ij pre)] 3,aj d _ 3]) (λ_ _ _=>False) aa j ?_ ?_ ?_;all_goals clear j a
 .rintro l rd pre x W t F z Q rfl a;replace a:=a.kg;repeat((fail_if_success (with_reducible refine at_region ?_));gi_step)
  refine jG ?_;refine bA a #[J R 0,J R 0] (λI dz a=>?_);refine a' a 0 (av #[J R x.2.1,J R x.2.2]) (λeY a=>?_);refine an ?_;first|refine wpIn_skip ?_|skip
  simp only[Exit.then];refine Ab a 3 Q (λU a=>?_);replace a:ak _ _ _ [aj I #[J R x.2.1,J R x.2.2] 35,aj b #[J R (ij pre)] 3,aj d #[J R (-1)] 3,obj l (fP {rd with state:=sv}),F]:=a;obtain⟨h1,r,O,s⟩:=L pre x z;obtain⟨S,v⟩:=ex (ij pre);have B:ij (pre++[x])=x.2.1+x.2.2:=by grind[Zr]
  have M:=hid B;rw[v]at h1 r s a;have hx1:0<=x.2.1:=ad;have hx2:x.2.1+x.2.2<=4611686018427387903:=ad;have q:=hid h1;clear B v h1 r s z;repeat((fail_if_success (with_reducible refine at_region ?_));gi_step)
  refine jG ?_;refine ag ?_;refine pl a 0 0 ?_;refine pl a 1 0 ?_;refine aI (ai ao) (by(have h:=q.out;go_simp;try omega)) ?_;refine an ?_;repeat((fail_if_success (with_reducible refine at_region ?_));gi_step)
  refine jG ?_;refine ag ?_;refine pl a 0 0 ?_;refine pl a 1 0 ?_;refine aI (ai ao) (by(have h:=q.out;go_simp;try omega)) ?_;refine ag ?_;iterate 2 refine ps ?_
  refine pk (ai ao) ?_;refine an ?_;repeat((fail_if_success (with_reducible refine at_region ?_));gi_step)
  refine jG ?_;refine bh a 0 #[J R x.2.1,J R x.2.2] ?_;refine aP (lO _ _ _ hx1 O hx2) ?_;rintro e V ⟨rfl,g⟩;replace a:=a.aG g;refine aQ ?_;refine a' a 1 (J R (x.2.1+x.2.2)) (λX a=>?_);refine an ?_;repeat gi_step
  have i:=a.pk [1,2,3,4];replace i:ak _ _ _ [bK [aj b #[J R (x.2.1+x.2.2)] 3,aj d #[J R (-1)] 3],obj l (fP {rd with state:=sv}),F]:=i.fv 2;refine⟨_,?_,i⟩;exact(by show _=_;rw[M])
 .rintro D t u W rfl T a;replace a:=a.kg;replace a:=(a.pk [4,0,1,2,3]).kg;rw[K]at a;go_step;refine ah ?_;refine pl a 3 0 ?_;refine pk (ai ao) ?_;refine an ?_;go_step;refine ah ?_;refine pl a 2 0 ?_;refine a' a 1 (J R (n:Int)) (λY a=>?_);refine a' a 0 (ai ao) (λZ a=>?_);refine an ?_;go_wp2_with fail;refine xw a 5 (λw' a=>⟨aeC aa aa (a.aX 1) ay aa (a.aX 0) ay,aa,a.only⟩)
 .simp
structure vp (o n:Nat) (ms:List bJ):Prop where
 fB:(o:Int)<=4611686018427387903
 vU:(n:Int)<=4611686018427387903
 fits:∀m∈ms,mP o n m
 tiled:KU n ms
 dI:ms.length<=20
def Zf(o n)(g1 g2)A c ms w(h:cX w A ms)(hv:vp o n ms):
 aD aw 50 #[eB (o:Int) (n:Int) g1 g2 (ae A ms.length c)] w λe w'=>e=aB (av #[J R 0,J R 0])/\ar w w':=by
 have E:=hid h;have I:=hid hv;have O:=hv.dI;have x:(o:Int)<=4611686018427387903/\(n:Int)<=4611686018427387903:=⟨hv.fB,hv.vU⟩;have G:=hid x;obtain⟨Q,P⟩:=x;have H:aE (∀W,ar w W->aD aw 122 #[ae A ms.length c] W λe w'=>e=aB (bm #[J R (n:Int),ai ao])/\ar W w'):=hid (λW g=>av1 n A c ms W (h.aG g) hv.dI hv.tiled);clear h hv;go_enter func50,ntmps50;have a:=bc w;go_step;refine ah ?_;refine bG a (av (a7 (o:Int) (n:Int) g1 g2 (ae A ms.length c))) (λy w1 a=>?_);refine bA a #[J R 0,J R 0] (λz S a=>?_);refine b' ?_;refine pl a 1 0 ?_ (hv:=ku);refine bH (acC o ad _) a (λT a=>?_);refine v3 ?_;refine pl a 1 1 ?_ (hv:=hZ);refine bH (acC n ad _) a (λU a=>?_);refine Dr ?_;refine pl a 1 66 ?_ (hv:=eH);refine dZ ?_;have q:=a.pk [1,0];go_wp2_with fail;go_loopw [22] (λl wr=>∃j:Nat,j<=ms.length/\l=J R (j:Int)/\ak w (λ_=>False) wr [aj y (a7 (o:Int) (n:Int) g1 g2 (ae A ms.length c)) 26,aj z #[J R 0,J R 0] 49]) (λl wr=>ms.length -(cy l).toNat);case atStart=>exact⟨0,cF _,aa,q⟩
 case round=>
  clear a q;obtain⟨j,N,rfl,a⟩:=hrel;by_cases hlt:j<ms.length
  .have K:(j:Int)<(ms.length:Int):=ad;obtain⟨m,i⟩:∃m,ms[j]?=ab m:=⟨_,cC hlt⟩;obtain⟨d,p,b,f,r,s,t⟩:=cX.ji E i;have B:=hid r;have M:=hid s;have C:=hid t;have F:=hid i;clear r s t i;have u:=I.out.fits m (cY F);have D:=hid u;clear u;go_step;refine ah ?_;refine cK ?_;refine aI (ax (ab ⟨d,(p+j*5),af⟩)) (cq 24 73 5 (bj 20) (bj 22) aa eA ay d p (ms.length) c j ((p+j*5)) (by show ae A _ _=_;rw[B]) aa hlt aa) ?_;refine aI _ (by(refine eC 73 _ aa d _ aa _ (C _ a.only) fy aa ay)) ?_;refine bA a #[J R 0,J R 0,J R 0,J R 0,ae af 0 0] (λL V a=>?_);refine ag ?_;refine a' a 0 (av #[J R m.k,J R m.to,J R m.fr,J R m.n,ae b m.data.length f]) (λX a=>?_);refine ah ?_;refine bh a 1 (a7 (o:Int) (n:Int) g1 g2 (ae A ms.length c)) ?_ (hv:=(eW _)) (hk:=by omega) (hz:=(by rw[bW];rfl));refine bh a 0 #[J R m.k,J R m.to,J R m.fr,J R m.n,ae b m.data.length f] ?_;refine bH (avd o n g1 g2 (ae A ms.length c) aa m b f D G _) a (λY a=>?_);refine cK ?_;refine pk (ai ao) ?_;refine ah ?_;refine pad (j:Int) 1 ((j+1:Nat):Int) ?_;refine bP ?_;go_wp2_with fail;go_roundw;case rel=>exact⟨j+1,ad,aa,a.pick [1,2]⟩
   case measure=>simp[cy]<;>omega
  .have K:¬(j:Int)<(ms.length:Int):=ad;go_step;refine ah ?_;refine cK ?_;refine pl a 0 66 ?_ (hv:=eH);refine bH (H _ a.only) a (λZ a=>?_);refine v5 ?_;refine ah ?_;refine mO ?_;refine pl a 0 1 ?_ (hv:=hZ);refine bu (ai ao) ?_;refine b' ?_;refine a' a 1 (av #[J R 0,J R 0]) (λeY a=>?_);refine an ?_;go_wp2_with fail;refine dp (v:=_) (jd aa _ _ _ _ _ _ _ aa (a.aX 1) x4 aa ay) aa (⟨aa,a.only⟩)
def q'(ms:List bJ):List bJ:=(lY ms).filterMap (λi=>ms[i]?)
def sb(ms:List bJ)(l:List (Nat×Int×Int)):List bJ:=l.filterMap (λx=>ms[x.1]?)
def ae4{ms l x m}(h:ms[x.1]?=ab m):sb ms (l++[x])=sb ms l++[m]:=by grind[sb]
def ae3 ms:sb ms (hQ ms)=q' ms:=by unfold sb hQ q';rw[List.filterMap_map];rfl
def au7 ms l:(sb ms l).length<=l.length:=XU _ _
def F3{ms m}(h:m∈q' ms):m∈ms:=by obtain⟨i,_,hi⟩:=List.mem_filterMap.1 h;exact cY hi
def Ut ms:(q' ms).length<=ms.length:=ea (XU _ _) (X2 (M3 ms))
def afs{ms x}(h:x∈hQ ms):x.1<ms.length:=by obtain⟨i,hi,e⟩:=List.mem_map.1 h;subst e;exact adM hi
def afe{N n c w A ms l}(b:Row N w A n c 73 5 (cE l))(h1:l.map (·.1)=ms)(hn:n=ms.length)(d:∀x∈l,qz w x.1 x.2.1 x.2.2):cX w A ms:=λo=>by
 rcases b.cases with⟨_,k,_,_⟩|⟨g,cur,e,_⟩;·omega
 .refine⟨g,0,e,λj m a=>?_⟩;subst h1;rw[lr]at a;cases hx:l[j]? with
  |none=>grind
  |some x=>
   rw[hx]at a;simp only[pR,wR]at a;subst a;have f:=Ev hx
   have hc:∀i v,(jv x.1 x.2.1 x.2.2)[i]?=ab v->w.cell? ⟨g,0+j*5+i,af⟩=ab v:=λi v hv=>by obtain⟨h,bB,bY⟩:=b.cell (f i v hv);grind
   exact⟨_,_,⟨hc 0 _ aa,hc 1 _ aa,hc 2 _ aa,hc 3 _ aa,hc 4 _ aa⟩,d x (cY hx)⟩
def Er m A c:∀u∈jv m A c,u.oneCell'=true:=by intro u a;simp only[jv,gF,fQ,or_false]at a;rcases a with rfl|rfl|rfl|rfl|rfl<;>rfl
def BT(w:aM)(l:List (bJ×Option bQ×Nat)):Prop:=∀x∈l,∀W,ar w W->qz W x.1 x.2.1 x.2.2
theorem BT.nil w:BT w []:=λ_ h=>(fQ h).elim
def BT.snoc{w l m A c}(h:BT w l)(a:∀W,ar w W->qz W m A c):BT w (l++[(m,A,c)]):=λx hx=>by
 rcases List.mem_append.1 hx with hx|hx;·exact h x hx
 .grind
def afm(o n)(g h)A c ms w(z:cX w A ms)(L:ms.length<=20)(p6:∀m∈ms,m.data.length<=140737488355328):
 aD aw 166 #[eB o n g h (ae A ms.length c)] w λe w'=>∃O Y t,e=aB (eB o n g h (ae O (q' ms).length Y))/\cf w w' t/\gM t O Y (q' ms):=by
 have cH:=hid z;have T:=hid L;have sB:=hid p6;have V:=hid (λW g=>sorted_at A c ms W (z.aG g) L);have E:∀fO cT G,wT aw 278 #[ax (ab ⟨fO,0,af⟩),ax (ab ⟨cT,0,af⟩)] (λx:Nat×Int×Int=>#[J R (x.1:Int),gI x.2]) w (λ_=>False) (bK [aj fO #[ae (ab ⟨G,0,af⟩) ms.length ms.length] 82,aj cT #[ae A ms.length c] 24,aj G (eo (lY ms)) 3]) (λ_=>True) (hQ ms):=λfO cT G=>afn fO cT G A c ms w _ (λW g=>z.aG g) L;have Q:=hid (ae3 ms);clear z p6;refine Ag func166 aa ?_;simp only[ntmps166,iG,js,l4,pC,pD,pP,pM,lK,oZ];have a:=bc w;go_step;refine ah ?_;refine bG a (av (a7 o n g h (ae A ms.length c))) (λv w1 a=>?_);refine bA a (a7 0 0 dS.zero dS.zero (ae af 0 0)) (λcA aW a=>?_);refine an ?_;go_step;refine ah ?_;refine bA a #[ae af 0 0] (λq bI a=>?_);refine an ?_;replace a:=a.new (bk af 0 0 73 5 []) ⟨au.refl _ _,Row.nil _ _ _ _,λb ⟨_,_,e⟩=>aF⟩;go_step;refine ah ?_;refine ag ?_;refine pl a 3 66 ?_ (hv:=eH);refine aP (V _ a.only) ?_;rintro e cc ⟨fO,cT,rfl,G,K⟩;replace a:=a.new _ K;refine aQ ?_;refine an ?_;go_wp2_with fail;have X:ak _ _ _ [bK [aj fO #[ae (ab ⟨G,0,af⟩) ms.length ms.length] 82,aj cT #[ae A ms.length c] 24,aj G (eo (lY ms)) 3],bK [aj v (a7 o n g h (ae A ms.length c)) 26,aj q #[ae af 0 0] 24,bk af 0 0 73 5 []],bK [aj cA (a7 0 0 dS.zero dS.zero (ae af 0 0)) 26]]:=ak.B2 (a.pick [0,4,2,1,3]);refine Gd (encs:=(λx:Nat×Int×Int=>#[J R (x.1:Int),gI x.2])) aa (kW VF aY aa) (λ_=>aa) (E _ _ _) (λpre t=>∃f c1 l,aE (l.map (·.1)=sb ms pre)/\aE (BT w l)/\t=bK [aj v _ 26,aj q #[ae f (sb ms pre).length c1] 24,bk f ((sb ms pre).length) c1 73 5 (cE l)]) (λ_ _ _=>False) (⟨af,0,[],hid aa,hid (BT.nil w),aa⟩) X ?_ ?_ ?_;all_goals clear X a
 .rintro l rd pre x W t F eO oG ⟨f,c1,B,y,H,rfl⟩ a;replace a:=a.kg;repeat((fail_if_success (with_reducible refine at_region ?_));gi_step)
  refine jG ?_;refine ag ?_;refine an ?_;first|refine wpIn_skip ?_|skip
  simp only[Exit.then];refine Ab a 3 oG (λcJ a=>?_);replace a:ak _ _ _ [aj v (a7 o n g h (ae A ms.length c)) 26,aj q #[ae f (sb ms pre).length c1] 24,bk f ((sb ms pre).length) c1 73 5 (cE B),obj l (fP {rd with state:=sv}),F]:=a;have hx1:x.1<ms.length:=afs (eO.subset a8);obtain⟨m,r⟩:∃m,ms[x.1]?=ab m:=⟨_,cC hx1⟩;obtain⟨I,M,j,p,bC,eu,dh⟩:=cX.ji cH r;have cn:=hid bC;have iR:=hid eu;have S:=hid dh;have U:=hid (ae4 (l:=pre) r);have iv:(sb ms pre).length<=20:=ea (au7 ms pre) (ea aF (ea (X2 (afr ms)) T));obtain⟨s,hn⟩:=ex ((sb ms pre).length);rw[hn]at iv a;have dO:=hid hn;obtain⟨N,Mn⟩:=ex x.1;rw[Mn]at hx1 S⊢;clear bC eu dh r eO hn Mn Q E;repeat((fail_if_success (with_reducible refine at_region ?_));gi_step)
  refine UI a [6,7,8] (λi u=>match i with|6=>ae (ab ⟨u.b,0,af⟩) 1 1|7=>ae u.A (s+1) u.c|_=>a1) (λd=>λ|6=>aj ((d 6).b) #[J R m.k,J R m.to,J R m.fr,J R m.n,ae j m.data.length p] 73|7=>bk ((d 7).A) (s+1) ((d 7).c) 73 5 ((cE B)++(jv m j p))|8=>aj q #[ae (d 7).A (s+1) (d 7).c] 24|_=>emp) (λ|7=>[2]|8=>[1]|_=>[]) (λ|0=>[1]|2=>[0]|7=>[11]|_=>[]) (λ|6=>[6]|7=>[7]|8=>[7]|_=>[]) [0,3,4,11,12,13] (λd=>?_);refine dl 0 0 ?_;refine aK ?_;refine dl 0 66 ?_ (hv:=eH);refine aK ?_;refine aN (ax (ab ⟨I,(M+N*5),af⟩)) (λ_ _ _=>cq 24 73 5 (bj 12) (bj 13) aa eA aY I M _ c N _ (by show ae A _ _=_;rw[cn]) aa hx1 aa) ?_;refine aN (av #[J R m.k,J R m.to,J R m.fr,J R m.n,ae j m.data.length p]) (λ_ _ a=>eC 73 (bj 14) aa I (M+N*5) aa ([J R m.k,J R m.to,J R m.fr,J R m.n,ae j m.data.length p]:List aO) (S _ a.only) fy aa aY) ?_;refine lN _ 73 ?_;refine ub (m:=1) 56 (λ_ _ a=>aU.cellsOf (m:=1) (a.aX 1) aa) (Er m j p) ?_ (hby:=by omega);refine gi _ ?_;refine bU λc5 a=>?_;generalize (d 6).b=Dw at a⊢;generalize (d 7).A=P at a⊢;generalize (d 7).c=Z at a⊢;repeat gi_step
  have C:=a.pk [0,5,4,1,2];replace C:ak _ _ _ [bK [aj v (a7 o n g h (ae A ms.length c)) 26,aj q #[ae P (s+1) Z] 24,bk P (s+1) Z 73 5 ((cE B)++(jv m j p))],obj l (fP {rd with state:=sv}),F]:=C.fv 3;refine⟨_,?_,C⟩;exact⟨_,_,_,hid (by rw[List.map_append,y,U];rfl),hid (H.out.snoc iR),by rw[U.out,c',dO.out,B8,Ew];rfl⟩
 .rintro D t u W ⟨f,c1,B,y,H,rfl⟩ hu a;replace a:=a.kg;replace a:=(a.pk [5,0,1,2,3,4]).kg;rw[Q]at a y;clear E V;go_step;refine ah ?_;refine bh a 1 (a7 o n g h (ae A ms.length c)) ?_ (hv:=(eW _)) (hk:=by omega) (hz:=(by rw[bW];rfl));refine pl a 2 0 ?_;refine aP (Jq o n g h _ f c1 (q' ms) _ aa (afe (a.atR 3) y aa (λx hx=>H x hx _ a.only)) (ea (Ut ms) (ea T bf)) (λm r=>sB m (F3 r))) ?_;rintro e dK ⟨aJ,c2,bz,rfl,K,jY⟩;replace a:=a.new _ K;refine aQ ?_;refine a' a 1 (av (a7 o n g h (ae aJ (q' ms).length c2))) (λdz a=>?_) (hk:=by show 0+ja (a7 _ _ _ _ _)<=_;simp only[bW];decide) (hz:=by show _=ab (ja (a7 _ _ _ _ _));rw[bW];rfl) (h1:=(w2 aa)) (hc:=xt);refine an ?_;go_wp2_with fail;refine xw a 6 (λw' a=>⟨jd aa _ _ _ _ _ _ _ aa (a.aX 1) J3 aa (by rw[bW];rfl),_,_,bz,aa,a.fresh 0,jY⟩)
 .simp
def alv(g b)(n0 bZ d c f q)cQ w(h1:f+q<=n0)(j:n0<=bZ)(k:((f+q:Nat):Int)<=4611686018427387903):
 aD aw 87 #[ae g n0 bZ,av #[J R 1,J R cQ,J R (f:Int),J R (q:Int),ae b d c]] w λe w'=>e=aB (ae (fF g bZ f 1) q (bZ -f))/\ar w w':=by
 go_enter Tryz.func87,Tryz.ntmps87;have a:=bc w;go_step;refine ah ?_;refine bG a (av #[J R 1,J R cQ,J R (f:Int),J R (q:Int),ae b d c]) (λh w1 a=>?_);refine en ?_;refine bh a 0 #[J R 1,J R cQ,J R (f:Int),J R (q:Int),ae b d c] ?_;refine bH (A4 cQ (f:Int) (q:Int) b d c _) a (λl a=>?_);refine v3 ?_;refine bA a #[J R 0,J R 0] (λi m a=>?_);refine a' a 0 (av #[J R (f:Int),J R (q:Int)]) (λn a=>?_);refine ag ?_;refine ah ?_;refine mO ?_;refine pl a 0 0 ?_;refine ag ?_;refine pl a 0 0 ?_;refine ag ?_;refine pl a 0 1 ?_;refine pad _ _ ((f+q:Nat):Int) ?_;refine aI _ (Jh 22 5 1 _ _ _ aa dL ay g n0 bZ f (f+q) q aa aa aa ad ad) ?_;refine bP ?_;go_wp2_with fail;go_ret;exact⟨aa,a.only⟩
def alw(f b)(n0 bZ d c)(k cQ fr n)(hk:k≠1)w:
 aD aw 87 #[ae f n0 bZ,av #[J R k,J R cQ,J R fr,J R n,ae b d c]] w λe w'=>e=aB (ae b d c)/\ar w w':=by
 go_enter Tryz.func87,Tryz.ntmps87;have a:=bc w;go_step;refine ah ?_;refine bG a (av #[J R k,J R cQ,J R fr,J R n,ae b d c]) (λg w1 a=>?_);refine en ?_;refine bh a 0 #[J R k,J R cQ,J R fr,J R n,ae b d c] ?_;refine bH (A5 k cQ fr n b d c _ hk) a (λi a=>?_);refine v3 ?_;refine bA a #[J R 0,J R 0] (λh j a=>?_);refine a' a 0 (av #[J R 0,J R 0]) (λl a=>?_);refine ag ?_;refine UU ?_;refine pl a 1 4 ?_;refine bP ?_;go_wp2_with fail;go_ret;exact⟨aa,a.only⟩
def hX(old:List Int)(m:bJ):List Int:=if m.k=1 then(old.drop m.fr.toNat).take m.n.toNat else m.data
def gW.copy{m}(h:gW m)(hk:m.k=1):0<=m.fr/\0<m.n/\m.fr+m.n<=4611686018427387903/\m.data=[]:=by
 rcases h with⟨_,_,a,b,c⟩|⟨h1,_⟩;·obtain⟨d,e,f⟩:=a;grind
 .omega
def Ri{o n old m}(h:mP o n m)(ho:old.length=o):((hX old m).length:Int)=b5 m:=by
 unfold hX b5;by_cases hk:m.k=1;·obtain⟨h1,a,_⟩:=h.1.copy hk;have b:=h.2.1 hk;grind
 .grind
def alu(o n bZ)(a c)d old m w(h:mP o n m)(ho:old.length=o)(hc0:o<=bZ)(v:m.data.length<=d):
 aD aw 87 #[ae a old.length bZ,l6 m c d] w λe w'=>∃g j,e=aB (ae g (hX old m).length j)/\(∀W,bX W a old->bX W c m.data->bX W g (hX old m))/\(hX old m).length<=j/\(∀b,eb g b->eb a b\/eb c b)/\ar w w':=by
 subst ho;have hlen:=Ri h aa;obtain⟨k,cQ,fr,q,ds⟩:=m;by_cases hk:k=1;·subst hk;obtain⟨h1,l,p,r⟩:=h.1.copy aa;have s:=h.2.1 aa;simp only at h1 l p r s;obtain⟨f,rfl⟩:=wJ h1;obtain⟨q,rfl⟩:=wJ (Int.le_of_lt l);have hb:hX old ⟨1,cQ,(f:Int),(q:Int),ds⟩=(old.drop f).take q:=aY;rw[hb]at hlen⊢;have u:((old.drop f).take q).length=q:=aF;rw[u];refine(alv a c old.length bZ ds.length d f q cQ w ad hc0 ad).mono λe w' h=>⟨_,_,h.1,λW hold _=>?_,ad,λb hb=>bM (Te hb),h.2⟩;have:=hold.win (i:=f) (q:=f+q) hc0 ad;rwa [show f+q -f=q by omega]at this
 .have hb:hX old ⟨k,cQ,fr,q,ds⟩=ds:=by grind[hX]
  rw[hb];exact(alw a c _ bZ _ d k cQ fr q hk w).mono λe w' h=>⟨_,_,h.1,λW _ t=>t,v,λb hb=>.inr hb,h.2⟩
def xG(old:List Int)(l:List bJ)(j:Nat):List Int:=(l.take j).flatMap (hX old)
def vW(old:List Int)(ms:List bJ):List Int:=(q' ms).flatMap (hX old)
def atv{old l j m}(h:l[j]?=ab m):xG old l (j+1)=xG old l j++hX old m:=by grind[xG,gg]
def atu old l j:(xG old l j).length<=(l.flatMap (hX old)).length:=by grind[xG,o1]
def att old l:xG old l l.length=l.flatMap (hX old):=by grind[xG]
def ak.old{w W:aM}{l:List bp}{s:bp}{A:Option bQ}(c:ak w (λ_=>False) W l)(i:Nat)(h:mW w A)(hi:l[i]?=ab s:=by rfl):∀b,eb A b->¬s.cR b:=λb hb d=>by
 have h1:=h b hb;have a:=(c.low s (cY hi) b d).2;rcases a with a|a;·omega
 .omega
def awo(o n bZ)(g1 g2)(d A)c old ms w(ho:old.length=o)(L4:o<=1048576)(hc0:o<=bZ)(hold:bX w d old)(me:mW w d)(C:cX w A ms)(hv:vp o n ms)(L:∀m∈ms,m.data.length<=140737488355328)(hg1:g1.l=gz old)(hg2:g2.l=gz (vW old ms))(x:(vW old ms).length<=1048576):
 aD aw 78 #[ae d o bZ,eB (o:Int) (n:Int) g1 g2 (ae A ms.length c)] w λe w'=>e=aB (av #[J R 0,J R 0])/\ar w w':=by
 have hlen:o<=1048576:=ad;have cB:=hid hv;have cH:=hid C;have X:=hid hold;have U:=hid me;have T:=hid hg1;have G:=hid hg2;have H:=hid x;have c7:=hid (λW g=>Zf o n g1 g2 A c ms W (C.aG g) hv);have ey:=hid (λW g=>afm (o:Int) (n:Int) g1 g2 A c ms W (C.aG g) hv.dI L);have DX:=hid L;have z:=hid ho;clear C hv hold me hg1 hg2 x L ho;go_enter func78,ntmps78;have a:=bc w;go_step;refine ah ?_;refine bG a (av (a7 (o:Int) (n:Int) g1 g2 (ae A ms.length c))) (λb3 w1 a=>?_);refine bA a #[J R 0,J R 0] (λdV aW a=>?_);refine ah ?_;refine bh a 1 (a7 (o:Int) (n:Int) g1 g2 (ae A ms.length c)) ?_ (hv:=(eW _)) (hk:=by omega) (hz:=(by rw[bW];rfl));refine bH (c7 _ a.only) a (λbI a=>?_);refine bA a #[J R 0,J R 0] (λeg cc a=>?_);refine a' a 0 (av #[J R 0,J R 0]) (λcJ a=>?_);refine ah ?_;refine bh a 0 #[J R 0,J R 0] ?_;refine ag ?_;refine pk (ai ao) ?_;refine b' ?_;refine pl a 2 0 ?_ (hv:=ku);refine v2 ?_;refine bu (ai ao) ?_;refine iB ?_;refine bN a [1,2] (λi u=>match i with|1=>ae (ab ⟨u.b,0,af⟩) 1 1|2=>av (aZ bb (gz old) [])|_=>a1) (λD=>λ|1=>aj ((D 1).b) #[ae d o bZ] 22|_=>emp) (λ_=>[]) (λ|2=>[4]|4=>[2]|_=>[]) (λ|1=>[1]|_=>[]) [0,1,2,4,5] (λD=>?_);refine aK ?_;refine lN _ 22 ?_;refine dD (λO _ a=>TP _ d bZ _ O 22 (by rw[z];omega) (by rw[z.out];exact a.aX 0) (X.out.aG a.only) (U.out.aG a.only)) ?_;refine aK ?_;refine aN _ (λ_ _ a=>mi aa aa (a.aX 0) amI (by rw[bW];simp[aZ,g1.len]) ay (by simp only[aZ,j1,iG,gV,g1.len];kernel_rfl)) ?_;refine aN (ai ao) (λ_ _ _=>by(refine(yy 23 5 32 _ _ 23 aa tB l2 ay ay _ _ aa aa (by rw[<-T];exact g1.len) g1.len).trans ?_;rw[T];simp)) ?_;refine aK ?_;refine bU λc5 a=>?_;generalize (D 1).b=axQ at a⊢;replace a:=a.drop 4;refine ah ?_;refine aP (AR _) ?_;rintro e dK ⟨F,rfl,K⟩;replace a:=a.new _ K;refine aQ ?_;refine en ?_;refine bh a 3 (a7 (o:Int) (n:Int) g1 g2 (ae A ms.length c)) ?_ (hv:=(eW _)) (hk:=by omega) (hz:=(by rw[bW];rfl));refine aP (ey _ a.only) ?_;rintro e dz ⟨aJ,c2,bz,rfl,K,jY⟩;replace a:=a.new _ K;refine aQ ?_;refine aI _ (adG (ft:=24) (k:=66) 26 _ 4 aa aa ay ay eH) ?_;refine dZ ?_;obtain⟨l,t⟩:=ex (q' ms);have azQ:l.length<=20:=by rw[<-t];exact ea (Ut ms) cB.out.dI
 have zM:aE (∀m∈l,mP o n m/\m.data.length<=140737488355328):=hid (λm q=>by rw[<-t]at q;exact⟨cB.out.fits m (F3 q),DX m (F3 q)⟩);rw[vW,t]at H G;rw[t]at jY⊢;clear t;have Z:=a.pk [1,0,4,3];go_wp2_with fail;go_loopw [37] (λN wr=>∃(j:Nat) (y:Option bQ),j<=l.length/\N=J R (j:Int)/\ak w (λ_=>False) wr [iy F y (xG old l j),bz,aj b3 (a7 (o:Int) (n:Int) g1 g2 (ae A ms.length c)) 26,aj dV #[J R 0,J R 0] 49]) (λN wr=>l.length -(cy N).toNat);case atStart=>exact⟨0,_,cF _,aa,Z⟩
 case round=>
  clear a Z;obtain⟨j,y,hj,rfl,a⟩:=hrel;by_cases hlt:j<l.length
  .have cN:(j:Int)<(l.length:Int):=ad;obtain⟨m,q⟩:∃m,l[j]?=ab m:=⟨_,cC hlt⟩;obtain⟨f,s,vF,hcm⟩:=jY.cmd q;obtain⟨_,B,I,_⟩:=hcm _ (a.at 1)
   have dx:aE (∀W,bz.p W->W.rangeAt B (0+j*5) [J R m.k,J R m.to,J R m.fr,J R m.n,ae f m.data.length s]):=hid (λW M=>by obtain⟨_,il,bB,bY⟩:=hcm W M;rw[I]at bB;injection bB with bB;injection bB with bB;rw[<-bB]at bY;exact bY);have S:=hid (λW M=>(hcm W M).1);have cn:=hid I;have P7:=hid vF;have V:=hid q;clear I hcm vF q;have r:=atv (old:=old) V;have hpl:=atu old l (j+1);rw[r,c']at hpl;have Y:=hid r;have x:=H.out;have ab5:(xG old l j).length+(hX old m).length<=1048576:=ad;obtain⟨msg,Ic⟩:=ex (xG old l j);have xe:=zM m (cY V);have Q:aE (∀W,aD aw 87 #[ae d o bZ,av #[J R m.k,J R m.to,J R m.fr,J R m.n,ae f m.data.length s]] W λe w'=>∃E aC,e=aB (ae E (hX old m).length aC)/\(∀W,bX W d old->bX W f m.data->bX W E (hX old m))/\(hX old m).length<=aC/\(∀b,eb E b->eb d b\/eb f b)/\ar W w'):=hid (λW=>by have h:=alu o n bZ d f s old m W xe.1 z hc0 (S _ (a.at 1)).2;rw[z]at h;exact h);rw[Ic]at ab5 r a;obtain⟨bs,im⟩:=ex (hX old m);rw[im]at ab5 Q r;have Y:=hid r;clear r hpl x xe Ic im;go_step;refine ah ?_;refine en ?_;refine aI (ax (ab ⟨B,(0+j*5),af⟩)) (cq 24 73 5 (bj 35) (bj 37) aa eA ay B 0 (l.length) c2 j ((0+j*5)) (by show ae aJ _ _=_;rw[cn]) aa hlt aa) ?_;refine aI _ (eC 73 (bj 39) aa B (0+j*5) aa _ (dx _ (a.at 1)) fy aa ay) ?_;refine bA a #[J R 0,J R 0,J R 0,J R 0,ae af 0 0] (λeS eY a=>?_);refine a' a 0 (av #[J R m.k,J R m.to,J R m.fr,J R m.n,ae f m.data.length s]) (λgQ a=>?_);refine hE ?_;refine bh a 0 #[J R m.k,J R m.to,J R m.fr,J R m.n,ae f m.data.length s] ?_;refine aP (Q _) ?_;rintro e ib ⟨P,eG,rfl,CM,hlc,hloc,g⟩;have ajx:=hid CM;have ajf:=hid hloc;clear CM hloc;replace a:=a.aG g;refine aQ ?_;refine fC a #[ae P bs.length eG] 22 (λGm jS a=>?_);refine aP (UM F _ 0 1 y P eG msg bs _ ad (a.has 2) ((a.aX 0).cell 0 aa) (ajx _ (X.out.aG a.only) (S _ (a.at 3)).1) (λb hb=>(ajf b hb).elim (a.old 2 U aa b) (λh=>a.ne (i:=3) (j:=2) aa aa bf b (P7 b h)))) ?_;rintro e kh ⟨Oy,rfl,bL⟩;replace a:=a.ek 2 bL;refine aQ ?_;refine ah ?_;refine pad (j:Int) 1 ((j+1:Nat):Int) ?_;refine bP ?_;go_wp2_with fail;go_roundw;case rel=>exact⟨j+1,_,ad,aa,by rw[Y.out];exact a.pick [2,3,4,5]⟩
   case measure=>simp[cy]<;>omega
  .have cN:¬(j:Int)<(l.length:Int):=ad;have s3:j=l.length:=ad;rw[s3,att]at a;have x:=H.out;go_step;refine ah ?_;refine iB ?_;refine bN a [1] (λi _=>match i with|1=>av (aZ bb (gz (l.flatMap (hX old))) [])|_=>a1) (λ_ _=>emp) (λ_=>[]) (λ|1=>[0]|3=>[2]|_=>[]) (λ_=>[]) [0,1,2,3,5] (λD=>?_);refine aK ?_;refine dD (λO _ a=>zj F y (l.flatMap (hX old)) O ad (a.at 0)) ?_;refine aK ?_;refine aN _ (λ_ _ a=>mi aa aa (a.aX 0) amJ (by rw[bW];simp[aZ,g2.len]) ay (by simp only[aZ,j1,iG,gV,g2.len];kernel_rfl)) ?_;refine aN (ai ao) (λ_ _ _=>by(refine(yy 23 5 32 _ _ 23 aa tB l2 ay ay _ g2.l aa aa (by rw[<-G];exact g2.len) g2.len).trans ?_;rw[G];simp)) ?_;refine bU λlf a=>?_;replace a:=a.drop 4;refine b' ?_;refine a' a 3 (av #[J R 0,J R 0]) (λmr a=>?_);refine an ?_;go_wp2_with fail;refine dp (v:=_) (jd aa _ _ _ _ _ _ _ aa (a.aX 3) x4 aa ay) aa (⟨aa,a.only⟩)
def MB{F:Type}(l:List F)(h:l.length=32):∃a df br lh oN A B C D E b c d e f g i j k m n o p q r s t u v w x z,l=[a,df,br,lh,oN,A,B,C,D,E,b,c,d,e,f,g,i,j,k,m,n,o,p,q,r,s,t,u,v,w,x,z]:=by
 rcases l with _|⟨a,l⟩;·grind
 rcases l with _|⟨df,l⟩;·grind
 rcases l with _|⟨br,l⟩;·grind
 rcases l with _|⟨lh,l⟩;·grind
 rcases l with _|⟨oN,l⟩;·grind
 rcases l with _|⟨A,l⟩;·exact absurd h a8
 rcases l with _|⟨B,l⟩;·exact absurd h a8
 rcases l with _|⟨C,l⟩;·exact absurd h a8
 rcases l with _|⟨D,l⟩;·exact absurd h a8
 rcases l with _|⟨E,l⟩;·exact absurd h a8
 rcases l with _|⟨b,l⟩;·exact absurd h a8
 rcases l with _|⟨c,l⟩;·exact absurd h a8
 rcases l with _|⟨d,l⟩;·exact absurd h a8
 rcases l with _|⟨e,l⟩;·exact absurd h a8
 rcases l with _|⟨f,l⟩;·exact absurd h a8
 rcases l with _|⟨g,l⟩;·exact absurd h a8
 rcases l with _|⟨i,l⟩;·exact absurd h a8
 rcases l with _|⟨j,l⟩;·exact absurd h a8
 rcases l with _|⟨k,l⟩;·exact absurd h a8
 rcases l with _|⟨m,l⟩;·exact absurd h a8
 rcases l with _|⟨n,l⟩;·exact absurd h a8
 rcases l with _|⟨o,l⟩;·exact absurd h a8
 rcases l with _|⟨p,l⟩;·exact absurd h a8
 rcases l with _|⟨q,l⟩;·exact absurd h a8
 rcases l with _|⟨r,l⟩;·exact absurd h a8
 rcases l with _|⟨s,l⟩;·exact absurd h a8
 rcases l with _|⟨t,l⟩;·exact absurd h a8
 rcases l with _|⟨u,l⟩;·exact absurd h a8
 rcases l with _|⟨v,l⟩;·exact absurd h a8
 rcases l with _|⟨w,l⟩;·exact absurd h a8
 rcases l with _|⟨x,l⟩;·exact absurd h a8
 rcases l with _|⟨z,l⟩;·exact absurd h a8
 rcases l with _|⟨y,l⟩;·grind
 .exact absurd h a8
def e9(bs:List Int):dS:=⟨gz bs,sT bs⟩
def auG(o n)(g h)w:(Instr.build 26 #[(0,J R o),(1,J R n),(2,av (aZ bb g.l [])),(3,av (aZ bb h.l []))]).run aw w=a6 (eB o n g h (ae af 0 0)) w:=by obtain⟨a,bB⟩:=g;obtain⟨b,bY⟩:=h;obtain⟨c,df,br,lh,oN,F,G,H,I,K,d,e,f,i,j,k,m,p,q,r,s,t,u,v,x,y,z,A,B,C,D,E,rfl⟩:=MB a bB;obtain⟨L,M,bF,da,hD,oO,Og,Oh,Dq,Oi,N,O,P,Q,S,T,U,V,W,X,Y,Z,aw4,aw5,aw6,aw7,aw8,aw9,axa,axb,axc,axd,rfl⟩:=MB b bY;kernel_rfl
def alo{o}{a:Act}{w b df br lh p q eF eV}(ho:o.op=.build 26 #[(0,b),(1,df),(2,br),(3,lh)])(c:a.eval b=J R p)(h1:a.eval df=J R q)(d:a.eval br=av (aZ bb (gz eF) []))(f:a.eval lh=av (aZ bb (gz eV) [])):
 (bt a.eval o).run aw w=a6 (c9 (eB p q (e9 eF) (e9 eV) (ae af 0 0))) w:=by
 have h:=auG p q (e9 eF) (e9 eV) w;unfold bt;simp only[ho,ga];have e:(#[(0,b),(1,df),(2,br),(3,lh)].map λ(i,x)=>(i,a.eval x))=(#[(0,J R p),(1,J R q),(2,av (aZ bb (e9 eF).l [])),(3,av (aZ bb (e9 eV).l []))]:Array (Nat×aO)):=by grind[e9]
 rw[e,h];rfl
def Zk(bZ c1)(b d A)c(old new)ms w(ho:old.length<=1048576)(hn:new.length<=1048576)(hold:bX w b old)(j:mW w b)(l:bX w d new)(k:mW w d)(i:cX w A ms)(hv:ms.length<=20)(h:∀m∈ms,m.data.length<=140737488355328):
 aD aw 26 #[ae b old.length bZ,ae d new.length c1,ae A ms.length c] w λe w'=>∃f g t,e=aB (eB (old.length:Int) (new.length:Int) (e9 old) (e9 new) (ae f ms.length g))/\cf w w' t/\gM t f g ms:=by
 have o:=hid i;have s:=hid hold;have q:=hid j;have r:=hid l;have p:=hid k;have x:=hid hv;have n:=hid h;clear i hold j l k h hv;go_enter func26,ntmps26;have a:=bc w;go_step;refine ah ?_;refine bA a (a7 0 0 dS.zero dS.zero (ae af 0 0)) (λD w1 a=>?_);refine ah ?_;refine v5 ?_;refine fC a #[ae b old.length bZ] 22 (λB E a=>?_);refine bH (TP _ b bZ old _ 22 ad (a.aX 0) (s.out.aG a.only) (q.out.aG a.only)) a (λF a=>?_);refine ag ?_;refine fC a #[ae d new.length c1] 22 (λC G a=>?_);refine bH (TP _ d c1 new _ 22 ad (a.aX 0) (r.out.aG a.only) (p.out.aG a.only)) a (λH a=>?_);refine aI (av _) (alo aa aa aa aa aa) ?_;refine ag ?_;refine aP (Jq _ _ _ _ _ A c ms _ aa (o.out.aG a.only) (ea x bf) n) ?_;rintro e I ⟨aJ,c2,z,rfl,y,u⟩;replace a:=a.new _ y;refine aQ ?_;refine a' a 3 (av (a7 (old.length:Int) (new.length:Int) (e9 old) (e9 new) (ae aJ ms.length c2))) (λJ a=>?_) (hk:=by show 0+ja (a7 _ _ _ _ _)<=_;simp only[bW];decide) (hz:=by show _=ab (ja (a7 _ _ _ _ _));rw[bW];rfl) (h1:=(w2 aa)) (hc:=xt);refine an ?_;go_wp2_with fail;refine dp (v:=_) (jd aa _ _ _ _ _ _ _ aa (a.aX 3) J3 aa (by rw[bW];rfl)) aa (⟨aJ,c2,z,aa,a.fresh 0,u⟩)
section
def t'(bq:Int):List PanicEntry:=[{v:=u2 47 (J R bq),recovered:=ao}]
def rU(bq:Int)(v:aO):Ending:=if bq=0 then aB v else JR (t' bq)
def uj:bp:=⟨λ_=>False,λ_=>False,λ_ _ _ _ h=>h⟩
section
variable {P:ee} {ops:Array cU} {rest:List cU} {Q:Exit->Act->aM->Prop} {o:cU} {a:Act} {w:aM}
def TZ{f:FuncId}{args:Array aO}{b:aM->Prop}{ch:List rv}(hc:aD P f args w (λe w'=>e=JR ch/\b w'))(h:∀w',b w'->Q (tx ch) a w')(hr:(bt a.eval o).run P w=a6 (.enter f args) w:=by(go_simp;try with_reducible rfl))(c:c6 o (cZ ops a.tmps)=true:=by kernel_rfl):
 cL P ops Q (o::rest) a w:=by
 unfold cL;rw[if_pos c];refine bM ?_;unfold ih;rw[hr];exact JO hc (λe w' ⟨d,h1⟩=>aF)
def M8{t:TypeId}{u:aO}{x:Operand}(h:Q (tx [{v:=u2 t u,recovered:=ao}]) a w)(ho:o.op=.panic x:=by rfl)(hx:a.eval x=u2 t u:=by rfl)(b:c6 o (cZ ops a.tmps)=true:=by kernel_rfl):
 cL P ops Q (o::rest) a w:=by
 have hr:(bt a.eval o).run P w=.halt (.panic (u2 t u)) w:=by unfold bt;simp[ho,hx,run_panic_iface]
 unfold cL;rw[if_pos b];refine bM ?_;unfold ih;rw[hr];exact h
end
def Ge {P:ee} {ops:Array cU} {Q:Exit->Act->aM->Prop} {aq:aM} {FX:Nat->Prop} {bo:List bp} {f:Nat} {w:aM} {a0:Act} (QP:List rv->aM->Prop) (e:∀c a w,a.defers=a0.defers->QP c w->Q (tx c) a w) (b:ak aq FX w bo) (LE:List Nat) (bV:Nat->e7->aO) (out:(Nat->e7)->Nat->bp) (ins rd look:Nat->List Nat) (fin:List Nat)
 (h9:∀us,cM P ops Q (ox ops) LE bV aq FX bo out ins rd fin QP us 0 ops.toList a0)
 (hloc:BR look out LE:=by(repeat' (first|exact trivial|refine And.intro (λus g h=>?_) ?_|rfl|(simp(disch:=decide) only[h];done))))
 (hm:P.follows .mixedOrders=true:=by kernel_rfl) (hk:EA ops (ox ops) (yL ops)=true:=by kernel_rfl) (hsz:((dG ops.size).all λi=>match ox ops i with|some d=>decide (d<a0.tmps.size)|none=>LE.contains i)=true:=by kernel_rfl) (hs:FZ bo.length ops.size (yL ops) LE ins rd look fin=true:=by kernel_rfl):
 (Code.region f ops az).wp P Q a0 w:=wp_region_any hm (UH b (yL ops) (ox ops) LE bV out ins rd look fin _ hk hsz hs e (hloc.spec) h9)
section
variable {P:ee} {ops:Array cU} {rest:List cU} {Q:Exit->Act->aM->Prop} {o:cU} {a bx:Act} {aq:aM} {FX:Nat->Prop} {dst:Nat->Option Tmp} {LE:List Nat} {bV:Nat->e7->aO} {bo:List bp} {out:(Nat->e7)->Nat->bp} {ins rd:Nat->List Nat} {fin:List Nat} {QP:List rv->aM->Prop} {us:Nat->e7} {i:Nat}
def Ey {f:FuncId} {args:Array aO} (hc:∀w (Fr:List bp),ak aq FX w ((ins i).map (dk bo out us)++((rd i).map (dk bo out us)++Fr))->aD P f args w λe w'=>∃ch,e=JR ch/\QP ch w') (h:cM P ops Q dst LE bV aq FX bo out ins rd fin QP us (i+1) rest bx)
 (hr:∀w,(bt a.eval o).run P w=a6 (.enter f args) w:=by(intro _;go_simp;try with_reducible rfl)) (hi:decide (i∈LE)=true:=by kernel_rfl) (hw:c6 o (cZ ops a.tmps)=true:=by kernel_rfl) (ha:a.put o.dst (bV i (us i))=bx:=by((try simp only[Act.put,List.setIfInBounds_toArray,List.set_cons_zero,List.set_cons_succ]);rfl)):cM P ops Q dst LE bV aq FX bo out ins rd fin QP us i (o::rest) a:=by
 refine w5 (λw Fr b K d=>?_) h hi ha;rw[if_pos hw];unfold ih;rw[hr];exact JO (hc w Fr b) (λe w' ⟨ch,g,c⟩=>aF)
end
section
variable {hJ S pl jp:aO} {bd pk o n st nx:Int} {g h:dS} {bw:Bool}
def qP(S pl jp:aO)(st nx:Int)(bw:Bool):List Value:=[S,pl,jp,J R st,J R nx,ai bw]
def tV(hJ:aO)(bd pk o n:Int):List Value:=[hJ,J R bd,J R pk,J R o,J R n]
def gY(hJ:aO)(bd pk:Int)(o n:Int)(g h:dS)(S pl jp:aO)(st nx:Int)(bw:Bool):Array Value:=(tV hJ bd pk o n++((g.l.map bb++h.l.map bb)++qP S pl jp st nx bw)).toArray
theorem Ra(g h:dS):(g.l.map bb++h.l.map bb).length=64:=by simp[g.len,h.len]
def o4:(gY hJ bd pk o n g h S pl jp st nx bw).size=75:=by simp[gY,tV,qP,g.len,h.len]
def rL{j:Nat}{v}(hv:(tV hJ bd pk o n)[j]?=ab v):(gY hJ bd pk o n g h S pl jp st nx bw)[j]?=ab v:=by grind[gY]
def fj{j v}(hv:(qP S pl jp st nx bw)[j]?=ab v):(gY hJ bd pk o n g h S pl jp st nx bw)[69+j]?=ab v:=by rw[gY,zV,o0 (by show 5<=_;omega),show 69+j -(tV hJ bd pk o n).length=64+j by show 69+j -5=_;omega,o0 (by grind[Ra]),Ra,tS];exact hv
def akM{v}:lay (gY hJ bd pk o n g h S pl jp st nx bw) 2 [J R v]=gY hJ bd v o n g h S pl jp st nx bw:=aY
def Q'{j}{T:List aO}{v a d b i c f}(p:j<6)(m:(qP S pl jp st nx bw).take j++(v::(qP S pl jp st nx bw).drop (j+1))=qP a d b i c f):lay (gY hJ bd pk o n g h S pl jp st nx bw) (69+j) [v]=gY hJ bd pk o n g h a d b i c f:=by
 have e:=CS [v] (tV hJ bd pk o n++((g.l.map bb++h.l.map bb)++(qP S pl jp st nx bw).take j)) ((qP S pl jp st nx bw).drop j) (by show 1<=_;rw[List.length_drop];show 1<=6 -j;omega)
 have k:(tV hJ bd pk o n++((g.l.map bb++h.l.map bb)++(qP S pl jp st nx bw).take j)).length=69+j:=by rw[c',c',Ra,List.length_take];show 5+(64+fW j 6)=_;omega
 rw[k]at e;have h1:tV hJ bd pk o n++((g.l.map bb++h.l.map bb)++(qP S pl jp st nx bw).take j)++(qP S pl jp st nx bw).drop j=tV hJ bd pk o n++((g.l.map bb++h.l.map bb)++qP S pl jp st nx bw):=by grind[o1]
 grind[gY,List.drop_drop,List.length_singleton]
def K6{v}:lay (gY hJ bd pk o n g h S pl jp st nx bw) 72 [J R v]=gY hJ bd pk o n g h S pl jp v nx bw:=Q' (T:=[]) (j:=3) bf aa
def Ym{v}:lay (gY hJ bd pk o n g h S pl jp st nx bw) 73 [J R v]=gY hJ bd pk o n g h S pl jp st v bw:=Q' (T:=[]) (j:=4) bf aa
def Yn{v}:lay (gY hJ bd pk o n g h S pl jp st nx bw) 74 [ai v]=gY hJ bd pk o n g h S pl jp st nx v:=Q' (T:=[]) (j:=5) bf aa
def Lw{L A B C:List aO}(cz:L=A++(B++C)){k m}(a:A.length=k)(b:B.length=m):L.toArray.extract k (k+m)=B.toArray:=aF
def akL:(gY hJ bd pk o n g h S pl jp st nx bw).extract 3 (3+(a7 o n g h S).size)=a7 o n g h S:=by rw[bW];exact Lw (A:=[hJ,J R bd,J R pk]) (B:=_) (C:=[pl,jp,J R st,J R nx,ai bw]) (by simp[tV,qP]) aa (by simp[g.len,h.len])
def Yl:(gY hJ bd pk o n g h S pl jp st nx bw).extract 5 (5+(aZ bb g.l []).size)=aZ bb g.l []:=by
 have h1:(aZ bb g.l []).size=32:=by simp[aZ,g.len]
 rw[h1];exact Lw (A:=tV hJ bd pk o n) (B:=_) (C:=h.l.map bb++qP S pl jp st nx bw) a8 aa (by simp[g.len])
def Ho:(gY hJ bd pk o n g h S pl jp st nx bw).extract 37 (37+(aZ bb h.l []).size)=aZ bb h.l []:=by
 have h1:(aZ bb h.l []).size=32:=by simp[aZ,h.len]
 rw[h1];exact Lw (A:=tV hJ bd pk o n++g.l.map bb) (B:=_) (C:=qP S pl jp st nx bw) a8 (by simp[tV,g.len]) (by simp[h.len])
end
structure mu where
 B:Nat
 cV:Nat
 dm:Nat
 bd:Nat
 o:Nat
 n:Nat
 p:Nat
 c:Nat
 first:Nat
 id:Nat
 g1:dS
 g2:dS
 A:Option bQ
 ms:List bJ
def cv(E:mu)(pk st nx:Int)(bw:Bool):bp:=aj E.cV (gY (c0 E.B) (E.bd:Int) pk (E.o:Int) (E.n:Int) E.g1 E.g2 (ae E.A E.ms.length E.c) (ax (ab ⟨E.p,0,af⟩)) (ax (ab ⟨E.dm,0,af⟩)) st nx bw) 135
def cW(E:mu)(j:oX)(A:Option bQ)(c:Nat):bp:=qf E.dm E.B E.first E.bd (E.id:Int) j A c
end
def Jk w:
 aD aw 226 #[J R 0] w λe w'=>e=aB (bm #[])/\ar w w':=by
 go_enter Tryz.func226,Tryz.ntmps226;have a:=bc w;go_step;refine ah ?_;refine ag ?_;refine pk (ai ao) ?_;refine an ?_;go_wp2_with fail;first|go_end0|refine bodyPost_ret (results_none rfl _ _ _) rfl ?_
 exact⟨aa,a.only⟩
def Jj bq(h:bq≠0)w:
 aD aw 226 #[J R bq] w λe w'=>e=JR (t' bq)/\ar w w':=by
 go_enter Tryz.func226,Tryz.ntmps226;have a:=bc w;go_step;refine ah ?_;refine ag ?_;refine aI (ai az) (by(go_simp;try simp[h])) ?_;refine b' ?_;refine pk (u2 47 (J R bq)) ?_;refine M8 ?_;exact⟨aa,aa,a.only⟩
def aet E(pk st nx)bw m d(a q)(aq w)FX F(k:dv d)(l:d.down=ao)(n:a+q<=d.bytes.length)(b:ak aq FX w [cv E pk st nx bw,aL E.B m d,F]):
 aD aw 225 #[ax (ab ⟨E.cV,0,af⟩),gI ((a:Int),(q:Int))] w λe w'=>∃g h,e=aB (ae g q h)/\ak aq FX w' [cg g h (nY d a q),cv E (max pk (q:Int)) st nx bw,aL E.B m d,F]:=by
 have o:=hid k;have p:=hid l;have r:=hid n;clear k l n;go_enter func225,ntmps225;go_step;refine ah ?_;refine bG b (av #[J R (a:Int),J R (q:Int)]) (λx w1 b=>?_);refine iB ?_;refine bN b [5] (λi u=>match i with|5=>bm #[ae u.A q u.c,J R 0]|_=>a1) (λf=>λ|5=>cg ((f 5).A) ((f 5).c) (nY d a q)|_=>emp) (λ_=>[]) (λ|3=>[1]|4=>[0]|5=>[2]|_=>[]) (λ|5=>[5]|_=>[]) [0,1,2,3,9] (λf=>?_);refine da ?_;refine dl 0 0 ?_ (hv:=rL (j:=0) aa);refine eI 0 #[J R (a:Int),J R (q:Int)] ?_;refine du (λt Fr b=>(ZU E.B m d a q t (b.has 0) o p r).mono ?_) ?_;·rintro e G ⟨g,h,rfl,s⟩;exact⟨{A:=g,c:=h},aa,b.new _ s⟩
 refine oO ?_;refine bU λz b=>?_;generalize (f 5).A=v at b⊢;generalize (f 5).c=y at b⊢;refine b' ?_;refine bH (Jk _) b (λC b=>?_);refine n3 ?_;refine pl b 1 2 ?_ (hv:=rL (j:=2) aa);refine v2 ?_;refine aI _ (by(go_simp;try rfl)) ?_;refine v2 ?_;refine a' b 1 (J R (max pk (q:Int))) (λD b=>?_) (hk:=by show _+1<=_;rw[o4];decide) (hc:=akM);refine ah ?_;refine dZ ?_;go_wp2_with fail;go_ret;exact⟨_,_,aa,b.pick [4,1,2,3]⟩
def T2{s}(d:1<=s):∀{f o n x},x∈oL s f o n->∃a q:Nat,x=((a:Int),(q:Int))/\o<=a/\1<=q/\q<=s/\a+q<=o+n
 |0,_,_,_,h=>(fQ h).elim
 |f+1,o,n,x,h=>by
  rw[oL]at h;split at h;·exact(fQ h).elim
  .rcases gF.1 h with rfl|h;·exact⟨o,fW s n,aa,ad,ad,ad,ad⟩
   .obtain⟨a,q,e,h1,b,c,g⟩:=T2 d h;exact⟨a,q,e,ad,b,c,ad⟩
def ik(d:dn)(l:List (Int×Int)):List Int:=l.flatMap (λx=>nY d x.1.toNat x.2.toNat)
def lx(pk:Int)(l:List (Int×Int)):Int:=l.foldl (λk x=>max k x.2) pk
theorem anU d l x:ik d (l++[x])=ik d l++nY d x.1.toNat x.2.toNat:=by simp[ik]
theorem anW pk l x:lx pk (l++[x])=max (lx pk l) x.2:=by simp[lx]
def HF{d}(a:dv d){s}(b:1<=s):∀(f o n),o+n<=d.bytes.length->(ik d (oL s f o n)).length<=n
 |0,_,_,_=>by simp[oL,ik]
 |f+1,o,n,h=>by
  rw[oL];split;·simp[ik]
  .have c:=HF a b f (o+fW s n) (n -fW s n) ad;have e:ik d (((o:Int),((fW s n:Nat):Int))::oL s f (o+fW s n) (n -fW s n))=nY d o (fW s n)++ik d (oL s f (o+fW s n) (n -fW s n)):=rfl;rw[e,c',xI a ad];omega
def anV d l j:(ik d (l.take j)).length<=(ik d l).length:=by grind[ik,o1]
def avS{a:Type}{l:List a}{j x}(h:l[j]?=ab x):l.take (j+1)=l.take j++[x]:=by grind[gg]
theorem anK l:(o7 l).length=l.length*2:=by
 induction l with
 |nil=>rfl
 |cons x l a=>grind[o7]
def anJ{l j x}(hx:l[j]?=ab x):∀(i) v,([J R x.1,J R x.2]:List aO)[i]?=ab v->(o7 l)[j*2+i]?=ab v:=λi v hv=>by
 obtain⟨a,rfl⟩:=List.getElem?_eq_some_iff.1 hx;have e:o7 l=o7 (l.take j)++([J R l[j].1,J R l[j].2]++o7 (l.drop (j+1))):=by grind[List.drop_eq_getElem_cons,o1,o7]
 grind[anK,tS]
def anX E(pk st nx)bw m d(a q n)r msg(aq w)FX F(C:dv d)(Z:d.down=ao)(H:a+q<=d.bytes.length)(jx:1<=E.bd)(hb2:E.bd<=65536)(hq:a+q<=1048576)(G:msg.length<=1099511627776)(f:ak aq FX w [cv E pk st nx bw,iy n r msg,aL E.B m d,F]):
 aD aw 224 #[ax (ab ⟨E.cV,0,af⟩),ax (ab ⟨n,0,af⟩),gI ((a:Int),(q:Int))] w λe w'=>e=aB (bm #[])/\∃Gk,ak aq FX w' [cv E (lx pk (hB E.bd a q)) st nx bw,iy n Gk (msg++ik d (hB E.bd a q)),aL E.B m d,F]:=by
 have Q:=hid C;have l3:=hid Z;have S:=hid H;obtain⟨l,o⟩:=ex (hB E.bd a q);have zM:=hid (λ(x:Int×Int) (h:x∈l)=>by rw[<-o]at h;exact T2 (s:=_) jx h);have ir:(ik d l).length<=q:=by rw[<-o];exact HF C jx q a q H
 have gl:l.length<=1048576:=by rw[<-o];have h:=T0 E.bd jx q a q (b4 _);have h2:(q+E.bd -1)/E.bd<=q:=(by rw[aki ad];have:=o2 q jx;omega);unfold hB;omega
 have U:=hid (λW=>avA a q E.bd ⟨ad,ad⟩ ad (by have h2:(q+E.bd -1)/E.bd<=q:=(by rw[aki ad];have:=o2 q jx;omega);omega) W);rw[o]at U⊢;have lq:=hid ir;have PT:=hid (show d.bytes.length<=d.bytes.length from b4 _);clear C Z H o ir PT;go_enter func224,ntmps224;go_step;refine ah ?_;refine bG f (av #[J R (a:Int),J R (q:Int)]) (λeg w1 f=>?_);refine cx ?_;refine bN f [5] (λi u=>match i with|5=>ae u.A l.length u.c|_=>a1) (λp=>λ|5=>bk ((p 5).A) l.length ((p 5).c) 35 2 (o7 l)|_=>emp) (λ_=>[]) (λ|0=>[0]|4=>[1]|_=>[]) (λ|5=>[5]|_=>[]) [0,1,2,3,4,10] (λp=>?_);refine eI 0 #[J R (a:Int),J R (q:Int)] ?_;refine da ?_;refine dl 0 1 ?_ (hv:=rL (j:=1) aa);refine du (λwl Fr f=>(U _).mono ?_) ?_;·rintro e dA ⟨aA,aC,rfl,fo,g⟩;exact⟨{A:=aA,c:=aC},aa,f.k9 g fo⟩
 refine bF ?_;refine bU λaW f=>?_;generalize (p 5).A=L at f⊢;generalize (p 5).c=V at f⊢;have T:=f.pk [1,2,3,5,4];go_wp2_with fail;go_loopw [15] (λK wr=>∃(j:Nat) (r:Option bQ),j<=l.length/\K=J R (j:Int)/\ak aq FX wr [cv E (lx pk (l.take j)) st nx bw,iy n r (msg++ik d (l.take j)),aL E.B m d,bk L l.length V 35 2 (o7 l),F]) (λK wr=>l.length -(cy K).toNat);case atStart=>exact⟨0,r,cF _,aa,by rw[show msg++ik d _=msg from by simp[ik]];exact T⟩
 case round=>
  clear f T;obtain⟨j,Oy,hj,rfl,f⟩:=hrel;by_cases hlt:j<l.length
  .have cN:(j:Int)<(l.length:Int):=ad;obtain⟨x,hx⟩:∃x,l[j]?=ab x:=⟨_,cC hlt⟩;obtain⟨k,fD,rfl,oE,oF,CK,abR⟩:=zM x (cY hx);obtain⟨z,Y⟩:=(f.atR 3).at ad;have tM:=hid (anJ hx);have vN:=avS hx;have ai3:aE (lx pk (l.take (j+1))=max (lx pk (l.take j)) (fD:Int)):=hid (by grind[anW]);have D:ik d (l.take (j+1))=ik d (l.take j)++nY d k fD:=by grind[anU]
   have j':=anV d l (j+1);rw[D,c']at j';have zI:=hid D;have N:=hid Y;obtain⟨AW,I⟩:=ex (lx pk (l.take j));obtain⟨adi,y⟩:=ex (msg++ik d (l.take j));have G:adi.length+(nY d k fD).length<=70368744177664:=by rw[<-y,c'];have:=lq.out;omega
   obtain⟨bs,t⟩:=ex (nY d k fD);have hbl:bs.length=fD:=by rw[<-t];exact xI Q (by have:=S.out;omega)
   rw[I,y]at f;rw[t]at G;have sF:=hid I;have nG:=hid y;have P:=hid t;have ll:=hid hbl;clear hx Y vN D j' I y t hbl;go_step;refine ah ?_;refine en ?_;refine aI (ax (ab ⟨z,(0+j*2),af⟩)) (cq 176 35 2 (bj 13) (bj 15) aa underlying176 ay z 0 (l.length) V j ((0+j*2)) (by show ae L _ _=_;rw[N]) aa hlt aa) ?_;refine aI _ (eC 35 (bj 17) aa z (0+j*2) aa _ (Row.range (f.atR 3) N (λi v hi=>by rw[jt];exact tM i v hi)) Tryz.underlying35 aa ay) ?_;refine bA f #[J R 0,J R 0] (λgn bI f=>?_);refine a' f 0 (av #[J R (k:Int),J R (fD:Int)]) (λcc f=>?_);refine hE ?_;refine bh f 0 #[J R (k:Int),J R (fD:Int)] ?_;have O:=(f.pk [1,3,0,2,4,5]).t2;refine aP (aet E _ st nx bw m d k fD _ _ _ _ Q l3 (by have:=S.out;omega) O) ?_;rintro e cJ ⟨M,X,rfl,f⟩;clear O;rw[P]at f;replace f:=f.lh;refine aQ ?_;refine fC f #[ae M fD X] 22 (λaxO c5 f=>?_);refine aP ((by have h:=UM n _ 0 1 Oy M X adi bs _ G (f.has 5) (by rw[ll.out];exact(f.aX 0).cell 0 aa) (f.kK 1).1 (λb hb=>f.ne (i:=1) (j:=5) aa aa bf b hb);exact h)) ?_;rintro e dK ⟨axz,rfl,bL⟩;replace f:=f.ek 5 bL;refine aQ ?_;refine ah ?_;refine pad (j:Int) 1 ((j+1:Nat):Int) ?_;refine bP ?_;go_wp2_with fail;go_roundw;case rel=>exact⟨j+1,_,ad,aa,by rw[ai3.out,zI.out,sF.out,<-j0,nG.out,P.out];exact f.pick [2,5,3,6,7]⟩
   case measure=>simp[cy]<;>omega
  .have cN:¬(j:Int)<(l.length:Int):=ad;have s3:l.take j=l:=tQ ad;rw[s3]at f;go_step;refine ah ?_;refine bP ?_;go_wp2_with fail;first|go_end0|refine bodyPost_ret (results_none rfl _ _ _) rfl ?_
   exact⟨aa,_,f.pick [0,1,2,4]⟩
def jH(d:dn)(a:Nat)(bs:List Int):Int×dn:=if(ly d a bs).1≠0 then ly d a bs else k1 (ly d a bs).2
def ui{bq}(h:bq≠0)v:rU bq v=JR (t' bq):=if_neg h
def ZZ E(pk st nx)bw m d a c dB bs(aq w)FX F(t:dv d)(v:d.down=ao)(x:a+bs.length<=d.bytes.length)(s:d.cache.length<=1000000000)(b:ak aq FX w [cv E pk st nx bw,cg c dB bs,aL E.B m d,F]):
 aD aw 228 #[ax (ab ⟨E.cV,0,af⟩),J R (a:Int),ae c bs.length dB] w λe w'=>e=rU (jH d a bs).1 (bm #[])/\∃k,ak aq FX w' [cv E pk st nx bw,cg c dB bs,aL E.B k (jH d a bs).2,F]:=by
 have K:=hid t;have L:=hid v;have M:=hid x;have I:=hid s;have z:=ZW t x v s;obtain⟨c1,hc1⟩:=ex ((ly d a bs).1);obtain⟨g,u⟩:=ex ((ly d a bs).2);have hfw:ly d a bs=(c1,g):=aF;rw[u]at z;have N:=hid z
 have o:aE (∀W p,Has W (aL E.B m d)->aU W p #[ae c bs.length dB] 22->bX W c bs->¬(aL E.B m d).cR p->(∀y,eb c y->¬(aL E.B m d).cR y)->aD aw 291 #[c0 E.B,J R (a:Int),ae (ab ⟨p,0,af⟩) 1 1] W λe w'=>e=aB (J R c1)/\∃k,Turned W w' (aL E.B m d) (aL E.B k g)):=hid (λW p h P hb h1 O=>by have q:=Z0 E.B m d a p c dB bs W h K L M I (P.cell 0 aa) h1 hb O;rw[hc1,u]at q;exact q);have n:=hid hfw;clear t v x s z hc1 u hfw;by_cases hz:c1=0
 .subst hz;have hwr:jH d a bs=k1 g:=by unfold jH;rw[n];rfl
  rw[hwr];have l:=hid (λm W h=>Zm E.B m g W h N);obtain⟨c2,hc2⟩:=ex ((k1 g).1);obtain⟨Q,G⟩:=ex ((k1 g).2);rw[hc2,G]at l⊢;clear hwr hc2 G;by_cases hz2:c2=0
  .subst hz2;go_enter Vz,V2;go_step;refine ah ?_;refine v3 ?_;refine pl b 0 0 ?_ (hv:=rL (j:=0) aa);refine v2 ?_;refine fC b #[ae c bs.length dB] 22 (λD w1 b=>?_);refine aP (o _ _ (b.has 3) (b.aX 0) (b.kK 2).1 (λh=>b.ne (i:=0) (j:=3) aa aa bf _ aa h) (b.ne (i:=2) (j:=3) aa aa bf)) ?_;rintro e U ⟨rfl,A,f⟩;replace b:=b.ek 3 f;refine aQ ?_;refine bH (Jk _) b (λV b=>?_);refine jz ?_;refine pl b 1 0 ?_ (hv:=rL (j:=0) aa);refine aP (l _ _ (b.has 3)) ?_;rintro e X ⟨rfl,C,f⟩;replace b:=b.ek 3 f;refine aQ ?_;refine bH (Jk _) b (λY b=>?_);refine an ?_;go_wp2_with fail;first|go_end0|refine bodyPost_ret (results_none rfl _ _ _) rfl ?_
   exact⟨aa,C,b.pick [1,2,3,4]⟩
  .rw[ui hz2];go_enter Vz,V2;go_step;refine ah ?_;refine v3 ?_;refine pl b 0 0 ?_ (hv:=rL (j:=0) aa);refine v2 ?_;refine fC b #[ae c bs.length dB] 22 (λD Z b=>?_);refine aP (o _ _ (b.has 3) (b.aX 0) (b.kK 2).1 (λh=>b.ne (i:=0) (j:=3) aa aa bf _ aa h) (b.ne (i:=2) (j:=3) aa aa bf)) ?_;rintro e dK ⟨rfl,A,f⟩;replace b:=b.ek 3 f;refine aQ ?_;refine bH (Jk _) b (λdz b=>?_);refine jz ?_;refine pl b 1 0 ?_ (hv:=rL (j:=0) aa);refine aP (l _ _ (b.has 3)) ?_;rintro e H ⟨rfl,C,f⟩;replace b:=b.ek 3 f;refine aQ ?_;refine TZ (Jj c2 hz2 _) (λH r=>?_);replace b:=b.aG r;exact⟨aa,aa,C,b.pick [1,2,3,4]⟩
 .have hwr:jH d a bs=(c1,g):=by unfold jH;rw[if_pos (by rw[n];exact hz),n]
  rw[hwr];show aD _ _ _ _ λe w'=>e=rU c1 _/\∃k,ak _ _ w' [_,_,aL E.B k g,_];rw[ui hz];go_enter Vz,V2;go_step;refine ah ?_;refine v3 ?_;refine pl b 0 0 ?_ (hv:=rL (j:=0) aa);refine v2 ?_;refine fC b #[ae c bs.length dB] 22 (λD S b=>?_);refine aP (o _ _ (b.has 3) (b.aX 0) (b.kK 2).1 (λh=>b.ne (i:=0) (j:=3) aa aa bf _ aa h) (b.ne (i:=2) (j:=3) aa aa bf)) ?_;rintro e T ⟨rfl,A,f⟩;replace b:=b.ek 3 f;refine aQ ?_;refine TZ (Jj c1 hz _) (λH r=>?_);replace b:=b.aG r;exact⟨aa,aa,A,b.pick [1,2,3,4]⟩
def Q8 E(pk st)(nx:Nat)bw(m:nz)(d:dn)(aq w)FX F(hn:nx<=1048576)(a:ak aq FX w [cv E pk st (nx:Int) bw,F]):
 aD aw 229 #[ax (ab ⟨E.cV,0,af⟩)] w λe w'=>e=aB (bm #[])/\ak aq FX w' [cv E pk 1 ((nx+1:Nat):Int) ao,F]:=by
 go_enter func229,ntmps229;go_step;refine ah ?_;refine v4 ?_;refine a' a 0 (J R 1) (λw1 a=>?_) (hk:=by show _+1<=_;rw[o4];decide) (hc:=K6);refine v2 ?_;refine a' a 0 (ai ao) (λb a=>?_) (hk:=by show _+1<=_;rw[o4];decide) (hc:=Yn);refine jz ?_;refine pl a 0 73 ?_ (hv:=fj (j:=4) aa);refine pad _ 1 ((nx+1:Nat):Int) ?_;refine v2 ?_;refine a' a 0 (J R ((nx+1:Nat):Int)) (λc a=>?_) (hk:=by show _+1<=_;rw[o4];decide) (hc:=Ym);refine an ?_;go_wp2_with fail;first|go_end0|refine bodyPost_ret (results_none rfl _ _ _) rfl ?_
 exact⟨aa,a⟩
def aqS E (nx cu of k:Nat) j o p m d f dB ds (aq w) FX F (A:j.next=(nx:Int)) (q:jg d E.first E.bd) (v:d.down=ao) (z:d.cache.length<=1000000000) (x:ds.length<=E.bd) (t:nx<18446744073709551616/\E.id<18446744073709551616/\cu<=4611686018427387903/\of<=4611686018427387903)
 (I:ak aq FX w [cW E j o p,aL E.B m d,cg f dB ds,aj k #[ae f ds.length dB] 22,F]):
 aD aw 227 #[ax (ab ⟨E.dm,0,af⟩),J R (cu:Int),J R (of:Int),ae (ab ⟨k,0,af⟩) 1 1] w λe w'=>∃c l n,e=aB (J R (jh d E.first E.bd E.id j nx cu of ds).1)/\ak aq FX w' [cW E (jh d E.first E.bd E.id j nx cu of ds).2.1 c l,aL E.B n (jh d E.first E.bd E.id j nx cu of ds).2.2,cg f dB ds,aj k #[ae f ds.length dB] 22,F]:=by
 have a:=I.star;have h1:=q.eV;refine(acL E.dm E.B E.first E.bd E.id nx cu of j o p m d ds _ w (a.has 0) A q v z x t (λW g=>?_)).mono λe w' ⟨y,c,l,n,u⟩=>⟨c,l,n,y,ak.fi (a.Dg 0 aa u)⟩;have C:=(a.aX 2).cell 0 aa;have hb:=(a.kK 1).1;exact(Hw k f dB ds W (g.cell C (λh=>a.ne (i:=2) (j:=0) aa aa bf k aa h)) (hb.only g (λb off e=>a.ne (i:=1) (j:=0) aa aa bf b ⟨_,_,e⟩)) ad).mono (λe w' ⟨c,l,h1,r,s⟩=>⟨c,l,h1,Row.nZ r,s⟩)
def aqR E (nx cu of:Nat) j f i m d (aq w) FX F (t:j.next=(nx:Int)) (s:jg d E.first E.bd) (p:d.down=ao) (r:d.cache.length<=1000000000) (n:nx<18446744073709551616/\E.id<18446744073709551616/\cu<=4611686018427387903/\of<=4611686018427387903)
 (I:ak aq FX w [cW E j f i,aL E.B m d,F]):
 aD aw 227 #[ax (ab ⟨E.dm,0,af⟩),J R (cu:Int),J R (of:Int),ae af 0 0] w λe w'=>∃a b c,e=aB (J R (jh d E.first E.bd E.id j nx cu of []).1)/\ak aq FX w' [cW E (jh d E.first E.bd E.id j nx cu of []).2.1 a b,aL E.B c (jh d E.first E.bd E.id j nx cu of []).2.2,F]:=by
 have h:=I.star;exact(acL _ _ _ _ _ nx cu of j f i m d [] _ w (h.has 0) t s p r (cF _) n (λW g=>(al9 W).mono (λe w' ⟨a,b,h1,k,l⟩=>⟨a,b,h1,Row.nZ k,l⟩))).mono λe w' ⟨q,a,b,c,o⟩=>⟨a,b,c,q,ak.fi (h.Dg 0 aa o)⟩
def at7 E(pk st)(nx:Nat)bw m d a j i k(aq w)FX F(u:dv d)(x:d.down=ao)(y:a+j.last.data.length<=d.bytes.length)(s:d.cache.length<=1000000000)(U:nx<=1048576)(hh:j.has=az)(L:j.last.off=(a:Int))(K:j.last.data.length<=140737488355328)(b:ak aq FX w [cv E pk st (nx:Int) bw,cW E j i k,aL E.B m d,F]):
 aD aw 144 #[ax (ab ⟨E.cV,0,af⟩)] w λe w'=>e=rU (jH d a j.last.data).1 (bm #[])/\((jH d a j.last.data).1=0->∃c,ak aq FX w' [cv E pk 1 ((nx+1:Nat):Int) ao,cW E j i k,aL E.B c (jH d a j.last.data).2,F])/\((jH d a j.last.data).1≠0->∃c,ak aq FX w' [cv E pk st (nx:Int) bw,cW E j i k,aL E.B c (jH d a j.last.data).2,F]):=by
 have Q:=hid u;have S:=hid x;have T:=hid y;have P:=hid s;have D:aE (∀W,Has W (cW E j i k)->aD aw 58 #[ax (ab ⟨E.dm,0,af⟩)] W λe w'=>∃A I,e=aB (bm #[av (recC j.last A I),ai az])/\cf W w' (cg A I j.last.data)):=hid (λW h=>by have q:=Tk E.dm E.B E.first E.bd (E.id:Int) j i k W h K;rw[hh]at q;exact q);obtain⟨bq,r⟩:=ex ((jH d a j.last.data).1);obtain⟨n,v⟩:=ex ((jH d a j.last.data).2);have H:aE (∀W l dB F m,ak aq FX W [cv E pk st (nx:Int) bw,cg l dB j.last.data,aL E.B m d,F]->aD aw 228 #[ax (ab ⟨E.cV,0,af⟩),J R (a:Int),ae l j.last.data.length dB] W λe w'=>e=rU bq (bm #[])/\∃c,ak aq FX w' [cv E pk st (nx:Int) bw,cg l dB j.last.data,aL E.B c n,F]):=hid (λW l dB F m h=>by have q:=ZZ E pk st nx bw m d a l dB j.last.data aq W FX F u x y s h;rw[r,v]at q;exact q);rw[r,v];have G:=hid L;clear u x y s hh r v K L;by_cases hz:bq=0
 .subst hz;go_enter Tryz.func144,Tryz.ntmps144;go_step;refine ah ?_;refine v3 ?_;refine pl b 0 71 ?_ (hv:=fj (j:=2) aa);refine aP (D _ (b.has 1)) ?_;rintro e w1 ⟨f,g,rfl,p⟩;replace b:=b.new _ p;refine aQ ?_;refine v3 ?_;refine bA b #[J aH 0,J aH 0,J R 0,J R 0,ae af 0 0] (λM X b=>?_);refine a' b 0 (av #[J aH j.last.seq,J aH j.last.id,J R j.last.cur,J R j.last.off,ae f j.last.data.length g]) (λY b=>?_);refine iB ?_;refine bN b [7] (λ_ _=>a1) (λo=>λ|7=>aL E.B (o 7).m n|_=>emp) (λ|7=>[4]|_=>[]) (λ|4=>[0]|6=>[0]|7=>[2,1]|_=>[]) (λ|7=>[7]|_=>[]) [0,1,2,3,5,13] (λo=>?_);refine hD ?_;refine aN (J _ (a:Int)) (λ_ _ b=>by(rw[<-G.out];exact fw aa aa (b.aX 0) aa ay)) ?_;refine aK ?_;refine dl 0 4 ?_;refine du (λz Fr b=>((H z f g (bK Fr) m (b.t3.pick [1,2,0,3]))).mono ?_) ?_;·rintro e dA ⟨rfl,c,b⟩;exact⟨{m:=c},aa,ak.iz [aL _ c n,cv E pk st _ bw,cg f g _] Fr (b.pick [2,0,1,3])⟩
  refine bU λZ b=>?_;generalize (o 7).m=V at b⊢;refine ah ?_;refine ag ?_;have C:=(b.pk [2,0,1,3,4,5]).t1;refine aP (Q8 E pk st nx bw m d _ _ _ _ ad C) ?_;rintro e cJ ⟨rfl,b⟩;clear C;replace b:=b.df;refine Be ?_;go_wp2_with fail;first|go_end0|refine bodyPost_ret (results_none rfl _ _ _) rfl ?_
  exact⟨rfl,λ_=>⟨_,b.pick [0,3,5,4]⟩,λh=>(h aa).elim⟩
 .have hz':=hz;go_enter Tryz.func144,Tryz.ntmps144;go_step;refine ah ?_;refine v3 ?_;refine pl b 0 71 ?_ (hv:=fj (j:=2) aa);refine aP (D _ (b.has 1)) ?_;rintro e c5 ⟨f,g,rfl,p⟩;replace b:=b.new _ p;refine aQ ?_;refine v3 ?_;refine bA b #[J aH 0,J aH 0,J R 0,J R 0,ae af 0 0] (λM dK b=>?_);refine a' b 0 (av #[J aH j.last.seq,J aH j.last.id,J R j.last.cur,J R j.last.off,ae f j.last.data.length g]) (λdz b=>?_);refine iB ?_;refine Ge (λch w'=>ch=t' bq/\∃c Fr,ak aq FX w' ([cv E pk st (nx:Int) bw,cg f g j.last.data,aL E.B c n,cW E j i k,F]++Fr)) (λch a w' had O=>by obtain⟨rfl,c,Fr,b⟩:=O;exact⟨had,(ui hz _).symm,λh=>(hz h).elim,λ_=>⟨c,(ak.tail _ Fr b).pick [0,3,2,4]⟩⟩) b [7] (λ_ _=>a1) (λ_=>λ|7=>uj|_=>emp) (λ_=>[]) (λ|4=>[0]|6=>[0]|7=>[2,1,4,3,5]|_=>[]) (λ_=>[]) [0,1,2,3,4,5,13] (λo=>?_);refine hD ?_;refine aN (J _ (a:Int)) (λ_ _ b=>by(rw[<-G.out];exact fw aa aa (b.aX 0) aa ay)) ?_;refine aK ?_;refine dl 0 4 ?_;refine Ey (λz Fr b=>(H z f g _ m (ak.tail [cv E pk st (nx:Int) bw,cg f g j.last.data,aL E.B m d] _ b)).mono λe w' ⟨N,c,b⟩=>⟨_,N.trans (ui hz _),aa,c,Fr,ak.iz [cv E pk st (nx:Int) bw,cg f g j.last.data,aL E.B c n] ([cW E j i k,F]++Fr) b⟩) ?_;refine pv (λeY b=>?_);exact(b.at (t:=uj) 6).elim
structure kk (d bD:dn):Prop where
 ok:dv bD
 size:bD.size=d.size
 cnt:bD.cnt=d.cnt
theorem kk.refl{d}(h:dv d):kk d d:=⟨h,aa,aa⟩
theorem kk.trans{d bD a}(h:kk d bD)(k:kk bD a):kk d a:=⟨k.ok,k.size.trans h.size,k.cnt.trans h.cnt⟩
def kk.len{d bD}(h:kk d bD)(a:dv d):bD.bytes.length=d.bytes.length:=by rw[h.ok.len,a.len,h.size,h.cnt]
def awR d i b:(jr d i b).2.size=d.size/\(jr d i b).2.cnt=d.cnt:=by
 unfold jr;split;·simp
 .split;·simp
  .split;·exact⟨aa,aa⟩
   .split<;>exact⟨aa,aa⟩
def aeh(d:dn)(o n):(mm d.size o n).length<=o+n+1:=by
 rw[mm,gV,BO];unfold dY;split;·omega
 .exact Nat.succ_le_succ (ea (Nat.sub_le _ _) (ea (Nat.div_le_self _ _) ad))
def ZV{d o bs}(a:dv d)(hn:o+bs.length<=d.bytes.length)(f:d.down=ao)(i:d.cache.length<=1000000000):
 kk d (ly d o bs).2/\((ly d o bs).1=0->(ly d o bs).2.down=ao/\(ly d o bs).2.cache.length<=d.cache.length+(o+bs.length+1)):=by
 have hsm:d.bytes.length<=1048576:=by rw[a.len];exact a.small
 have j:=aeh d o bs.length
 have key:∀(l:List (Nat×Nat×Nat)) (k:Nat) (bD:dn),BX d bD k->d.cache.length+k+l.length<1073741824->kk d (l.foldl (lg o bs) (0,bD)).2/\((l.foldl (lg o bs) (0,bD)).1=0->(l.foldl (lg o bs) (0,bD)).2.down=ao/\(l.foldl (lg o bs) (0,bD)).2.cache.length<=d.cache.length+(k+l.length)):=by
  intro l;induction l with
  |nil=>intro k bD h _;exact⟨⟨h.ok,h.size,h.cnt⟩,λ_=>⟨h.down,h.dI⟩⟩
  |cons x l m=>
   intro k bD h hk;rw[js]at hk;rw[List.foldl_cons];by_cases hx:(lg o bs (0,bD) x).1=0;·have g:=h.step ad hx;grind
   .rw[NP l _ hx];refine⟨?_,λh=>absurd h hx⟩;have e:lg o bs (0,bD) x=jr bD (x.1:Int) (gv (jo bD x.1) (x.2.1 -x.1*bD.size) ((bs.drop (x.2.1 -o)).take x.2.2)):=aY;rw[e];have c:=awR bD (x.1:Int) (gv (jo bD x.1) (x.2.1 -x.1*bD.size) ((bs.drop (x.2.1 -o)).take x.2.2));exact⟨UL h.ok _ _ (by have:=h.dI;omega),c.1.trans h.size,c.2.trans h.cnt⟩
 have h:=key (mm d.size o bs.length) 0 d ⟨a,aa,aa,f,b4 _⟩ ad;exact⟨h.1,λb=>⟨(h.2 b).1,ea (h.2 b).2 ad⟩⟩
def ZS{d}(e:dv d):kk d (k1 d).2/\((k1 d).1=0->(k1 d).2.down=ao/\(k1 d).2.cache=[]):=by
 unfold k1;by_cases h:jw d 0≠0;·grind[kk.refl]
 .rw[if_neg h];have a:=M' e (λ_=>az);refine⟨⟨⟨a.kz,a.sS,a.len,a.small,a.cache,a.dI,a.wr⟩,rfl,rfl⟩,λ_=>⟨?_,aa⟩⟩;have b:=DA h;unfold jw at b;split at b;·omega
  .rename_i c;show d.down=ao;simpa using c
def af6{d o bs}(b:dv d)(hn:o+bs.length<=d.bytes.length)(c:d.down=ao)(e:d.cache.length<=1000000000):
 kk d (jH d o bs).2/\((jH d o bs).1=0->(jH d o bs).2.down=ao/\(jH d o bs).2.cache=[]):=by
 have h1:=ZV b hn c e;unfold jH;by_cases h:(ly d o bs).1≠0;·grind
 .rw[if_neg h];have a:=ZS h1.1.ok;exact⟨h1.1.trans a.1,a.2⟩
def Tl{d first bd}(a:jg d first bd):44+bd<=vS d bd:=by have h:=Nat.lt_mul_div_succ (bd+43) (show 0<d.size from a.dev.kz);unfold vS iZ;rw[Nat.mul_comm];omega
theorem Rb{d first bd id nx cu of j ds}(c:jg d first bd)(f:d.down=ao)(g:d.cache.length<=1000000000)(k:ds.length<=bd):
 kk d (jh d first bd id j nx cu of ds).2.2/\((jh d first bd id j nx cu of ds).1=0->(jh d first bd id j nx cu of ds).2.2.down=ao/\(jh d first bd id j nx cu of ds).2.2.cache=[]/\(jh d first bd id j nx cu of ds).2.1=⟨aH.wrap ((nx:Int)+1),⟨(nx:Int),(id:Int),(cu:Int),(of:Int),ds⟩,az⟩)/\((jh d first bd id j nx cu of ds).1≠0->(jh d first bd id j nx cu of ds).2.1=j):=by
 have hb1:=c.eF
 have hroom:nj d first bd (nx%2)+(uh nx id cu of ds).length<=d.bytes.length:=by have h1:=c.room (i:=nx%2) ad;have a:44+bd<=vS d bd:=Tl c;rw[RP];omega
 have h1:=ZV c.dev hroom f g;unfold jh;by_cases h:(ly d (nj d first bd (nx%2)) (uh nx id cu of ds)).1≠0;·grind
 .simp only[if_neg h];have a:=ZS h1.1.ok;by_cases b:(k1 (ly d (nj d first bd (nx%2)) (uh nx id cu of ds)).2).1≠0;·simp only[if_pos b];exact⟨h1.1.trans a.1,λe=>absurd e b,λ_=>trivial⟩
  .simp only[if_neg b];exact⟨h1.1.trans a.1,λ_=>⟨(a.2 (DA b)).1,(a.2 (DA b)).2,trivial⟩,λe=>absurd aa e⟩
def jg.yN{d bD first bd}(h:jg d first bd)(e:kk d bD):jg bD first bd:=⟨e.ok,h.eF,h.eV,by rw[e.size,e.cnt];exact h.fits⟩
end Go.Proofs.YtcmhplknoglbkaaGreat
