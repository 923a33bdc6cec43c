/- Part 9 of the proof of TopConfinedSaid. -/
import Derived.Recover
import Derived.Test.YtcmhplknoglbkaaGreatQf0
import Derived.Test.YtcmhplknoglbkaaGreatQf3
import Derived.Test.YtcmhplknoglbkaaGreatQf5
import Derived.Test.YtcmhplknoglbkaaGreatQf8
set_option linter.all false
set_option maxRecDepth 100000
set_option maxHeartbeats 4000000
open Go.Proofs.Tryz
open Array renaming size->gB
open BitVec renaming ofInt->mM
open Bool renaming false->ao,false_and->ahP,true->az,true_and->Ks
open Decidable renaming of_not_not->x'
open Go renaming Addr->bT,Calls->aC,World->aP,bodyPost_ret->c8,execOp->bz,leaves_cons->PK,results_cell_row->gH,undef->a1,wpList_nil->an
open Go.Ending renaming returned->aB
open Go.Exit renaming thenS->ah3
open Go.IntKind renaming i64->R,u64->aF,u8->dR
open Go.IntWalk renaming u64_in->KG
open Go.Operand renaming tmp->bj
open Go.Proofs.Tryz renaming func142->VW,func62->Pn,ntmps59->WD,ntmps62->Pt,prog->ax,results223->ajX,underlying212->lF,underlying22->dK,underlying23->sW,underlying24->ey,underlying379->WU,underlying451->PA,underlying49->yh,underlying5->mr,underlying73->gi
open Go.Proofs renaming enters_of->lG
open Go.RowKit renaming Hid->aE,intOf->bR
open Go.Value renaming agg->ar,bool->ai,iface->ve,int->J,pointer->ay,slice->ae,tuple->bo
open Int renaming eq_ofNat_of_zero_le->wU,toNat_natCast->p3
open List renaming append_nil->kR,getElem?_eq_getElem->cF,getElem?_map->jU,length_append->db,length_map->hM,length_replicate->lI,length_set->t',map_append->fR,mem_cons_of_mem->p5,mem_cons_self->s',mem_of_getElem?->cW,nil_append->l0,replicate->ea,size_toArray->iY,take_add_one->gx
open Nat renaming le_refl->b7,le_trans->eb,zero_add->js,zero_le->cB
open Option renaming none->af,some->ab
open Prod.mk renaming injEq->pn
namespace Go.Proofs.YtcmhplknoglbkaaGreat
open Go.RowKit Go.MapKept
def sb(d:dF)(bd:Nat)(m:bO):List Int:=if m.k=1 then jN d (hY bd m.fr.toNat m.n.toNat)else m.data
def uW(d:dF)(bd:Nat)(l:List bO)(j:Nat):List Int:=(l.take j).flatMap (sb d bd)
def avd{d bd l j m}(h:l[j]?=ab m):uW d bd l (j+1)=uW d bd l j++sb d bd m:=by grind[uW,gx]
def AE(E:o9)(d:dF):Int:=
 if im (jN d (hY E.bd 0 E.o))=E.g1.l then(if im ((o7 E.ms).flatMap (sb d E.bd))=E.g2.l then 0 else 15)else 14
def HS{bd pk}(hb:1<=bd)(a q):lM pk (hY bd a q)<=max pk (bd:Int):=by
 have h:∀(l) z,(∀x∈l,x.2<=(bd:Int))->z<=max pk (bd:Int)->lM z l<=max pk (bd:Int):=by
  intro l;induction l with
  |nil=>intro z _ hz;exact hz
  |cons x l d=>
   intro z b hz;have h1:=b x (s' ..);exact d (max z _) (λy c=>b y (p5 _ c)) ad
 refine h _ _ (λx hx=>?_) ad;obtain⟨e,cI,rfl,_,_,f,_⟩:=Uf hb hx;show(cI:Int)<=_;omega
def Zy{d o n bd m}(b:dt d)(hb:1<=bd)(h:j3 o n m)(ho:o<=d.bytes.length)(hn:n<=d.bytes.length):(sb d bd m).length<=1048576:=by
 have c:=b.small;rw[<-b.len]at c;unfold sb;by_cases hk:m.k=1;·rw[if_pos hk];obtain⟨h1,a,_⟩:=h.1.copy hk;have e:=h.2.1 hk;exact eb (HR b hb _ _ _ ad) ad
 .rw[if_neg hk];have h1:=h.2.2;have a:=h.1.cm;unfold cD at h1 a;rw[if_neg hk]at h1 a;omega
def afg{d o n bd}(a:dt d)(hb:1<=bd)(ho:o<=d.bytes.length)(hn:n<=d.bytes.length):∀(l:List bO),(∀m∈l,j3 o n m)->(l.flatMap (sb d bd)).length<=l.length*1048576
 |[],_=>by simp
 |m::l,h=>by have h1:=Zy a hb (h m (s' ..)) ho hn;have b:=afg a hb ho hn l (λx hx=>h x (p5 _ hx));rw[List.flatMap_cons,db,List.length_cons,Nat.succ_mul];omega
def ap5{d o n m}(a:dt d)(h:j3 o n m)(hn:n<=d.bytes.length):m.data.length<=140737488355328:=by
 by_cases hk:m.k=1;·rw[(h.1.copy hk).2.2.2];exact cB _
 .have h1:=h.2.2;have c:=h.1.cm;have e:cD m=(m.data.length:Int):=if_neg hk;have b:=a.small;rw[<-a.len]at b;omega
def aoV E(y st nx)bE m d Y(aq w)FX F(hc:ie Y E.A E.c E.ms)(hv:r6 E.o E.n E.ms)(x:dt d)(cp:d.down=ao)(iK:1<=E.bd)(hb2:E.bd<=65536)(Da:E.o<=d.bytes.length)(k0:E.n<=d.bytes.length)(g:ak aq FX w [cJ E y st nx bE,aN E.B m d,Y,F]):
 aC ax 142 #[ay (ab ⟨E.di,0,af⟩)] w λe w'=>e=si (AE E d) (bo #[])/\∃gG,gG<=max y (E.bd:Int)/\ak aq FX w' [cJ E gG st nx bE,aN E.B m d,Y,F]:=by
 have r1:aE (∀W u F m t msg pk (a q),a+q<=d.bytes.length->msg.length<=1099511627776->ak aq FX W [cJ E pk st nx bE,iA t u msg,aN E.B m d,F]->aC _ 224 #[ay _,ay _,ar #[J R (a:Int),J R (q:Int)]] W λe w'=>∃Gu,e=aB _/\ak aq FX w' _):=hid (λW u F m t msg pk a q hn hl h=>aao E pk st nx bE m d a q t u msg aq W FX F x cp hn iK hb2 hl h);have cP:=hid hv;have c6:=hid hc;have aBA:=hv.dL;have fL:=UL E.ms;have hpl:=afg x iK Da k0 _ (λm v=>hv.fits m (Gf v));have Ac:aE (∀m∈o7 _,j3 _ _ m/\(sb d _ m).length<=1048576):=hid (λm v=>⟨hv.fits m (Gf v),Zy x iK (hv.fits m (Gf v)) Da k0⟩);have ei:=hid (λW h=>agr (E.o:Int) (E.n:Int) E.g1 E.g2 _ E.c _ W (hc.xR h) hv.dL (λm v=>ap5 x (hv.fits m v) k0));have gU:(jN d (hY E.bd 0 E.o)).length<=1048576:=by have h1:=HR x iK E.o 0 E.o ad;have V:=x.small;rw[<-x.len]at V;exact eb h1 ad
 obtain⟨ce,hce⟩:=ex (AE E d);rw[hce];unfold AE at hce;obtain⟨G,uC⟩:=ex (jN d (hY E.bd 0 E.o));rw[uC]at hce gU;have z':=hid uC;have M:=hid hce;have qU:=hid x;clear hce uC hc cp hv x;by_cases N:im G=E.g1.l
 .have vk:=hid N;have P:=M.out;rw[if_pos N]at P;have M:=hid P;clear N P;go_enter VW,Tryz.ntmps142;go_step;refine ah ?_;refine aR (A8 _) ?_;rintro e w1 ⟨t,rfl,H⟩;replace g:=g.new _ H;refine aT ?_;refine hI ?_;refine bN g [10] (λ_ _=>a1) (λr=>λ|10=>both (cJ E (lM y (hY E.bd 0 E.o)) st nx bE) (iA t (r 10).A ([]++jN d (hY E.bd 0 E.o)))|_=>emp) (λ|10=>[1,0]|_=>[]) (λ|8=>[1]|10=>[2]|_=>[]) (λ|10=>[10]|_=>[]) [2,3,4,15] (λr=>?_);refine BB ?_;refine dl 0 3 ?_ (hv:=r7 (j:=3) aa);refine aJ ?_;refine dh (λs Fr g=>((r1 s _ (bY Fr) m t [] _ 0 E.o ad bc g.t3)).mono ?_) ?_;·rintro e dr ⟨Q,rfl,g⟩;exact⟨{A:=Q},aa,ak.iB [both _ _,aN _ m d] Fr g⟩
  refine bQ λaU g=>?_;generalize (r 10).A=BD at g⊢;replace g:=(g.pk [3,0,1,2]).fw;rw[l0,z']at g;have S:(lM y (hY _ 0 E.o))<=max _ _:=HS iK _ _;obtain⟨F4,T⟩:=ex ((lM y (hY E.bd 0 E.o)));rw[T]at g S;clear T;refine cx ?_;refine bN g [1] (λi _=>match i with|1=>ar (aM a6 (im G) [])|_=>a1) (λ_ _=>emp) (λ_=>[]) (λ|1=>[1]|6=>[0]|_=>[]) (λ_=>[]) [0,1,2,3,4,6] (λr=>?_);refine aJ ?_;refine dA (λs _ g=>zH t _ G s ad (g.at 0)) ?_;refine hG ?_;refine aK _ (λ_ _ g=>mG aa aa (g.aV 0) YV (by rw[po];simp[aM,E.g1.len]) aw (by simp only[aM,kR,iY,hM,E.g1.len];kernel_rfl)) ?_;refine aK (ai ao) (λ_ _ _=>(yQ 23 5 32 _ _ 23 aa sW mr aw aw _ _ aa aa (tk G) E.g1.len).trans (by rw[vk];simp)) ?_;refine bQ λbI g=>?_;replace g:=g.drop 5;refine ah ?_;refine aR (A8 _) ?_;rintro e b9 ⟨L,rfl,H⟩;replace g:=g.new _ H;refine aT ?_;refine Kj ?_;refine aI (ar (a' (E.o:Int) (E.n:Int) E.g1 E.g2 (ae E.A E.ms.length E.c))) (mG aa aa (g.aV 1) amz (by rw[bD,po];decide) aw (by rw[bD];kernel_rfl)) ?_;refine aR (ei _ (g.at 4)) ?_;rintro e cE ⟨aL,c2,zL,rfl,H,Yf⟩;replace g:=g.new _ H;refine aT ?_;refine aI _ (aeI (ft:=24) (k:=66) 26 _ 4 aa aa aw aw fi) ?_;refine eg ?_;obtain⟨l,gA⟩:=ex (o7 E.ms);have hce:=M.out;rw[gA]at Yf Ac fL hpl hce⊢;have M:=hid hce;clear gA hce ei;have bK:=g.pk [2,1,4,0,5,6];go_wp2_with fail;go_loopw [36] (λaQ wr=>∃(j:Nat) (u:Option bT) (K:Int),j<=l.length/\aQ=J R (j:Int)/\K<=max y (E.bd:Int)/\ak aq FX wr [cJ E K st nx bE,iA L u (uW d E.bd l j),aN E.B m d,zL,Y,F]) (λaQ wr=>l.length -(bR aQ).toNat);case atStart=>exact⟨0,_,_,cB _,aa,S,bK⟩
  case round=>
   clear g bK;obtain⟨j,u,K,hj,rfl,qp,g⟩:=hrel;by_cases hlt:j<l.length
   .have cf:(j:Int)<(l.length:Int):=ad;obtain⟨bl,v⟩:∃m,l[j]?=ab m:=⟨_,cF hlt⟩;obtain⟨z,D,C2,hcm⟩:=Yf.cmd v;obtain⟨_,C,bB,_⟩:=hcm _ (g.at 3)
    have Z:aE (∀W,zL.p W->W.rangeAt C _ [J _ _,J _ _,J _ _,J _ _,ae z _ D]):=hid (λW hp=>by obtain⟨_,ir,bF,cq⟩:=hcm W hp;rw[bB]at bF;injection bF with bF;injection bF with bF;rw[<-bF]at cq;exact cq);have iV:=hid (λW hp=>(hcm W hp).1);have cv:=hid bB;have Qm:=hid C2;have cn:=hid v;clear bB hcm C2 v;have U:=avd (d:=d) (bd:=E.bd) cn;have f':(uW d E.bd l j).length<=1099511627776:=by have h:l.flatMap (sb d E.bd)=uW d E.bd l j++(l.drop j).flatMap (sb d E.bd):=(by grind[uW,List.take_append_drop]);rw[h,db]at hpl;omega
    obtain⟨msg,Iw⟩:=ex (uW d E.bd l j);obtain⟨X,gp⟩:=Ac bl (cW cn);rw[Iw]at U f' g;clear Iw;go_step;refine ah ?_;refine bU ?_;by_cases hk:bl.k=1
    .obtain⟨h1,V,_⟩:=X.1.copy hk;have h3:=X.2.1 hk;obtain⟨f,hf⟩:=wU h1;obtain⟨q,hq⟩:=wU (Int.le_of_lt V);have CU:f+q<=d.bytes.length:=ad;have tX:aE (uW d _ l _=msg++jN d (hY _ f q)):=hid (by rw[U,sb,if_pos hk,hf,hq];rfl);rw[hk,hf,hq]at Z;clear U hk hf hq h1 V h3 X;refine ah ?_;refine aI (ay (ab ⟨C,(0+j*5),af⟩)) (b4 24 73 5 (bj 34) (bj 36) aa ey aw C 0 (l.length) c2 j ((0+j*5)) (by show ae aL _ _=_;rw[cv]) aa hlt aa) ?_;refine aI _ (e5 73 _ aa C _ aa _ (Z _ (g.at 3)) gi aa aw) ?_;refine bn g #[J _ 0,J _ 0,J _ 0,J _ 0,ae _ 0 0] (λdv cV g=>?_);refine bb g 0 (ar _) (λdJ g=>?_);refine ah ?_;refine bh g 0 #[J R 1,J R bl.to,J R (f:Int),J R (q:Int),ae z bl.data.length D] ?_;refine bH (Bn bl.to (f:Int) (q:Int) z _ D _) g (λdB g=>?_);refine v3 ?_;refine bn g #[J _ 0,J _ 0] (λeL eZ g=>?_);refine bb g 0 (ar _) (λgV g=>?_);refine ag ?_;refine ah ?_;refine hI ?_;refine bN g [5] (λ_ _=>a1) (λr=>λ|5=>both (cJ E (lM K (hY E.bd f q)) st nx bE) (iA L (r 5).A (msg++jN d (hY E.bd f q)))|_=>emp) (λ|5=>[2,3]|_=>[]) (λ|4=>[0]|5=>[4]|_=>[]) (λ|5=>[5]|_=>[]) [0,1,4,5,6,7,13] (λr=>?_);refine hG ?_;refine eO 0 #[J R (f:Int),J R (q:Int)] ?_;refine dh (λs Fr g=>((r1 s u (bY Fr) m L msg K f q CU ad g.t3)).mono ?_) ?_;·rintro e dr ⟨Q,rfl,g⟩;exact⟨{A:=Q},aa,ak.iB [both _ _,aN _ m d] Fr g⟩
     refine bQ λhZ g=>?_;generalize (r 5).A=ay2 at g⊢;replace g:=(g.pk [6,0,1,2,3,4,5]).fw;refine ah ?_;refine pad (j:Int) 1 ((j+1:Nat):Int) ?_;refine bU ?_;go_wp2_with fail;go_roundw;case rel=>exact⟨j+1,_,(lM K (hY E.bd f q)),ad,aa,(by have:=HS (pk:=K) iK f q;omega),by rw[tX.out];exact g.pick [0,1,4,5,6,7]⟩
     case measure=>simp[bR]<;>omega
    .have tX:aE (uW d _ l _=msg++bl.data):=hid (by rw[U,sb,if_neg hk]);have hX:=by rw[sb,if_neg hk]at gp;exact gp
     have jy:=hid (λW=>Bo _ bl.to bl.fr bl.n z bl.data.length D W hk);clear U hk gp X;refine ah ?_;refine aI (ay (ab ⟨C,(0+j*5),af⟩)) (b4 24 73 5 (bj 34) (bj 36) aa ey aw C 0 (l.length) c2 j ((0+j*5)) (by show ae aL _ _=_;rw[cv]) aa hlt aa) ?_;refine aI _ (e5 73 _ aa C _ aa _ (Z _ (g.at 3)) gi aa aw) ?_;refine bn g #[J _ 0,J _ 0,J _ 0,J _ 0,ae _ 0 0] (λdv jQ g=>?_);refine bb g 0 (ar _) (λke g=>?_);refine ah ?_;refine bh g 0 #[J R bl.k,J R bl.to,J R bl.fr,J R bl.n,ae z bl.data.length D] ?_;refine bH (jy _) g (λk8 g=>?_);refine v3 ?_;refine bn g #[J _ 0,J _ 0] (λeL mn g=>?_);refine bb g 0 (ar _) (λnn g=>?_);refine ag ?_;refine ah ?_;refine kf ?_;refine pl g 1 4 ?_;refine e' g #[ae z bl.data.length D] 22 (λazx pO g=>?_);refine aR (Vc L _ 0 1 u z D msg _ _ ad (g.has 4) ((g.aV 0).cell 0 aa) (iV _ (g.at 6)).1 (λb h=>g.ne (i:=6) (j:=4) aa aa aS b (Qm.out b h))) ?_;rintro e rK ⟨OK,rfl,bP⟩;replace g:=g.eQ 4 bP;refine aT ?_;refine ah ?_;refine pad (j:Int) 1 ((j+1:Nat):Int) ?_;refine bU ?_;go_wp2_with fail;go_roundw;case rel=>exact⟨j+1,_,_,ad,aa,qp,by rw[tX.out];exact g.pick [3,4,5,6,7,8]⟩
     case measure=>simp[bR]<;>omega
   .have cf:¬(j:Int)<(l.length:Int):=ad;have Ft:uW d E.bd l j=l.flatMap (sb d E.bd):=by grind[uW]
    rw[Ft]at g;obtain⟨I,acC⟩:=ex (l.flatMap (sb d E.bd));have hce:=M.out;rw[acC]at g hpl hce;clear Ft acC;go_step;refine ah ?_;refine bU ?_;by_cases O:im I=E.g2.l
    .rw[if_pos O]at hce;subst hce;have P9:=hid O;clear O;refine cx ?_;refine bN g [1] (λi _=>match i with|1=>ar (aM a6 (im I) [])|_=>a1) (λ_ _=>emp) (λ_=>[]) (λ|1=>[1]|6=>[0]|_=>[]) (λ_=>[]) [0,1,2,3,4,5,7] (λr=>?_);refine aJ ?_;refine dA (λs _ g=>zH L u I s ad (g.at 0)) ?_;refine hG ?_;refine aK _ (λ_ _ g=>mG aa aa (g.aV 0) Ht (by rw[po];simp[aM,E.g2.len]) aw (by simp only[aM,kR,iY,hM,E.g2.len];kernel_rfl)) ?_;refine aK (ai ao) (λ_ _ _=>(yQ 23 5 32 _ _ 23 aa sW mr aw aw _ _ aa aa (tk I) E.g2.len).trans (by rw[P9];simp)) ?_;refine bQ λu4 g=>?_;replace g:=g.drop 6;go_wp2_with fail;first|go_end0|refine bodyPost_ret (results_none rfl _ _ _) rfl ?_
     exact⟨aa,_,qp,g.pick [0,2,4,5]⟩
    .rw[if_neg O]at hce;subst hce;have P9:=hid O;clear O;refine cx ?_;refine bN g [1] (λi _=>match i with|1=>ar (aM a6 (im I) [])|_=>a1) (λ_ _=>emp) (λ_=>[]) (λ|1=>[1]|6=>[0]|_=>[]) (λ_=>[]) [0,1,2,3,4,5,7] (λr=>?_);refine aJ ?_;refine dA (λs _ g=>zH L u I s ad (g.at 0)) ?_;refine hG ?_;refine aK _ (λ_ _ g=>mG aa aa (g.aV 0) Ht (by rw[po];simp[aM,E.g2.len]) aw (by simp only[aM,kR,iY,hM,E.g2.len];kernel_rfl)) ?_;refine aK (ai az) (λ_ _ _=>(yQ 23 5 32 _ _ 23 aa sW mr aw aw _ _ aa aa (tk I) E.g2.len).trans (by simp[P9.out])) ?_;refine bQ λx0 g=>?_;replace g:=g.drop 6;refine ah ?_;refine pk (ve 47 (J R 15)) ?_;refine NV ?_;exact⟨aa,aa,_,qp,g.pick [0,2,4,5]⟩
 .have vk:=hid N;have P:=M.out;rw[if_neg N]at P;subst P;clear N;go_enter VW,Tryz.ntmps142;go_step;refine ah ?_;refine aR (A8 _) ?_;rintro e Bw ⟨t,rfl,H⟩;replace g:=g.new _ H;refine aT ?_;refine hI ?_;refine bN g [10] (λ_ _=>a1) (λr=>λ|10=>both (cJ E (lM y (hY E.bd 0 E.o)) st nx bE) (iA t (r 10).A ([]++jN d (hY E.bd 0 E.o)))|_=>emp) (λ|10=>[1,0]|_=>[]) (λ|8=>[1]|10=>[2]|_=>[]) (λ|10=>[10]|_=>[]) [2,3,4,15] (λr=>?_);refine BB ?_;refine dl 0 3 ?_ (hv:=r7 (j:=3) aa);refine aJ ?_;refine dh (λs Fr g=>((r1 s _ (bY Fr) m t [] _ 0 E.o ad bc g.t3)).mono ?_) ?_;·rintro e dr ⟨Q,rfl,g⟩;exact⟨{A:=Q},aa,ak.iB [both _ _,aN _ m d] Fr g⟩
  refine bQ λBx g=>?_;generalize (r 10).A=BD at g⊢;replace g:=(g.pk [3,0,1,2]).fw;rw[l0,z']at g;have S:(lM y (hY _ 0 E.o))<=max _ _:=HS iK _ _;obtain⟨F4,T⟩:=ex ((lM y (hY E.bd 0 E.o)));rw[T]at g S;clear T;refine cx ?_;refine bN g [1] (λi _=>match i with|1=>ar (aM a6 (im G) [])|_=>a1) (λ_ _=>emp) (λ_=>[]) (λ|1=>[1]|6=>[0]|_=>[]) (λ_=>[]) [0,1,2,3,4,6] (λr=>?_);refine aJ ?_;refine dA (λs _ g=>zH t _ G s ad (g.at 0)) ?_;refine hG ?_;refine aK _ (λ_ _ g=>mG aa aa (g.aV 0) YV (by rw[po];simp[aM,E.g1.len]) aw (by simp only[aM,kR,iY,hM,E.g1.len];kernel_rfl)) ?_;refine aK (ai az) (λ_ _ _=>(yQ 23 5 32 _ _ 23 aa sW mr aw aw _ _ aa aa (tk G) E.g1.len).trans (by simp[vk.out])) ?_;refine bQ λDK g=>?_;replace g:=g.drop 5;refine ah ?_;refine pk (ve 47 (J R 14)) ?_;refine NV ?_;exact⟨aa,aa,_,S,g.pick [0,2,3,4]⟩
section
def ant B w:
 CallsD ax 223 #[ay (ab ⟨B,0,af⟩)] .returning w λe c w'=>e=aB (bo #[])/\c=.returning/\w'=w:=by
 refine callsD_of_wpS Tryz.func223 rfl λa cs b=>?_;apply wpS_seq;apply wpS_region;simp[wpOpsS,go_sem,recoverD,b,ah3];refine wpS_of_wp ?_;go_wp2;cases a;simp_all [bodyPostS,results,ajX]
def ans B bt v w(hb:aX w B #[v] 47):
 CallsD ax 223 #[ay (ab ⟨B,0,af⟩)] (.panicking (uj bt)) w λe g w'=>e=aB (bo #[])/\g=.panicking [{v:=ve 47 (J R bt),recovered:=az}]/\Turned w w' (aj B #[v] 47) (aj B #[J R bt] 47):=by
 refine callsD_of_wpS Tryz.func223 rfl λc cs f=>?_;apply wpS_seq;apply wpS_region;simp[wpOpsS,go_sem,recoverD,f,uj,ntmps223,ah3];refine wpS_of_wp ?_;show Code.wp _ _ _ {tmps:=#[ay (ab ⟨B,0,af⟩),a1,a1,a1,ve 47 (J R bt),a1,a1,a1,a1,a1,a1],defers:=[]} w;have a:=ak.start (t:=aj B #[v] 47) ⟨hb,λb h=>by have d:b=B:=h;rw[d];exact aX.lt hb⟩;go_step;refine ah ?_;refine aI (ai ao) (by(go_simp)) ?_;refine an ?_;go_step;refine ah ?_;refine pk (bo #[J R bt,ai az]) ?_;refine v2 ?_;refine an ?_;go_step;refine ah ?_;refine ag ?_;refine an ?_;go_step;refine ah ?_;refine ag ?_;refine bb a 0 (J R bt) (λw1 a=>?_);refine an ?_;go_wp2_with fail;have i:=a.gu 0;cases c;simp_all [bodyPostS,results,ajX]
section
variable {P:Program} {ops:Array Oper} {Q:Exit->Act->aP->Prop} {rest:List Oper} {o:Oper} {a bC:Act} {w:aP}
def Ua(d:Deferred)(hr:(bz a.eval o).run P w=.ok (.defer d) w)(h:wpList P ops Q rest bC w)(c:Region.wanted o (yielded ops a.tmps)=true:=by kernel_rfl)(b:{a with defers:=d::a.defers}.put o.dst a1=bC:=by((try simp only[Act.put,List.setIfInBounds_toArray,List.set_cons_zero,List.set_cons_succ]);rfl)):wpList P ops Q (o::rest) a w:=by subst b;unfold wpList;rw[if_pos c];refine .inl ?_;unfold Oper.wp;rw[hr];exact h
end
def Ol (g:Nat) lb bt (t F) (Q:bu->Prop) (aq w) FX (n:∀args w,(callFunc g args).run ax w=.ok (.enter g args) w)
 (hf:∀W F,ak aq FX W [t,F]->aC ax g lb W λe w'=>e=si bt (bo #[])/\∃b,Q b/\ak aq FX w' [b,F]) (a:ak aq FX w [t,F]):
 aC ax 141 #[.func (.func g) lb #[]] w λe w'=>e=aB (J R bt)/\∃b,Q b/\ak aq FX w' [b,F]:=by
 have l:=hid hf;have k:=hid n;clear hf n;go_enter_defers func141,ntmps141;go_step;refine ah ?_;refine bn a #[J R 0] (λi w1 a=>?_);refine b5 ?_;refine Ua {target:=.fn (.func 223) #[ay (ab ⟨i,0,af⟩)],args:=#[]} aw ?_;refine an ?_;by_cases hz:bt=0;·have m:=hid hz;clear hz;refine ah ?_;refine ag ?_;have c:=(a.pk [1,0,2]).t1;refine aR ((l.out _ _ c)) ?_ (hr:=by(first|(go_simp;done)|(go_simp;exact k _ _)));rintro e o ⟨d,b,j,a⟩;clear c;rw[m]at d;subst d;replace a:=a.cX;refine aT ?_;refine ah ?_;refine bb a 1 (J R 0) (λu a=>?_);refine an ?_;go_wp2_with fail;refine PK (f:=223) (args:=#[ay (ab ⟨i,0,af⟩)]) bc ba ?_;refine(ant _ _).mono ?_;rintro e s o ⟨rfl,rfl,rfl⟩;exact⟨_,Ga aa aa (a.aV 1) aw,by rw[m],b,j,a.pick [0,2]⟩
 .have p:=hid hz;clear hz;refine ah ?_;refine ag ?_;have c:=(a.pk [1,0,2]).t1;refine Ud (ch:=uj bt) ((l.out _ _ c).mono λe w' ⟨d,h⟩=>⟨d.trans (uv p.out _),h⟩) (λv q=>?_) (hr:=by(first|(go_simp;done)|(go_simp;exact k _ _)));clear c a;obtain⟨b,j,a⟩:=q;replace a:=a.cX;refine PK (f:=223) (args:=#[ay (ab ⟨i,0,af⟩)]) bc ba ?_;refine(ans _ bt _ _ (a.aV 1)).mono ?_;rintro e s o ⟨rfl,rfl,r⟩;replace a:=a.eQ 1 r;exact⟨_,Ga aa aa (a.aV 1) aw,aa,b,j,a.pick [0,2]⟩
end
structure pT where
 st:Int
 nx:Nat
 bE:Bool
 j:pg
 d:dF
def gL(E:o9)(s:pT):Int×pT:=
 if s.st=2 then(0,s)
 else if s.bE=az then
  if(jw s.d s.j.last.off.toNat s.j.last.data).1=0 then(0,⟨1,s.nx+1,ao,s.j,(jw s.d s.j.last.off.toNat s.j.last.data).2⟩)
  else((jw s.d s.j.last.off.toNat s.j.last.data).1,{s with d:=(jw s.d s.j.last.off.toNat s.j.last.data).2})
 else match(dO E.bd E.ms)[s.nx]? with
  |none=>if(nF E s.d s.j.next.toNat s.j).1=0 then(0,{s with st:=2,j:=(nF E s.d s.j.next.toNat s.j).2.1,d:=(nF E s.d s.j.next.toNat s.j).2.2})
   else((nF E s.d s.j.next.toNat s.j).1,{s with j:=(nF E s.d s.j.next.toNat s.j).2.1,d:=(nF E s.d s.j.next.toNat s.j).2.2})
  |some bl=>if(kY s.d E.first E.bd E.id s.j.next.toNat s.nx bl.to.toNat s.j (km s.d bl)).1=0 then(0,⟨1,s.nx+1,ao,(kY s.d E.first E.bd E.id s.j.next.toNat s.nx bl.to.toNat s.j (km s.d bl)).2.1,(kY s.d E.first E.bd E.id s.j.next.toNat s.nx bl.to.toNat s.j (km s.d bl)).2.2⟩)
   else((kY s.d E.first E.bd E.id s.j.next.toNat s.nx bl.to.toNat s.j (km s.d bl)).1,{s with j:=(kY s.d E.first E.bd E.id s.j.next.toNat s.nx bl.to.toNat s.j (km s.d bl)).2.1,d:=(kY s.d E.first E.bd E.id s.j.next.toNat s.nx bl.to.toNat s.j (km s.d bl)).2.2})
structure BI (E:o9) (d:dF):Prop where
 dX:1<=E.bd
 dY:E.bd<=65536
 rJ:r6 E.o E.n E.ms
 old:E.o<=d.bytes.length
 new:E.n<=d.bytes.length
 dL:(dO E.bd E.ms).length<=1048576
 id:E.id<18446744073709551616
 ch:∀bl∈dO E.bd E.ms,∃t:Nat,Gx d E.bd bl t/\(bl.k=1->bl.n<=(E.bd:Int))
structure p8 (E:o9) (s:pT):Prop where
 e:BI E s.d
 j:jA s.d E.first E.bd
 up:s.d.down=ao
 dL:s.d.cache.length<=1000000000
 next:0<=s.j.next/\s.j.next<18446744073709551616
 nx:s.nx<=(dO E.bd E.ms).length
 bE:s.bE=az->s.st≠2->s.j.has=az/\0<=s.j.last.off/\s.j.last.off.toNat+s.j.last.data.length<=s.d.bytes.length/\s.nx<(dO E.bd E.ms).length
def fI(E:o9)(b a:bu)(pk:Int)(s:pT)(A:Option bT)(c:Nat)(m:nX):bu:=bY [cJ E pk s.st (s.nx:Int) s.bE,cY E s.j A c,aN E.B m s.d,b,a]
def gM(E:o9)(d b:bu)(a:Int)(s:pT)(t:bu):Prop:=∃pk A c m,pk<=max a (E.bd:Int)/\t=fI E d b pk s A c m
def gM.mk{E d b a pk s A c m}(h:pk<=max a (E.bd:Int)):gM E d b a s (fI E d b pk s A c m):=⟨pk,A,c,m,h,aa⟩
def yN(E:o9)(s:pT):Nat:=if s.bE=az then 144 else if s.nx=(dO E.bd E.ms).length then 145 else 143
def amp E(f g)pk s A c m(aq W)FX F(y:s7 f E.p E.bd E.ms)(h:p8 E s)(hst:s.st≠2)(L:ak aq FX W [fI E f g pk s A c m,F]):
 aC ax (yN E s) #[ay (ab ⟨E.di,0,af⟩)] W λe w'=>e=si (gL E s).1 (bo #[])/\∃K,gM E f g pk (gL E s).2 K/\ak aq FX w' [K,F]:=by
 obtain⟨st,nx,bE,j,d⟩:=s;have z:ak aq FX W [cJ E pk st (nx:Int) bE,cY E j A c,aN E.B m d,f,g,F]:=L.kI;have G:=h.e.dL;have T:nx<=(dO E.bd E.ms).length:=h.nx;have S:=h.e.rJ.dL;obtain⟨O,R⟩:0<=j.next/\j.next<18446744073709551616:=h.next;obtain⟨jn,H⟩:=wU O;have P:j.next.toNat=jn:=ad;simp only at hst;unfold gL yN;simp only[if_neg hst];by_cases u:bE=az
 .obtain⟨h1,C,w,_⟩:=h.bE u hst;simp only at h1 C w;obtain⟨a,M⟩:=wU C;have hat:j.last.off.toNat=a:=ad;rw[hat]at w⊢
  have N:j.last.data.length<=140737488355328:=by have D:=h.j.dev.small;rw[<-h.j.dev.len]at D;simp only at D;omega
  rw[if_pos u,if_pos u];have v:ak aq FX W [cJ E pk st (nx:Int) bE,cY E j A c,aN E.B m d,bY [f,g,F]]:=ak.tail [cJ E pk st (nx:Int) bE,cY E j A c,aN E.B m d] [f,g,F] z;refine(avL E pk st nx bE m d a j A c aq W FX (bY [f,g,F]) h.j.dev h.up w h.dL ad h1 M N v).mono λe w' ⟨o,q,r⟩=>?_;by_cases hz:(jw d a j.last.data).1=0;·obtain⟨b,k⟩:=q hz;rw[if_pos hz,o,hz];refine⟨aa,_,gM.mk (pk:=pk) (A:=A) (c:=c) (m:=b) ad,?_⟩;exact ak.fP 5 (ak.iB [cJ E pk 1 _ _,cY E j A c,aN _ b _] _ k)
  .obtain⟨b,k⟩:=r hz;rw[if_neg hz,o];refine⟨aa,_,gM.mk (pk:=pk) (A:=A) (c:=c) (m:=b) ad,?_⟩;exact ak.fP 5 (ak.iB [cJ E pk st _ bE,cY E j A c,aN _ b _] _ k)
 .rw[if_neg u,if_neg u];have v:ak aq FX W [cJ E pk st (nx:Int) bE,cY E j A c,aN E.B m d,f,bY [g,F]]:=ak.tail [cJ E pk st (nx:Int) bE,cY E j A c,aN E.B m d,f] [g,F] z;rw[P];by_cases I:nx=(dO E.bd E.ms).length
  .have hn:(dO E.bd E.ms)[nx]?=none:=List.getElem?_eq_none ad;rw[if_pos I,hn];simp only;refine(ams E pk st (nx:Int) bE m d jn j A c f aq W FX (bY [g,F]) y G h.e.new h.j h.up h.dL H ⟨ad,h.e.id⟩ v).mono λe w' ⟨o,q,r⟩=>?_;by_cases hz:(nF E d jn j).1=0;·obtain⟨i,l,b,k⟩:=q hz;rw[if_pos hz,o,hz];refine⟨aa,_,gM.mk (pk:=lM pk (hY _ 0 E.n)) (A:=i) (c:=l) (m:=b) (HS h.e.dX _ _),?_⟩;exact ak.fP 5 (ak.iB [cJ E _ 2 _ bE,cY E _ i l,aN _ b _,f] _ k)
   .obtain⟨i,l,b,k⟩:=r hz;rw[if_neg hz,o];refine⟨aa,_,gM.mk (pk:=lM pk (hY _ 0 E.n)) (A:=i) (c:=l) (m:=b) (HS h.e.dX _ _),?_⟩;exact ak.fP 5 (ak.iB [cJ E _ st _ bE,cY E _ i l,aN _ b _,f] _ k)
  .obtain⟨bl,x⟩:∃bl,(dO E.bd E.ms)[nx]?=ab bl:=⟨_,cF ad⟩;rw[if_neg I,x];simp only;obtain⟨t,hch,U⟩:=h.e.ch bl (cW x);have Q:bl.to.toNat=t:=by rw[hch.cS];rfl
   rw[Q];have J:AK pk bl<=max pk (E.bd:Int):=by grind[AK]
   refine(apK E pk st nx bE m d jn t j A c bl f aq W FX (bY [g,F]) y ad G x hch h.j h.up h.dL H ⟨ad,h.e.id⟩ v).mono λe w' ⟨o,q,r⟩=>?_;by_cases hz:(kY d E.first E.bd E.id jn nx t j (km d bl)).1=0;·obtain⟨i,l,b,k⟩:=q hz;rw[if_pos hz,o,hz];refine⟨aa,_,gM.mk (pk:=_) (A:=i) (c:=l) (m:=b) J,?_⟩;exact ak.fP 5 (ak.iB [cJ E _ 1 _ ao,cY E _ i l,aN E.B b _,f] [g,F] k)
   .obtain⟨i,l,b,k⟩:=r hz;rw[if_neg hz,o];refine⟨aa,_,gM.mk (pk:=_) (A:=i) (c:=l) (m:=b) J,?_⟩;exact ak.fP 5 (ak.iB [cJ E _ st _ bE,cY E _ i l,aN E.B b _,f] [g,F] k)
def Gx.xb{d cr bd bl t}(h:Gx d bd bl t)(g:cr.bytes.length=d.bytes.length)(i:dt d)(j:dt cr):Gx cr bd bl t:=by
 have e:(km cr bl).length=(km d bl).length:=by
  unfold km;by_cases hk:bl.k=1;·obtain⟨f,q,l,n,m⟩:=h.HH hk;grind[zC]
  .grind
 exact⟨h.cS,λhk=>by obtain⟨f,q,a,b,c⟩:=h.HH hk;exact⟨f,q,a,b,ad⟩,by rw[e];exact h.hC,by rw[e,g];exact h.fit⟩
def BI.xb{E d cr}(h:BI E d)(c:cr.bytes.length=d.bytes.length)(e:dt d)(f:dt cr):BI E cr:=
 ⟨h.dX,h.dY,h.rJ,by rw[c];exact h.old,by rw[c];exact h.new,h.dL,h.id,λbl g=>by obtain⟨t,a,b⟩:=h.ch bl g;exact⟨t,a.xb c e f,b⟩⟩
def aal{d first bd id jn nx t j bs}(c:jA d first bd)(f:d.down=ao)(g:d.cache.length<=1000000000)(hb:bs.length<=bd)(i:t+bs.length<=d.bytes.length):
 jT d (kY d first bd id jn nx t j bs).2.2/\((kY d first bd id jn nx t j bs).1=0->(kY d first bd id jn nx t j bs).2.2.down=ao/\(kY d first bd id jn nx t j bs).2.2.cache=[]/\(kY d first bd id jn nx t j bs).2.1.next =aF.wrap ((jn:Int)+1)):=by
 have h1:=Hu (id:=id) (nx:=jn) (cu:=nx) (of:=t) (j:=j) c f g hb;unfold kY;by_cases h:(iG d first bd id j jn nx t bs).1≠0;·grind
 .rw[if_neg h];have e:=h1.2.1 (x' h);have a:=U' (o:=t) (bs:=bs) h1.1.ok (by rw[h1.1.len c.dev];exact i) e.1 aG;exact⟨h1.1.trans a.1,λb=>⟨(a.2 b).1,(a.2 b).2,aG⟩⟩
theorem apZ{E d jn j}(a:jA d E.first E.bd)(b:d.down=ao)(c:d.cache.length<=1000000000):jT d (nF E d jn j).2.2:=by
 unfold nF;split;·grind[Hu]
 .exact jT.refl a.dev
def UN{E s}(h:p8 E s)(hst:s.st≠2):jT s.d (gL E s).2.d/\((gL E s).1=0->(gL E s).2.st≠2->p8 E (gL E s).2/\(gL E s).2.nx=s.nx+1):=by
 obtain⟨st,nx,bE,j,d⟩:=s;have q:nx<=(dO E.bd E.ms).length:=h.nx;have a:jA d E.first E.bd:=h.j;have l:d.down=false:=h.up;have i:d.cache.length<=1000000000:=h.dL;have b:BI E d:=h.e;have m:0<=j.next/\j.next<18446744073709551616:=h.next;simp only at hst;unfold gL;simp only[if_neg hst];by_cases c:bE=az
 .obtain⟨_,_,f,g⟩:=h.bE c hst;simp only at f g;rw[if_pos c];have h1:=U' (o:=j.last.off.toNat) (bs:=j.last.data) a.dev f l i;by_cases hz:(jw d j.last.off.toNat j.last.data).1=0;·rw[if_pos hz];refine⟨h1.1,λ_ _=>⟨⟨b.xb (h1.1.len a.dev) a.dev h1.1.ok,a.xb h1.1,(h1.2 hz).1,?_,m,g,λh=>aG⟩,aa⟩⟩;grind
  .grind
 .rw[if_neg c];by_cases p:nx=(dO E.bd E.ms).length;·grind[apZ]
  .obtain⟨bl,k⟩:∃bl,(dO E.bd E.ms)[nx]?=ab bl:=⟨_,cF ad⟩;rw[k];simp only;obtain⟨t,hch,r⟩:=b.ch bl (cW k);have n:bl.to.toNat=t:=by rw[hch.cS];rfl
   rw[n];have h1:=aal (id:=E.id) (jn:=j.next.toNat) (nx:=nx) (t:=t) (j:=j) a l i hch.hC hch.fit;by_cases hz:(kY d E.first E.bd E.id j.next.toNat nx t j (km d bl)).1=0
   .rw[if_pos hz];refine⟨h1.1,λ_ _=>⟨⟨b.xb (h1.1.len a.dev) a.dev h1.1.ok,a.xb h1.1,(h1.2 hz).1,?_,?_,?_,λh=>aG⟩,aa⟩⟩;·grind
    .show 0<=(kY d E.first E.bd E.id j.next.toNat nx t j (km d bl)).2.1.next /\_;rw[(h1.2 hz).2.2];exact wrap_u64 _
    .grind
   .grind
def tB(E:o9):Nat->pT->Int×pT
 |0,s=>(0,s)
 |k+1,s=>if(gL E s).1≠0\/(gL E s).2.st=2 then gL E s else tB E k (gL E s).2
def N6{E s}(h:s.st=2):gL E s=(0,s):=by grind[gL]
theorem afQ{E}:∀(k) s,p8 E s->jT s.d (tB E k s).2.d
 |0,s,h=>jT.refl h.j.dev
 |k+1,s,h=>by
  unfold tB;by_cases hst:s.st=2;·rw[N6 hst,if_pos (.inr hst)];exact jT.refl h.j.dev
  .have h1:=UN h hst;by_cases a:(gL E s).1≠0\/(gL E s).2.st=2;·rw[if_pos a];exact h1.1
   .rw[if_neg a];have b:=h1.2 (x' λh=>a (.inl h)) (λh=>a (.inr h));exact h1.1.trans (afQ k _ b.1)
def aoU E(b a)pk s A c m(aq w)FX F(l:ie a E.A E.c E.ms)(h:p8 E s)(n:ak aq FX w [fI E b a pk s A c m,F]):
 aC ax 142 #[ay (ab ⟨E.di,0,af⟩)] w λe w'=>e=si (AE E s.d) (bo #[])/\∃f,gM E b a pk s f/\ak aq FX w' [f,F]:=by
 have o:ak aq FX w [cJ E pk _ _ _,cY E _ A c,aN _ m _,b,a,F]:=n.kI;have g:ak aq FX w [cJ E pk _ _ _,aN _ m _,a,bY _]:=ak.tail [cJ E pk _ _ _,aN _ m _,a] [cY E _ A c,b,F] (o.pick [0,2,4,1,3,5]);refine(aoV E pk s.st (s.nx:Int) s.bE m s.d a aq w FX (bY [cY E s.j A c,b,F]) l h.e.rJ h.j.dev h.up h.e.dX h.e.dY h.e.old h.e.new g).mono λe w' ⟨p,q,hle,i⟩=>⟨p,_,gM.mk (pk:=q) (A:=A) (c:=c) (m:=m) hle,?_⟩;have k:ak aq FX w' [cJ E _ _ _ _,aN _ m _,a,cY E _ A c,b,F]:=ak.iB [cJ E _ _ _ _,aN _ m _,a] _ i;exact ak.fP 5 (k.pick (l':=[cJ E _ _ _ _,cY E _ A c,aN _ m _,b,a,F]) [0,3,1,4,2,5])
def Bv(E:o9)(s:pT):Int:=if s.st=0 then AE E s.d else 0
def amT E(f b)pk s A c m(aq w)FX F(q:ie b E.A E.c E.ms)(h:p8 E s)(a:ak aq FX w [fI E f b pk s A c m,F]):
 aC ax 61 #[ay (ab ⟨E.di,0,af⟩)] w λe w'=>e=aB (ar #[J R (Bv E s),J R 0])/\∃g,gM E f b pk s g/\ak aq FX w' [g,F]:=by
 have p:aE (∀W F,ak aq FX W [fI E f b pk s A c m,F]->aC ax 142 #[ay (ab ⟨E.di,0,af⟩)] W λe w'=>e=si (AE E s.d) (bo #[])/\∃g,gM E f b pk s g/\ak aq FX w' [g,F]):=hid (λW F k=>aoU E f b pk s A c m aq W FX F q h k);obtain⟨bt,n⟩:=ex (AE E s.d);obtain⟨st,nx,bE,j,d⟩:=s;unfold Bv;simp only at n⊢;rw[n]at p⊢;clear n h;by_cases hst:st=0;·have l:=hid hst;rw[if_pos hst];clear hst;go_enter Tryz.func61,Tryz.ntmps61;replace a:ak _ _ _ [cJ E pk st (nx:Int) bE,cY E j A c,aN E.B m d,f,b,F]:=ak.kI (a.pick (l':=[fI E f b pk ⟨st,nx,bE,j,d⟩ A c m,F]) [0,1]);go_step;refine ah ?_;refine bn a #[J R 0,J R 0] (λi w1 a=>?_);refine b5 ?_;refine aI (ai ao) (by(go_simp;try rfl)) ?_;refine jk ?_;refine pl a 1 72 ?_ (hv:=fA (j:=3) aa);refine dp l (ai ao) ?_;refine an ?_;replace a:ak _ _ _ [fI E f b pk ⟨st,nx,bE,j,d⟩ A c m,aj i #[J R 0,J R 0] 49,F]:=(a.pick (l':=[cJ E pk st (nx:Int) bE,cY E j A c,aN E.B m d,f,b,aj i #[J R 0,J R 0] 49,F]) [1,2,3,4,5,0,6]).fP 5;refine ah ?_;refine v2 ?_;have o:=(a.pk [0,1,2]).t1;refine aR (Ol 142 #[ay (ab ⟨E.di,0,af⟩)] bt (fI E f b pk ⟨st,nx,bE,j,d⟩ A c m) _ (gM E f b pk ⟨st,nx,bE,j,d⟩) aq _ FX (lG VW aw aa) (λW F k=>p W F k) o) ?_;rintro e t ⟨rfl,g,r,a⟩;clear o;replace a:=a.cX;refine aT ?_;refine ag ?_;refine bb a 1 (ar #[J R bt,J R 0]) (λu a=>?_);refine an ?_;go_wp2_with fail;refine c8 (v:=ar #[J R bt,J R 0]) (gH aa _ _ _ _ _ _ _ aa (a.aV 1) yh aa aw) aa (⟨aa,g,r,a.pick [0,2]⟩)
 .have l:=hid hst;rw[if_neg hst];clear hst;go_enter Tryz.func61,Tryz.ntmps61;replace a:ak _ _ _ [cJ E pk st (nx:Int) bE,cY E j A c,aN E.B m d,f,b,F]:=ak.kI (a.pick (l':=[fI E f b pk ⟨st,nx,bE,j,d⟩ A c m,F]) [0,1]);go_step;refine ah ?_;refine bn a #[J R 0,J R 0] (λi x a=>?_);refine b5 ?_;refine aI (ai ao) (by(go_simp;try rfl)) ?_;refine jk ?_;refine pl a 1 72 ?_ (hv:=fA (j:=3) aa);refine dp l (ai az) ?_;refine b5 ?_;refine bb a 0 (ar #[J R 0,J R 0]) (λy a=>?_);refine an ?_;replace a:ak _ _ _ [fI E f b pk ⟨st,nx,bE,j,d⟩ A c m,aj i #[J R 0,J R 0] 49,F]:=(a.pick (l':=[cJ E pk st (nx:Int) bE,cY E j A c,aN E.B m d,f,b,aj i #[J R 0,J R 0] 49,F]) [1,2,3,4,5,0,6]).fP 5;go_wp2_with fail;refine c8 (v:=ar #[J R 0,J R 0]) (gH aa _ _ _ _ _ _ _ aa (a.aV 1) yh aa aw) aa (⟨aa,_,gM.mk (pk:=pk) (A:=A) (c:=c) (m:=m) ad,a.pick [0,2]⟩)
def amM E(b f)pk s A c m(aq w)FX F(Y:s7 b E.p E.bd E.ms)(h:p8 E s)(a:ak aq FX w [fI E b f pk s A c m,F]):
 aC ax 62 #[ay (ab ⟨E.di,0,af⟩)] w λe w'=>e=aB (bo #[ai (decide ((gL E s).1=0)&&decide ((gL E s).2.st=2)),J R (gL E s).1])/\∃G,gM E b f pk (gL E s).2 G/\ak aq FX w' [G,F]:=by
 obtain⟨bt,I,hs1⟩:∃bt I,gL E s=(bt,I):=⟨_,_,aa⟩;rw[hs1];simp only;have Z:aE (∀W,b.p W->aC ax 60 #[ay (ab ⟨E.p,0,af⟩)] W λe w'=>e=aB (J R ((dO E.bd E.ms).length:Int))/\au W w'):=hid (λW h=>F5 E.p E.bd E.ms W (Y W h));have T:aE (s.st≠2->∀W F,ak aq FX W [fI E b f pk s A c m,F]->aC ax (yN E s) #[ay (ab ⟨E.di,0,af⟩)] W λe w'=>e=si bt (bo #[])/\∃G,gM E b f pk I G/\ak aq FX w' [G,F]):=hid (λhst W F M=>by have q:=amp E b f pk s A c m aq W FX F Y h hst M;rw[hs1]at q;exact q);have P:=N6 (E:=E) (s:=s);rw[hs1]at P;have U:=h.nx;obtain⟨V,c9⟩:∃z,(dO E.bd E.ms).length=z:=⟨_,aa⟩;rw[c9]at Z U;have gw:=hid c9;obtain⟨st,nx,bE,j,d⟩:=s;simp only at T P U;clear hs1 h Y c9;by_cases hst:st=2
 .have O:=hid hst;have he:=P hst;simp only[pn]at he;obtain⟨rfl,rfl⟩:=he;clear P hst T;go_enter Pn,Pt;replace a:ak _ _ _ [cJ E pk st (nx:Int) bE,cY E j A c,aN E.B m d,b,f,F]:=ak.kI (a.pick (l':=[fI E b f pk ⟨st,nx,bE,j,d⟩ A c m,F]) [0,1]);go_step;refine ah ?_;iterate 2 refine ag ?_
  refine an ?_;go_step;refine ah ?_;refine ag ?_;refine aI (ai ao) (by(go_simp;try rfl)) ?_;refine an ?_;go_step;refine ah ?_;iterate 3 refine ag ?_
  refine pl a 0 72 ?_ (hv:=fA (j:=3) aa);refine aI (ai az) (by(have h:=O.out;go_simp;try simp[h])) ?_;refine an ?_;go_step;refine ah ?_;iterate 2 refine ag ?_
  refine an ?_;replace a:ak _ _ _ [fI E b f pk ⟨st,nx,bE,j,d⟩ A c m,F]:=(a.pick (l':=[cJ E pk st (nx:Int) bE,cY E j A c,aN E.B m d,b,f,F]) [0,1,2,3,4,5]).fP 5;go_wp2_with fail;go_ret2;exact⟨by rw[decide_eq_true O.out];rfl,_,gM.mk (pk:=pk) (A:=A) (c:=c) (m:=m) ad,a.pick [0,1]⟩
 .have O:=hid hst;have N:=hid (T hst);clear P hst T;cases bE with
  |true=>
   have K:=N;rw[show yN E ⟨st,nx,az,j,d⟩=144 by unfold yN;rw[if_pos aa]]at K;clear N;go_enter Pn,Pt;replace a:ak _ _ _ [cJ E pk st (nx:Int) az,cY E j A c,aN E.B m d,b,f,F]:=ak.kI (a.pick (l':=[fI E b f pk ⟨st,nx,az,j,d⟩ A c m,F]) [0,1]);go_step;refine ah ?_;iterate 2 refine ag ?_
   refine an ?_;go_step;refine ah ?_;refine ag ?_;refine aI (ai ao) (by(go_simp;try rfl)) ?_;refine an ?_;go_step;refine ah ?_;iterate 3 refine ag ?_
   refine pl a 0 72 ?_ (hv:=fA (j:=3) aa);refine aI (ai ao) (by(have h:=O.out;go_simp;try simp[h])) ?_;refine an ?_;go_step;refine ah ?_;iterate 3 refine ag ?_
   refine an ?_;go_step;refine ah ?_;iterate 3 refine ag ?_
   refine pl a 0 74 ?_ (hv:=fA (j:=5) aa);refine ag ?_;refine an ?_;go_step;refine ah ?_;iterate 3 refine ag ?_
   refine an ?_;replace a:ak _ _ _ [fI E b f pk ⟨st,nx,az,j,d⟩ A c m,F]:=(a.pick (l':=[cJ E pk st (nx:Int) az,cY E j A c,aN E.B m d,b,f,F]) [0,1,2,3,4,5]).fP 5;go_step;refine ah ?_;refine ag ?_;have L:ak _ _ _ ([fI E b f pk ⟨st,nx,az,j,d⟩ A c m]++[bY [F]]):=ak.tail [fI E b f pk ⟨st,nx,az,j,d⟩ A c m] [F] (a.pick [0,1]);refine aR (Ol 144 #[ay (ab ⟨E.di,0,af⟩)] bt (fI E b f pk ⟨st,nx,az,j,d⟩ A c m) _ (gM E b f pk I) aq _ FX (lG Tryz.func144 aw aa) (λW F M=>K W F M) L) ?_;rintro e w1 ⟨rfl,G,S,a⟩;clear L;replace a:ak _ _ _ [G,F]:=ak.iB [G] [F] a;refine aT ?_;refine ag ?_;refine an ?_;obtain⟨v,l,n,t,hle,rfl⟩:=S;obtain⟨k,u,x,r,o⟩:=I;replace a:ak _ _ _ [cJ E v k (u:Int) x,cY E r l n,aN E.B t o,b,f,F]:=ak.kI (a.pick (l':=[fI E b f v ⟨k,u,x,r,o⟩ l n t,F]) [0,1]);by_cases D:bt=0
   .have H:=hid D;subst D;by_cases C:k=2
    .have y:=hid C;clear C;go_step;refine ah ?_;refine ag ?_;refine aI (ai az) (by(show _=_;kernel_rfl)) ?_;iterate 4 refine ag ?_
     refine pl a 0 72 ?_ (hv:=fA (j:=3) aa);refine aI (ai az) (by(have h:=y.out;go_simp;try simp[h])) ?_;iterate 4 refine ag ?_
     refine an ?_;replace a:ak _ _ _ [fI E b f v ⟨k,u,x,r,o⟩ l n t,F]:=(a.pick (l':=[cJ E v k (u:Int) x,cY E r l n,aN E.B t o,b,f,F]) [0,1,2,3,4,5]).fP 5;go_wp2_with fail;go_ret2;exact⟨by rw[decide_eq_true y.out];rfl,_,gM.mk (s:=⟨k,u,x,r,o⟩) (pk:=v) (A:=l) (c:=n) (m:=t) hle,a.pick [0,1]⟩
    .have y:=hid C;clear C;go_step;refine ah ?_;refine ag ?_;refine aI (ai az) (by(show _=_;kernel_rfl)) ?_;iterate 4 refine ag ?_
     refine pl a 0 72 ?_ (hv:=fA (j:=3) aa);refine aI (ai ao) (by(have h:=y.out;go_simp;try simp[h])) ?_;iterate 4 refine ag ?_
     refine an ?_;replace a:ak _ _ _ [fI E b f v ⟨k,u,x,r,o⟩ l n t,F]:=(a.pick (l':=[cJ E v k (u:Int) x,cY E r l n,aN E.B t o,b,f,F]) [0,1,2,3,4,5]).fP 5;go_wp2_with fail;go_ret2;exact⟨by rw[decide_eq_false y];rfl,_,gM.mk (s:=⟨k,u,x,r,o⟩) (pk:=v) (A:=l) (c:=n) (m:=t) hle,a.pick [0,1]⟩
   .have H:=hid D;clear D;go_step;refine ah ?_;refine ag ?_;refine aI (ai ao) (by(have h:=H.out;go_simp;try simp[h])) ?_;refine ag ?_;iterate 5 refine ps ?_
    iterate 4 refine ag ?_
    refine an ?_;replace a:ak _ _ _ [fI E b f v ⟨k,u,x,r,o⟩ l n t,F]:=(a.pick (l':=[cJ E v k (u:Int) x,cY E r l n,aN E.B t o,b,f,F]) [0,1,2,3,4,5]).fP 5;go_wp2_with fail;go_ret2;exact⟨by rw[decide_eq_false H];rfl,_,gM.mk (s:=⟨k,u,x,r,o⟩) (pk:=v) (A:=l) (c:=n) (m:=t) hle,a.pick [0,1]⟩
  |false=>
   by_cases Q:nx=V
   .have X:=hid Q;have K:=N;rw[show yN E ⟨st,nx,ao,j,d⟩=145 by unfold yN;rw[if_neg bc,if_pos (Q.trans gw.out.symm)]]at K;clear N Q U;go_enter Pn,Pt;replace a:ak _ _ _ [cJ E pk st (nx:Int) ao,cY E j A c,aN E.B m d,b,f,F]:=ak.kI (a.pick (l':=[fI E b f pk ⟨st,nx,ao,j,d⟩ A c m,F]) [0,1]);go_step;refine ah ?_;iterate 2 refine ag ?_
    refine an ?_;go_step;refine ah ?_;refine ag ?_;refine aI (ai ao) (by(go_simp;try rfl)) ?_;refine an ?_;go_step;refine ah ?_;iterate 3 refine ag ?_
    refine pl a 0 72 ?_ (hv:=fA (j:=3) aa);refine aI (ai ao) (by(have h:=O.out;go_simp;try simp[h])) ?_;refine an ?_;go_step;refine ah ?_;iterate 3 refine ag ?_
    refine an ?_;go_step;refine ah ?_;iterate 3 refine ag ?_
    refine pl a 0 74 ?_ (hv:=fA (j:=5) aa);refine ag ?_;refine an ?_;go_step;refine cx ?_;refine bN a [8] (λi _=>match i with|8=>J R (V:Int)|_=>a1) (λ_ _=>emp) (λ_=>[]) (λ|3=>[0]|7=>[0]|8=>[3]|_=>[]) (λ_=>[]) [0,1,2,3,4,5,14] (λus=>?_);iterate 3 refine aJ ?_
    refine dl 0 73 ?_ (hv:=fA (j:=4) aa);iterate 3 refine aJ ?_
    refine dl 0 70 ?_ (hv:=fA (j:=1) aa);refine dh (λwl Fr a=>(Z wl (a.at 0)).mono ?_) ?_;·rintro e dr ⟨rfl,g⟩;exact⟨{},aa,(a.aH g).dM⟩
    refine aK (ai az) (λ_ _ _=>by(have h:=X.out;go_simp;try simp[h])) ?_;refine aJ ?_;refine pN (λaU a=>?_);replace a:ak _ _ _ [cJ E pk st (nx:Int) ao,cY E j A c,aN E.B m d,b,f,F,emp]:=a;replace a:=a.drop 6;go_step;refine ah ?_;iterate 3 refine ag ?_
    refine an ?_;replace a:ak _ _ _ [fI E b f pk ⟨st,nx,ao,j,d⟩ A c m,F]:=(a.pick (l':=[cJ E pk st (nx:Int) ao,cY E j A c,aN E.B m d,b,f,F]) [0,1,2,3,4,5]).fP 5;go_step;refine ah ?_;refine ag ?_;have L:ak _ _ _ ([fI E b f pk ⟨st,nx,ao,j,d⟩ A c m]++[bY [F]]):=ak.tail [fI E b f pk ⟨st,nx,ao,j,d⟩ A c m] [F] (a.pick [0,1]);refine aR (Ol 145 #[ay (ab ⟨E.di,0,af⟩)] bt (fI E b f pk ⟨st,nx,ao,j,d⟩ A c m) _ (gM E b f pk I) aq _ FX (lG Tryz.func145 aw aa) (λW F M=>K W F M) L) ?_;rintro e bI ⟨rfl,G,S,a⟩;clear L;replace a:ak _ _ _ [G,F]:=ak.iB [G] [F] a;refine aT ?_;refine ag ?_;refine an ?_;obtain⟨v,l,n,t,hle,rfl⟩:=S;obtain⟨k,u,x,r,o⟩:=I;replace a:ak _ _ _ [cJ E v k (u:Int) x,cY E r l n,aN E.B t o,b,f,F]:=ak.kI (a.pick (l':=[fI E b f v ⟨k,u,x,r,o⟩ l n t,F]) [0,1]);by_cases D:bt=0
    .have H:=hid D;subst D;by_cases C:k=2
     .have y:=hid C;clear C;go_step;refine ah ?_;refine ag ?_;refine aI (ai az) (by(show _=_;kernel_rfl)) ?_;iterate 4 refine ag ?_
      refine pl a 0 72 ?_ (hv:=fA (j:=3) aa);refine aI (ai az) (by(have h:=y.out;go_simp;try simp[h])) ?_;iterate 4 refine ag ?_
      refine an ?_;replace a:ak _ _ _ [fI E b f v ⟨k,u,x,r,o⟩ l n t,F]:=(a.pick (l':=[cJ E v k (u:Int) x,cY E r l n,aN E.B t o,b,f,F]) [0,1,2,3,4,5]).fP 5;go_wp2_with fail;go_ret2;exact⟨by rw[decide_eq_true y.out];rfl,_,gM.mk (s:=⟨k,u,x,r,o⟩) (pk:=v) (A:=l) (c:=n) (m:=t) hle,a.pick [0,1]⟩
     .have y:=hid C;clear C;go_step;refine ah ?_;refine ag ?_;refine aI (ai az) (by(show _=_;kernel_rfl)) ?_;iterate 4 refine ag ?_
      refine pl a 0 72 ?_ (hv:=fA (j:=3) aa);refine aI (ai ao) (by(have h:=y.out;go_simp;try simp[h])) ?_;iterate 4 refine ag ?_
      refine an ?_;replace a:ak _ _ _ [fI E b f v ⟨k,u,x,r,o⟩ l n t,F]:=(a.pick (l':=[cJ E v k (u:Int) x,cY E r l n,aN E.B t o,b,f,F]) [0,1,2,3,4,5]).fP 5;go_wp2_with fail;go_ret2;exact⟨by rw[decide_eq_false y];rfl,_,gM.mk (s:=⟨k,u,x,r,o⟩) (pk:=v) (A:=l) (c:=n) (m:=t) hle,a.pick [0,1]⟩
    .have H:=hid D;clear D;go_step;refine ah ?_;refine ag ?_;refine aI (ai ao) (by(have h:=H.out;go_simp;try simp[h])) ?_;refine ag ?_;iterate 5 refine ps ?_
     iterate 4 refine ag ?_
     refine an ?_;replace a:ak _ _ _ [fI E b f v ⟨k,u,x,r,o⟩ l n t,F]:=(a.pick (l':=[cJ E v k (u:Int) x,cY E r l n,aN E.B t o,b,f,F]) [0,1,2,3,4,5]).fP 5;go_wp2_with fail;go_ret2;exact⟨by rw[decide_eq_false H];rfl,_,gM.mk (s:=⟨k,u,x,r,o⟩) (pk:=v) (A:=l) (c:=n) (m:=t) hle,a.pick [0,1]⟩
   .have X:aE (¬(nx:Int)=(V:Int)):=hid ad;have K:=N;rw[show yN E ⟨st,nx,ao,j,d⟩=143 by unfold yN;rw[if_neg bc,if_neg (λh=>Q (h.trans gw))]]at K;clear N Q U;go_enter Pn,Pt;replace a:ak _ _ _ [cJ E pk st (nx:Int) ao,cY E j A c,aN E.B m d,b,f,F]:=ak.kI (a.pick (l':=[fI E b f pk ⟨st,nx,ao,j,d⟩ A c m,F]) [0,1]);go_step;refine ah ?_;iterate 2 refine ag ?_
    refine an ?_;go_step;refine ah ?_;refine ag ?_;refine aI (ai ao) (by(go_simp;try rfl)) ?_;refine an ?_;go_step;refine ah ?_;iterate 3 refine ag ?_
    refine pl a 0 72 ?_ (hv:=fA (j:=3) aa);refine aI (ai ao) (by(have h:=O.out;go_simp;try simp[h])) ?_;refine an ?_;go_step;refine ah ?_;iterate 3 refine ag ?_
    refine an ?_;go_step;refine ah ?_;iterate 3 refine ag ?_
    refine pl a 0 74 ?_ (hv:=fA (j:=5) aa);refine ag ?_;refine an ?_;go_step;refine cx ?_;refine bN a [8] (λi _=>match i with|8=>J R (V:Int)|_=>a1) (λ_ _=>emp) (λ_=>[]) (λ|3=>[0]|7=>[0]|8=>[3]|_=>[]) (λ_=>[]) [0,1,2,3,4,5,14] (λus=>?_);iterate 3 refine aJ ?_
    refine dl 0 73 ?_ (hv:=fA (j:=4) aa);iterate 3 refine aJ ?_
    refine dl 0 70 ?_ (hv:=fA (j:=1) aa);refine dh (λwl Fr a=>(Z wl (a.at 0)).mono ?_) ?_;·rintro e dr ⟨rfl,g⟩;exact⟨{},aa,(a.aH g).dM⟩
    refine aK (ai ao) (λ_ _ _=>by(have h:=X.out;go_simp;try simp[h])) ?_;refine aJ ?_;refine pN (λb9 a=>?_);replace a:ak _ _ _ [cJ E pk st (nx:Int) ao,cY E j A c,aN E.B m d,b,f,F,emp]:=a;replace a:=a.drop 6;replace a:ak _ _ _ [fI E b f pk ⟨st,nx,ao,j,d⟩ A c m,F]:=(a.pick (l':=[cJ E pk st (nx:Int) ao,cY E j A c,aN E.B m d,b,f,F]) [0,1,2,3,4,5]).fP 5;go_step;refine ah ?_;refine ag ?_;have L:ak _ _ _ ([fI E b f pk ⟨st,nx,ao,j,d⟩ A c m]++[bY [F]]):=ak.tail [fI E b f pk ⟨st,nx,ao,j,d⟩ A c m] [F] (a.pick [0,1]);refine aR (Ol 143 #[ay (ab ⟨E.di,0,af⟩)] bt (fI E b f pk ⟨st,nx,ao,j,d⟩ A c m) _ (gM E b f pk I) aq _ FX (lG Tryz.func143 aw aa) (λW F M=>K W F M) L) ?_;rintro e cE ⟨rfl,G,S,a⟩;clear L;replace a:ak _ _ _ [G,F]:=ak.iB [G] [F] a;refine aT ?_;refine ag ?_;refine an ?_;obtain⟨v,l,n,t,hle,rfl⟩:=S;obtain⟨k,u,x,r,o⟩:=I;replace a:ak _ _ _ [cJ E v k (u:Int) x,cY E r l n,aN E.B t o,b,f,F]:=ak.kI (a.pick (l':=[fI E b f v ⟨k,u,x,r,o⟩ l n t,F]) [0,1]);by_cases D:bt=0
    .have H:=hid D;subst D;by_cases C:k=2
     .have y:=hid C;clear C;go_step;refine ah ?_;refine ag ?_;refine aI (ai az) (by(show _=_;kernel_rfl)) ?_;iterate 4 refine ag ?_
      refine pl a 0 72 ?_ (hv:=fA (j:=3) aa);refine aI (ai az) (by(have h:=y.out;go_simp;try simp[h])) ?_;iterate 4 refine ag ?_
      refine an ?_;replace a:ak _ _ _ [fI E b f v ⟨k,u,x,r,o⟩ l n t,F]:=(a.pick (l':=[cJ E v k (u:Int) x,cY E r l n,aN E.B t o,b,f,F]) [0,1,2,3,4,5]).fP 5;go_wp2_with fail;go_ret2;exact⟨by rw[decide_eq_true y.out];rfl,_,gM.mk (s:=⟨k,u,x,r,o⟩) (pk:=v) (A:=l) (c:=n) (m:=t) hle,a.pick [0,1]⟩
     .have y:=hid C;clear C;go_step;refine ah ?_;refine ag ?_;refine aI (ai az) (by(show _=_;kernel_rfl)) ?_;iterate 4 refine ag ?_
      refine pl a 0 72 ?_ (hv:=fA (j:=3) aa);refine aI (ai ao) (by(have h:=y.out;go_simp;try simp[h])) ?_;iterate 4 refine ag ?_
      refine an ?_;replace a:ak _ _ _ [fI E b f v ⟨k,u,x,r,o⟩ l n t,F]:=(a.pick (l':=[cJ E v k (u:Int) x,cY E r l n,aN E.B t o,b,f,F]) [0,1,2,3,4,5]).fP 5;go_wp2_with fail;go_ret2;exact⟨by rw[decide_eq_false y];rfl,_,gM.mk (s:=⟨k,u,x,r,o⟩) (pk:=v) (A:=l) (c:=n) (m:=t) hle,a.pick [0,1]⟩
    .have H:=hid D;clear D;go_step;refine ah ?_;refine ag ?_;refine aI (ai ao) (by(have h:=H.out;go_simp;try simp[h])) ?_;refine ag ?_;iterate 5 refine ps ?_
     iterate 4 refine ag ?_
     refine an ?_;replace a:ak _ _ _ [fI E b f v ⟨k,u,x,r,o⟩ l n t,F]:=(a.pick (l':=[cJ E v k (u:Int) x,cY E r l n,aN E.B t o,b,f,F]) [0,1,2,3,4,5]).fP 5;go_wp2_with fail;go_ret2;exact⟨by rw[decide_eq_false H];rfl,_,gM.mk (s:=⟨k,u,x,r,o⟩) (pk:=v) (A:=l) (c:=n) (m:=t) hle,a.pick [0,1]⟩
theorem gM.trans{E d b pk a s t}(h:gM E d b a s t)(k:a<=max pk (E.bd:Int)):gM E d b pk s t:=by obtain⟨p,A,c,m,h1,e⟩:=h;exact⟨p,A,c,m,ad,e⟩
def pL(E:o9)(s:pT):Int×pT:=if Bv E s≠0 then(Bv E s,s)else tB E ((dO E.bd E.ms).length+1 -s.nx) s
def FY(b:Nat)(w:aP):Nat:=match w.cell? ⟨b,73,af⟩with|some v=>(bR v).toNat|none=>0
def gM.nx{E b a pk s t F aq W FX}(h:gM E b a pk s t)(e:ak aq FX W (t::F::[])):FY E.di W=s.nx:=by obtain⟨p,A,c,m,_,rfl⟩:=h;have d:ak aq FX W [cJ E p _ _ _,cY E _ A c,aN _ m _,b,a,F]:=e.kI;unfold FY;rw[aX.cell (d.aV 0) 73 (fA (j:=4) aa)];simp[bR]
def amK E(r o)pk s A c m(aq w)FX F(Q:s7 r E.p E.bd E.ms)(N:ie o E.A E.c E.ms)(h:p8 E s)(a:ak aq FX w [fI E r o pk s A c m,F]):
 aC ax 13 #[ay (ab ⟨E.di,0,af⟩)] w λe w'=>e=aB (ar #[J R (pL E s).1,J R 0])/\∃C,gM E r o pk (pL E s).2 C/\ak aq FX w' [C,F]:=by
 have B8:aE (∀W s t F,p8 E s->gM E r o pk s t->ak aq FX W [t,F]->aC ax 62 #[ay (ab ⟨E.di,0,af⟩)] W λe w'=>e=aB (bo #[ai (decide ((gL E s).1=0)&&decide ((gL E s).2.st=2)),J R (gL E s).1])/\∃C,gM E r o pk (gL E s).2 C/\ak aq FX w' [C,F]):=hid (λW s t F h l j=>by obtain⟨p,A,c,m,hle,rfl⟩:=l;exact(amM E r o p s A c m aq W FX F Q h j).mono λe w' ⟨y,C,l,h3⟩=>⟨y,C,l.trans hle,h3⟩);have I:=hid (λW F j=>amT E r o pk s A c m aq W FX F N h j);have P:aE (∀s t F W,gM E r o pk s t->ak aq FX W [t,F]->FY E.di W=s.nx):=hid (λs t F W h j=>h.nx j);have U:=hid h;obtain⟨fin,k⟩:∃z,pL E s=z:=⟨_,aa⟩;rw[k];unfold pL at k;obtain⟨L,X⟩:∃z,fI E r o pk s A c m=z:=⟨_,aa⟩;rw[X]at I a;obtain⟨iH,hcv⟩:∃z,Bv E s=z:=⟨_,aa⟩;rw[hcv]at I k;clear h hcv Q N X;by_cases hz:iH=0
 .subst hz;rw[if_neg bc]at k;go_enter Tryz.func13,Tryz.ntmps13;go_step;refine ah ?_;refine bn a #[J R 0,J R 0] (λb w1 a=>?_);refine an ?_;go_step;refine ah ?_;refine ag ?_;have g:ak _ _ _ ([L]++[bY [aj b #[J R 0,J R 0] 49,F]]):=ak.tail [L] [aj b #[J R 0,J R 0] 49,F] (a.pick [1,0,2]);refine aR (I _ _ g) ?_;rintro e aU ⟨rfl,t1,l,a⟩;clear g;replace a:ak _ _ _ [t1,aj b #[J R 0,J R 0] 49,F]:=ak.iB [t1] [aj b #[J R 0,J R 0] 49,F] a;refine aT ?_;refine bn a #[J R 0,J R 0] (λd bI a=>?_);refine bb a 0 (ar #[J R 0,J R 0]) (λb9 a=>?_);refine an ?_;go_step;refine ah ?_;refine bh a 0 #[J R 0,J R 0] ?_;refine ag ?_;refine aI (ai ao) (by(show _=_;kernel_rfl)) ?_;refine an ?_;have S:=a.pick (l':=[t1,aj b #[J R 0,J R 0] 49,aj d #[J R 0,J R 0] 49,F]) [1,2,0,3];have O:aE (tB E ((dO E.bd E.ms).length+1 -s.nx) s=fin):=hid k;clear k I;go_wp2_with fail;go_loopw [] (λwr=>∃(u:Nat) (s:pT) (t:bu),p8 E s/\aE (tB E u s=fin)/\(dO E.bd E.ms).length+1 -s.nx<=u/\gM E r o pk s t/\ak aq FX wr [t,aj b #[J R 0,J R 0] 49,aj d #[J R 0,J R 0] 49,F]) (λwr=>(dO E.bd E.ms).length+1 -FY E.di wr);case atStart=>exact⟨_,s,t1,U,O,b7 _,l,S⟩
  case round=>
   clear a S l O U;obtain⟨u,s,t,h,k,Y,l,a⟩:=hrel;have M:FY E.di _=s.nx:=P s t (bY [aj b #[J R 0,J R 0] 49,aj d #[J R 0,J R 0] 49,F]) _ l (ak.tail [t] [aj b #[J R 0,J R 0] 49,aj d #[J R 0,J R 0] 49,F] a);have V:=h.nx;obtain⟨u,rfl⟩:∃f,u=f+1:=⟨u -1,ad⟩;have D:s.st≠2->(gL E s).1=0->(gL E s).2.st≠2->p8 E (gL E s).2/\(gL E s).2.nx=s.nx+1:=λhs=>(UN h hs).2;have G:=N6 (E:=E) (s:=s);have n:=k.out;unfold tB at n;have i:=hid (λW F j=>B8 W s t F h l j);obtain⟨bt,B,hs1⟩:∃bt B,gL E s=(bt,B):=⟨_,_,aa⟩;rw[hs1]at D G n i;simp only at D G n i;clear hs1 k;by_cases K:bt=0
   .subst K;by_cases x:B.st=2
    .rw[if_pos (.inr x)]at n;subst n;rw[decide_eq_true x]at i;clear D G x M Y V h;have i:=hid (λW F j=>(i W F j).mono λe w' h=>(show e=aB (bo #[ai az,J R 0])/\_ from h));go_step;refine ah ?_;refine ag ?_;have g:ak _ _ _ ([t]++[bY [aj b #[J R 0,J R 0] 49,aj d #[J R 0,J R 0] 49,F]]):=ak.tail [t] [aj b #[J R 0,J R 0] 49,aj d #[J R 0,J R 0] 49,F] (a.pick [0,1,2,3]);refine aR (i _ _ g) ?_;rintro e cE ⟨y,t2,H,a⟩;clear g;subst y;replace a:ak _ _ _ [t2,aj b #[J R 0,J R 0] 49,aj d #[J R 0,J R 0] 49,F]:=ak.iB [t2] [aj b #[J R 0,J R 0] 49,aj d #[J R 0,J R 0] 49,F] a;refine aT ?_;iterate 5 refine ag ?_
     refine an ?_;go_step;refine ah ?_;iterate 2 refine ag ?_
     iterate 2 refine ps ?_
     refine ag ?_;refine an ?_;go_step;refine ah ?_;iterate 2 refine ag ?_
     refine bb a 1 (ar #[J R 0,J R 0]) (λcV a=>?_);refine an ?_;go_wp2_with fail;refine c8 (v:=ar #[J R 0,J R 0]) (gH aa _ _ _ _ _ _ _ aa (a.aV 1) yh aa aw) aa (⟨aa,t2,H,a.pick [0,3]⟩)
    .rw[if_neg (by simp[x])]at n;rw[decide_eq_false x]at i;have hs2:s.st≠2:=λh=>x (by have q:=G h;simp only[pn]at q;rw[q.2];exact h);obtain⟨h6,h7⟩:=D hs2 aa x;have sZ:aE (tB E u B=fin):=hid n;clear D G x hs2 n;have i:=hid (λW F j=>(i W F j).mono λe w' h=>(show e=aB (bo #[ai ao,J R 0])/\_ from h));go_step;refine ah ?_;refine ag ?_;have g:ak _ _ _ ([t]++[bY [aj b #[J R 0,J R 0] 49,aj d #[J R 0,J R 0] 49,F]]):=ak.tail [t] [aj b #[J R 0,J R 0] 49,aj d #[J R 0,J R 0] 49,F] (a.pick [0,1,2,3]);refine aR (i _ _ g) ?_;rintro e dJ ⟨y,t2,H,a⟩;clear g;subst y;replace a:ak _ _ _ [t2,aj b #[J R 0,J R 0] 49,aj d #[J R 0,J R 0] 49,F]:=ak.iB [t2] [aj b #[J R 0,J R 0] 49,aj d #[J R 0,J R 0] 49,F] a;refine aT ?_;iterate 5 refine ag ?_
     refine an ?_;go_step;refine ah ?_;iterate 3 refine ag ?_
     refine aI (ai ao) (by(show _=_;kernel_rfl)) ?_;refine ag ?_;refine an ?_;have T:=a.pick (l':=[t2,aj b #[J R 0,J R 0] 49,aj d #[J R 0,J R 0] 49,F]) [0,1,2,3];have oo:FY E.di _=B.nx:=P B t2 (bY [aj b #[J R 0,J R 0] 49,aj d #[J R 0,J R 0] 49,F]) _ H (ak.tail [t2] [aj b #[J R 0,J R 0] 49,aj d #[J R 0,J R 0] 49,F] T);go_wp2_with fail;go_roundw;case rel=>exact⟨u,B,t2,h6,sZ,ad,H,T⟩
     case measure=>(rw[oo,M,h7];omega)
   .rw[if_pos (.inl K)]at n;subst n;rw[decide_eq_false K,ahP]at i;have Z:=hid K;clear D G M Y V h K;go_step;refine ah ?_;refine ag ?_;have g:ak _ _ _ ([t]++[bY [aj b #[J R 0,J R 0] 49,aj d #[J R 0,J R 0] 49,F]]):=ak.tail [t] [aj b #[J R 0,J R 0] 49,aj d #[J R 0,J R 0] 49,F] (a.pick [0,1,2,3]);refine aR (i _ _ g) ?_;rintro e dB ⟨y,t2,H,a⟩;clear g;subst y;replace a:ak _ _ _ [t2,aj b #[J R 0,J R 0] 49,aj d #[J R 0,J R 0] 49,F]:=ak.iB [t2] [aj b #[J R 0,J R 0] 49,aj d #[J R 0,J R 0] 49,F] a;refine aT ?_;iterate 5 refine ag ?_
    refine an ?_;go_step;refine ah ?_;iterate 3 refine ag ?_
    refine aI (ai az) (by(have h:=Z.out;go_simp;try simp[h])) ?_;refine ag ?_;refine an ?_;go_step;refine ah ?_;iterate 2 refine ag ?_
    refine bb a 1 (ar #[J R bt,J R 0]) (λeZ a=>?_);refine an ?_;go_wp2_with fail;refine c8 (v:=ar #[J R bt,J R 0]) (gH aa _ _ _ _ _ _ _ aa (a.aV 1) yh aa aw) aa (⟨aa,t2,H,a.pick [0,3]⟩)
 .rw[if_pos hz]at k;subst k;have e1:=hid hz;clear hz;go_enter Tryz.func13,Tryz.ntmps13;go_step;refine ah ?_;refine bn a #[J R 0,J R 0] (λb gV a=>?_);refine an ?_;go_step;refine ah ?_;refine ag ?_;have g:ak _ _ _ ([L]++[bY [aj b #[J R 0,J R 0] 49,F]]):=ak.tail [L] [aj b #[J R 0,J R 0] 49,F] (a.pick [1,0,2]);refine aR (I _ _ g) ?_;rintro e hZ ⟨rfl,t1,l,a⟩;clear g;replace a:ak _ _ _ [t1,aj b #[J R 0,J R 0] 49,F]:=ak.iB [t1] [aj b #[J R 0,J R 0] 49,F] a;refine aT ?_;refine bn a #[J R 0,J R 0] (λd jQ a=>?_);refine bb a 0 (ar #[J R iH,J R 0]) (λke a=>?_);refine an ?_;go_step;refine ah ?_;refine bh a 0 #[J R iH,J R 0] ?_;refine ag ?_;refine aI (ai az) (by(have h:=e1.out;go_simp;try simp[h])) ?_;refine an ?_;go_step;refine ah ?_;refine bh a 0 #[J R iH,J R 0] ?_;refine bb a 2 (ar #[J R iH,J R 0]) (λk8 a=>?_);refine an ?_;go_wp2_with fail;refine c8 (v:=ar #[J R iH,J R 0]) (gH aa _ _ _ _ _ _ _ aa (a.aV 2) yh aa aw) aa (⟨aa,t1,l,a.pick [1,3]⟩)
def amL di(c S pl d)(bd pk o n st nx)(g h)bE w(hb:aX w di (hN c bd pk o n g h S pl d st nx bE) 135):
 aC ax 17 #[ay (ab ⟨di,0,af⟩)] w λe w'=>e=aB (J R st)/\au w w':=by
 have b:=hid hb;clear hb;go_enter func17,ntmps17;have a:=a8 w;go_step;refine ah ?_;refine cA ?_;refine aI (ai ao) (by(go_simp;try rfl)) ?_;refine jk ?_;refine aI (J R st) (fM aa aa (aX.aH b.out a.only) (fA (j:=3) aa) aw) ?_;refine bU ?_;go_wp2_with fail;go_ret;exact⟨aa,a.only⟩
def amx di(c S pl d)(bd pk o n st nx)(g h)bE w(hb:aX w di (hN c bd pk o n g h S pl d st nx bE) 135):
 aC ax 234 #[ay (ab ⟨di,0,af⟩)] w λe w'=>e=aB (J R nx)/\au w w':=by
 have b:=hid hb;clear hb;go_enter func234,ntmps234;have a:=a8 w;go_step;refine ah ?_;refine cA ?_;refine aI (ai ao) (by(go_simp;try rfl)) ?_;refine jk ?_;refine aI (J R nx) (fM aa aa (aX.aH b.out a.only) (fA (j:=4) aa) aw) ?_;refine bU ?_;go_wp2_with fail;go_ret;exact⟨aa,a.only⟩
def amC di(c S pl d)(bd pk o n st nx)(g h)bE w(hb:aX w di (hN c bd pk o n g h S pl d st nx bE) 135):
 aC ax 158 #[ay (ab ⟨di,0,af⟩)] w λe w'=>e=aB (J R pk)/\au w w':=by
 have b:=hid hb;clear hb;go_enter Tryz.func158,Tryz.ntmps158;have a:=a8 w;go_step;refine ah ?_;refine cA ?_;refine aI (ai ao) (by(go_simp;try rfl)) ?_;refine o8 ?_;refine aI (J R pk) (fM aa aa (aX.aH b.out a.only) (r7 (j:=2) aa) aw) ?_;refine bU ?_;go_wp2_with fail;go_ret;exact⟨aa,a.only⟩
def amB w:
 aC ax 158 #[ay af] w λe w'=>e=aB (J R 0)/\au w w':=by
 go_enter Tryz.func158,Tryz.ntmps158;have a:=a8 w;go_step;refine ah ?_;refine cA ?_;refine aI (ai az) (by(go_simp;try rfl)) ?_;refine ah ?_;refine ag ?_;refine an ?_;go_wp2_with fail;go_ret;exact⟨aa,a.only⟩
def au7 p(i s)ms w(f:Cm w p s ms)(hi:i<0\/((dO s ms).length:Int)<=i):
 aC ax 139 #[ay (ab ⟨p,0,af⟩),J R i] w λe w'=>e=aB (bo #[ar #[J R 0,J R 0,J R 0,J R 0,J R 0,J R 0,ae af 0 0],ai ao])/\au w w':=by
 have d:=hid (λW g=>F5 p s ms W (f.aH g));obtain⟨l,h⟩:=ex ((dO s ms).length);rw[h]at d hi;clear f h;by_cases b:i<0
 .have c:=hid b;clear b hi;go_enter Tryz.func139,Tryz.ntmps139;have a:=a8 w;go_step;refine ah ?_;refine bn a #[J _ 0,J _ 0,J _ 0,J _ 0,J _ 0,J _ 0,ae _ 0 0] (λj w1 a=>?_);refine cA ?_;refine dp c (ai az) ?_;refine ag ?_;iterate 4 refine ps ?_
  refine cA ?_;refine bb a 0 (ar #[J R 0,J R 0,J R 0,J R 0,J R 0,J R 0,ae af 0 0]) (λm a=>?_);refine bU ?_;go_wp2_with fail;refine c8 (v:=_) (ml aa aa aa (a.aV 0) aw aw) aa (⟨aa,a.only⟩)
 .have c:=hid b;have k:=hid (hi.resolve_left b);clear b hi;go_enter Tryz.func139,Tryz.ntmps139;have a:=a8 w;go_step;refine ah ?_;refine bn a #[J _ 0,J _ 0,J _ 0,J _ 0,J _ 0,J _ 0,ae _ 0 0] (λj n a=>?_);refine cA ?_;refine dp c (ai ao) ?_;refine v3 ?_;refine bH (d _ a.only) a (λo a=>?_);refine dp k (ai az) ?_;refine cA ?_;refine bb a 0 (ar #[J R 0,J R 0,J R 0,J R 0,J R 0,J R 0,ae af 0 0]) (λq a=>?_);refine bU ?_;go_wp2_with fail;refine c8 (v:=_) (ml aa aa aa (a.aV 0) aw aw) aa (⟨aa,a.only⟩)
def stepT(s:Int)(ms:List bO)(i:Int):Int×Int:=if 0<=i then(match(dO s ms)[i.toNat]? with|some m=>cm m|none=>(0,0))else(0,0)
def Dp(s:Int)(ms:List bO)(r:Rec):Bool:=decide (r.cur<=((dO s ms).length:Int))&&(decide ((stepT s ms r.cur).1=r.off)&&decide ((stepT s ms r.cur).2=(r.data.length:Int)))
def YS(di p)s ms(E F)(T S X)(bd pk o n st nx)(g1 g2)bE r z C(aq w)FX(v:s7 E p s ms)(I:ms.length<=1048575)(a:ak aq FX w [aj di (hN T bd pk o n g1 g2 S (ay (ab ⟨p,0,af⟩)) X st nx bE) 135,E,F]):
 aC ax 59 #[ay (ab ⟨di,0,af⟩),ar (recC r z C)] w λe w'=>e=aB (ai (Dp s ms r))/\ak aq FX w' [aj di (hN T bd pk o n g1 g2 S (ay (ab ⟨p,0,af⟩)) X st nx bE) 135,E,F]:=by
 have B:=hid (λW h=>F5 p s ms W (v W h));have G:=hid (λi W h hi=>au7 p i s ms W (v W h) hi);unfold Dp;obtain⟨zL,m⟩:=ex (stepT s ms r.cur);rw[m];unfold stepT at m;have D:=λ(q) W h=>afd p q s ms W (v W h) I;obtain⟨l,H⟩:=ex ((dO s ms).length);rw[H]at B G D⊢;by_cases hr:0<=r.cur/\r.cur<(l:Int)
 .rw[if_pos hr.1]at m;obtain⟨q,K⟩:=wU hr.1;have V:q<l:=ad;obtain⟨bl,U⟩:∃bl,(dO s ms)[q]?=ab bl:=⟨_,cF ad⟩;rw[K,show(q:Int).toNat=q from aa,U]at m;simp only at m;subst m
  have Y:aE (∀W,E.p W->aC ax 139 #[ay _,J R r.cur] W λe w'=>∃(x:Nat) (t:Option bT) (y:Nat),e=aB (bo #[ar #[J R r.cur,J R (x:Int),J R bl.k,J R bl.to,J R bl.fr,J R bl.n,ae t bl.data.length y],ai az])/\cj W w' (cz t y bl.data)):=hid (λW h=>by rw[K];refine(D q W h V).mono λe w' ⟨x,t,y,m2,h1,h2,h3,h4⟩=>?_;grind[cj.T2]);have g:aE (r.cur<=(l:Int)):=hid ad;rw[decide_eq_true g.out,Ks];clear D H hr K V U v I;go_enter Tryz.func59,WD;go_step;refine ah ?_;refine bL a (ar #[J _ _,J _ _,J _ _,J _ _,ae z _ C]) (λM w1 a=>?_);refine hI ?_;refine bN a [6,10,11] (λi u=>match i with|6=>bo #[ar #[J R r.cur,J R (u.c2:Int),J R bl.k,J R bl.to,J R bl.fr,J R bl.n,ae u.A bl.data.length u.c],ai az]|10=>ay (ab ⟨u.b,0,af⟩)|_=>a1) (λd=>λ|6=>cz ((d 6).A) ((d 6).c) bl.data|10=>aj ((d 10).b) #[J R 0,J R 0,J R 0,J R 0,J R 0,J R 0,ae af 0 0] 253|11=>aj ((d 10).b) #[J R r.cur,J R ((d 6).c2:Int),J R bl.k,J R bl.to,J R bl.fr,J R bl.n,ae (d 6).A bl.data.length (d 6).c] 253|_=>emp) (λ|11=>[14]|_=>[]) (λ|3=>[1]|5=>[0]|6=>[2]|_=>[]) (λ|6=>[6]|10=>[10]|11=>[6,10]|_=>[]) [0,1,2,3,10,15] (λd=>?_);refine c5 ?_;refine dl 0 70 ?_ (hv:=fA (j:=1) aa);refine aJ ?_;refine dl 0 2 ?_;refine dh (λf Fr a=>(Y f (a.at 0)).mono ?_) ?_;·rintro e dr ⟨x,t,y,rfl,Z⟩;exact⟨{A:=t,c:=y,c2:=x},aa,a.new _ Z⟩
  refine c5 ?_;refine se _ ?_;refine fY _ ?_;refine aJ ?_;refine bQ λaU a=>?_;generalize (d 6).A=L at a⊢;generalize (d 6).c=Q at a⊢;generalize (d 6).c2=aAg at a⊢;generalize (d 10).b=N at a⊢;refine b5 ?_;refine bh a 5 #[J R bl.k,J R bl.to,J R bl.fr,J R bl.n,ae L bl.data.length Q] ?_;refine bH (uZ bl.k bl.to bl.fr bl.n L _ Q _) a (λbI a=>?_);refine bn a #[J _ 0,J _ 0] (λO b9 a=>?_);refine bb a 0 (ar #[J _ _,J _ (cD bl)]) (λcE a=>?_);refine ah ?_;refine v2 ?_;refine cx ?_;refine bN a [6] (λi _=>match i with|6=>J R (l:Int)|_=>a1) (λ_ _=>emp) (λ_=>[]) (λ|1=>[1]|5=>[2]|6=>[3]|9=>[0]|11=>[1]|13=>[1]|_=>[]) (λ_=>[]) [0,1,2,3,4,5,6,13] (λd=>?_);refine aJ ?_;refine dl 0 2 ?_;refine c5 ?_;refine dl 0 70 ?_ (hv:=fA (j:=1) aa);refine dA (λf _ a=>B f (a.at 0)) ?_;refine aK (ai az) (λ_ _ _=>by(have h:=g.out;go_simp;try simp[h])) ?_;refine aJ ?_;refine eO 0 #[J R bl.to,J R (cD bl)] ?_;refine aJ ?_;refine dl 0 3 ?_;refine aJ ?_;refine dl 0 4 ?_;refine bx ?_;refine aK (ai (decide (bl.to=r.off)&&decide (cD bl=(r.data.length:Int)))) (λ_ _ _=>by(go_simp;grind)) ?_;refine bx ?_;refine bQ λcV a=>?_;replace a:=a.drop 7;go_wp2_with fail;go_ret;exact⟨aa,a.pick [2,3,4]⟩
 .have ar0:zL=(0,0):=aG;subst ar0;have P:aE (r.cur<0\/(l:Int)<=r.cur):=hid ad;clear D m v I H;by_cases hle:r.cur<=(l:Int);·have g:=hid hle;rw[decide_eq_true g.out,Ks];clear hle hr;go_enter Tryz.func59,WD;go_step;refine ah ?_;refine bL a (ar #[J _ _,J _ _,J _ _,J _ _,ae z _ C]) (λM dJ a=>?_);refine hI ?_;refine bN a [6,10,11] (λi u=>match i with|6=>bo #[ar #[J R 0,J R 0,J R 0,J R 0,J R 0,J R 0,ae af 0 0],ai ao]|10=>ay (ab ⟨u.b,0,af⟩)|_=>a1) (λd=>λ|10=>aj ((d 10).b) #[J R 0,J R 0,J R 0,J R 0,J R 0,J R 0,ae af 0 0] 253|11=>aj ((d 10).b) #[J R 0,J R 0,J R 0,J R 0,J R 0,J R 0,ae af 0 0] 253|_=>emp) (λ|11=>[14]|_=>[]) (λ|3=>[1]|5=>[0]|6=>[2]|_=>[]) (λ|10=>[10]|11=>[10]|_=>[]) [0,1,2,3,10,15] (λd=>?_);refine c5 ?_;refine dl 0 70 ?_ (hv:=fA (j:=1) aa);refine aJ ?_;refine dl 0 2 ?_;refine dA (λf _ a=>G _ f (a.at 0) P) ?_;refine c5 ?_;refine se _ ?_;refine fY _ ?_;refine aJ ?_;refine bQ λdB a=>?_;generalize (d 10).b=N at a⊢;replace a:=a.drop 4;refine b5 ?_;refine bh a 4 #[J R 0,J R 0,J R 0,J R 0,ae af 0 0] ?_;refine bH (uZ 0 0 0 0 _ 0 0 _) a (λeZ a=>?_);refine bn a #[J _ 0,J _ 0] (λO gV a=>?_);refine bb a 0 (ar #[J _ 0,J _ 0]) (λhZ a=>?_);refine ah ?_;refine DN ?_;refine bb a 0 (ar #[J R 0,J R 0]) (λjQ a=>?_);refine cx ?_;refine bN a [6] (λi _=>match i with|6=>J R (l:Int)|_=>a1) (λ_ _=>emp) (λ_=>[]) (λ|1=>[1]|5=>[2]|6=>[3]|9=>[0]|11=>[1]|13=>[1]|_=>[]) (λ_=>[]) [0,1,2,3,4,5,12] (λd=>?_);refine aJ ?_;refine dl 0 2 ?_;refine c5 ?_;refine dl 0 70 ?_ (hv:=fA (j:=1) aa);refine dA (λf _ a=>B f (a.at 0)) ?_;refine aK (ai az) (λ_ _ _=>by(have h:=g.out;go_simp;try simp[h])) ?_;refine aJ ?_;refine eO 0 #[J R 0,J R 0] ?_;refine aJ ?_;refine dl 0 3 ?_;refine aJ ?_;refine dl 0 4 ?_;refine bx ?_;refine aK (ai (decide (0=r.off)&&decide (0=(r.data.length:Int)))) (λ_ _ _=>by(go_simp;grind)) ?_;refine bx ?_;refine bQ λke a=>?_;replace a:=a.drop 6;go_wp2_with fail;go_ret;exact⟨aa,a.pick [2,3,4]⟩
  .have g:=hid hle;rw[decide_eq_false g,ahP];clear hle hr;go_enter Tryz.func59,WD;go_step;refine ah ?_;refine bL a (ar #[J _ _,J _ _,J _ _,J _ _,ae z _ C]) (λM k8 a=>?_);refine hI ?_;refine bN a [6,10,11] (λi u=>match i with|6=>bo #[ar #[J R 0,J R 0,J R 0,J R 0,J R 0,J R 0,ae af 0 0],ai ao]|10=>ay (ab ⟨u.b,0,af⟩)|_=>a1) (λd=>λ|10=>aj ((d 10).b) #[J R 0,J R 0,J R 0,J R 0,J R 0,J R 0,ae af 0 0] 253|11=>aj ((d 10).b) #[J R 0,J R 0,J R 0,J R 0,J R 0,J R 0,ae af 0 0] 253|_=>emp) (λ|11=>[14]|_=>[]) (λ|3=>[1]|5=>[0]|6=>[2]|_=>[]) (λ|10=>[10]|11=>[10]|_=>[]) [0,1,2,3,10,15] (λd=>?_);refine c5 ?_;refine dl 0 70 ?_ (hv:=fA (j:=1) aa);refine aJ ?_;refine dl 0 2 ?_;refine dA (λf _ a=>G _ f (a.at 0) P) ?_;refine c5 ?_;refine se _ ?_;refine fY _ ?_;refine aJ ?_;refine bQ λmn a=>?_;generalize (d 10).b=N at a⊢;replace a:=a.drop 4;refine b5 ?_;refine bh a 4 #[J R 0,J R 0,J R 0,J R 0,ae af 0 0] ?_;refine bH (uZ 0 0 0 0 _ 0 0 _) a (λnn a=>?_);refine bn a #[J _ 0,J _ 0] (λO pO a=>?_);refine bb a 0 (ar #[J _ 0,J _ 0]) (λrK a=>?_);refine ah ?_;refine DN ?_;refine bb a 0 (ar #[J R 0,J R 0]) (λu4 a=>?_);refine cx ?_;refine bN a [6] (λi _=>match i with|6=>J R (l:Int)|_=>a1) (λ_ _=>emp) (λ_=>[]) (λ|1=>[1]|5=>[2]|6=>[3]|_=>[]) (λ_=>[]) [0,1,2,3,4,5,12] (λd=>?_);refine aJ ?_;refine dl 0 2 ?_;refine c5 ?_;refine dl 0 70 ?_ (hv:=fA (j:=1) aa);refine dA (λf _ a=>B f (a.at 0)) ?_;refine aK (ai ao) (λ_ _ _=>by(have h:=g.out;go_simp;try simp[h])) ?_;refine aJ ?_;iterate 8 refine ds ?_
   refine bx ?_;refine bQ λx0 a=>?_;replace a:=a.drop 6;go_wp2_with fail;go_ret;exact⟨aa,a.pick [2,3,4]⟩
section
attribute [local irreducible] wpList cM
abbrev dN(x:Int):Value:=J aF x
def a64(x y:Int):Int:=aF.wrap (x+y)
def m64(x y:Int):Int:=aF.wrap (x*y)
def qx(x y:Int):Int:=aF.wrap ((mM 64 x&&& mM 64 y).toNat:Int)
def FK(x:Int)(n:Nat):Int:=aF.wrap (x*2^n)
def pI(x:Int)(n:Nat):Int:=x.fdiv (2^n)
def kU(g:Nat->Int):Nat->Int×List Int
 |0=>(0,ea 4 0)
 |i+1=>(pI (a64 (g i) (kU g i).1) 32,(kU g i).2.set i (qx (a64 (g i) (kU g i).1) 4294967295))
theorem Cz g:∀i,(kU g i).2.length=4
 |0=>aa
 |i+1=>by rw[kU,t'];exact Cz g i
def sF(l:List Int)(m:Int):List Int:=(kU (λi=>m64 (l[i]?.getD 0) m) 4).2
def Bk(l:List Int):List Int:=(kU (λi=>FK (l[i]?.getD 0) 16) 4).2
def Dz(l z:List Int):List Int:=(kU (λi=>a64 (l[i]?.getD 0) (z[i]?.getD 0)) 4).2
def JF(l:List Int)(m:Int):List Int:=Dz (sF l (qx m 65535)) (Bk (sF l (pI m 16)))
def afZ{l m}:(sF l m).length=4:=Cz _ 4
def aw3{l}:(Bk l).length=4:=Cz _ 4
def afe{l z}:(Dz l z).length=4:=Cz _ 4
theorem Bs{l m}:(JF l m).length=4:=afe
def afL l m w(k:l.length=4):
 aC ax 377 #[ar (aM dN l []),dN m] w λe w'=>e=aB (ar (aM dN (sF l m) []))/\au w w':=by
 have q:=hid k;clear k;obtain⟨g,r⟩:∃g:Nat->Int,g=λi=>m64 (l[i]?.getD 0) m:=⟨_,aa⟩;have f:=hid r;go_enter func377,ntmps377;have a:=a8 w;go_step;refine ah ?_;refine bL a (ar _) (λn w1 a=>?_);refine bn a (aM dN (ea 4 0) []) (λo t a=>?_);refine OC ?_;refine bn a (aM dN (ea 4 0) []) (λp u a=>?_);refine ah ?_;refine ag ?_;refine an ?_;have j:=a;go_wp2_with fail;go_loopw [5,7] (λiH h wr=>∃i:Nat,i<=4/\iH=dN (kU g i).1/\h=J R (i:Int)/\ak w (λ_=>False) wr [aj p (aM dN ((kU g i).2) []) 451,aj o (aM dN (ea 4 0) []) 451,aj n (aM dN (l) []) 451]) (λiH h wr=>4 -(bR h).toNat);case atStart=>exact⟨0,cB _,aa,aa,j⟩
 case round=>
  clear a j;obtain⟨i,hi,rfl,rfl,a⟩:=hrel;obtain⟨c,hc⟩:=ex ((kU g i).1);obtain⟨z,hz⟩:=ex ((kU g i).2);have d:aE (z.length=4):=hid (by grind[Cz]);rw[hz]at a;rw[hc];have b:=hid (And.intro hc hz);clear hc hz;by_cases hlt:i<4
  .have s:(i:Int)<4:=ad;go_step;refine ah ?_;refine ag ?_;refine a7 (ai az) ?_;refine b5 ?_;refine kG ?_;refine ox a 2 q ?_;refine ag ?_;refine pk (dN (m64 (l[i]?.getD 0) m)) ?_;refine ag ?_;refine pk (dN (a64 (m64 (l[i]?.getD 0) m) c)) ?_;refine kf ?_;refine pk (dN (qx (a64 (m64 (l[i]?.getD 0) m) c) 4294967295)) ?_;refine kG ?_;refine xJ a 0 d (λx a=>?_);refine b5 ?_;refine pk (dN (pI (a64 (m64 (l[i]?.getD 0) m) c) 32)) ?_;refine cA ?_;refine pad (i:Int) 1 ((i+1:Nat):Int) ?_;refine bU ?_;go_wp2_with fail;go_roundw;case rel=>exact⟨i+1,ad,by rw[kU,b.1,f],aa,by rw[kU,b.1,b.2,f];exact a.pick [0,1,2]⟩
   case measure=>simp[bR]<;>omega
  .have s:¬(i:Int)<4:=ad;obtain rfl:i=4:=ad;go_step;refine ah ?_;refine ag ?_;refine a7 (ai ao) ?_;refine ah ?_;refine zz a 0 d.out ?_;refine pH a 1 (lI ..) d (λy a=>?_);refine an ?_;go_wp2_with fail;refine c8 (v:=_) (gH aa _ _ _ _ _ _ _ aa (a.aV 1) PA aa (by rw[i',d];rfl)) aa (⟨by rw[show sF l m=z from by rw[<-b.2,f];rfl],a.only⟩)
def awh l w(k:l.length=4):
 aC ax 378 #[ar (aM dN l [])] w λe w'=>e=aB (ar (aM dN (Bk l) []))/\au w w':=by
 have p:=hid k;clear k;obtain⟨g,q⟩:∃g:Nat->Int,g=λi=>FK (l[i]?.getD 0) 16:=⟨_,aa⟩;have f:=hid q;go_enter func378,ntmps378;have a:=a8 w;go_step;refine ah ?_;refine bL a (ar _) (λm w1 a=>?_);refine bn a (aM dN (ea 4 0) []) (λn s a=>?_);refine OC ?_;refine bn a (aM dN (ea 4 0) []) (λo t a=>?_);refine ah ?_;refine ag ?_;refine an ?_;have j:=a;go_wp2_with fail;go_loopw [3,5] (λiH h wr=>∃i:Nat,i<=4/\iH=dN (kU g i).1/\h=J R (i:Int)/\ak w (λ_=>False) wr [aj o (aM dN ((kU g i).2) []) 451,aj n (aM dN (ea 4 0) []) 451,aj m (aM dN (l) []) 451]) (λiH h wr=>4 -(bR h).toNat);case atStart=>exact⟨0,cB _,aa,aa,j⟩
 case round=>
  clear a j;obtain⟨i,hi,rfl,rfl,a⟩:=hrel;obtain⟨c,hc⟩:=ex ((kU g i).1);obtain⟨z,hz⟩:=ex ((kU g i).2);have d:aE (z.length=4):=hid (by grind[Cz]);rw[hz]at a;rw[hc];have b:=hid (And.intro hc hz);clear hc hz;by_cases hlt:i<4
  .have r:(i:Int)<4:=ad;go_step;refine ah ?_;refine ag ?_;refine a7 (ai az) ?_;refine b5 ?_;refine kG ?_;refine ox a 2 p ?_;refine pk (dN (FK (l[i]?.getD 0) 16)) ?_;refine ag ?_;refine pk (dN (a64 (FK (l[i]?.getD 0) 16) c)) ?_;refine kf ?_;refine pk (dN (qx (a64 (FK (l[i]?.getD 0) 16) c) 4294967295)) ?_;refine kG ?_;refine xJ a 0 d (λu a=>?_);refine b5 ?_;refine pk (dN (pI (a64 (FK (l[i]?.getD 0) 16) c) 32)) ?_;refine cA ?_;refine pad (i:Int) 1 ((i+1:Nat):Int) ?_;refine bU ?_;go_wp2_with fail;go_roundw;case rel=>exact⟨i+1,ad,by rw[kU,b.1,f],aa,by rw[kU,b.1,b.2,f];exact a.pick [0,1,2]⟩
   case measure=>simp[bR]<;>omega
  .have r:¬(i:Int)<4:=ad;obtain rfl:i=4:=ad;go_step;refine ah ?_;refine ag ?_;refine a7 (ai ao) ?_;refine ah ?_;refine zz a 0 d.out ?_;refine pH a 1 (lI ..) d (λx a=>?_);refine an ?_;go_wp2_with fail;refine c8 (v:=_) (gH aa _ _ _ _ _ _ _ aa (a.aV 1) PA aa (by rw[i',d];rfl)) aa (⟨by rw[show Bk l=z from by rw[<-b.2,f];rfl],a.only⟩)
def av9(l y)w(k:l.length=4)(m:y.length=4):
 aC ax 376 #[ar (aM dN l []),ar (aM dN y [])] w λe w'=>e=aB (ar (aM dN (Dz l y) []))/\au w w':=by
 have r:=hid k;clear k;have s:=hid m;clear m;obtain⟨g,t⟩:∃g:Nat->Int,g=λi=>a64 (l[i]?.getD 0) (y[i]?.getD 0):=⟨_,aa⟩;have f:=hid t;go_enter func376,ntmps376;have a:=a8 w;go_step;refine ah ?_;refine bL a (ar _) (λn w1 a=>?_);refine bL a (ar _) (λo A a=>?_);refine bn a (aM dN (ea 4 0) []) (λp B a=>?_);refine OC ?_;refine bn a (aM dN (ea 4 0) []) (λq C a=>?_);refine ah ?_;refine ag ?_;refine an ?_;have j:=a;go_wp2_with fail;go_loopw [5,7] (λiH h wr=>∃i:Nat,i<=4/\iH=dN (kU g i).1/\h=J R (i:Int)/\ak w (λ_=>False) wr [aj q (aM dN ((kU g i).2) []) 451,aj p (aM dN (ea 4 0) []) 451,aj o (aM dN (y) []) 451,aj n (aM dN (l) []) 451]) (λiH h wr=>4 -(bR h).toNat);case atStart=>exact⟨0,cB _,aa,aa,j⟩
 case round=>
  clear a j;obtain⟨i,hi,rfl,rfl,a⟩:=hrel;obtain⟨c,hc⟩:=ex ((kU g i).1);obtain⟨z,hz⟩:=ex ((kU g i).2);have d:aE (z.length=4):=hid (by grind[Cz]);rw[hz]at a;rw[hc];have b:=hid (And.intro hc hz);clear hc hz;by_cases hlt:i<4
  .have u:(i:Int)<4:=ad;go_step;refine ah ?_;refine ag ?_;refine a7 (ai az) ?_;refine cx ?_;refine bN a [] (λ_ _=>a1) (λ_ _=>emp) (λ_=>[]) (λ|2=>[3]|5=>[2]|_=>[]) (λ_=>[]) [0,1,2,3] (λx=>?_);refine aJ ?_;refine kW ?_;refine l4 0 r ?_;refine aJ ?_;refine kW ?_;refine l4 0 s ?_;refine fJ (dN (a64 (l[i]?.getD 0) (y[i]?.getD 0))) ?_;refine aJ ?_;refine fJ (dN (a64 (a64 (l[i]?.getD 0) (y[i]?.getD 0)) c)) ?_;refine aJ ?_;refine bQ λD a=>?_;refine gW ?_;refine pk (dN (qx (a64 (a64 (l[i]?.getD 0) (y[i]?.getD 0)) c) 4294967295)) ?_;refine kG ?_;refine xJ a 0 d (λE a=>?_);refine b5 ?_;refine pk (dN (pI (a64 (a64 (l[i]?.getD 0) (y[i]?.getD 0)) c) 32)) ?_;refine cA ?_;refine pad (i:Int) 1 ((i+1:Nat):Int) ?_;refine bU ?_;go_wp2_with fail;go_roundw;case rel=>exact⟨i+1,ad,by rw[kU,b.1,f],aa,by rw[kU,b.1,b.2,f];exact a.pick [0,1,2,3]⟩
   case measure=>simp[bR]<;>omega
  .have u:¬(i:Int)<4:=ad;obtain rfl:i=4:=ad;go_step;refine ah ?_;refine ag ?_;refine a7 (ai ao) ?_;refine ah ?_;refine zz a 0 d.out ?_;refine pH a 1 (lI ..) d (λF a=>?_);refine an ?_;go_wp2_with fail;refine c8 (v:=_) (gH aa _ _ _ _ _ _ _ aa (a.aV 1) PA aa (by rw[i',d];rfl)) aa (⟨by rw[show Dz l y=z from by rw[<-b.2,f];rfl],a.only⟩)
def Uz l m w(c:l.length=4):
 aC ax 354 #[ar (aM dN l []),dN m] w λe w'=>e=aB (ar (aM dN (JF l m) []))/\au w w':=by
 have b:=hid c;clear c;go_enter func354,ntmps354;have a:=a8 w;go_step;refine ah ?_;refine bL a (ar _) (λf w1 a=>?_);refine bn a (aM dN (ea 4 0) []) (λd h a=>?_);refine b5 ?_;refine pk (dN (qx m 65535)) ?_;refine cA ?_;refine pk (dN (pI m 16)) ?_;refine hI ?_;refine bN a [2,5,6,7,8] (λi _=>match i with|2=>ar (aM dN ((sF l (qx m 65535))) [])|5=>ar (aM dN ((sF l (pI m 16))) [])|6=>ar (aM dN ((Bk (sF l (pI m 16)))) [])|7=>ar (aM dN ((Dz (sF l (qx m 65535)) (Bk (sF l (pI m 16))))) [])|_=>a1) (λ_=>λ|8=>aj d (aM dN ((Dz (sF l (qx m 65535)) (Bk (sF l (pI m 16))))) []) 451|_=>emp) (λ|8=>[0]|_=>[]) (λ|0=>[1]|3=>[1]|_=>[]) (λ_=>[]) [1,4,7,8,9,10] (λg=>?_);refine Z2 0 b ?_;refine aJ ?_;refine dA (λ_ _ _=>afL _ _ _ b) ?_;refine Z2 0 b ?_;refine aJ ?_;refine dA (λ_ _ _=>afL _ _ _ b) ?_;refine dA (λ_ _ _=>awh _ _ afZ) ?_;refine dA (λ_ _ _=>av9 _ _ _ afZ aw3) ?_;refine aoI (lI ..) afe ?_;refine bQ λj a=>?_;replace a:=a.drop 1;replace a:=a.drop 1;replace a:=a.drop 1;replace a:=a.drop 1;go_wp2_with fail;refine c8 (v:=ar (aM dN (Dz (sF l (qx m 65535)) (Bk (sF l (pI m 16)))) [])) (gH aa _ _ _ _ _ _ _ aa (a.aV 1) PA aa ba) aa (⟨aa,a.only⟩)
def afG(m n)t w:
 aC ax 321 #[dN m,dN n,ai t] w λe w'=>∃b,e=aB (ai b)/\au w w':=by
 cases t with
 |false=>
  go_enter Tryz.func321,Tryz.ntmps321;have a:=a8 w;go_step;refine ah ?_;refine ag ?_;refine an ?_;go_step;refine ah ?_;refine ag ?_;refine pk (dN (qx m 4294967295)) ?_;refine ag ?_;refine pk (dN (pI m 32)) ?_;refine pk (ar (aM dN ([qx m 4294967295,pI m 32,0,0]) [])) ?_;refine ag ?_;refine bH (Uz _ m _ aa) a (λw1 a=>?_);refine bn a (aM dN (ea 4 0) []) (λk I a=>?_);refine pH a 0 (lI ..) Bs (λK a=>?_);refine an ?_;go_step;refine ah ?_;refine ag ?_;refine pk (ar (aM dN ([0,0,n,0]) [])) ?_;refine bn a (aM dN (ea 4 0) []) (λl L a=>?_);refine pH a 0 (lI ..) (aa:([0,0,n,0]:List _).length=4) (λM a=>?_);refine an ?_;go_step;refine ah ?_;refine ag ?_;refine an ?_;go_step;refine ah ?_;refine ag ?_;refine an ?_;obtain⟨x,hx⟩:∃x,x=JF [qx m 4294967295,pI m 32,0,0] m:=⟨_,aa⟩;obtain⟨y,i⟩:∃y,y=([0,0,n,0]:List Int):=⟨_,aa⟩;have f:aE (x.length=4):=hid (by grind[Bs]);have g:aE (y.length=4):=hid aG;rw[<-hx,<-i]at a;clear hx i;have r:=a;go_wp2_with fail;go_loopw [9] (λd wr=>∃q:Nat,q<=4/\d=J R ((q:Int) -1)/\ak w (λ_=>False) wr [aj l (aM dN (y) []) 451,aj k (aM dN (x) []) 451]) (λd wr=>(bR d+1).toNat);case atStart=>grind
  case round=>
   clear a r;obtain⟨q,z,rfl,a⟩:=hrel;by_cases hlt:0<q
   .obtain⟨j,rfl⟩:∃j,q=j+1:=⟨q -1,ad⟩;rw[show((j+1:Nat):Int) -1=(j:Int)from ad];have u:j<4:=ad;have v:(0:Int)<=(j:Int):=ad;go_step;refine ah ?_;refine ag ?_;refine a7 (ai az) ?_;refine an ?_;obtain⟨b,hb⟩:=ex ((x[j]?.getD 0!=y[j]?.getD 0));have o:=hid hb;clear hb;go_step;refine cx ?_;refine bN a [] (λ_ _=>a1) (λ_ _=>emp) (λ_=>[]) (λ|2=>[1]|5=>[0]|_=>[]) (λ_=>[]) [0,1] (λs=>?_);refine aJ ?_;refine kW ?_;refine l4 0 f ?_;refine aJ ?_;refine kW ?_;refine l4 0 g ?_;refine aK (ai b) (λ_ _ _=>by(have h:=o.out;go_simp;try simp[h])) ?_;refine bQ λN a=>?_;cases b with
    |true=>
     obtain⟨c,hc⟩:=ex (decide (x[j]?.getD 0<y[j]?.getD 0));have p:=hid hc;clear hc;go_step;refine cx ?_;refine bN a [] (λ_ _=>a1) (λ_ _=>emp) (λ_=>[]) (λ|2=>[1]|5=>[0]|_=>[]) (λ_=>[]) [0,1] (λs=>?_);refine aJ ?_;refine kW ?_;refine l4 0 f ?_;refine aJ ?_;refine kW ?_;refine l4 0 g ?_;refine aK (ai c) (λ_ _ _=>by(have h:=p.out;go_simp;try simp[h])) ?_;refine aJ ?_;refine bQ λO a=>?_;go_wp2_with fail;go_ret;exact⟨_,aa,a.only⟩
    |false=>
     go_step;refine ah ?_;refine ag ?_;refine j0 _ 1 ((j:Int) -1) ?_;refine ag ?_;refine an ?_;go_wp2_with fail;go_roundw;case rel=>grind
     case measure=>grind[bR]
   .obtain rfl:q=0:=ad;rw[show((0:Nat):Int) -1=-1 from ad];go_step;refine ah ?_;refine ag ?_;refine a7 (ai ao) ?_;refine an ?_;go_step;refine ah ?_;refine ag ?_;refine an ?_;go_wp2_with fail;go_ret;exact⟨_,aa,a.only⟩
 |true=>
  go_enter Tryz.func321,Tryz.ntmps321;have a:=a8 w;go_step;refine ah ?_;refine ag ?_;refine an ?_;go_step;refine ah ?_;refine ag ?_;refine pk (dN (qx m 4294967295)) ?_;refine ag ?_;refine pk (dN (pI m 32)) ?_;refine pk (ar (aM dN ([qx m 4294967295,pI m 32,0,0]) [])) ?_;refine ag ?_;refine bH (Uz _ m _ aa) a (λP a=>?_);refine bn a (aM dN (ea 4 0) []) (λk Q a=>?_);refine pH a 0 (lI ..) Bs (λA a=>?_);refine an ?_;go_step;refine ah ?_;refine ag ?_;refine pk (ar (aM dN ([0,0,n,0]) [])) ?_;refine bn a (aM dN (ea 4 0) []) (λl B a=>?_);refine pH a 0 (lI ..) (aa:([0,0,n,0]:List _).length=4) (λC a=>?_);refine an ?_;go_step;refine ah ?_;refine ag ?_;refine an ?_;go_step;refine ah ?_;refine zz a 1 Bs ?_;refine ag ?_;refine bH (Uz _ m _ Bs) a (λD a=>?_);refine pH a 1 Bs Bs (λE a=>?_);refine an ?_;go_step;refine ah ?_;refine ag ?_;refine pk (ar (aM dN ([0,0,0,n]) [])) ?_;refine pH a 0 (aa:([0,0,n,0]:List _).length=4) (aa:([0,0,0,n]:List _).length=4) (λF a=>?_);refine an ?_;go_step;refine ah ?_;refine ag ?_;refine an ?_;obtain⟨x,hx⟩:∃x,x=JF (JF [qx m 4294967295,pI m 32,0,0] m) m:=⟨_,aa⟩;obtain⟨y,i⟩:∃y,y=([0,0,0,n]:List Int):=⟨_,aa⟩;have f:aE (x.length=4):=hid (by grind[Bs]);have g:aE (y.length=4):=hid aG;rw[<-hx,<-i]at a;clear hx i;have r:=a;go_wp2_with fail;go_loopw [9] (λd wr=>∃q:Nat,q<=4/\d=J R ((q:Int) -1)/\ak w (λ_=>False) wr [aj l (aM dN (y) []) 451,aj k (aM dN (x) []) 451]) (λd wr=>(bR d+1).toNat);case atStart=>grind
  case round=>
   clear a r;obtain⟨q,z,rfl,a⟩:=hrel;by_cases hlt:0<q
   .obtain⟨j,rfl⟩:∃j,q=j+1:=⟨q -1,ad⟩;rw[show((j+1:Nat):Int) -1=(j:Int)from ad];have u:j<4:=ad;have v:(0:Int)<=(j:Int):=ad;go_step;refine ah ?_;refine ag ?_;refine a7 (ai az) ?_;refine an ?_;obtain⟨b,hb⟩:=ex ((x[j]?.getD 0!=y[j]?.getD 0));have o:=hid hb;clear hb;go_step;refine cx ?_;refine bN a [] (λ_ _=>a1) (λ_ _=>emp) (λ_=>[]) (λ|2=>[1]|5=>[0]|_=>[]) (λ_=>[]) [0,1] (λs=>?_);refine aJ ?_;refine kW ?_;refine l4 0 f ?_;refine aJ ?_;refine kW ?_;refine l4 0 g ?_;refine aK (ai b) (λ_ _ _=>by(have h:=o.out;go_simp;try simp[h])) ?_;refine bQ λG a=>?_;cases b with
    |true=>
     obtain⟨c,hc⟩:=ex (decide (x[j]?.getD 0<y[j]?.getD 0));have p:=hid hc;clear hc;go_step;refine cx ?_;refine bN a [] (λ_ _=>a1) (λ_ _=>emp) (λ_=>[]) (λ|2=>[1]|5=>[0]|_=>[]) (λ_=>[]) [0,1] (λs=>?_);refine aJ ?_;refine kW ?_;refine l4 0 f ?_;refine aJ ?_;refine kW ?_;refine l4 0 g ?_;refine aK (ai c) (λ_ _ _=>by(have h:=p.out;go_simp;try simp[h])) ?_;refine aJ ?_;refine bQ λH a=>?_;go_wp2_with fail;go_ret;exact⟨_,aa,a.only⟩
    |false=>
     go_step;refine ah ?_;refine ag ?_;refine j0 _ 1 ((j:Int) -1) ?_;refine ag ?_;refine an ?_;go_wp2_with fail;go_roundw;case rel=>grind
     case measure=>grind[bR]
   .obtain rfl:q=0:=ad;rw[show((0:Nat):Int) -1=-1 from ad];go_step;refine ah ?_;refine ag ?_;refine a7 (ai ao) ?_;refine an ?_;go_step;refine ah ?_;refine ag ?_;refine an ?_;go_wp2_with fail;go_ret;exact⟨_,aa,a.only⟩
def agN{z:Nat}(h:(z:Int)<18446744073709551616):aF.wrap ((z:Int).tdiv 2)=((z/2:Nat):Int):=by grind[IntWalk.u64_quo]
def awe n o w:
 aC ax 274 #[dN n,ai o] w λe w'=>(∃x,e=aB (bw x))/\au w w':=by
 cases o with
 |false=>
  go_enter Tryz.func274,Tryz.ntmps274;have a:=a8 w;go_step;refine ah ?_;refine ag ?_;refine ah ?_;refine ag ?_;refine ah ?_;refine ag ?_;refine ah ?_;refine ag ?_;refine an ?_;have h:=a;go_wp2_with fail;go_loopw [5,6] (λf hv wr=>∃lo hi:Nat,lo<hi/\hi<=68719476736/\f=J aF (lo:Int)/\hv=J aF (hi:Int)/\ak w (λ_=>False) wr []) (λf hv wr=>(bR hv).toNat -(bR f).toNat);case atStart=>exact⟨0,_,aS,aS,aa,aa,h⟩
  case round=>
   clear a h;obtain⟨lo,hi,h1,p,rfl,rfl,a⟩:=hrel;have c:aF.wrap ((hi:Int) -(lo:Int))=((hi -lo:Nat):Int):=by grind[KG]
   by_cases hlt:1<hi -lo
   .have l:(1:Int)<((hi -lo:Nat):Int):=ad;have d:=hid c;have j:aE (aF.wrap ((lo:Int)+(hi:Int))=((lo+hi:Nat):Int)):=hid (by grind[KG]);obtain⟨m,i⟩:=ex ((lo+hi)/2);have k:aE (aF.wrap (((lo+hi:Nat):Int).tdiv 2)=(m:Int)):=hid (by rw[agN ad,i]);have q:lo<m/\m<hi:=ad;clear i c;go_step;refine ah ?_;refine v2 ?_;refine aI (J aF _) (by(go_simp;exact d)) ?_;refine a7 (ai az) ?_;refine gW ?_;refine aI (J aF ((lo+hi:Nat):Int)) (by(go_simp;exact j)) ?_;refine aI (J aF _) (by(go_simp;exact k)) ?_;refine Kj ?_;refine aR (afG (m:Int) n ao _) ?_;rintro e w1 ⟨b,rfl,g⟩;replace a:=a.aH g;refine x4 ?_;cases b with
    |true=>
     refine ah ?_;refine eg ?_;go_wp2_with fail;go_roundw;case rel=>exact⟨m,hi,ad,ad,aa,aa,a⟩
     case measure=>simp[bR]<;>omega
    |false=>
     refine ah ?_;refine eg ?_;go_wp2_with fail;go_roundw;case rel=>exact⟨lo,m,ad,ad,aa,aa,a⟩
     case measure=>simp[bR]<;>omega
   .have l:¬(1:Int)<((hi -lo:Nat):Int):=ad;have d:=hid c;clear c;go_step;refine ah ?_;refine v2 ?_;refine aI (J aF _) (by(go_simp;exact d)) ?_;refine a7 (ai ao) ?_;refine b5 ?_;refine pk (bw (gy (lo:Int))) ?_;refine bU ?_;go_wp2_with fail;go_ret;exact⟨⟨_,aa⟩,a.only⟩
 |true=>
  go_enter Tryz.func274,Tryz.ntmps274;have a:=a8 w;go_step;refine ah ?_;refine ag ?_;refine ah ?_;refine ag ?_;refine ah ?_;refine ag ?_;refine ah ?_;refine ag ?_;refine ah ?_;refine ag ?_;refine an ?_;have h:=a;go_wp2_with fail;go_loopw [5,6] (λf hv wr=>∃lo hi:Nat,lo<hi/\hi<=68719476736/\f=J aF (lo:Int)/\hv=J aF (hi:Int)/\ak w (λ_=>False) wr []) (λf hv wr=>(bR hv).toNat -(bR f).toNat);case atStart=>exact⟨0,_,aS,aS,aa,aa,h⟩
  case round=>
   clear a h;obtain⟨lo,hi,h1,p,rfl,rfl,a⟩:=hrel;have c:aF.wrap ((hi:Int) -(lo:Int))=((hi -lo:Nat):Int):=by grind[KG]
   by_cases hlt:1<hi -lo
   .have l:(1:Int)<((hi -lo:Nat):Int):=ad;have d:=hid c;have j:aE (aF.wrap ((lo:Int)+(hi:Int))=((lo+hi:Nat):Int)):=hid (by grind[KG]);obtain⟨m,i⟩:=ex ((lo+hi)/2);have k:aE (aF.wrap (((lo+hi:Nat):Int).tdiv 2)=(m:Int)):=hid (by rw[agN ad,i]);have q:lo<m/\m<hi:=ad;clear i c;go_step;refine ah ?_;refine v2 ?_;refine aI (J aF _) (by(go_simp;exact d)) ?_;refine a7 (ai az) ?_;refine gW ?_;refine aI (J aF ((lo+hi:Nat):Int)) (by(go_simp;exact j)) ?_;refine aI (J aF _) (by(go_simp;exact k)) ?_;refine Kj ?_;refine aR (afG (m:Int) n az _) ?_;rintro e r ⟨b,rfl,g⟩;replace a:=a.aH g;refine x4 ?_;cases b with
    |true=>
     refine ah ?_;refine eg ?_;go_wp2_with fail;go_roundw;case rel=>exact⟨m,hi,ad,ad,aa,aa,a⟩
     case measure=>simp[bR]<;>omega
    |false=>
     refine ah ?_;refine eg ?_;go_wp2_with fail;go_roundw;case rel=>exact⟨lo,m,ad,ad,aa,aa,a⟩
     case measure=>simp[bR]<;>omega
   .have l:¬(1:Int)<((hi -lo:Nat):Int):=ad;have d:=hid c;clear c;go_step;refine ah ?_;refine v2 ?_;refine aI (J aF _) (by(go_simp;exact d)) ?_;refine a7 (ai ao) ?_;refine b5 ?_;refine pk (bw (gy (lo:Int))) ?_;refine bU ?_;go_wp2_with fail;go_ret;exact⟨⟨_,aa⟩,a.only⟩
end
section
attribute [local irreducible] wpList cM
def pK(x:Int)(n:Nat):Int:=pE (jg x n) (mE x (32 -n))
def tc(w:aP)(A:Option bT)(n:Nat):Prop:=∃b off,A=ab ⟨b,off,af⟩/\∀j,j<n->∃x:Int,w.cell? ⟨b,off+j,af⟩=ab (bw x)
def tc.aH{w w' A n}(h:tc w A n)(g:au w w'):tc w' A n:=by obtain⟨b,off,rfl,hc⟩:=h;exact⟨b,_,rfl,λj a=>let⟨x,hx⟩:=hc j a;⟨x,g.cell hx (λh=>h)⟩⟩
def Row.axV{w A}{n c e:Nat}{xs:List Int}(h:Row 0 w A n c e 1 (xs.map bw))(hn:0<n)(hx:xs.length=n):tc w A n:=by obtain⟨g,rfl,_⟩:=h.cell (j:=0) (v:=bw (xs[0]?.getD 0)) aG;refine⟨g,0,rfl,λj f=>⟨xs[j]?.getD 0,?_⟩⟩;obtain⟨b,a,d⟩:=h.cell (j:=j) (v:=bw (xs[j]?.getD 0)) aG;grind
def r5(t:bu)(A:Option bT)(n:Nat):Prop:=∀W,t.p W->tc W A n
def r5.row{A n c e}{xs:List Int}(hn:0<n)(hx:xs.length=n):r5 (bg A n c e 1 (xs.map bw)) A n:=λ_ h=>Row.axV h hn hx
def xQ x(n:Nat)w(h:n∈[2,6,7,11,13,17,18,19,22,25]):
 aC ax 275 #[bw x,J R (n:Int)] w λe w'=>e=aB (bw (pK x n))/\au w w':=by
 have hk:=by simpa using h
 go_enter func275,ntmps275;have a:=a8 w;go_step;refine ah ?_;refine hI ?_;refine bN a [] (λ_ _=>a1) (λ_ _=>emp) (λ_=>[]) (λ_=>[]) (λ_=>[]) [] (λb=>?_);refine bx ?_;refine aK (bw (jg x n)) (λ_ _ _=>by(rcases hk with rfl|rfl|rfl|rfl|rfl|rfl|rfl|rfl|rfl|rfl<;>(show _=_;kernel_rfl))) ?_;refine bx ?_;refine aK (J R ((32 -n:Nat):Int)) (λ_ _ _=>by(rcases hk with rfl|rfl|rfl|rfl|rfl|rfl|rfl|rfl|rfl|rfl<;>(show _=_;kernel_rfl))) ?_;refine aK (bw (mE x (32 -n))) (λ_ _ _=>by(rcases hk with rfl|rfl|rfl|rfl|rfl|rfl|rfl|rfl|rfl|rfl<;>(show _=_;kernel_rfl))) ?_;refine iq ?_;refine aJ ?_;refine bQ λw1 a=>?_;go_wp2_with fail;go_ret;exact⟨aa,a.only⟩
def ad9:Value->Nat
 |.slice _ n _=>n
 |_=>0
def av8 A c bs w(hb:bX w A bs)(hbl:bs.length<=1048576):
 aC ax 196 #[ae A bs.length c] w λe w'=>∃(q:Nat) (k:Option bT) (o:Nat) (bV:List Int),bV.length=64*q/\64*q<=bs.length+73/\e=aB (ae k (64*q) o)/\cj w w' (bg k (64*q) o 5 1 (bV.map a6)):=by
 have x:=hid hb;clear hb;go_enter func196,ntmps196;have a:=a8 w;go_step;refine ah ?_;refine ed ?_;refine e' a #[] 5 (λN w1 a=>?_);refine ag ?_;have y:ak _ _ _ [bg _ 0 0 5 1 []]:=a.u1 0 0 0 1 [] aa (b7 _) (cB _) aa;refine kd (m:=_) y 0 1 (bX.cells (x.out.aH a.only)) LS (λI S aU a=>?_) (hby:=by omega);rw[js]at a⊢;rw[l0]at a;refine cA ?_;refine e' a #[J dR 128] 5 (λK bI a=>?_);refine kd (m:=1) a 1 1 (aX.cellsOf (m:=1) (a.aV 0) aa) (by intro u b;simp at b;subst b;rfl) (λF O b9 a=>?_) (hby:=by omega);refine bU ?_;obtain⟨mH,p⟩:=ex (bs.length+1);obtain⟨xs,s,r⟩:∃xs,bs.map a6++[a6 128]=xs.map a6/\xs.length=mH:=⟨bs++[128],bc,aG⟩;rw[s,p]at a;rw[p];obtain⟨T,V,C,W⟩:∃T,T%64=56/\mH<=T/\T<mH+64:=⟨mH+(120 -mH%64)%64,ad,ad,ad⟩;have B:=hid r;clear s r;replace a:=a.drop 0;have f:=a;go_wp2_with fail;go_loopw [3] (λd wr=>∃(n:Nat) (aL:Option bT) (c2:Nat) (bV:List Int),mH<=n/\n<=T/\bV.length=n/\d=ae aL n c2/\ak w (λ_=>False) wr [bg aL n c2 5 1 (bV.map a6)]) (λd wr=>T -ad9 d);case atStart=>exact⟨mH,_,_,xs,b7 _,C,B,aa,f⟩
 case round=>
  clear a f;obtain⟨n,aL,c2,bV,h1,U,E,rfl,a⟩:=hrel;obtain⟨z,hz⟩:=ex (n%64);have g:=hid hz;have l:=hid E;by_cases hne:z=56
  .subst hne;clear hz;go_step;refine ah ?_;refine v2 ?_;refine aI (J _ 56) (Ay 3 _ _ 3 aa n 64 56 aa aa aS g ad) ?_;refine a7 (ai ao) ?_;refine gW ?_;refine pk (dN (aF.wrap (bs.length:Int))) ?_;refine pk (dN (m64 (aF.wrap (bs.length:Int)) 8)) ?_;refine bU ?_;obtain⟨v4,hv4⟩:=ex (m64 (aF.wrap (bs.length:Int)) 8);rw[hv4];clear hv4;refine ah ?_;refine ag ?_;refine an ?_;have Z:=g.out;have f:=a;go_wp2_with fail;go_loopw [3,5] (λd i wr=>∃(q:Nat) (aL:Option bT) (c2:Nat) (bV:List Int),q<=8/\bV.length=n+(8 -q)/\d=ae aL (n+(8 -q)) c2/\i=J R ((q:Int) -1)/\ak w (λ_=>False) wr [bg aL (n+(8 -q)) c2 5 1 (bV.map a6)]) (λd i wr=>(bR i+1).toNat);case atStart=>exact⟨8,aL,c2,bV,b7 _,l,aa,aa,f⟩
   case round=>
    clear a f l;obtain⟨q,v,dz,t,hq,hzl,rfl,rfl,a⟩:=hrel;have h:=hid hzl;clear hzl;by_cases hlt:0<q
    .obtain⟨j,rfl⟩:∃j,q=j+1:=⟨q -1,ad⟩;rw[show((j+1:Nat):Int) -1=(j:Int)from ad];have X:(0:Int)<=(j:Int):=ad;obtain⟨m,D⟩:=ex (n+(8 -(j+1)));rw[D]at a h⊢;have Y:m<=n+8:=ad;go_step;refine ah ?_;refine ag ?_;refine a7 (ai az) ?_;refine jk ?_;refine Bd 8 (j:Int) ((8*j:Nat):Int) ?_;refine aI (dN _) (yR 42 _ _ 3 aa aF _ v4 _ aa aa (by show 8*j<=64;omega)) ?_;refine pk (a6 (dR.wrap (v4.fdiv (2^(8*j))))) ?_;refine e' a #[a6 (dR.wrap (v4.fdiv (2^(8*j))))] 5 (λM cE a=>?_);refine kd (m:=1) a 1 1 (aX.cellsOf (m:=1) (a.aV 0) aa) (by intro u b;simp at b;subst b;rfl) (λH Q cV a=>?_) (hby:=by omega);refine cA ?_;refine j0 (j:Int) 1 ((j:Int) -1) ?_;refine bU ?_;go_wp2_with fail;go_roundw;case rel=>exact⟨j,_,_,t++[_],ad,by rw[db,h.out];simp;omega,by rw[show n+(8 -j)=m+1 from ad],aa,by rw[show n+(8 -j)=m+1 from by omega,fR];exact a.pick [1]⟩
     case measure=>simp[bR]<;>omega
    .obtain rfl:q=0:=ad;rw[show((0:Nat):Int) -1=-1 from ad];go_step;refine ah ?_;refine ag ?_;refine a7 (ai ao) ?_;refine ah ?_;refine eg ?_;go_wp2_with fail;go_ret;exact⟨(n+8)/64,v,dz,t,by rw[h];omega,ad,by rw[show 64*((n+8)/64)=n+8 from ad];rfl,by rw[show 64*((n+8)/64)=n+8 from ad];exact a.fresh 0⟩
  .have aBF:¬(z:Int)=56:=ad;go_step;refine ah ?_;refine v2 ?_;refine aI _ (Ay 3 _ _ 3 aa n 64 z aa aa aS g ad) ?_;refine a7 (ai az) ?_;refine b5 ?_;refine e' a #[J dR 0] 5 (λL dJ a=>?_);refine kd (m:=1) a 1 1 (aX.cellsOf (m:=1) (a.aV 0) aa) (by intro u b;simp at b;subst b;rfl) (λG P dB a=>?_) (hby:=by omega);refine bU ?_;go_wp2_with fail;go_roundw;case rel=>exact⟨n+1,_,_,bV++[0],ad,ad,by grind[db],aa,by rw[fR];exact a.pick [1]⟩
   case measure=>grind[ad9]
end
section
attribute [local irreducible] wpList cM
def UP(k:Nat)(l:List Nat):List Nat:=if l.all (λq=>decide ((k+2)%q≠0))=az then l++[k+2]else l
def wi:Nat->List Nat
 |0=>[]
 |k+1=>UP k (wi k)
def au9:(wi 310).length=64:=by decide+kernel
def Uj:∀k,∀q∈wi k,2<=q/\q<k+2
 |0,q,h=>by cases h
 |k+1,q,h=>by
  rw[wi]at h;unfold UP at h;split at h
  .rcases List.mem_append.1 h with h|h;·have:=Uj k q h;omega
   .grind
  .have:=Uj k q h;omega
def Bu(q:Nat):Value:=J aF (q:Int)
section
variable {P:Program} {o:Oper} {a:Act} {w:aP}
def Zc t(x y)e(ho:o.op=.binOp .rem t x y e)(p q z:Nat)(hx:a.eval x=J aF (p:Int))(d:a.eval y=J aF (q:Int))(f:0<q)(hz:p%q=z):
 (bz a.eval o).run P w=.ok (.value (J aF (z:Int))) w:=by
 have c:(p:Int).tmod (q:Int)=(z:Int):=aG;have b:¬(q=0):=ad;unfold bz;simp[ho,hx,d,eqGuard,binOp,Op.intDiv,c,b]
end
def awc(n:Nat)w(hn:n<=64):
 aC ax 273 #[J R (n:Int)] w λe w'=>∃L:List Nat,L.length=n/\∃ A c,e=aB (ae A L.length c)/\cj w w' (bg A L.length c 42 1 (L.map Bu)):=by
 have s:=hid hn;clear hn;go_enter func273,ntmps273;have a:=a8 w;go_step;refine ah ?_;refine ag ?_;refine an ?_;go_step;refine ah ?_;refine ag ?_;refine an ?_;go_step;refine ah ?_;refine ag ?_;refine an ?_;replace a:=a.new (bg af 0 0 42 1 []) ⟨av.refl _ _,Row.nil _ _ _ _,λb ⟨_,_,e⟩=>aG⟩;have g:=a;go_wp2_with fail;go_loopw [3,4] (λE ag wr=>∃(d:Nat) (A:Option bT) (c:Nat),d<=310/\(wi d).length<=n/\E=ae A (wi d).length c/\ag=J aF ((d+2:Nat):Int)/\ak w (λ_=>False) wr [bg A ((wi d).length) c 42 1 ((wi d).map Bu)]) (λE ag wr=>400 -(bR ag).toNat);case atStart=>exact⟨0,_,0,cB _,cB _,aa,aa,g⟩
 case round=>
  clear a g;obtain⟨d,A,c,hk,M,rfl,rfl,a⟩:=hrel;obtain⟨L,cd⟩:=ex (wi d);have l:=Uj d;rw[cd]at l M a;rw[cd]
  have B:L.length<n->d<310:=λh=>by
   rcases Nat.lt_or_ge d 310 with h1|h1;·omega
   .obtain rfl:d=310:=ad;have I:=au9;rw[cd]at I;have:=s.out;omega
  have G:=hid cd;have H:=hid l;clear cd l;by_cases hlt:L.length<n
  .have O:(L.length:Int)<(n:Int):=ad;have U:=B hlt;have V:=s.out;clear B;go_step;refine ah ?_;refine v3 ?_;refine a7 (ai az) ?_;refine an ?_;go_step;refine ah ?_;refine ag ?_;refine an ?_;go_step;refine ah ?_;refine ag ?_;refine an ?_;have g:=a;go_wp2_with fail;go_loopw [5,6] (λD p wr=>∃i:Nat,i<=L.length/\D=ai ((L.take i).all (λq=>decide ((d+2)%q≠0)))/\p=J R (i:Int)/\ak w (λ_=>False) wr [bg A L.length c 42 1 (L.map Bu)]) (λD p wr=>L.length -(bR p).toNat);case atStart=>exact⟨0,cB _,bc,aa,g⟩
   case round=>
    clear a g;obtain⟨i,hi,rfl,rfl,a⟩:=hrel;obtain⟨b,hb⟩:=ex ((L.take i).all (λq=>decide ((d+2)%q≠0)));rw[hb];have r:=hid hb;clear hb;by_cases k:i<L.length
    .have N:(i:Int)<(L.length:Int):=ad;obtain⟨q,j⟩:∃q,L[i]?=ab q:=⟨_,cF k⟩;have W:=H q (cW j);have o:(L.map Bu)[i]?=ab (Bu q):=by rw[jU,j];rfl
     have x:=hid o;obtain⟨T,K,_⟩:=(a.atR 0).cell o;subst K;obtain⟨z,hz⟩:=ex ((d+2)%q);have y:=hid hz;have v:aE ((L.take _).all (λq=>decide _)=(b&&decide (z≠0))):=hid (by rw[gx,j,Option.toList_some,List.all_append,r];simp[hz]);have X:¬(q:Int)=0:=ad;clear o j hz;go_step;refine ah ?_;refine v3 ?_;refine a7 (ai az) ?_;refine an ?_;by_cases hz0:z=0
     .subst hz0;go_step;refine ah ?_;refine v3 ?_;refine aI _ (b4 _ 42 1 _ _ aa WU aw _ _ _ _ _ i aa aa k ad) ?_;refine aI (J _ _) (kH (a.atR 0) x aa aa aw) ?_;refine aI (J _ 0) (Zc 42 _ _ 42 aa _ q 0 aa aa ad y) ?_;refine a7 (ai az) ?_;refine an ?_;go_step;refine ah ?_;refine ag ?_;refine an ?_;go_step;refine ah ?_;refine ag ?_;refine pad _ 1 ((i+1:Nat):Int) ?_;refine ag ?_;refine an ?_;go_wp2_with fail;go_roundw;case rel=>exact⟨i+1,ad,by rw[v];simp,aa,a⟩
      case measure=>simp[bR]<;>omega
     .have Y:¬(z:Int)=0:=ad;go_step;refine ah ?_;refine v3 ?_;refine aI _ (b4 _ 42 1 _ _ aa WU aw _ _ _ _ _ i aa aa k ad) ?_;refine aI (J _ _) (kH (a.atR 0) x aa aa aw) ?_;refine aI _ (Zc 42 _ _ 42 aa _ q z aa aa ad y) ?_;refine a7 (ai ao) ?_;refine an ?_;go_step;refine ah ?_;refine ag ?_;refine pad _ 1 ((i+1:Nat):Int) ?_;refine ag ?_;refine an ?_;go_wp2_with fail;go_roundw;case rel=>exact⟨i+1,ad,by rw[v];simp[hz0],aa,a⟩
      case measure=>simp[bR]<;>omega
    .have N:¬(i:Int)<(L.length:Int):=ad;obtain rfl:i=L.length:=ad;go_step;refine ah ?_;refine v3 ?_;refine a7 (ai ao) ?_;refine an ?_;go_step;refine ah ?_;refine ag ?_;refine an ?_;have F:=hid (by have h:=r.out;rwa [List.take_length]at h);have f:aE (wi (d+1)=if b=az then L++[d+2]else L):=hid (by rw[wi,G,UP,F]);have t:aE (aF.wrap (((d+2:Nat):Int)+1)=((d+1+2:Nat):Int)):=hid (by rw[KG _ ad];omega);cases b with
     |true=>
      go_step;refine ah ?_;refine v2 ?_;refine e' a #[J aF ((d+2:Nat):Int)] 42 (λQ w1 a=>?_);refine kd (m:=1) a 1 8 (aX.cellsOf (m:=1) (a.aV 0) aa) (by intro u C;simp only[List.mem_cons,List.not_mem_nil,or_false]at C;subst C;rfl) (λP S Z a=>?_) (hby:=by omega);refine ag ?_;refine an ?_;go_step;refine ah ?_;refine ag ?_;refine aI (J aF _) (by(go_simp;exact t)) ?_;refine ag ?_;refine an ?_;go_wp2_with fail;go_roundw;case rel=>exact⟨_,_,_,ad,by rw[f,if_pos aa,db];show L.length+1<=n;exact hlt,by rw[f.out,if_pos aa,db];rfl,aa,by rw[f,if_pos aa,db,fR];exact a.pick [1]⟩
      case measure=>(simp only[bR,p3];omega)
     |false=>
      go_step;refine ah ?_;refine ag ?_;refine aI (J aF _) (by(go_simp;exact t)) ?_;refine ag ?_;refine an ?_;go_wp2_with fail;go_roundw;case rel=>exact⟨_,_,_,ad,by rw[f,if_neg aS];exact Nat.le_of_lt hlt,by rw[f,if_neg aS],aa,by rw[f,if_neg aS];exact a.pick [0]⟩
      case measure=>(simp only[bR,p3];omega)
  .have O:¬(L.length:Int)<(n:Int):=ad;obtain rfl:L.length=n:=ad;go_step;refine ah ?_;refine v3 ?_;refine a7 (ai ao) ?_;refine an ?_;go_step;refine ah ?_;refine v2 ?_;refine an ?_;go_wp2_with fail;go_ret;exact⟨L,aa,A,c,aa,a.fresh 0⟩
def afr(n:Nat)l w(hn:n<=64):
 aC ax 195 #[J R (n:Int),ai l] w λe w'=>∃xs:List Int,xs.length=n/\∃ A c,e=aB (ae A n c)/\cj w w' (bg A n c 315 1 (xs.map bw)):=by
 have h:=hid hn;clear hn;go_enter func195,ntmps195;have a:=a8 w;go_step;refine ah ?_;refine ag ?_;refine an ?_;go_step;refine ah ?_;refine ag ?_;refine an ?_;replace a:=a.new (bg af 0 0 315 1 []) ⟨av.refl _ _,Row.nil _ _ _ _,λb ⟨_,_,e⟩=>aG⟩;go_step;refine ah ?_;refine ag ?_;refine aR (awc n _ h) ?_;rintro e w1 ⟨L,rfl,s,v,rfl,z⟩;replace a:=a.new _ z;refine aT ?_;refine ag ?_;refine an ?_;go_step;refine ah ?_;refine ag ?_;refine an ?_;have j:=a;go_wp2_with fail;go_loopw [5,7] (λr f wr=>∃(i:Nat) (A:Option bT) (c:Nat) (xs:List Int),i<=L.length/\xs.length=i/\r=ae A i c/\f=J R (i:Int)/\ak w (λ_=>False) wr [bg s L.length v 42 1 (L.map Bu),bg A i c 315 1 (xs.map bw)]) (λr f wr=>L.length -(bR f).toNat);case atStart=>exact⟨0,_,0,[],cB _,aa,aa,aa,j⟩
 case round=>
  clear a j;obtain⟨i,A,c,xs,hi,p,rfl,rfl,a⟩:=hrel;have k:=hid p;clear p;have H:=h.out;by_cases hlt:i<L.length
  .have B:(i:Int)<(L.length:Int):=ad;obtain⟨q,C⟩:∃q,L[i]?=ab q:=⟨_,cF hlt⟩;have d:(L.map Bu)[i]?=ab (Bu q):=aG;have t:=hid d;obtain⟨G,y,_⟩:=(a.atR 0).cell d;subst y;clear d C;go_step;refine ah ?_;refine v3 ?_;refine a7 (ai az) ?_;refine an ?_;go_step;refine ah ?_;refine v3 ?_;refine aI _ (b4 _ 42 1 _ _ aa WU aw _ _ _ _ _ i aa aa hlt ad) ?_;refine aI (J _ _) (kH (a.atR 0) t aa aa aw) ?_;refine ag ?_;refine aR (awe _ l _) ?_;rintro e I ⟨⟨x,rfl⟩,g⟩;replace a:=a.aH g;refine aT ?_;refine e' a #[bw x] 315 (λE K a=>?_);refine kd (m:=1) a 2 4 (aX.cellsOf (m:=1) (a.aV 0) aa) (by intro u o;simp at o;subst o;rfl) (λD F M a=>?_) (hby:=by omega);refine ag ?_;refine an ?_;go_step;refine ah ?_;refine ag ?_;refine pad _ 1 ((i+1:Nat):Int) ?_;refine ag ?_;refine an ?_;go_wp2_with fail;go_roundw;case rel=>exact⟨_,_,_,xs++[x],ad,by rw[db,k];rfl,aa,aa,by rw[fR];exact a.pick [1,2]⟩
   case measure=>grind[bR]
  .have B:¬(i:Int)<(L.length:Int):=ad;obtain rfl:i=L.length:=ad;go_step;refine ah ?_;refine v3 ?_;refine a7 (ai ao) ?_;refine an ?_;go_step;refine ah ?_;refine v2 ?_;refine an ?_;go_wp2_with fail;go_ret;exact⟨xs,k,A,c,aa,a.fresh 1⟩
def awm w:
 aC ax 109 #[] w λe w'=>∃b aL,(∃c1 c2,e=aB (ar #[ae b 8 c1,ae aL 64 c2]))/\∃t,cj w w' t/\r5 t b 8/\r5 t aL 64:=by
 go_enter func109,ntmps109;have a:=a8 w;go_step;refine ah ?_;refine bn a #[ae _ 0 0,ae _ 0 0] (λf w1 a=>?_);refine ah ?_;refine aR (afr 8 ao _ aS) ?_;rintro e g ⟨xs,hx,b,c1,rfl,c⟩;replace a:=a.new _ c;refine aT ?_;refine aR (afr 64 _ _ aS) ?_;rintro e i ⟨bV,d,aL,c2,rfl,c⟩;replace a:=a.new _ c;refine aT ?_;refine ag ?_;refine bb a 2 (ar _) (λj a=>?_);refine an ?_;go_wp2_with fail;refine c8 (v:=_) (gH aa _ _ _ _ _ _ _ aa (a.aV 2) underlying214 aa aw) aa (⟨b,aL,⟨c1,c2,aa⟩,both _ _,(a.pick (l':=[bg b 8 c1 315 1 _,bg aL 64 c2 315 1 _]) [1,0]).star.fresh 0,λW h=>r5.row aS hx W h.1,λW h=>r5.row aS d W h.2.1⟩)
end
section
attribute [local irreducible] wpList cM
def awf A du bs w(hb:bX w A bs)(hbl:bs.length=64):
 aC ax 198 #[ae A 64 du] w λe w'=>∃B,(∃T,e=aB (ae B 64 T))/\∃t,cj w w' t/\r5 t B 64:=by
 obtain⟨r,g,rfl,C⟩:=hb ad;have p:=hid C;have lf:=hid hbl;clear hb C;go_enter func198,ntmps198;have a:=a8 w;go_step;refine ah ?_;refine ag ?_;refine an ?_;go_step;refine ah ?_;refine ag ?_;refine an ?_;replace a:=a.new (bg af 0 0 315 1 []) ⟨av.refl _ _,Row.nil _ _ _ _,λb ⟨_,_,e⟩=>aG⟩;go_step;refine ah ?_;refine ag ?_;refine an ?_;have k:=a;go_wp2_with fail;go_loopw [3,4] (λo j wr=>∃(q:Nat) (A:Option bT) (c:Nat) (xs:List Int),q<=16/\xs.length=q/\o=ae A q c/\j=J R (q:Int)/\ak w (λ_=>False) wr [bg A q c 315 1 (xs.map bw)]) (λo j wr=>16 -(bR j).toNat);case atStart=>exact⟨0,_,0,[],cB _,aa,aa,aa,k⟩
 case round=>
  clear a k;obtain⟨q,A,c,xs,V,n,rfl,rfl,a⟩:=hrel;have f:=hid n;clear n;by_cases hlt:q<16
  .have x:(q:Int)<16:=ad;obtain⟨kk,hb0⟩:=ex (bs[4*q]?.getD 0);have K:=p (4*q) ad;rw[hb0]at K;clear hb0;obtain⟨dX,hb1⟩:=ex (bs[4*q+1]?.getD 0);have L:=p (4*q+1) ad;rw[hb1]at L;clear hb1;obtain⟨dY,hb2⟩:=ex (bs[4*q+2]?.getD 0);have M:=p (4*q+2) ad;rw[hb2]at M;clear hb2;obtain⟨pr,hb3⟩:=ex (bs[4*q+3]?.getD 0);have N:=p (4*q+3) ad;rw[hb3]at N;clear hb3;go_step;refine ah ?_;refine ag ?_;refine a7 (ai az) ?_;refine an ?_;go_step;refine cx ?_;refine bN a [34,35] (λi u=>match i with|34=>ae (ab ⟨u.b,0,af⟩) 1 1|35=>ae u.A (q+1) u.c|_=>a1) (λd=>λ|34=>aj ((d 34).b) #[bw (pE (pE (pE (mE (gy kk) 24) (mE (gy dX) 16)) (mE (gy dY) 8)) (gy pr))] 315|35=>bg ((d 35).A) (q+1) ((d 35).c) 315 1 ((xs.map bw)++([bw (pE (pE (pE (mE (gy kk) 24) (mE (gy dX) 16)) (mE (gy dY) 8)) (gy pr))]))|_=>emp) (λ|35=>[0]|_=>[]) (λ|35=>[35]|_=>[]) (λ|34=>[34]|35=>[35]|_=>[]) [35,36] (λd=>?_);refine c5 ?_;refine AF 4 _ ((4*q:Nat):Int) ?_;refine aK _ (λ_ _ _=>b4 22 5 1 _ _ aa dK aw r g 64 du ((4*q)) ((g+(4*q))) aa aa ad ad) ?_;refine jL K ?_;refine fJ (bw (gy kk)) ?_;refine fJ (bw (mE (gy kk) 24)) ?_;refine bx ?_;refine AF 4 _ ((4*q:Nat):Int) ?_;refine qe _ 1 ((4*q+1:Nat):Int) ?_;refine aK _ (λ_ _ _=>b4 22 5 1 _ _ aa dK aw r g 64 du ((4*q+1)) ((g+(4*q+1))) aa aa ad ad) ?_;refine jL L ?_;refine fJ (bw (gy dX)) ?_;refine fJ (bw (mE (gy dX) 16)) ?_;refine iq ?_;refine bx ?_;refine AF 4 _ ((4*q:Nat):Int) ?_;refine qe _ 2 ((4*q+2:Nat):Int) ?_;refine aK _ (λ_ _ _=>b4 22 5 1 _ _ aa dK aw r g 64 du ((4*q+2)) ((g+(4*q+2))) aa aa ad ad) ?_;refine jL M ?_;refine fJ (bw (gy dY)) ?_;refine fJ (bw (mE (gy dY) 8)) ?_;refine iq ?_;refine bx ?_;refine AF 4 _ ((4*q:Nat):Int) ?_;refine qe _ 3 ((4*q+3:Nat):Int) ?_;refine aK _ (λ_ _ _=>b4 22 5 1 _ _ aa dK aw r g 64 du ((4*q+3)) ((g+(4*q+3))) aa aa ad ad) ?_;refine jL N ?_;refine fJ (bw (gy pr)) ?_;refine iq ?_;refine kD _ 315 ?_;refine rh (m:=1) 4 (λ_ _ a=>aX.cellsOf (m:=1) (a.aV 1) aa) (by intro u l;simp at l;subst l;rfl) ?_ (hby:=by omega);refine aJ ?_;refine bQ λw1 a=>?_;generalize (d 34).b=Y at a⊢;generalize (d 35).A=W at a⊢;generalize (d 35).c=aAn at a⊢;go_step;refine ah ?_;refine ag ?_;refine pad _ 1 ((q+1:Nat):Int) ?_;refine ag ?_;refine an ?_;go_wp2_with fail;go_roundw;case rel=>exact⟨_,_,_,xs++[_],ad,by rw[db,f.out];rfl,aa,aa,by rw[fR];exact a.pick [1]⟩
   case measure=>grind[bR]
  .have x:¬(q:Int)<16:=ad;obtain rfl:q=16:=ad;go_step;refine ah ?_;refine ag ?_;refine a7 (ai ao) ?_;refine an ?_;go_step;refine ah ?_;refine ag ?_;refine an ?_;have k:=a;go_wp2_with fail;go_loopw [3,5] (λo j wr=>∃(q:Nat) (A:Option bT) (c:Nat) (xs:List Int),16<=q/\q<=64/\xs.length=q/\o=ae A q c/\j=J R (q:Int)/\ak w (λ_=>False) wr [bg A q c 315 1 (xs.map bw)]) (λo j wr=>64 -(bR j).toNat);case atStart=>exact⟨16,A,c,xs,b7 _,aS,f,aa,aa,k⟩
   case round=>
    clear a k f xs;obtain⟨q,aL,c2,xs,o1,V,n,rfl,rfl,a⟩:=hrel;have f:=hid n;clear n;by_cases hlt:q<64
    .have x:(q:Int)<64:=ad;obtain⟨v,y⟩:∃z,(xs.map bw)[q -15]?=ab (bw z):=⟨_,by rw[jU,cF (by have h:=f.out;omega)];rfl⟩;have O:=hid y;obtain⟨bk,hx2⟩:∃z,(xs.map bw)[q -2]?=ab (bw z):=⟨_,by rw[jU,cF (by have h:=f.out;omega)];rfl⟩;have Q:=hid hx2;obtain⟨I,E⟩:∃z,(xs.map bw)[q -7]?=ab (bw z):=⟨_,by rw[jU,cF (by have h:=f.out;omega)];rfl⟩;have S:=hid E;obtain⟨H,D⟩:∃z,(xs.map bw)[q -16]?=ab (bw z):=⟨_,by rw[jU,cF (by have h:=f.out;omega)];rfl⟩;have P:=hid D;obtain⟨s,U,_⟩:=(a.atR 0).cell y;subst U;clear y hx2 E D;go_step;refine ah ?_;refine ag ?_;refine a7 (ai az) ?_;refine an ?_;go_step;refine ah ?_;refine v2 ?_;refine j0 _ 15 ((q -15:Nat):Int) ?_;refine aI _ (b4 212 315 1 (bj 54) _ aa lF aw s 0 q c2 _ ((q -15)) aa aa ad ad) ?_;refine aI _ (kH (a.atR 0) O aa aa aw) ?_;refine ag ?_;refine an ?_;go_step;refine ah ?_;refine v2 ?_;refine j0 _ 2 ((q -2:Nat):Int) ?_;refine aI _ (b4 212 315 1 _ _ aa lF aw s 0 q c2 _ ((q -2)) aa aa ad ad) ?_;refine aI _ (kH (a.atR 0) Q aa aa aw) ?_;refine ag ?_;refine an ?_;go_step;refine ah ?_;refine ag ?_;refine bH (xQ _ 7 _ aS) a (λaU a=>?_);refine ag ?_;refine bH (xQ _ 18 _ aS) a (λbI a=>?_);refine pu ?_;refine ag ?_;refine pk (bw (jg v 3)) ?_;refine pu ?_;refine ag ?_;refine an ?_;go_step;refine ah ?_;refine ag ?_;refine bH (xQ _ 17 _ aS) a (λb9 a=>?_);refine ag ?_;refine bH (xQ _ 19 _ aS) a (λcE a=>?_);refine pu ?_;refine ag ?_;refine pk (bw (jg bk 10)) ?_;refine pu ?_;refine ag ?_;refine an ?_;obtain⟨F,hs0⟩:=ex ((h9 (h9 (pK v 7) (pK v 18)) (jg v 3)));rw[hs0];obtain⟨G,hs1⟩:=ex ((h9 (h9 (pK bk 17) (pK bk 19)) (jg bk 10)));rw[hs1];clear hs0 hs1;go_step;refine cx ?_;refine bN a [16,17] (λi u=>match i with|16=>ae (ab ⟨u.b,0,af⟩) 1 1|17=>ae u.A (q+1) u.c|_=>a1) (λd=>λ|16=>aj ((d 16).b) #[bw (a32 (a32 (a32 G I) F) H)] 315|17=>bg ((d 17).A) (q+1) ((d 17).c) 315 1 ((xs.map bw)++([bw (a32 (a32 (a32 G I) F) H)]))|_=>emp) (λ|17=>[0]|_=>[]) (λ|6=>[0]|14=>[0]|17=>[17]|_=>[]) (λ|16=>[16]|17=>[17]|_=>[]) [17,18] (λd=>?_);refine hG ?_;refine CH _ 7 ((q -7:Nat):Int) ?_;refine aK _ (λ_ _ _=>b4 212 315 1 _ _ aa lF aw s 0 q c2 _ ((q -7)) aa aa ad ad) ?_;refine aK _ (λ_ _ a=>kH (a.atR 0) S aa aa aw) ?_;refine iq ?_;refine aJ ?_;refine iq ?_;refine bx ?_;refine CH _ 16 ((q -16:Nat):Int) ?_;refine aK _ (λ_ _ _=>b4 212 315 1 _ _ aa lF aw s 0 q c2 _ ((q -16)) aa aa ad ad) ?_;refine aK _ (λ_ _ a=>kH (a.atR 0) P aa aa aw) ?_;refine iq ?_;refine kD _ _ ?_;refine rh (m:=1) 4 (λ_ _ a=>aX.cellsOf (m:=1) (a.aV 1) aa) (by intro u l;simp at l;subst l;rfl) ?_ (hby:=by omega);refine aJ ?_;refine bQ λcV a=>?_;generalize (d 16).b=Z at a⊢;generalize (d 17).A=X at a⊢;generalize (d 17).c=aAs at a⊢;go_step;refine ah ?_;refine ag ?_;refine pad _ 1 ((q+1:Nat):Int) ?_;refine ag ?_;refine an ?_;go_wp2_with fail;go_roundw;case rel=>exact⟨_,_,_,xs++[_],ad,ad,by rw[db,f.out];rfl,aa,aa,by rw[fR];exact a.pick [1]⟩
     case measure=>(simp only[bR,p3];omega)
    .have x:¬(q:Int)<64:=ad;obtain rfl:q=64:=ad;go_step;refine ah ?_;refine ag ?_;refine a7 (ai ao) ?_;refine an ?_;go_step;refine ah ?_;refine v2 ?_;refine an ?_;go_wp2_with fail;go_ret;exact⟨aL,⟨c2,aa⟩,_,a.fresh 0,r5.row aS f⟩
def anD{w w' sz n A xs}(h:Cells w sz A n xs)(g:au w w'):Cells w' sz A n xs:=⟨h.1,λhn=>by obtain⟨a,rfl,hc⟩:=h.2 hn;exact⟨a,rfl,λj v hv=>g.cell (hc j v hv) (λh=>h)⟩⟩
def tc.cells{w A n}(h:tc w A n):∃xs:List Int,xs.length=n/\Cells w 1 A n (xs.map bw):=by
 obtain⟨b,off,rfl,hc⟩:=h
 have key:∀m,m<=n->∃xs:List _,xs.length=m/\∀j u,(xs.map bw)[j]?=ab u->w.cell? ⟨b,off+j,af⟩=ab u:=by
  intro m;induction m with
  |zero=>exact λ_=>⟨[],rfl,λj u h=>aG⟩
  |succ m c=>
   intro d;obtain⟨xs,h1,a⟩:=c ad;obtain⟨x,hx⟩:=hc m ad;refine⟨xs++[x],aG,λj u h=>?_⟩;grind
 obtain⟨xs,h1,a⟩:=key n (b7 _);exact⟨xs,h1,aG,λ_=>⟨_,rfl,λj u h=>by grind[mW]⟩⟩
def avs(H I aL)(b0 c1 c2)w(C:tc w H 8)(HW:tc w I 64)(hk:tc w aL 64):
 aC ax 197 #[ae H 8 b0,ae I 64 c1,ae aL 64 c2] w λe w'=>∃G,(∃aD,e=aB (ae G 8 aD))/\∃t,cj w w' t/\r5 t G 8:=by
 have az4:=hid C;have K:=hid C.cells;obtain⟨Rq,X,rfl,P⟩:=C;obtain⟨amX,Y,rfl,Q⟩:=HW;obtain⟨amV,W,rfl,O⟩:=hk;have z8:=hid P;have akt:=hid Q;have jx:=hid O;clear P Q O;obtain⟨xU,S,hsc⟩:=K.out;have M:=hid hsc;have L:=hid S;clear hsc S K;go_enter func197,ntmps197;have a:=a8 w;go_step;refine ah ?_;refine ag ?_;refine an ?_;go_step;refine ah ?_;refine e' a #[] 315 (λGw w1 a=>?_);refine ag ?_;have ez:ak _ _ _ [bg _ 0 0 _ 1 []]:=a.u1 0 0 0 1 [] aa (b7 _) (cB _) aa;refine kd (m:=8) ez 0 4 (anD M a.only) (λu y=>by obtain⟨x,_,rfl⟩:=List.mem_map.1 y;rfl) (λkx mx aU a=>?_) (hby:=by omega);rw[js]at a⊢;rw[l0]at a;refine ag ?_;refine an ?_;go_step;refine ah ?_;refine ag ?_;refine an ?_;have p:=a;go_wp2_with fail;go_loopw [7,8] (λep l wr=>∃(q:Nat) (A:Option bT) (c:Nat) (xs:List Int),q<=64/\xs.length=8/\ep=ae A 8 c/\l=J R (q:Int)/\ak w (λ_=>False) wr [bg A 8 c 315 1 (xs.map bw)]) (λep l wr=>64 -(bR l).toNat);case atStart=>exact⟨0,kx,mx,xU,cB _,L,aa,aa,p⟩
 case round=>
  clear a p L M xU;obtain⟨q,A,c,xs,hq,B,rfl,rfl,a⟩:=hrel;by_cases hlt:q<64
  .have E:(q:Int)<64:=ad;obtain⟨g,cX,bk,iw,hR,n,o,r,rfl⟩:∃g cX bk iw hR n o r,xs=[g,cX,bk,iw,hR,n,o,r]:=match xs,B with|[g,cX,bk,iw,hR,n,o,r],_=>⟨g,cX,bk,iw,hR,n,o,r,aa⟩;clear B;obtain⟨f,D,_⟩:=(a.atR 0).cell (j:=0) aa;subst D;obtain⟨ayI,ayM⟩:=akt q hlt;obtain⟨Vh,ayL⟩:=jx q hlt;go_step;refine ah ?_;refine ag ?_;refine a7 (ai az) ?_;refine an ?_;go_step;refine ah ?_;refine ag ?_;refine aI _ (b4 _ _ 1 _ _ aa lF aw _ _ _ _ _ 4 aa aa aS aS) ?_;refine aI _ (kH (a.atR 0) (i:=4) (v:=_) aa aa aa aw) ?_;refine ag ?_;refine an ?_;go_step;refine ah ?_;refine ag ?_;refine aI _ (b4 _ _ 1 _ _ aa lF aw _ _ _ _ _ 0 aa aa aS aS) ?_;refine aI _ (kH (a.atR 0) (i:=0) (v:=_) aa aa aa aw) ?_;refine ag ?_;refine an ?_;go_step;refine cx ?_;refine bN a [4,6,9] (λi _=>match i with|4=>bw (pK hR 6)|6=>bw (pK hR 11)|9=>bw (pK hR 25)|_=>a1) (λ_ _=>emp) (λ_=>[]) (λ|2=>[0]|15=>[0]|21=>[0]|_=>[]) (λ_=>[]) [0,5,7,10] (λk=>?_);refine aJ ?_;refine aK _ (λ_ _ _=>b4 212 315 1 _ _ aa lF aw f 0 8 c 7 7 aa aa aS aS) ?_;refine aK _ (λ_ _ a=>kH (a.atR 0) (i:=7) (v:=_) aa aa aa aw) ?_;refine aJ ?_;refine dA (λ_ _ _=>xQ _ 6 _ aS) ?_;refine aJ ?_;refine dA (λ_ _ _=>xQ _ 11 _ aS) ?_;refine iq ?_;refine aJ ?_;refine dA (λ_ _ _=>xQ _ 25 _ aS) ?_;iterate 2 refine iq ?_
   refine bx ?_;refine aK _ (λ_ _ _=>b4 212 315 1 _ _ aa lF aw f 0 8 c 5 5 aa aa aS aS) ?_;refine aK _ (λ_ _ a=>kH (a.atR 0) (i:=5) (v:=_) aa aa aa aw) ?_;refine iq ?_;refine aJ ?_;refine fJ (bw (A9 hR)) ?_;refine aJ ?_;refine aK _ (λ_ _ _=>b4 212 315 1 _ _ aa lF aw f 0 8 c 6 6 aa aa aS aS) ?_;refine aK _ (λ_ _ a=>kH (a.atR 0) (i:=6) (v:=_) aa aa aa aw) ?_;iterate 3 refine iq ?_
   refine bx ?_;refine aK _ (λ_ _ _=>b4 212 315 1 _ _ aa lF aw amV W 64 c2 q ((W+q)) aa aa ad ad) ?_;refine jL ayL ?_;refine iq ?_;refine bx ?_;refine aK _ (λ_ _ _=>b4 212 315 1 _ _ aa lF aw amX Y 64 c1 q ((Y+q)) aa aa ad ad) ?_;refine jL ayM ?_;refine iq ?_;refine aJ ?_;refine bQ λbI a=>?_;replace a:=a.drop 1;replace a:=a.drop 1;replace a:=a.drop 1;obtain⟨t1,T⟩:=ex ((a32 (a32 (a32 (a32 r (h9 (h9 (pK hR 6) (pK hR 11)) (pK hR 25))) (h9 (n32 hR n) (n32 (A9 hR) o))) Vh) ayI));rw[T];clear T;go_step;refine cx ?_;refine bN a [1,3,6] (λi _=>match i with|1=>bw (pK g 2)|3=>bw (pK g 13)|6=>bw (pK g 22)|_=>a1) (λ_ _=>emp) (λ_=>[]) (λ|11=>[0]|16=>[0]|21=>[0]|24=>[0]|_=>[]) (λ_=>[]) [0,2,4,7] (λk=>?_);refine aJ ?_;refine dA (λ_ _ _=>xQ _ 2 _ aS) ?_;refine aJ ?_;refine dA (λ_ _ _=>xQ _ 13 _ aS) ?_;refine iq ?_;refine aJ ?_;refine dA (λ_ _ _=>xQ _ 22 _ aS) ?_;refine iq ?_;refine bx ?_;refine aK _ (λ_ _ _=>b4 212 315 1 _ _ aa lF aw f 0 8 c 1 1 aa aa aS aS) ?_;refine aK _ (λ_ _ a=>kH (a.atR 0) (i:=1) (v:=_) aa aa aa aw) ?_;refine iq ?_;refine bx ?_;refine aK _ (λ_ _ _=>b4 212 315 1 _ _ aa lF aw f 0 8 c 2 2 aa aa aS aS) ?_;refine aK _ (λ_ _ a=>kH (a.atR 0) (i:=2) (v:=_) aa aa aa aw) ?_;iterate 2 refine iq ?_
   refine aJ ?_;refine aK _ (λ_ _ _=>b4 212 315 1 _ _ aa lF aw f 0 8 c 1 1 aa aa aS aS) ?_;refine aK _ (λ_ _ a=>kH (a.atR 0) (i:=1) (v:=_) aa aa aa aw) ?_;refine aJ ?_;refine aK _ (λ_ _ _=>b4 212 315 1 _ _ aa lF aw f 0 8 c 2 2 aa aa aS aS) ?_;refine aK _ (λ_ _ a=>kH (a.atR 0) (i:=2) (v:=_) aa aa aa aw) ?_;iterate 3 refine iq ?_
   refine aJ ?_;refine bQ λb9 a=>?_;replace a:=a.drop 1;replace a:=a.drop 1;replace a:=a.drop 1;obtain⟨t2,U⟩:=ex ((a32 (h9 (h9 (pK g 2) (pK g 13)) (pK g 22)) (h9 (h9 (n32 g cX) (n32 g bk)) (n32 cX bk))));rw[U];clear U;go_step;refine cx ?_;refine bN a [26] (λi u=>match i with|26=>ae (ab ⟨u.b,0,af⟩) 8 8|_=>a1) (λk=>λ|26=>aj ((k 26).b) #[bw (a32 t1 t2),bw g,bw cX,bw bk,bw (a32 iw t1),bw hR,bw n,bw o] 315|_=>emp) (λ_=>[]) (λ|5=>[0]|8=>[0]|11=>[0]|14=>[0]|19=>[0]|22=>[0]|25=>[0]|_=>[]) (λ|26=>[26]|_=>[]) [0,27] (λk=>?_);refine bx ?_;refine iq ?_;refine aJ ?_;refine aK _ (λ_ _ _=>b4 212 315 1 _ _ aa lF aw f 0 8 c 0 0 aa aa aS aS) ?_;refine aK _ (λ_ _ a=>kH (a.atR 0) (i:=0) (v:=_) aa aa aa aw) ?_;refine aJ ?_;refine aK _ (λ_ _ _=>b4 212 315 1 _ _ aa lF aw f 0 8 c 1 1 aa aa aS aS) ?_;refine aK _ (λ_ _ a=>kH (a.atR 0) (i:=1) (v:=_) aa aa aa aw) ?_;refine aJ ?_;refine aK _ (λ_ _ _=>b4 212 315 1 _ _ aa lF aw f 0 8 c 2 2 aa aa aS aS) ?_;refine aK _ (λ_ _ a=>kH (a.atR 0) (i:=2) (v:=_) aa aa aa aw) ?_;refine aJ ?_;refine aK _ (λ_ _ _=>b4 212 315 1 _ _ aa lF aw f 0 8 c 3 3 aa aa aS aS) ?_;refine aK _ (λ_ _ a=>kH (a.atR 0) (i:=3) (v:=_) aa aa aa aw) ?_;refine aJ ?_;refine iq ?_;refine aJ ?_;refine aK _ (λ_ _ _=>b4 212 315 1 _ _ aa lF aw f 0 8 c 4 4 aa aa aS aS) ?_;refine aK _ (λ_ _ a=>kH (a.atR 0) (i:=4) (v:=_) aa aa aa aw) ?_;refine aJ ?_;refine aK _ (λ_ _ _=>b4 212 315 1 _ _ aa lF aw f 0 8 c 5 5 aa aa aS aS) ?_;refine aK _ (λ_ _ a=>kH (a.atR 0) (i:=5) (v:=_) aa aa aa aw) ?_;refine aJ ?_;refine aK _ (λ_ _ _=>b4 212 315 1 _ _ aa lF aw f 0 8 c 6 6 aa aa aS aS) ?_;refine aK _ (λ_ _ a=>kH (a.atR 0) (i:=6) (v:=_) aa aa aa aw) ?_;refine kD _ _ ?_;refine aJ ?_;refine bQ λcE a=>?_;generalize (k 26).b=sO at a⊢;replace a:=a.u1 1 8 8 1 ([a32 t1 t2,g,cX,bk,a32 iw t1,hR,n,o].map _) aa (b7 _) aS aa;go_step;refine ah ?_;refine ag ?_;refine pad _ 1 ((q+1:Nat):Int) ?_;refine ag ?_;refine an ?_;go_wp2_with fail;go_roundw;case rel=>exact⟨q+1,_,_,_,ad,aa,aa,aa,a.pick [1]⟩
   case measure=>grind[bR]
  .have E:¬(q:Int)<64:=ad;obtain rfl:q=64:=ad;have ki:=hid B;clear B;go_step;refine ah ?_;refine ag ?_;refine a7 (ai ao) ?_;refine an ?_;go_step;refine ah ?_;refine ag ?_;refine an ?_;replace a:=a.new (bg _ 0 0 315 1 []) ⟨av.refl _ _,Row.nil _ _ _ _,λb ⟨_,_,e⟩=>by cases e⟩;go_step;refine ah ?_;refine ag ?_;refine an ?_;have p:=a;go_wp2_with fail;go_loopw [13,14] (λZ l wr=>∃(d:Nat) (s:Option bT) (dz:Nat) (bV:List Int),d<=8/\bV.length=d/\Z=ae s d dz/\l=J R (d:Int)/\ak w (λ_=>False) wr [bg s d dz 315 1 (bV.map bw),bg A 8 c 315 1 (xs.map bw)]) (λZ l wr=>8 -(bR l).toNat);case atStart=>exact⟨0,_,0,[],cB _,aa,aa,aa,p⟩
   case round=>
    clear a p;obtain⟨d,s,dz,bV,hd,V,rfl,rfl,a⟩:=hrel;have N:=hid V;clear V;by_cases hlt:d<8
    .have E:(d:Int)<8:=ad;obtain⟨ahw,zs⟩:=z8 d hlt;obtain⟨ahx,F⟩:∃z,(xs.map bw)[d]?=ab (bw z):=⟨_,by rw[jU,cF (by have h:=ki.out;omega)];rfl⟩;have alF:=hid F;obtain⟨f,D,_⟩:=(a.atR 1).cell F;subst D;clear F;go_step;refine ah ?_;refine ag ?_;refine a7 (ai az) ?_;refine an ?_;go_step;refine cx ?_;refine bN a [10,11] (λi u=>match i with|10=>ae (ab ⟨u.b,0,af⟩) 1 1|11=>ae u.A (d+1) u.c|_=>a1) (λk=>λ|10=>aj ((k 10).b) #[bw (a32 ahw ahx)] 315|11=>bg ((k 11).A) (d+1) ((k 11).c) 315 1 ((bV.map bw)++([bw (a32 ahw ahx)]))|_=>emp) (λ|11=>[0]|_=>[]) (λ|8=>[1]|11=>[12]|_=>[]) (λ|10=>[10]|11=>[11]|_=>[]) [1,12,13] (λk=>?_);refine c5 ?_;refine aK _ (λ_ _ _=>b4 212 315 1 _ _ aa lF aw Rq X 8 b0 d ((X+d)) aa aa ad ad) ?_;refine jL zs ?_;refine bx ?_;refine aK _ (λ_ _ _=>b4 212 315 1 _ _ aa lF aw _ 0 8 c d d aa aa hlt ad) ?_;refine aK _ (λ_ _ a=>kH (a.atR 0) alF aa aa aw) ?_;refine iq ?_;refine kD _ _ ?_;refine rh (m:=1) 4 (λ_ _ a=>aX.cellsOf (m:=1) (a.aV 1) aa) (by intro u y;simp at y;subst y;rfl) ?_ (hby:=by omega);refine aJ ?_;refine bQ λcV a=>?_;generalize (k 10).b=azk at a⊢;generalize (k 11).A=ayS at a⊢;generalize (k 11).c=aAd at a⊢;go_step;refine ah ?_;refine ag ?_;refine pad _ 1 ((d+1:Nat):Int) ?_;refine ag ?_;refine an ?_;go_wp2_with fail;go_roundw;case rel=>exact⟨_,_,_,bV++[_],ad,by rw[db,N.out];rfl,aa,aa,by rw[fR];exact a.pick [2,0]⟩
     case measure=>(simp only[bR,p3];omega)
    .have E:¬(d:Int)<8:=ad;obtain rfl:d=8:=ad;go_step;refine ah ?_;refine ag ?_;refine a7 (ai ao) ?_;refine an ?_;go_step;refine ah ?_;refine v2 ?_;refine an ?_;go_wp2_with fail;go_ret;exact⟨s,⟨dz,aa⟩,_,a.fresh 0,r5.row aS N⟩
end
section
attribute [local irreducible] wpList cM
def aw7{w A c j bV}(h:bX w A bV)(hc:bV.length<=c)(a:j+64<=bV.length):bX w (fm A c j 1) ((bV.drop j).take 64):=by have h1:=bX.win (i:=j) h hc a;rwa [show j+64 -j=64 from ad]at h1
def afW(A n aL)(c c1 c2)bs w(hb:bX w A bs)(hbl:bs.length<=1048576)(K:tc w n 8)(hk:tc w aL 64):
 aC ax 110 #[ae A bs.length c,ar #[ae n 8 c1,ae aL 64 c2]] w λe w'=>(∃h:dq,e=aB (ar (aM a6 h.l [])))/\au w w':=by
 have V:=hid hb;have U:=hid K;have X:=hid hk;clear hb K hk;go_enter func110,ntmps110;have a:=a8 w;go_step;refine ah ?_;refine bL (cs:=#[ae n 8 c1,ae aL 64 c2]) a _ (λS w1 a=>?_);refine bn a (aM a6 (ea 32 0) []) (λG aU a=>?_);refine b5 ?_;refine pl a 1 0 ?_;refine cA ?_;refine aR (av8 A c bs _ (V.out.aH a.only) ad) ?_;rintro e bI ⟨q,B,E,bV,O,FC,rfl,m⟩;rw[<-O]at m FC⊢;have ny:aE (bV.length%64=0):=hid ad;clear O;replace a:=a.new _ m;refine aT ?_;refine ag ?_;refine ah ?_;refine ag ?_;refine an ?_;have E9:=(a.atR 0).nj.2.2;replace a:=(a.pick (l':=[bg B _ E 5 1 _,aj _ _ 214,aj _ _ 23]) [0,2,1]).dM;have o:=a;go_wp2_with fail;go_loopw [5,7] (λQ f wr=>∃(j:Nat) (s:Option bT) (dz:Nat) (t:bu),j<=bV.length/\aE (j%64=0)/\aE (∀W,av (λ_=>False) w W->t.p W->tc W s 8)/\Q=ae s 8 dz/\f=J R (j:Int)/\ak w (λ_=>False) wr [t,bg B bV.length E 5 1 (bV.map a6),aj S #[ae n 8 c1,ae aL 64 c2] 214,aj G (aM a6 (ea 32 0) []) 23]) (λQ f wr=>bV.length -(bR f).toNat);case atStart=>exact⟨0,n,c1,_,cB _,hid aa,hid (λW g _=>U.out.aH g),aa,aa,o⟩
 case round=>
  clear a o;obtain⟨j,s,dz,t,hj,H,I,rfl,rfl,a⟩:=hrel;by_cases hlt:j<bV.length
  .have cf:(j:Int)<(bV.length:Int):=ad;have Fk:j+64<=bV.length:=by have h:=ny.out;have h2:=H.out;omega
   go_step;refine ah ?_;refine v3 ?_;refine a7 (ai az) ?_;refine cx ?_;refine bN a [6,9] (λi u=>match i with|6=>ae u.A 64 u.c|9=>ae u.A 8 u.c|_=>a1) (λb=>λ|6=>k6 (r5 (b 6).t (b 6).A 64) (b 6).t|9=>k6 (r5 (b 9).t (b 9).A 8) (b 9).t|_=>emp) (λ_=>[]) (λ|6=>[1]|8=>[2]|9=>[0,10]|_=>[]) (λ|6=>[6]|9=>[9]|_=>[]) [0,1,2,3,10,13] (λb=>?_);refine hG ?_;refine qe _ 64 ((j+64:Nat):Int) ?_;refine aK _ (λ_ _ _=>Bl 22 5 1 _ _ _ aa dK aw B _ E j (j+64) 64 aa aa aa ad ad) ?_;refine dh (λwl Fr a=>(awf _ _ _ _ (aw7 (a.atR 0).nj.1 E9 Fk) (by rw[List.length_take,List.length_drop];omega)).mono ?_) ?_;·rintro e dr ⟨y,⟨D,rfl⟩,F,m,C⟩;exact⟨{A:=y,c:=D,t:=F},aa,(a.new _ m).k6 C⟩
   refine aJ ?_;refine dl 0 1 ?_;refine dh (λwl Fr a=>(avs s (b 6).A aL dz (b 6).c c2 _ (I _ a.only (a.at 0)) ((a.at (t:=k6 (r5 (b 6).t (b 6).A 64) (b 6).t) 1).1 _ (a.at (t:=k6 _ (b 6).t) 1).2) (X.out.aH a.only)).mono ?_) ?_;·rintro e dr ⟨y,⟨D,rfl⟩,F,m,C⟩;exact⟨{A:=y,c:=D,t:=F},aa,(a.new _ m).k6 C⟩
   refine aJ ?_;refine bQ λb9 a=>?_;generalize (b 6).A=ahz at a⊢;generalize (b 6).c=ank at a⊢;generalize (b 6).t=aCf at a⊢;generalize (b 9).A=BE at a⊢;generalize (b 9).c=Cx at a⊢;generalize (b 9).t=aCg at a⊢;refine b5 ?_;refine pad (j:Int) 64 ((j+64:Nat):Int) ?_;refine bU ?_;go_wp2_with fail;go_roundw;case rel=>exact⟨j+64,_,_,(k6 (r5 _ _ 8) _),ad,hid (by have h:=H.out;omega),hid (λW _ h=>h.1 W h.2),aa,aa,a.pick [5,1,2,3]⟩
   case measure=>(simp only[bR,p3];omega)
  .have cf:¬(j:Int)<(bV.length:Int):=ad;go_step;refine ah ?_;refine v3 ?_;refine a7 (ai ao) ?_;refine ah ?_;refine bn a (aM a6 (ea 32 0) []) (λT cE a=>?_);refine ah ?_;refine ag ?_;refine an ?_;replace a:ak _ _ _ [aj _ _ 23,t,aj _ _ 23]:=a.pick [0,1,4];have o:=a;go_wp2_with fail;go_loopw [9] (λf wr=>∃(d:Nat) (L:List Int),d<=32/\L.length=32/\f=J R (d:Int)/\ak w (λ_=>False) wr [aj T (aM a6 (L) []) 23,t,aj G (aM a6 (ea 32 0) []) 23]) (λf wr=>32 -(bR f).toNat);case atStart=>exact⟨0,_,cB _,lI ..,aa,o⟩
   case round=>
    clear a o;obtain⟨d,L,hd,M,rfl,a⟩:=hrel;have k:=hid M;clear M;by_cases jE:d<32
    .have Ig:(d:Int)<32:=ad;obtain⟨z,hz⟩:=ex (d/4);obtain⟨r,hr⟩:=ex (d%4);have ase:z<8:=ad;have hr4:r<4:=ad;have e1:=hid hz;have Y:=hid hr;clear hz hr;obtain⟨Rq,P,aqq,N⟩:=I _ a.only (a.at (t:=t) 1);obtain⟨x,hx⟩:=N z ase;subst aqq;have Z:=hid hx;clear N hx;go_step;refine ah ?_;refine ag ?_;refine a7 (ai az) ?_;refine jk ?_;refine aI (J R (z:Int)) (te 3 (bj 36) (.const (J R 4)) 3 aa d 4 z aa aa aS e1.out ad) ?_;refine aI _ (b4 212 315 1 _ _ aa lF aw Rq P 8 dz z ((P+z)) aa aa ad ad) ?_;refine aI _ (mc aa aa Z aw) ?_;refine ag ?_;refine aI _ (Ay 3 _ _ 3 aa d 4 r aa aa aS Y ad) ?_;refine Bd 8 _ ((8*r:Nat):Int) ?_;refine j0 24 _ ((24 -8*r:Nat):Int) ?_;refine aI (bw _) (yR 315 _ _ 3 aa _ R x _ aa aa (by show 24 -8*r<=32;omega)) ?_;refine pk (a6 (dR.wrap (x.fdiv (2^(24 -8*r))))) ?_;refine kG ?_;refine xJ a 0 k (λcV a=>?_);refine b5 ?_;refine pad (d:Int) 1 ((d+1:Nat):Int) ?_;refine bU ?_;go_wp2_with fail;go_roundw;case rel=>exact⟨d+1,_,ad,(t'.trans k),aa,a.pick [0,1,2]⟩
     case measure=>(simp only[bR,p3];omega)
    .have Ig:¬(d:Int)<32:=ad;go_step;refine ah ?_;refine ag ?_;refine a7 (ai ao) ?_;refine ah ?_;refine zz a 0 k.out ?_;refine pH a 2 (lI ..) k (λdJ a=>?_);refine an ?_;go_wp2_with fail;refine c8 (v:=_) (gH aa _ _ _ _ _ _ _ aa (a.aV 2) sW aa (by rw[i',k];rfl)) aa (⟨⟨⟨L,k⟩,aa⟩,a.only⟩)
end
section
attribute [local irreducible] wpList cM
def cd(l:List Int):dq:=if h:l.length=32 then⟨l,h⟩else dq.zero
def uy:Value->dq
 |.agg cs=>cd (cs.toList.map bR)
 |_=>dq.zero
theorem abb h:uy (ar (aM a6 h.l []))=h:=by
 have e:((aM a6 h.l []).toList.map bR)=h.l:=by simp only[aM,kR,List.map_map];exact(List.map_congr_left (λx _=>aa)).trans (List.map_id _)
 show cd _=h;rw[e];unfold cd;rw[dif_pos _]
def awx(o n)(g h)A(m c)w:(Instr.build 26 #[(0,J R o),(1,J R n),(2,ar (aM a6 g.l [])),(3,ar (aM a6 h.l [])),(4,ae A m c)]).run ax w=.ok (eN o n g h (ae A m c)) w:=by obtain⟨a,bF⟩:=g;obtain⟨b,cq⟩:=h;obtain⟨d,cX,bk,iw,hR,I,K,L,M,N,e,f,i,j,k,p,q,r,s,t,u,v,x,y,z,B,C,D,E,F,G,H,rfl⟩:=FO a bF;obtain⟨O,P,bx,c5,hG,np,Kf,Kg,BB,Kh,Q,S,T,U,V,W,X,Y,Z,ahj,ahk,ahl,ahm,ahn,aho,ahp,ahq,ahr,ahs,aht,ahu,ahv,rfl⟩:=FO b cq;kernel_rfl
def ana{o}{a:Act}{w b cX bk iw hR p q g h A m c}(ho:o.op=.build 26 #[(0,b),(1,cX),(2,bk),(3,iw),(4,hR)])(d:a.eval b=J R p)(h1:a.eval cX=J R q)(f:a.eval bk=ar (aM a6 g.l []))(j:a.eval iw=ar (aM a6 h.l []))(k:a.eval hR=ae A m c):
 (bz a.eval o).run ax w=.ok (.value (eN p q g h (ae A m c))) w:=by
 have hb:=awx p q g h A m c w;unfold bz;simp only[ho,Sem.run_bind];have e:(#[(0,b),(1,cX),(2,bk),(3,iw),(4,hR)].map λ(i,x)=>(i,a.eval x))=(#[(0,J R p),(1,J R q),(2,ar (aM a6 g.l [])),(3,ar (aM a6 h.l [])),(4,ae A m c)]:Array _):=aG;rw[e,hb];rfl
def avz(b0 c1)(f j A)(n c)(old new)w(ho:old.length<=1048576)(hn:new.length<=1048576)(hold:bX w f old)(q:bX w j new):
 aC ax 46 #[ae f old.length b0,ae j new.length c1,ae A n c] w λe w'=>(∃g1 g2,e=aB (eN (old.length:Int) (new.length:Int) g1 g2 (ae A n c)))/\au w w':=by
 have x:=hid hold;have s:=hid q;clear hold q;go_enter func46,ntmps46;have a:=a8 w;go_step;refine ah ?_;refine bn a (a' 0 0 dq.zero dq.zero _) (λr w1 a=>?_);refine ah ?_;refine aR (awm _) ?_;rintro e D ⟨aL,d,⟨c2,dz,rfl⟩,t,y,p,o⟩;have m:=hid p;have k:=hid o;clear p o;replace a:=a.new _ y;refine aT ?_;refine bn a #[ae _ 0 0,ae _ 0 0] (λC E a=>?_);refine bb a 0 (ar _) (λF a=>?_);refine cx ?_;refine bN a [6,9,12] (λi u=>match i with|6=>ar (aM a6 (uy u.v).l [])|9=>ar (aM a6 (uy u.v).l [])|_=>a1) (λb=>λ|12=>aj r (a' (old.length:Int) (new.length:Int) (uy (b 6).v) (uy (b 9).v) (ae A n c)) 26|_=>emp) (λ|12=>[2]|_=>[]) (λ|5=>[0]|6=>[1]|8=>[0]|9=>[1]|_=>[]) (λ|12=>[6,9]|_=>[]) [0,1,9,12,15] (λb=>?_);iterate 5 refine aJ ?_
 refine eO 0 #[ae aL 8 c2,ae d 64 dz] ?_;refine dh (λz Fr a=>(afW f aL d b0 c2 dz old _ (x.out.aH a.only) ad (m _ (a.at (t:=t) 0)) (k _ (a.at (t:=t) 0))).mono ?_) ?_;·rintro e B ⟨⟨h,rfl⟩,g⟩;exact⟨{v:=ar (aM a6 h.l [])},(by grind[abb]),(a.aH g).dM⟩
 refine aJ ?_;refine eO 0 #[ae aL 8 c2,ae d 64 dz] ?_;refine dh (λz Fr a=>(afW j aL d c1 c2 dz new _ (s.out.aH a.only) ad (m _ (a.at (t:=t) 0)) (k _ (a.at (t:=t) 0))).mono ?_) ?_;·rintro e B ⟨⟨h,rfl⟩,g⟩;exact⟨{v:=ar (aM a6 h.l [])},(by grind[abb]),(a.aH g).dM⟩
 refine aJ ?_;refine aK (ar (a' _ _ (uy (b 6).v) (uy (b 9).v) _)) (λ_ _ _=>ana aa aa aa aa aa aa) ?_;refine fY (ar _) ?_ (hk:=by show 0+gB (a' _ _ _ _ _)<=_;simp only[bD];decide) (hz:=by show _=ab (gB (a' _ _ _ _ _));rw[bD];rfl) (h1:=(sf aa)) (hc:=xy);refine bQ λG a=>?_;generalize (b 6).v=H at a⊢;generalize (b 9).v=I at a⊢;replace a:=a.drop 2;replace a:=a.drop 2;go_wp2_with fail;refine c8 (v:=_) (gH aa _ _ _ _ _ _ _ aa (a.aV 2) Tryz.underlying26 aa (by rw[bD];rfl)) aa (⟨⟨_,_,aa⟩,a.only⟩)
end
end Go.Proofs.YtcmhplknoglbkaaGreat
