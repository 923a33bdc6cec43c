/- Part 37 of the proof of TopConvertsSaid. -/
import Derived.Test.YtcmhplknoglbkaaGreat0
import Derived.Test.YtcmhplknoglbkaaGreat6
import Derived.Test.YtcmhplknoglbkaaGreat27
import Derived.Test.YtcmhplknoglbkaaGreat34
import Derived.Test.YtcmhplknoglbkaaGreat36
set_option linter.all false
set_option maxRecDepth 100000
set_option maxHeartbeats 4000000
open Go.Proofs.Tryz
open Array renaming size->jD
open Bool renaming false->au
open Go renaming Calls->aD,Oper->cR,PanicEntry->q',Program->ew,Value->aP,World->aN,bodyPost_ret->dp,execOp->bw,results->n1,results_cell_row->je,run_loadVar_row->C7,undef->aZ,wpList->cH,wp_region_lit->ar,yielded->cY
open Go.Calls renaming mono->Jh
open Go.Ending renaming panicked->Jj,returned->aA
open Go.Exit renaming panic->tk
open Go.IntKind renaming i64->R
open Go.Oper renaming wp->hC
open Go.Proofs.Tryz renaming prog->ax,underlying23->tn,underlying5->lj
open Go.Region renaming wanted->c4
open Go.Value renaming agg->av,bool->aj,iface->uM,int->J,pointer->ay,slice->ad,tuple->bh
open List renaming append_nil->j6,getElem?_append_right->oa,length_append->dw,length_map->gW,mem_of_getElem?->cM,size_toArray->iR,take_append_drop->oR
open Nat renaming le_trans->eD
open Option renaming none->af,some->ab
namespace Go.Proofs.YtcmhplknoglbkaaGreat
open Go.RowKit Go.MapKept
def xe(old:List Int)(l:List bI)(j:Nat):List Int:=(l.take j).flatMap (fO old)
def vI(old:List Int)(ms:List bI):List Int:=(oG ms).flatMap (fO old)
def asv{old l j m}(h:l[j]?=ab m):xe old l (j+1)=xe old l j++fO old m:=by grind[xe,List.take_add_one]
def asu old l j:(xe old l j).length<=(l.flatMap (fO old)).length:=by grind[xe,oR]
def ast old l:xe old l l.length=l.flatMap (fO old):=by grind[xe]
def ai.old{w W:aN}{l:List bu}{s:bu}{A:Option Addr}(c:ai w (λ_=>False) W l)(i:Nat)(h:nB w A)(hi:l[i]?=ab s:=by rfl):∀b,dV A b->¬s.c5 b:=λb hb d=>by
 have h1:=h b hb;have a:=(c.low s (cM hi) b d).2;rcases a with a|a;·omega
 .omega
def avd(o n b1)(g1 g2)(d A)c old ms w(ho:old.length=o)(Lt:o<=1048576)(hc0:o<=b1)(hold:bT w d old)(k0:nB w d)(C:cD w A ms)(hv:nC o n ms)(L:∀m∈ms,m.data.length<=140737488355328)(hg1:g1.l=ic old)(hg2:g2.l=ic (vI old ms))(x:(vI old ms).length<=1048576):
 aD ax 78 #[ad d o b1,dD (o:Int) (n:Int) g1 g2 (ad A ms.length c)] w λe w'=>e=aA (av #[J R 0,J R 0])/\ao w w':=by
 have hlen:o<=1048576:=ae;have cB:=hid hv;have cw:=hid C;have X:=hid hold;have U:=hid k0;have T:=hid hg1;have G:=hid hg2;have H:=hid x;have c0:=hid (λW g=>QV o n g1 g2 A c ms W (C.aI g) hv);have eK:=hid (λW g=>aeu (o:Int) (n:Int) g1 g2 A c ms W (C.aI g) hv.en L);have Db:=hid L;have z:=hid ho;clear C hv hold k0 hg1 hg2 x L ho;go_enter func78,ntmps78;have a:=bg w;go_upto_region 0 with fail;refine ar ?_;refine bO a (av (a6 (o:Int) (n:Int) g1 g2 (ad A ms.length c))) (λb8 w1 a=>?_);refine bA a #[J R 0,J R 0] (λee aS a=>?_);refine aF ?_;refine bt a 1 (a6 (o:Int) (n:Int) g1 g2 (ad A ms.length c)) ?_ (hv:=(ef _)) (hk:=by omega) (hz:=(by rw[cN];rfl));refine bC (c0.out _ a.only) a (λbN a=>?_);refine bA a #[J R 0,J R 0] (λeL cc a=>?_);refine ba a 0 (av #[J R 0,J R 0]) (λcG a=>?_);refine aF ?_;refine bt a 0 #[J R 0,J R 0] ?_;refine ag ?_;refine pk (aj au) ?_;refine b6 ?_;refine pl a 2 0 ?_ (hv:=mA);refine v2 ?_;refine cd (aj au) ?_;refine ih ?_;refine bP a [1,2] (λi u=>match i with|1=>ad (ab ⟨u.b,0,af⟩) 1 1|2=>av (aY a' (ic old) [])|_=>aZ) (λD=>λ|1=>ah ((D 1).b) #[ad d o b1] 22|_=>emp) (λ_=>[]) (λ|2=>[4]|4=>[2]|_=>[]) (λ|1=>[1]|_=>[]) [0,1,2,4,5] (λD=>?_);refine aL ?_;refine lM _ 22 ?_;refine dE (λO _ a=>S9 _ d b1 _ O 22 (by rw[z.out];omega) (by rw[z.out];exact a.a1 0) (X.out.aI a.only) (U.out.aI a.only)) ?_;refine aL ?_;refine aM _ (λ_ _ a=>mg aa aa (a.a1 0) alJ (by rw[cN];simp[aY,g1.len]) aw (by simp only[aY,j6,iR,gW,g1.len];kernel_rfl)) ?_;refine aM (aj au) (λ_ _ _=>by(refine(x2 23 5 32 _ _ 23 aa tn lj aw aw _ _ aa aa (by rw[<-T.out];exact g1.len) g1.len).trans ?_;rw[T.out];simp)) ?_;refine aL ?_;refine bS λc6 a=>?_;generalize (D 1).b=awI at a⊢;replace a:=a.drop 4;refine aF ?_;refine a7 (Af _) ?_;rintro e dX ⟨F,rfl,K⟩;replace a:=a.new _ K;refine bb ?_;refine dR ?_;refine bt a 3 (a6 (o:Int) (n:Int) g1 g2 (ad A ms.length c)) ?_ (hv:=(ef _)) (hk:=by omega) (hz:=(by rw[cN];rfl));refine a7 (eK.out _ a.only) ?_;rintro e dH ⟨aK,c2,bG,rfl,K,j4⟩;replace a:=a.new _ K;refine bb ?_;refine aJ _ (acL (ft:=24) (k:=66) 26 _ 4 aa aa aw aw eT) ?_;refine dQ ?_;obtain⟨l,t⟩:=ex (oG ms);have ayF:l.length<=20:=by rw[<-t];exact eD (TQ ms) cB.out.en
 have zi:Hid (∀m∈l,jc o n m/\m.data.length<=140737488355328):=hid (λm q=>by rw[<-t]at q;exact⟨cB.out.fits m (Fg q),Db.out m (Fg q)⟩);rw[vI,t]at H G;rw[t]at j4⊢;clear t;have Z:=a.pk [1,0,4,3];go_wp2_with fail;go_loopw [37] (λN wr=>∃(j:Nat) (y:Option Addr),j<=l.length/\N=J R (j:Int)/\ai w (λ_=>False) wr [iu F y (xe old l j),bG,ah b8 (a6 (o:Int) (n:Int) g1 g2 (ad A ms.length c)) 26,ah ee #[J R 0,J R 0] 49]) (λN wr=>l.length -(intOf N).toNat);case atStart=>exact⟨0,_,Nat.zero_le _,aa,Z⟩
 case round=>
  clear a Z;obtain⟨j,y,hj,rfl,a⟩:=hrel;by_cases hlt:j<l.length
  .have cJ:(j:Int)<(l.length:Int):=ae;obtain⟨m,q⟩:∃m,l[j]?=ab m:=⟨_,List.getElem?_eq_getElem hlt⟩;obtain⟨f,s,vr,hcm⟩:=j4.cmd q;obtain⟨_,B,I,_⟩:=hcm _ (a.at 1)
   have dk:Hid (∀W,bG.p W->W.rangeAt B (0+j*5) [J R m.k,J R m.to,J R m.fr,J R m.n,ad f m.data.length s]):=hid (λW M=>by obtain⟨_,fI,bD,b9⟩:=hcm W M;rw[I]at bD;injection bD with bD;injection bD with bD;rw[<-bD]at b9;exact b9);have S:=hid (λW M=>(hcm W M).1);have b7:=hid I;have Pq:=hid vr;have V:=hid q;clear I hcm vr q;have r:=asv (old:=old) V.out;have hpl:=asu old l (j+1);rw[r,dw]at hpl;have Y:=hid r;have x:=H.out;have aa6:(xe old l j).length+(fO old m).length<=1048576:=ae;obtain⟨msg,HE⟩:=ex (xe old l j);have rO:=zi.out m (cM V.out);have Q:Hid (∀W,aD ax 87 #[ad d o b1,av #[J R m.k,J R m.to,J R m.fr,J R m.n,ad f m.data.length s]] W λe w'=>∃E aC,e=aA (ad E (fO old m).length aC)/\(∀W,bT W d old->bT W f m.data->bT W E (fO old m))/\(fO old m).length<=aC/\(∀b,dV E b->dV d b\/dV f b)/\ao W w'):=hid (λW=>by have h:=XV o n b1 d f s old m W rO.1 z.out hc0 (S.out _ (a.at 1)).2;rw[z.out]at h;exact h);rw[HE]at aa6 r a;obtain⟨bs,gP⟩:=ex (fO old m);rw[gP]at aa6 Q r;have Y:=hid r;clear r hpl x rO HE gP;go_upto_region 10 with fail;refine ar ?_;refine dR ?_;refine aJ (ay (ab ⟨B,(0+j*5),af⟩)) (cI 24 73 5 (.tmp 35) (.tmp 37) aa Tryz.underlying24 aw B 0 (l.length) c2 j ((0+j*5)) (by show ad aK _ _=_;rw[b7.out]) aa hlt aa) ?_;refine aJ _ (e7 73 (.tmp 39) aa B (0+j*5) aa _ (dk.out _ (a.at 1)) Tryz.underlying73 aa aw) ?_;refine bA a #[J R 0,J R 0,J R 0,J R 0,ad af 0 0] (λeX e9 a=>?_);refine ba a 0 (av #[J R m.k,J R m.to,J R m.fr,J R m.n,ad f m.data.length s]) (λhT a=>?_);refine jb ?_;refine bt a 0 #[J R m.k,J R m.to,J R m.fr,J R m.n,ad f m.data.length s] ?_;refine a7 (Q.out _) ?_;rintro e i' ⟨P,fG,rfl,oC,hlc,hloc,g⟩;have aiI:=hid oC;have aim:=hid hloc;clear oC hloc;replace a:=a.aI g;refine bb ?_;refine ga a #[ad P bs.length fG] 22 (λFy ks a=>?_);refine a7 (T' F _ 0 1 y P fG msg bs _ ae (a.has 2) ((a.a1 0).cell 0 aa) (aiI.out _ (X.out.aI a.only) (S.out _ (a.at 3)).1) (λb hb=>(aim.out b hb).elim (a.old 2 U.out aa b) (λh=>a.ne (i:=3) (j:=2) aa aa bj b (Pq.out b h)))) ?_;rintro e lf ⟨NR,rfl,bH⟩;replace a:=a.eG 2 bH;refine bb ?_;refine aF ?_;refine pad (j:Int) 1 ((j+1:Nat):Int) ?_;refine bR ?_;go_wp2_with fail;go_roundw;case rel=>exact⟨j+1,_,ae,aa,by rw[Y.out];exact a.pick [2,3,4,5]⟩
   case measure=>simp[intOf]<;>omega
  .have cJ:¬(j:Int)<(l.length:Int):=ae;have qG:j=l.length:=ae;rw[qG,ast]at a;have x:=H.out;go_upto_region 10 with fail;refine ar ?_;refine ih ?_;refine bP a [1] (λi _=>match i with|1=>av (aY a' (ic (l.flatMap (fO old))) [])|_=>aZ) (λ_ _=>emp) (λ_=>[]) (λ|1=>[0]|3=>[2]|_=>[]) (λ_=>[]) [0,1,2,3,5] (λD=>?_);refine aL ?_;refine dE (λO _ a=>yR F y (l.flatMap (fO old)) O ae (a.at 0)) ?_;refine aL ?_;refine aM _ (λ_ _ a=>mg aa aa (a.a1 0) alK (by rw[cN];simp[aY,g2.len]) aw (by simp only[aY,j6,iR,gW,g2.len];kernel_rfl)) ?_;refine aM (aj au) (λ_ _ _=>by(refine(x2 23 5 32 _ _ 23 aa tn lj aw aw _ g2.l aa aa (by rw[<-G.out];exact g2.len) g2.len).trans ?_;rw[G.out];simp)) ?_;refine bS λmm a=>?_;replace a:=a.drop 4;refine b6 ?_;refine ba a 3 (av #[J R 0,J R 0]) (λnU a=>?_);refine wpList_nil ?_;go_wp2_with fail;refine dp (v:=_) (je aa _ _ _ _ _ _ _ aa (a.a1 3) Tryz.underlying49 aa aw) aa (⟨aa,a.only⟩)
structure Bb (old:List Int) (ms:List bI) (o:List Int) (rs:List bI):Prop where
 perm:rs.Perm (lits (kd old o ms))
 lt:rs.Pairwise (λx y=>x.to<y.to)
def aqD{rs:List bI}(h:rs.Pairwise (λx y=>x.to<y.to)){x y}(hx:x∈rs)(b:y∈rs)(h1:x.to<=y.to)(a:y.to<=x.to):x=y:=by grind[List.mem_iff_getElem,List.pairwise_iff_getElem]
def Bb.unique{old ms o rs a}(h:Bb old ms o rs)(b:a.Perm (lits (kd old o ms)))(d:a.Pairwise (λx y=>x.to<=y.to)):a=rs:=
 (b.trans h.perm.symm).eq_of_pairwise (le:=λx y:bI=>x.to<=y.to) (λ_ _ hx e h1 c=>aqD h.lt ((b.trans h.perm.symm).mem_iff.1 hx) e h1 c) d (h.lt.imp (λh=>Int.le_of_lt h))
theorem IH{old ev ms m}(h:m∈kd old ev ms):∃i x,ms[i]?=ab x/\m=jJ old ev i x:=by grind[kd]
def XH{old ms o od rs}(hr:Bb old ms o rs)(d:old.length<=1048576)(b:∀m∈ms,m.data.length<=140737488355328):∀m∈fE ms od++rs,m.data.length<=140737488355328:=by
 intro m a;rcases List.mem_append.1 a with a|a;·obtain⟨x,_,hx⟩:=List.mem_filterMap.1 a;exact b m (cM hx)
 .have c:=(List.mem_filter.1 (hr.perm.mem_iff.1 a)).1;grind[IH,jJ]
def arE ms od:(fE ms od).length<=od.length:=List.length_filterMap_le _ _
def aqx(old o)ms:(lits (kd old o ms)).length<=ms.length:=eD (List.length_filter_le _ _) (by simp[kd])
structure AI (old:List Int) (ms:List bI) (S:List jQ) (o od:List Int) (rs:List bI):Prop where
 iF:Conv ms S o od
 idx:∀x∈od,∃i:Nat,x=(i:Int)/\i<ms.length
 en:od.length<=1000
 src:∀m∈ms,m.k=1->∃f q:Nat,m.fr=(f:Int)/\m.n=(q:Int)/\f+q<=old.length
 rs:Bb old ms o rs
def AI.len{old ms S o od rs}(h:AI old ms S o od rs):(fE ms od++rs).length<=2000:=by have h1:=arE ms od;have a:=h.rs.perm.length_eq;have b:=aqx old o ms;have c:=h.iF.ok.en;have d:=h.en;rw[dw];omega
def ajX(g A)(b1 c)old ms S(o od)rs w(hold:bT w g old)(hc0:old.length<=b1)(r:old.length<=1048576)(p:cD w A ms)(n:∀m∈ms,m.data.length<=140737488355328)(hc:AI old ms S o od rs):
 aD ax 45 #[ad g old.length b1,ad A ms.length c] w λe w'=>∃a d t,e=aA (ad a (fE ms od++rs).length d)/\b5 w w' t/\hE t a d (fE ms od++rs):=
 (ajW g A b1 c old ms S o od w hold hc0 r p n hc.iF hc.idx (eD hc.en bj) hc.src).mono λe w' ⟨a,d,l,⟨i,h1,j,k⟩,s,f⟩=>by
  obtain rfl:=hc.rs.unique h1 j;have q:l.length=(fE ms od++i).length:=aG;refine⟨a,d,Bv a (fE ms od++i).length d l,aG,⟨f.1,?_,?_⟩,l,k,aa⟩;·rw[<-q];exact⟨f.2.1.1,f.2.1.2.1.1⟩
  .intro b hb;exact f.2.2 b (hb.elim .inl (λh=>.inr (.inl h)))
def as6 {P w e p f ty b} {t B t2 jN:Nat} {cs c tmps} (h:e.results=#[.cell p ty,.cell f b]) (k:tmps.getD p aZ=ay (ab ⟨B,0,af⟩)) (l:tmps.getD f aZ=ay (ab ⟨jN,0,af⟩)) (hb:aX w B cs t) (hb2:aX w jN c t2)
 (hu:(P.underlying ty).map (λd=>d.isRow)=ab true) (hi:(P.info? ty).map (·.size)=ab cs.size) (Sr:(P.underlying b).map (λd=>d.isRow)=ab true) (ub:(P.info? b).map (·.size)=ab c.size):(n1 e tmps).run P w=.ok (bh #[av cs,av c]) w:=by
 cases hq:P.underlying ty with
 |none=>grind
 |some d=>
  cases mI:P.underlying b with
  |none=>grind
  |some g=>
   have r:d.isRow=true:=aG;have s:g.isRow=true:=aG;have j:=C7 (P:=P) w B t ty cs (0,0) d hb hq aG hi;have hl2:=C7 (P:=P) w jN t2 b c (0,0) g hb2 mI aG ub
   have hr:(n1 e tmps).run P w=((asAddr (tmps.getD p aZ)).run P w).andThen λa m=>((loadVar ty a).run P m).andThen λx n=>((asAddr (tmps.getD f aZ)).run P n).andThen λi o=>((loadVar b i).run P o).andThen λbo q=>.ok (bh #[x,bo]) q:=by simp only[n1,h];simp;try rfl
   rw[hr,k,l];simp only[asAddr,Sem.run_pure,Result.andThen_ok,j,hl2]
def b5.IL{w w' q t}(h:b5 w w' (kN q t)):b5 w w' t:=⟨h.1,h.2.1.2,h.2.2⟩
def Yd(k A)(b1 c n)(g1 g2)old ms S(o od)rs w(y:old.length<=1048576)(hc0:old.length<=b1)(hold:bT w k old)(G:nB w k)(x:cD w A ms)(hv:nC old.length n ms)(r:∀m∈ms,m.data.length<=140737488355328)(hg1:g1.l=ic old)(hg2:g2.l=ic (vI old ms))(H:(vI old ms).length<=1048576)(hc:AI old ms S o od rs):
 aD ax 28 #[ad k old.length b1,dD (old.length:Int) (n:Int) g1 g2 (ad A ms.length c)] w λe w'=>∃d f t,e=aA (bh #[dD (old.length:Int) (n:Int) g1 g2 (ad d (fE ms od++rs).length f),av #[J R 0,J R 0]])/\b5 w w' t/\hE t d f (fE ms od++rs):=by
 have O:=hc.len;have F:=XH (od:=od) hc.rs y r;have M:Hid (∀W,ao w W->aD ax 78 #[ad k old.length b1,dD (old.length:Int) (n:Int) g1 g2 (ad A ms.length c)] W λe w'=>e=aA (av #[J R 0,J R 0])/\ao W w'):=hid (λW g=>avd old.length n b1 g1 g2 k A c old ms W aa y hc0 (hold.aI g) (G.aI g) (x.aI g) hv r hg1 hg2 H);have C:Hid (∀W,ao w W->aD ax 45 #[ad k old.length b1,ad A ms.length c] W λe w'=>∃d f t,e=aA (ad d (fE ms od++rs).length f)/\b5 W w' t/\hE t d f (fE ms od++rs)):=hid (λW g=>ajX k A b1 c old ms S o od rs W (hold.aI g) hc0 y (x.aI g) r hc);have D:Hid (∀W aK c2 t,hE t aK c2 (fE ms od++rs)->t.p W->aD ax 56 #[dD (old.length:Int) (n:Int) g1 g2 (ad A ms.length c),ad aK (fE ms od++rs).length c2] W λe w'=>∃d f t,e=aA (dD (old.length:Int) (n:Int) g1 g2 (ad d (fE ms od++rs).length f))/\b5 W w' t/\hE t d f (fE ms od++rs)):=hid (λW aK c2 t h P=>IQ (old.length:Int) (n:Int) g1 g2 (ad A ms.length c) aK c2 (fE ms od++rs) W aa (h.s6 P) ae F);obtain⟨j,E⟩:=ex ((fE ms od++rs));rw[E]at C D⊢;clear O F E hold G x hv r hg1 hg2 H hc;go_enter func28,ntmps28;have a:=bg w;go_upto_region 0 with fail;refine ar ?_;refine bO a (av (a6 (old.length:Int) (n:Int) g1 g2 (ad A ms.length c))) (λU w1 a=>?_);refine bA a (a6 0 0 dY.zero dY.zero (ad af 0 0)) (λK Z a=>?_);refine bA a #[J R 0,J R 0] (λL bN a=>?_);refine b6 ?_;refine bt a 2 (a6 (old.length:Int) (n:Int) g1 g2 (ad A ms.length c)) ?_ (hv:=(ef _)) (hk:=by omega) (hz:=(by rw[cN];rfl));refine bC (M.out _ a.only) a (λcc a=>?_);refine bA a #[J R 0,J R 0] (λV cG a=>?_);refine ba a 0 (av #[J R 0,J R 0]) (λc6 a=>?_);refine aF ?_;refine bt a 0 #[J R 0,J R 0] ?_;refine pk (av #[J R 0,J R 0]) ?_;refine pk (aj au) ?_;refine dh ?_;refine bP a [4,5,7,8] (λi u=>match i with|4=>ad u.A j.length u.c|5=>av (a6 (old.length:Int) (n:Int) g1 g2 (ad u.A j.length u.c))|_=>aZ) (λb=>λ|4=>kN (hE (b 4).t (b 4).A (b 4).c j) (b 4).t|5=>kN (hE (b 5).t (b 5).A (b 5).c j) (b 5).t|7=>ah K (a6 (old.length:Int) (n:Int) g1 g2 (ad (b 5).A j.length (b 5).c)) 26|8=>ah L #[J R 0,J R 0] 49|_=>emp) (λ|7=>[2]|8=>[1]|_=>[]) (λ|0=>[3]|3=>[3]|5=>[8]|_=>[]) (λ|4=>[4]|5=>[5]|7=>[5]|_=>[]) [0,3,8,9,11,12] (λb=>?_);refine eb 0 (a6 (old.length:Int) (n:Int) g1 g2 (ad A ms.length c)) ?_ (hv:=(ef _)) (hk:=by omega) (hz:=(by rw[cN];rfl));refine br ?_;refine dl 0 66 ?_ (hv:=eT);refine df (λB Fr a=>(C.out B a.only).mono ?_) ?_;·rintro e Q ⟨d,f,t,rfl,s,q⟩;exact⟨{A:=d,c:=f,t:=t},aa,(a.new _ s).kN q⟩
 refine df (λB Fr a=>(D.out B (b 4).A (b 4).c (b 4).t (a.at (t:=kN (hE (b 4).t (b 4).A (b 4).c j) (b 4).t) 0).1 (a.at (t:=kN (hE (b 4).t (b 4).A (b 4).c j) (b 4).t) 0).2).mono ?_) ?_;·rintro e Q ⟨d,f,t,rfl,s,q⟩;exact⟨{A:=d,c:=f,t:=t},aa,(a.new _ s).kN q⟩
 refine gC (av #[J R 0,J R 0]) ?_;refine fZ (av _) ?_ (hk:=by show 0+jD (a6 _ _ _ _ _)<=_;simp only[cN];decide) (hz:=by show _=ab (jD (a6 _ _ _ _ _));rw[cN];rfl) (h1:=(vg aa)) (hc:=vD);refine fZ _ ?_;refine bS λdX a=>?_;generalize (b 4).A=T at a⊢;generalize (b 4).c=X at a⊢;generalize (b 4).t=Y at a⊢;generalize (b 5).A=I at a⊢;generalize (b 5).c=N at a⊢;generalize (b 5).t=z at a⊢;have q:=(a.at (t:=kN (hE z I N j) z) 3).1;go_wp2_with fail;refine dp (v:=_) (as6 aa aa aa (a.a1 4) (a.a1 5) aw (by rw[cN];rfl) aw aw) aa ⟨_,_,z,aa,(a.fresh 3).IL,q⟩
def L3{F:Type}(l:List F)(h:l.length=32):∃a dc bo lg oH A B C D E b c d e f g i j k m n o p q r s t u v w x z,l=[a,dc,bo,lg,oH,A,B,C,D,E,b,c,d,e,f,g,i,j,k,m,n,o,p,q,r,s,t,u,v,w,x,z]:=by
 rcases l with _|⟨a,l⟩;·grind
 rcases l with _|⟨dc,l⟩;·grind
 rcases l with _|⟨bo,l⟩;·grind
 rcases l with _|⟨lg,l⟩;·grind
 rcases l with _|⟨oH,l⟩;·grind
 rcases l with _|⟨A,l⟩;·exact absurd h aU
 rcases l with _|⟨B,l⟩;·exact absurd h aU
 rcases l with _|⟨C,l⟩;·exact absurd h aU
 rcases l with _|⟨D,l⟩;·exact absurd h aU
 rcases l with _|⟨E,l⟩;·exact absurd h aU
 rcases l with _|⟨b,l⟩;·exact absurd h aU
 rcases l with _|⟨c,l⟩;·exact absurd h aU
 rcases l with _|⟨d,l⟩;·exact absurd h aU
 rcases l with _|⟨e,l⟩;·exact absurd h aU
 rcases l with _|⟨f,l⟩;·exact absurd h aU
 rcases l with _|⟨g,l⟩;·exact absurd h aU
 rcases l with _|⟨i,l⟩;·exact absurd h aU
 rcases l with _|⟨j,l⟩;·exact absurd h aU
 rcases l with _|⟨k,l⟩;·exact absurd h aU
 rcases l with _|⟨m,l⟩;·exact absurd h aU
 rcases l with _|⟨n,l⟩;·exact absurd h aU
 rcases l with _|⟨o,l⟩;·exact absurd h aU
 rcases l with _|⟨p,l⟩;·exact absurd h aU
 rcases l with _|⟨q,l⟩;·exact absurd h aU
 rcases l with _|⟨r,l⟩;·exact absurd h aU
 rcases l with _|⟨s,l⟩;·exact absurd h aU
 rcases l with _|⟨t,l⟩;·exact absurd h aU
 rcases l with _|⟨u,l⟩;·exact absurd h aU
 rcases l with _|⟨v,l⟩;·exact absurd h aU
 rcases l with _|⟨w,l⟩;·exact absurd h aU
 rcases l with _|⟨x,l⟩;·exact absurd h aU
 rcases l with _|⟨z,l⟩;·exact absurd h aU
 rcases l with _|⟨y,l⟩;·grind
 .exact absurd h aU
def iV(bs:List Int):dY:=⟨ic bs,sG bs⟩
def atF(o n)(g h)w:(Instr.build 26 #[(0,J R o),(1,J R n),(2,av (aY a' g.l [])),(3,av (aY a' h.l []))]).run ax w=.ok (dD o n g h (ad af 0 0)) w:=by obtain⟨a,bD⟩:=g;obtain⟨b,b9⟩:=h;obtain⟨c,dc,bo,lg,oH,F,G,H,I,K,d,e,f,i,j,k,m,p,q,r,s,t,u,v,x,y,z,A,B,C,D,E,rfl⟩:=L3 a bD;obtain⟨L,M,br,c7,ix,oI,NH,NI,CM,NJ,N,O,P,Q,S,T,U,V,W,X,Y,Z,avV,avW,avX,avY,avZ,av0,av1,av2,av3,av4,rfl⟩:=L3 b b9;kernel_rfl
def akk{o}{a:Act}{w b dc bo lg p q eS eZ}(c:o.op=.build 26 #[(0,b),(1,dc),(2,bo),(3,lg)])(d:a.eval b=J R p)(h1:a.eval dc=J R q)(f:a.eval bo=av (aY a' (ic eS) []))(g:a.eval lg=av (aY a' (ic eZ) [])):
 (bw a.eval o).run ax w=.ok (.value (dD p q (iV eS) (iV eZ) (ad af 0 0))) w:=by
 have h:=atF p q (iV eS) (iV eZ) w;unfold bw;simp only[c,Sem.run_bind];have e:(#[(0,b),(1,dc),(2,bo),(3,lg)].map λ(i,x)=>(i,a.eval x))=(#[(0,J R p),(1,J R q),(2,av (aY a' (iV eS).l [])),(3,av (aY a' (iV eZ).l []))]:Array (Nat×aP)):=by grind[iV]
 rw[e,h];rfl
def Yx(b1 c1)(b d A)c(old new)ms w(F:old.length<=1048576)(E:new.length<=1048576)(hold:bT w b old)(j:nB w b)(l:bT w d new)(k:nB w d)(i:cD w A ms)(hv:ms.length<=20)(h:∀m∈ms,m.data.length<=140737488355328):
 aD ax 26 #[ad b old.length b1,ad d new.length c1,ad A ms.length c] w λe w'=>∃f g t,e=aA (dD (old.length:Int) (new.length:Int) (iV old) (iV new) (ad f ms.length g))/\b5 w w' t/\hE t f g ms:=by
 have o:=hid i;have s:=hid hold;have q:=hid j;have r:=hid l;have p:=hid k;have x:=hid hv;have n:=hid h;clear i hold j l k h hv;go_enter func26,ntmps26;have a:=bg w;go_upto_region 0 with fail;refine ar ?_;refine bA a (a6 0 0 dY.zero dY.zero (ad af 0 0)) (λD w1 a=>?_);refine aF ?_;refine v5 ?_;refine ga a #[ad b old.length b1] 22 (λB G a=>?_);refine bC (S9 _ b b1 old _ 22 ae (a.a1 0) (s.out.aI a.only) (q.out.aI a.only)) a (λH a=>?_);refine ag ?_;refine ga a #[ad d new.length c1] 22 (λC I a=>?_);refine bC (S9 _ d c1 new _ 22 ae (a.a1 0) (r.out.aI a.only) (p.out.aI a.only)) a (λJ a=>?_);refine aJ (av _) (akk aa aa aa aa aa) ?_;refine ag ?_;refine a7 (IQ _ _ _ _ _ A c ms _ aa (o.out.aI a.only) (eD x.out bj) n.out) ?_;rintro e K ⟨aK,c2,z,rfl,y,u⟩;replace a:=a.new _ y;refine bb ?_;refine ba a 3 (av (a6 (old.length:Int) (new.length:Int) (iV old) (iV new) (ad aK ms.length c2))) (λL a=>?_) (hk:=by show 0+jD (a6 _ _ _ _ _)<=_;simp only[cN];decide) (hz:=by show _=ab (jD (a6 _ _ _ _ _));rw[cN];rfl) (h1:=(vg aa)) (hc:=vD);refine wpList_nil ?_;go_wp2_with fail;refine dp (v:=_) (je aa _ _ _ _ _ _ _ aa (a.a1 3) Tryz.underlying26 aa (by rw[cN];rfl)) aa (⟨aK,c2,z,aa,a.fresh 0,u⟩)
section
def tL(bq:Int):List PanicEntry:=[{v:=uM 47 (J R bq),recovered:=au}]
def rI(bq:Int)(v:aP):Ending:=if bq=0 then aA v else Jj (tL bq)
def tV:bu:=⟨λ_=>False,λ_=>False,λ_ _ _ _ h=>h⟩
section
variable {P:ew} {ops:Array cR} {rest:List cR} {Q:Exit->Act->aN->Prop} {o:cR} {a:Act} {w:aN}
def Tm{f:FuncId}{args:Array aP}{b:aN->Prop}{ch:List q'}(hc:aD P f args w (λe w'=>e=Jj ch/\b w'))(h:∀w',b w'->Q (tk ch) a w')(hr:(bw a.eval o).run P w=.ok (.enter f args) w:=by(go_simp;try with_reducible rfl))(c:c4 o (cY ops a.tmps)=true:=by kernel_rfl):
 cH P ops Q (o::rest) a w:=by
 unfold cH;rw[if_pos c];refine .inl ?_;unfold hC;rw[hr];exact Jh hc (λe w' ⟨d,h1⟩=>aG)
def MA{t:TypeId}{u:aP}{x:Operand}(h:Q (tk [{v:=uM t u,recovered:=au}]) a w)(b:o.op=.panic x:=by rfl)(hx:a.eval x=uM t u:=by rfl)(c:c4 o (cY ops a.tmps)=true:=by kernel_rfl):
 cH P ops Q (o::rest) a w:=by
 have hr:(bw a.eval o).run P w=.halt (.panic (uM t u)) w:=by unfold bw;simp[b,hx,run_panic_iface]
 unfold cH;rw[if_pos c];refine .inl ?_;unfold hC;rw[hr];exact h
end
def Fq {P:ew} {ops:Array cR} {Q:Exit->Act->aN->Prop} {an:aN} {FX:Nat->Prop} {bl:List bu} {f:Nat} {w:aN} {a0:Act} (QP:List q'->aN->Prop) (e:∀c a w,a.defers=a0.defers->QP c w->Q (tk c) a w) (b:ai an FX w bl) (LE:List Nat) (bU:Nat->e4->aP) (out:(Nat->e4)->Nat->bu) (ins rd look:Nat->List Nat) (fin:List Nat)
 (j':∀us,c9 P ops Q (oo ops) LE bU an FX bl out ins rd fin QP us 0 ops.toList a0)
 (hloc:Bc look out LE:=by(repeat' (first|exact trivial|refine And.intro (λus g h=>?_) ?_|rfl|(simp(disch:=decide) only[h];done))))
 (hm:P.follows .mixedOrders=true:=by kernel_rfl) (hk:DW ops (oo ops) (yb ops)=true:=by kernel_rfl) (hsz:((List.range ops.size).all λi=>match oo ops i with|some d=>decide (d<a0.tmps.size)|none=>LE.contains i)=true:=by kernel_rfl) (hs:Fc bl.length ops.size (yb ops) LE ins rd look fin=true:=by kernel_rfl):
 (Code.region f ops true).wp P Q a0 w:=wp_region_any hm (T5 b (yb ops) (oo ops) LE bU out ins rd look fin _ hk hsz hs e (hloc.spec) j')
section
variable {P:ew} {ops:Array cR} {rest:List cR} {Q:Exit->Act->aN->Prop} {o:cR} {a bz:Act} {an:aN} {FX:Nat->Prop} {dst:Nat->Option Tmp} {LE:List Nat} {bU:Nat->e4->aP} {bl:List bu} {out:(Nat->e4)->Nat->bu} {ins rd:Nat->List Nat} {fin:List Nat} {QP:List q'->aN->Prop} {us:Nat->e4} {i:Nat}
def DU {f:FuncId} {args:Array aP} (hc:∀w (Fr:List bu),ai an FX w ((ins i).map (dm bl out us)++((rd i).map (dm bl out us)++Fr))->aD P f args w λe w'=>∃ch,e=Jj ch/\QP ch w') (h:c9 P ops Q dst LE bU an FX bl out ins rd fin QP us (i+1) rest bz)
 (hr:∀w,(bw a.eval o).run P w=.ok (.enter f args) w:=by(intro _;go_simp;try with_reducible rfl)) (hi:decide (i∈LE)=true:=by kernel_rfl) (hw:c4 o (cY ops a.tmps)=true:=by kernel_rfl) (ha:a.put o.dst (bU i (us i))=bz:=by((try simp only[Act.put,List.setIfInBounds_toArray,List.set_cons_zero,List.set_cons_succ]);rfl)):c9 P ops Q dst LE bU an FX bl out ins rd fin QP us i (o::rest) a:=by
 refine wL (λw Fr b K d=>?_) h hi ha;rw[if_pos hw];unfold hC;rw[hr];exact Jh (hc w Fr b) (λe w' ⟨ch,g,c⟩=>aG)
end
section
variable {hI S pl jp:aP} {bd pk o n st nx:Int} {g h:dY} {bE:Bool}
def qu(S pl jp:aP)(st nx:Int)(bE:Bool):List Value:=[S,pl,jp,J R st,J R nx,aj bE]
def tG(hI:aP)(bd pk o n:Int):List Value:=[hI,J R bd,J R pk,J R o,J R n]
def gY(hI:aP)(bd pk:Int)(o n:Int)(g h:dY)(S pl jp:aP)(st nx:Int)(bE:Bool):Array Value:=(tG hI bd pk o n++((g.l.map a'++h.l.map a')++qu S pl jp st nx bE)).toArray
theorem Ql(g h:dY):(g.l.map a'++h.l.map a').length=64:=by simp[g.len,h.len]
def oU:(gY hI bd pk o n g h S pl jp st nx bE).size=75:=by simp[gY,tG,qu,g.len,h.len]
def rA{j:Nat}{v}(hv:(tG hI bd pk o n)[j]?=ab v):(gY hI bd pk o n g h S pl jp st nx bE)[j]?=ab v:=by grind[gY]
def fj{j v}(hv:(qu S pl jp st nx bE)[j]?=ab v):(gY hI bd pk o n g h S pl jp st nx bE)[69+j]?=ab v:=by rw[gY,List.getElem?_toArray,oa (by show 5<=_;omega),show 69+j -(tG hI bd pk o n).length=64+j by show 69+j -5=_;omega,oa (by grind[Ql]),Ql,Nat.add_sub_cancel_left];exact hv
def ajM{v}:lay (gY hI bd pk o n g h S pl jp st nx bE) 2 [J R v]=gY hI bd v o n g h S pl jp st nx bE:=aT
def Qk{j}{T:List aP}{v a d b i c f}(p:j<6)(m:(qu S pl jp st nx bE).take j++(v::(qu S pl jp st nx bE).drop (j+1))=qu a d b i c f):lay (gY hI bd pk o n g h S pl jp st nx bE) (69+j) [v]=gY hI bd pk o n g h a d b i c f:=by
 have e:=Cc [v] (tG hI bd pk o n++((g.l.map a'++h.l.map a')++(qu S pl jp st nx bE).take j)) ((qu S pl jp st nx bE).drop j) (by show 1<=_;rw[List.length_drop];show 1<=6 -j;omega)
 have k:(tG hI bd pk o n++((g.l.map a'++h.l.map a')++(qu S pl jp st nx bE).take j)).length=69+j:=by rw[dw,dw,Ql,List.length_take];show 5+(64+min j 6)=_;omega
 rw[k]at e;have h1:tG hI bd pk o n++((g.l.map a'++h.l.map a')++(qu S pl jp st nx bE).take j)++(qu S pl jp st nx bE).drop j=tG hI bd pk o n++((g.l.map a'++h.l.map a')++qu S pl jp st nx bE):=by grind[oR]
 grind[gY,List.drop_drop,List.length_singleton]
def Ku{v}:lay (gY hI bd pk o n g h S pl jp st nx bE) 72 [J R v]=gY hI bd pk o n g h S pl jp v nx bE:=Qk (T:=[]) (j:=3) bj aa
def XE{v}:lay (gY hI bd pk o n g h S pl jp st nx bE) 73 [J R v]=gY hI bd pk o n g h S pl jp st v bE:=Qk (T:=[]) (j:=4) bj aa
def XF{v}:lay (gY hI bd pk o n g h S pl jp st nx bE) 74 [aj v]=gY hI bd pk o n g h S pl jp st nx v:=Qk (T:=[]) (j:=5) bj aa
def Q9{L A B C:List aP}(c:L=A++(B++C)){k m}(a:A.length=k)(b:B.length=m):L.toArray.extract k (k+m)=B.toArray:=aG
def ajL:(gY hI bd pk o n g h S pl jp st nx bE).extract 3 (3+(a6 o n g h S).size)=a6 o n g h S:=by rw[cN];exact Q9 (A:=[hI,J R bd,J R pk]) (B:=_) (C:=[pl,jp,J R st,J R nx,aj bE]) (by simp[tG,qu]) aa (by simp[g.len,h.len])
def XD:(gY hI bd pk o n g h S pl jp st nx bE).extract 5 (5+(aY a' g.l []).size)=aY a' g.l []:=by
 have h1:(aY a' g.l []).size=32:=by simp[aY,g.len]
 rw[h1];exact Q9 (A:=tG hI bd pk o n) (B:=_) (C:=h.l.map a'++qu S pl jp st nx bE) aU aa (by simp[g.len])
def Gz:(gY hI bd pk o n g h S pl jp st nx bE).extract 37 (37+(aY a' h.l []).size)=aY a' h.l []:=by
 have h1:(aY a' h.l []).size=32:=by simp[aY,h.len]
 rw[h1];exact Q9 (A:=tG hI bd pk o n++g.l.map a') (B:=_) (C:=qu S pl jp st nx bE) aU (by simp[tG,g.len]) (by simp[h.len])
end
structure pd where
 B:Nat
 dg:Nat
 dx:Nat
 bd:Nat
 o:Nat
 n:Nat
 p:Nat
 c:Nat
 first:Nat
 id:Nat
 g1:dY
 g2:dY
 A:Option Addr
 ms:List bI
def ct(E:pd)(pk st nx:Int)(bE:Bool):bu:=ah E.dg (gY (di E.B) (E.bd:Int) pk (E.o:Int) (E.n:Int) E.g1 E.g2 (ad E.A E.ms.length E.c) (ay (ab ⟨E.p,0,af⟩)) (ay (ab ⟨E.dx,0,af⟩)) st nx bE) 135
def cV(E:pd)(j:oN)(A:Option Addr)(c:Nat):bu:=p0 E.dx E.B E.first E.bd (E.id:Int) j A c
end
end Go.Proofs.YtcmhplknoglbkaaGreat
