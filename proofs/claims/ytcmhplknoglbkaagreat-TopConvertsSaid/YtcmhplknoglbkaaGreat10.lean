/- Part 10 of the proof of TopConvertsSaid. -/
import Derived.Test.YtcmhplknoglbkaaGreat0
import Derived.Test.YtcmhplknoglbkaaGreat6
import Derived.Test.YtcmhplknoglbkaaGreat9
set_option linter.all false
set_option maxRecDepth 100000
set_option maxHeartbeats 4000000
open Go.Proofs.Tryz
open Array renaming size->jD
open Go renaming Addr->bW,Calls->aD,undef->aZ,wpList_nil->ak,wp_region_lit->ar
open Go.Ending renaming returned->aA
open Go.IntKind renaming i64->R
open Go.Operand renaming tmp->bc
open Go.Proofs.Tryz renaming prog->ax,underlying24->eB,underlying73->fX,underlying82->ik
open Go.RowKit renaming intOf->cx
open Go.Value renaming agg->av,int->J,pointer->ay,slice->ad
open List renaming getElem?_eq_getElem->cm,map_append->gy,map_cons->jx,map_nil->kC,mem_append->iD,mem_map->gN,mem_of_getElem?->cM,mem_singleton->u5,not_mem_nil->gb,range->dG,take_add_one->fv,take_length->il
open Nat renaming le_refl->cp,zero_le->cQ
open Option renaming none->af,some->ab,toList_some->xX
namespace Go.Proofs.YtcmhplknoglbkaaGreat
section
open Go.RowKit Go.MapKept
def Bv(A:Option bW)(n c:Nat)(l:List (bI×Option bW×Nat)):bu:=⟨λb=>dV A b\/∃x∈l,dV x.2.1 b,λw=>Row 0 w A n c 73 5 (cA l)/\∀x∈l,e3 0 w x.2.1 x.2.2 x.1.data,λw w' h a d=>
 ⟨(bp A n c 73 5 (cA l)).ox w w' (λb hb=>h b (.inl hb)) (λb hb=>a b (.inl hb)) d.1,λx hx=>(cf x.2.1 x.2.2 x.1.data).ox w w' (λb hb=>h b (.inr ⟨x,hx,hb⟩)) (λb hb=>a b (.inr ⟨x,hx,hb⟩)) (d.2 x hx)⟩⟩
def hE(t:bu)(A:Option bW)(c:Nat)(ms:List bI):Prop:=∃l:List (bI×Option bW×Nat),l.map (·.1)=ms/\t=Bv A ms.length c l
def hE.atn{t A c ms W}(h:hE t A c ms)(a:t.p W):Qe 0 W A c ms:=by obtain⟨l,h1,rfl⟩:=h;exact⟨l,h1,a⟩
def hE.s6{t A c ms W}(h:hE t A c ms)(a:t.p W):cD W A ms:=(h.atn a).s6
def hE.cmd{t A c ms}(h:hE t A c ms){j m}(a:ms[j]?=ab m):∃d f,(∀b,dV d b->t.c5 b)/\∀W,t.p W->qf W m d f/\∃g,A=ab ⟨g,0,af⟩/\W.rangeAt g (0+j*5) (jk m d f):=by
 obtain⟨l,h1,rfl⟩:=h;subst h1;rw[List.getElem?_map]at a;cases hx:l[j]? with
 |none=>grind
 |some x=>
  rw[hx]at a;simp at a;subst a;have n:=cM hx;refine⟨_,_,λb hb=>.inr ⟨x,n,hb⟩,λW e=>⟨(e.2 x n).cmd,?_⟩⟩;obtain⟨g,k,_⟩:=e.1.cell (DQ hx 0 _ aa);refine⟨g,k,λi v hi=>?_⟩;obtain⟨o,bD,b9⟩:=e.1.cell (DQ hx i _ hi);rw[k]at bD;injection bD with bD;injection bD with bD;subst bD;rw[Nat.zero_add];exact b9
def vD{o n d c g h g2 b S a}:lay (a6 o n g h S) 0 (a6 d c g2 b a).toList=a6 d c g2 b a:=by grind[lay_all,cN]
section
variable {an w:World} {FX:Nat->Prop}
def gD(l:List (bI×Option bW×Nat)):bu:=⟨λb=>∃x∈l,dV x.2.1 b,λw=>∀x∈l,e3 0 w x.2.1 x.2.2 x.1.data,λw w' h a c x hx=>
 (cf x.2.1 x.2.2 x.1.data).ox w w' (λb hb=>h b ⟨x,hx,hb⟩) (λb hb=>a b ⟨x,hx,hb⟩) (c x hx)⟩
def ai.KR{L}(h:ai an FX w L):ai an FX w (gD []::L):=h.new _ ⟨aq.refl _ _,λ_ h=>(gb h).elim,λ_ ⟨_,h,_⟩=>(gb h).elim⟩
def ai.KQ{L l m A c}(h:ai an FX w (gD l::cf A c m.data::L)):ai an FX w (gD (l++[(m,A,c)])::L):=by
 refine h.star.as 0 aa _ (λa x hx=>?_) (λb hb=>?_)
 .rcases iD.1 hx with hx|hx;·exact a.1 x hx
  .obtain rfl:x=(m,A,c):=aG;exact a.2.1
 .obtain⟨x,hx,hb⟩:=hb;rcases iD.1 hx with hx|hx;·exact .inl ⟨x,hx,hb⟩
  .obtain rfl:x=(m,A,c):=aG;exact .inr hb
def ai.al6{L l m}(c:m.data=[])(h:ai an FX w (gD l::L)):ai an FX w (gD (l++[(m,af,0)])::L):=by
 refine h.as 0 aa _ (λa x hx=>?_) (λb hb=>?_)
 .rcases iD.1 hx with hx|hx;·exact a x hx
  grind[e3.nil]
 .obtain⟨x,hx,hb⟩:=hb;rcases iD.1 hx with hx|hx;·exact⟨x,hx,hb⟩
  .obtain rfl:x=(m,af,0):=aG;obtain⟨_,_,hb⟩:=hb;cases hb
def ai.Bv{r l A n c}(h:ai an FX w (bp A n c 73 5 (cA l)::gD l::r)):ai an FX w (Go.Proofs.YtcmhplknoglbkaaGreat.Bv A n c l::r):=h.star.as 0 aa _ (λh=>⟨h.1,h.2.1⟩) (λ_ hb=>hb)
variable {o n:Int} {g h:dY} {S gH:Value}
def Yq(a:gH.cells=#[gH]:=by rfl):66+gH.cells.size<=(a6 o n g h S).size:=by grind[cN]
def Ys(a:gH.cells=#[gH]:=by rfl):lay (a6 o n g h S) 66 gH.cells.toList=a6 o n g h gH:=by rw[a];exact alL
end
def IQ(o n)(g h)S A c ms w(hS:S.oneCell'=true)(H:cD w A ms)(hle:ms.length<=1048576)(hv:∀m∈ms,m.data.length<=140737488355328):
 aD ax 56 #[dD o n g h S,ad A ms.length c] w λe w'=>∃s B t,e=aA (dD o n g h (ad s ms.length B))/\b5 w w' t/\hE t s B ms:=by
 have P:=hid H;have T:=hid hv;clear H hv;have ayG:=hle;go_enter func56,ntmps56;have a:=bg w;go_upto_region 0 with fail;refine ar ?_;refine bO a (av _) (λcC w1 a=>?_);refine bA a (a6 0 0 dY.zero dY.zero _) (λL aS a=>?_);refine b6 ?_;refine ba a 1 (ad af 0 0) (λbN a=>?_) (hk:=Yq) (hc:=Ys);refine aF ?_;refine v3 ?_;refine ak ?_;replace a:=a.pk [1,0];replace a:=a.KR.k8 (aq.refl _ _) (Row.nil _ _ 73 5);go_wp2_with fail;go_loopw [10] (λr wr=>∃(q:Nat) (f:Option bW) (j:Nat) (l:List (bI×Option bW×Nat)),q<=ms.length/\r=J R q/\Hid (l.map (·.1)=ms.take q)/\ai w (λ_=>False) wr [bp f q j 73 5 (cA l),gD l,ah cC (a6 o n g h (ad f q j)) 26,ah L (a6 0 0 dY.zero dY.zero (ad af 0 0)) 26]) (λr wr=>ms.length -(cx r).toNat);case atStart=>exact⟨0,_,0,[],cQ _,aa,hid aa,a⟩
 case round=>
  clear a;obtain⟨q,f,j,l,hq,rfl,z,a⟩:=hrel;by_cases hlt:q<ms.length
  .have cJ:(q:Int)<(ms.length:Int):=ae;obtain⟨m,p⟩:∃m,ms[q]?=ab m:=⟨_,cm hlt⟩;obtain⟨U,bM,y,D,E,F,G⟩:=cD.ia P.out p;have M:=hid E;have N:=hid F;have O:=hid G;have Q:=hid p;have V:=T.out m (cM p);clear E F G p;go_upto_region 4 with fail;refine ar ?_;refine aJ _ (cI 24 73 5 _ _ aa eB aw _ _ _ _ _ _ (by show ad A _ _=_;rw[M.out]) aa hlt aa) ?_;refine aJ _ (by(refine e7 73 _ aa U _ aa _ (O.out _ a.only) fX aa aw)) ?_;refine bA a #[J _ 0,J _ 0,J _ 0,J _ 0,ad _ 0 0] (λX cc a=>?_);refine ba a 0 (av _) (λcG a=>?_);refine dh ?_;refine bP a [3,4,5,7] (λi u=>match i with|3=>av #[J R m.k,J R m.to,J R m.fr,J R m.n,ad u.A m.data.length u.c]|4=>ad (ab ⟨u.b,0,af⟩) 1 1|5=>ad u.A (q+1) u.c|_=>aZ) (λd=>λ|3=>cf ((d 3).A) ((d 3).c) m.data|4=>ah ((d 4).b) #[J R m.k,J R m.to,J R m.fr,J R m.n,ad (d 3).A m.data.length (d 3).c] 73|5=>bp ((d 5).A) (q+1) ((d 5).c) 73 5 (cA l++([J R m.k,J R m.to,J R m.fr,J R m.n,ad (d 3).A m.data.length (d 3).c]))|7=>ah cC (a6 o n g h (ad (d 5).A (q+1) (d 5).c)) 26|_=>emp) (λ|5=>[1]|7=>[3]|_=>[]) (λ|1=>[3]|2=>[0]|5=>[9]|_=>[]) (λ|3=>[3]|4=>[3,4]|5=>[3,5]|7=>[5]|_=>[]) [0,2,4,8,9,10,12] (λd=>?_);refine aL ?_;refine dl 0 66 ?_ (hv:=eT);refine eb 0 #[J R m.k,J R m.to,J R m.fr,J R m.n,ad y m.data.length D] ?_;refine DT (λ_ _ a=>QF _ _ _ _ y D _ _ (N.out _ a.only).1 V) ?_;refine lM #[J _ _,J _ _,J _ _,J _ _,ad (d 3).A _ (d 3).c] 73 ?_;refine tN (m:=1) 56 (λ_ _ a=>aX.cellsOf (m:=1) (a.a1 1) aa) (by intro u K;simp at K;rcases K with rfl|rfl|rfl|rfl|rfl<;>rfl) ?_;refine aL ?_;refine fZ _ ?_ (hk:=Yq) (hc:=Ys);refine bS λc6 a=>?_;generalize (d 3).A=x at a⊢;generalize (d 3).c=C at a⊢;generalize (d 4).b=Y at a⊢;generalize (d 5).A=W at a⊢;generalize (d 5).c=Z at a⊢;replace a:=a.pk [1,3,5,6,2];replace a:=a.KQ.pk [1,0,2,3];go_wp2_with fail;go_roundw
   case rel=>
    have e:(cA l++([J R m.k,J R m.to,J R m.fr,J R m.n,ad x m.data.length C]))=cA (l++[(m,x,C)]):=by rw[Bu,DR];rfl
    rw[e]at a;exact⟨_,_,_,_,ae,by go_num,hid (by rw[gy,z.out,fv,Q.out];rfl),a⟩
   case measure=>grind[cx]
  .obtain rfl:q=ms.length:=ae;have I:=z.out;rw[il]at I;go_upto_region 7 with fail;refine ar ?_;refine bt a 2 (a6 o n g h (ad f ms.length j)) ?_ (hv:=(ef _)) (hk:=by omega) (hz:=(by rw[cN];rfl));refine ba a 3 (av _) (λdX a=>?_) (hk:=by show 0+jD (a6 _ _ _ _ _)<=_;simp only[cN];decide) (hz:=by show _=ab (jD (a6 _ _ _ _ _));rw[cN];rfl) (h1:=(vg aa)) (hc:=vD);refine ak ?_;replace a:=a.Bv;go_wp2_with fail;refine bodyPost_ret (v:=_) (results_cell_row aa _ _ _ _ _ _ _ aa (a.a1 2) Tryz.underlying26 aa (by rw[cN];rfl)) aa (⟨f,j,_,aa,a.fresh 0,l,I,aa⟩)
end
open Go.RowKit Go.MapKept
def Row.MS{N n c w A xs}(h:Row N w A n c 3 1 (xs.map (J R))):cX w A xs:=cX.lW h
def akD E x:im (E++[x])=im E++[J R x.1,J R x.2]:=by simp[im]
def Row.TO{N c w A E n}(h:Row N w A n c 35 2 (im E)):n=E.length/\jy w A E:=by
 have a:n=E.length:=by have:=h.1;rw[X5]at this;omega
 grind[jy.lW]
def Row.at{N n c e sz:Nat}{w A xs}(h:Row N w A n c e sz xs)(b:0<n):∃g,A=ab ⟨g,0,af⟩:=by
 rcases h.cases with⟨_,a,_⟩|⟨g,_,h1,_⟩;·omega
 .grind
def Row.cellAt{N n c e sz g:Nat}{w xs}(h:Row N w (ab ⟨g,0,af⟩) n c e sz xs){j v}(a:xs[j]?=ab v):w.cell? ⟨g,j,af⟩=ab v:=by obtain⟨b,bD,b9⟩:=h.cell a;grind
def vc(ms:List bI)(i:Nat):Int:=kF ((ms.take i).map b')
def akb{ms q m}(h:ms[q]?=ab m):vc ms (q+1)=vc ms q+cS m:=by unfold vc;rw[fv,h,xX,gy,Q6];simp[kF,b']
def XQ{ms}(h:∀m∈ms,hY m){q}:0<=vc ms q/\vc ms q<=kF (ms.map b'):=by unfold vc;rw[List.map_take];exact YS (E:=_) (λe a=>by obtain⟨m,b,rfl⟩:=gN.1 a;have:=(h m b).b';show 0<=cS m;omega) q
def ss(t:bu)(p:Nat)(s:Int)(ms:List bI):Prop:=∀W,t.p W->Bf W p s ms
set_option maxHeartbeats 2000000 in
def asr s A c ms w(hl:cD w A ms)(hf2:ms.length<=1048575)(hf:(ey s ms).length<=1048576)(hs:1<=s)(hv:∀m∈ms,hY m/\m.data.length<=140737488355328)(ht:kF (ms.map b')<=4611686018427387903):
 aD ax 57 #[J R s,ad A ms.length c] w λe w'=>∃p t,e=aA (ay (ab ⟨p,0,af⟩))/\b5 w w' t/\ss t p s ms:=by
 have cw:=hid hl;have v:=hid hv;have cr:=hid (And.intro hf hf2);have eN:=hid ht;have hs1:¬s<1:=ae;have V:=hid hs;clear hl hv hf ht;go_enter func57,ntmps57;have a:=bg w;go_upto_region 0 with fail;refine ar ?_;refine ag ?_;refine ak ?_;go_upto_region 1 with fail;refine ar ?_;refine v2 ?_;refine ak ?_;go_upto_region 3 with fail;refine ar ?_;refine ag ?_;refine ga a #[J R 0] 3 (λQ w1 a=>?_);refine ga a #[J R 0] 3 (λS aS a=>?_);refine v2 ?_;refine bO a (av _) (λy bN a=>?_);refine ag ?_;refine ak ?_;go_upto_region 4 with fail;refine ar ?_;refine ag ?_;refine ak ?_;go_upto_region 5 with fail;refine ar ?_;refine v3 ?_;refine ak ?_;replace a:=a.pk [0,2,1];replace a:=a.k8 (aq.refl _ _) (Row.nil _ _ 35 2);go_wp2_with fail;go_loopw [6,23] (λev z wr=>∃(q:Nat) (L:Option bW) (M:Nat),q<=ms.length/\z=J R q/\ev=ad L q M/\ai w (λ_=>False) wr [bp L q M 35 2 (im ((ms.take q).map b')),ah y #[J R s,ad (ab ⟨Q,0,af⟩) 1 1,ad (ab ⟨S,0,af⟩) 1 1,ad af 0 0] 248,ah Q #[J R 0] 3,ah S #[J R 0] 3]) (λev z wr=>ms.length -(cx z).toNat);case atStart=>exact⟨0,_,0,cQ _,aa,aa,a⟩
 case round=>
  clear a;obtain⟨q,L,M,hq,rfl,rfl,a⟩:=hrel;by_cases hlt:q<ms.length
  .have cJ:(q:Int)<(ms.length:Int):=ae;obtain⟨m,j⟩:∃m,ms[q]?=ab m:=⟨_,cm hlt⟩;obtain⟨F,I,f,g,G,H,x⟩:=cD.ia cw.out j;have T:=hid G;have gT:=hid H;have U:=hid x;have o:=hid j;clear G H x j;have HF:=(v.out m (cM o.out)).1;have fm:=(v.out m (cM o.out)).2;go_upto_region 7 with fail;refine ar ?_;refine aJ (ay (ab ⟨F,(I+q*5),af⟩)) (cI 24 73 5 (bc 21) (bc 23) aa eB aT _ _ _ _ _ _ (by show ad A _ _=_;rw[T.out]) aa hlt aa) ?_;refine aJ (av #[J R m.k,J R m.to,J R m.fr,J R m.n,ad f m.data.length g]) (by(refine e7 73 (bc 25) aa F (I+q*5) aa ([J R m.k,J R m.to,J R m.fr,J R m.n,ad f m.data.length g]:List Value) (U.out _ a.only) fX aa aT)) ?_;refine bA a #[J _ 0,J _ 0,J _ 0,J _ 0,ad _ 0 0] (λiy cc a=>?_);refine ba a 0 (av _) (λcG a=>?_);refine ak ?_;go_upto_region 8 with fail;refine ar ?_;refine ag ?_;refine bt a 0 #[J R m.k,J R m.to,J R m.fr,J R m.n,ad f m.data.length g] ?_;refine bC ((show aD _ _ _ _ λe w'=>e=aA (av #[J _ _,J _ (cS m)])/\ao _ w' from uB _ _ m.fr _ f _ g _)) a (λc6 a=>?_);refine ga a #[J R m.to,J R (cS m)] 35 (λUC dX a=>?_);refine np (m:=1) a 2 16 (aX.cellsOf (m:=1) (a.a1 0) aa) (by intro u r;simp at r;rcases r with rfl|rfl<;>rfl) (λawh axy dH a=>?_);refine ag ?_;refine ak ?_;go_wp2_with fail;go_roundw;case rel=>exact⟨_,_,_,ae,by go_num,aa,by rw[fv,o.out,xX,gy,jx,kC,akD];exact a.pick [2,3,4,5]⟩
   case measure=>grind[cx]
  .obtain rfl:q=ms.length:=ae;rw[il]at a
   have WZ:=hid (λW h=>by have h2:=auY L M (ms.map b') W h aG (λe he=>by obtain⟨m,j,rfl⟩:=gN.1 he;have:=((v.out m j).1).b';show 0<=cS m;omega) eN.out;rw[List.length_map]at h2;exact h2);go_upto_region 10 with fail;refine ar ?_;refine ag ?_;refine bC (WZ.out _ (Row.TO (a.atR 0)).2) a (λe9 a=>?_);refine v5 ?_;refine ak ?_;go_upto_region 11 with fail;refine ar ?_;refine v2 ?_;refine ak ?_;go_upto_region 13 with fail;refine ar ?_;refine v3 ?_;refine ak ?_;replace a:=a.pk [1,2,3];replace a:=a.Az 1 1 1 1 [J _ 0] aa (cp _) bj aa;replace a:=a.Az 2 1 1 1 [J _ 0] aa (cp _) bj aa;replace a:=(a.KR.k8 (aq.refl _ _) (Row.nil _ _ 73 5)).pick (l':=[ah y _ _,bp _ 1 1 3 1 _,bp _ 1 1 3 1 _,bp _ 0 0 73 5 [],gD []]) [2,3,4,0,1];go_wp2_with fail;go_loopw [42] (λz wr=>∃(q:Nat) (E:Option bW) (D B:Nat) (c1 c2 fG:Nat) (l:List (bI×Option bW×Nat)),q<=ms.length/\z=J R q/\Hid (l.map (·.1)=ms.take q)/\ai w (λ_=>False) wr [ah y #[J R s,ad (ab ⟨D,0,af⟩) (q+1) c2,ad (ab ⟨B,0,af⟩) (q+1) fG,ad E q c1] 248,bp (ab ⟨D,0,af⟩) (q+1) c2 3 1 ((dG (q+1)).map (λi=>J R (lL s ms i:Int))),bp (ab ⟨B,0,af⟩) (q+1) fG 3 1 ((dG (q+1)).map (λi=>J R (vc ms i))),bp E q c1 73 5 (cA l),gD l]) (λz wr=>ms.length -(cx z).toNat);case atStart=>exact⟨0,af,Q,S,0,1,1,[],cQ _,aa,hid aa,by grind[lL,ey,vc,kF,cA]⟩
   case round=>
    clear a WZ;obtain⟨q,E,D,B,c1,c2,fG,l,hq,rfl,F9,a⟩:=hrel;by_cases hlt:q<ms.length
    .have cJ:(q:Int)<(ms.length:Int):=ae;obtain⟨m,j⟩:∃m,ms[q]?=ab m:=⟨_,cm hlt⟩;obtain⟨F,I,f,g,G,H,x⟩:=cD.ia cw.out j;have T:=hid G;have gT:=hid H;have U:=hid x;have o:=hid j;clear G H x j;have HF:=(v.out m (cM o.out)).1;have fm:=(v.out m (cM o.out)).2;obtain⟨Y,hcc⟩:=ex (nF m s);have x:=QB HF V.out;have abc:=HF.b';rw[hcc]at x;have Wo:=hid (λW=>QN m f g s W abc.2.1 ae V.out);rw[hcc]at Wo;have Ew:=QE (s:=s) o.out;rw[hcc]at Ew;have hall:=X9 (s:=s) (ms:=ms) (show q+1<=ms.length by omega);rw[QD]at hall;have aoh:=cr.out.1;obtain⟨O,zR⟩:=ex ((lL s ms q:Int));obtain⟨C,aaa⟩:=ex ((lL s ms (q+1):Int));have RJ:O+Y=C:=ae;have yo:0<=O/\0<=C/\C<=1048576:=ae;obtain⟨eS,hb1⟩:=ex (vc ms q);obtain⟨eZ,hb2⟩:=ex (vc ms (q+1));obtain⟨Fj,Sq⟩:=ex (cS m);have Z:=akb o.out;have hbr:=XQ (λm j=>(v.out m j).1) (q:=q);have ZY:=XQ (λm j=>(v.out m j).1) (q:=q+1);have z6:=eN.out;rw[hb1,hb2,Sq]at Z;rw[hb1]at hbr;rw[hb2]at ZY;have BH:=Z.symm;have hbl:0<=eS/\0<=eZ/\eZ<=4611686018427387903:=ae;have Dn:Hid (∀W,aD _ _ #[mz m f g] W λe w'=>e=aA (av #[J _ _,J _ Fj])/\ao W w'):=hid (λW=>by rw[<-Sq];exact uB _ _ _ _ f _ g W);have K:=hid (And.intro zR (And.intro aaa (And.intro hb1 hb2)));have zZ:q<q+1:=Nat.lt_succ_self q;clear hcc x abc Ew hall aoh zR aaa hb1 hb2 Sq Z hbr ZY z6;go_upto_region 15 with fail;refine ar ?_;refine ag ?_;refine aJ (ay (ab ⟨F,(I+q*5),af⟩)) (cI 24 73 5 (bc 40) (bc 42) aa eB aT _ _ _ _ _ _ (by show ad A _ _=_;rw[T.out]) aa hlt aa) ?_;refine aJ (av #[J R m.k,J R m.to,J R m.fr,J R m.n,ad f m.data.length g]) (by(refine e7 73 (bc 45) aa F (I+q*5) aa ([J R m.k,J R m.to,J R m.fr,J R m.n,ad f m.data.length g]:List Value) (U.out _ a.only) fX aa aT)) ?_;refine bA a #[J _ 0,J _ 0,J _ 0,J _ 0,ad _ 0 0] (λiy hT a=>?_);refine ag ?_;refine ba a 0 (av _) (λi' a=>?_);refine ak ?_;go_upto_region 16 with fail;refine bP a [6,7,8,11] (λi u=>match i with|6=>av #[J R m.k,J R m.to,J R m.fr,J R m.n,ad u.A m.data.length u.c]|7=>ad (ab ⟨u.b,0,af⟩) 1 1|8=>ad u.A (q+1) u.c|_=>aZ) (λd=>λ|6=>cf ((d 6).A) ((d 6).c) m.data|7=>ah ((d 7).b) #[J R m.k,J R m.to,J R m.fr,J R m.n,ad (d 6).A m.data.length (d 6).c] 73|8=>bp ((d 8).A) (q+1) ((d 8).c) 73 5 (cA l++([J R m.k,J R m.to,J R m.fr,J R m.n,ad (d 6).A m.data.length (d 6).c]))|11=>ah y #[J R s,ad (ab ⟨D,0,af⟩) (q+1) c2,ad (ab ⟨B,0,af⟩) (q+1) fG,ad (d 8).A (q+1) (d 8).c] 248|_=>emp) (λ|8=>[4]|11=>[1]|_=>[]) (λ|4=>[1]|5=>[0]|8=>[13]|_=>[]) (λ|6=>[6]|7=>[6,7]|8=>[6,8]|11=>[8]|_=>[]) [0,2,3,5,12,13,14,17] (λd=>?_);refine ix ?_;refine dl 0 3 ?_;refine eb 0 #[J R m.k,J R m.to,J R m.fr,J R m.n,ad f m.data.length g] ?_;refine DT (λ_ _ a=>QF _ _ _ _ f g _ _ (gT.out _ a.only).1 fm) ?_;refine lM #[J _ _,J _ _,J _ _,J _ _,ad (d 6).A _ (d 6).c] 73 ?_;refine tN (m:=1) 56 (λ_ _ a=>aX.cellsOf (m:=1) (a.a1 1) aa) (by intro u r;simp at r;rcases r with rfl|rfl|rfl|rfl|rfl<;>rfl) ?_;refine br ?_;refine fZ _ ?_;refine bS λks a=>?_;generalize (d 6).A=Us at a⊢;generalize (d 6).c=X1 at a⊢;generalize (d 7).b=UC at a⊢;generalize (d 8).A=P at a⊢;generalize (d 8).c=X at a⊢;go_upto_region 17 with fail;refine bP a [16,18,19,23] (λi u=>match i with|16=>J R Y|18=>ad (ab ⟨u.b,0,af⟩) 1 1|19=>ad u.A ((q+1)+1) u.c|_=>aZ) (λd i=>match i with|18=>ah ((d 18).b) #[J R C] 3|19=>bp ((d 19).A) ((q+1)+1) ((d 19).c) 3 1 ((dG (q+1)).map (λi=>J R (lL s ms i:Int))++([J R C]))|23=>ah y #[J R s,ad (d 19).A ((q+1)+1) (d 19).c,ad (ab ⟨B,0,af⟩) (q+1) fG,ad P (q+1) X] 248|_=>emp) (λ|19=>[1]|23=>[7]|_=>[]) (λ|5=>[7]|10=>[7]|13=>[1]|14=>[0]|19=>[26]|_=>[]) (λ|18=>[18]|19=>[19]|23=>[19]|_=>[]) [0,2,3,4,5,6,24,26,27,31] (λd=>?_);refine oI ?_;refine dl 0 1 ?_;refine ix ?_;refine dl 0 1 ?_;refine aL ?_;refine aM (ay (ab ⟨D,q,af⟩)) (λ_ _ _=>cI 82 3 1 (bc 68) (bc 69) aa ik aT _ _ _ _ _ q aa aa zZ ae) ?_;refine aM (J R O) (λ_ _ a=>nk aa aa (Row.cellAt (a.atR 0) (by rw[<-K.out.1];simp)) aT) ?_;refine eb 0 #[J R m.k,J R m.to,J R m.fr,J R m.n,ad f m.data.length g] ?_;refine aL ?_;refine dE (λ_ _ _=>Wo.out _) ?_;refine tO O Y C ?_;refine lM _ 3 ?_;refine tN (m:=1) 8 (λ_ _ a=>aX.cellsOf (m:=1) (a.a1 1) aa) (by intro u r;rw[u5.1 r];rfl) ?_;refine c7 ?_;refine fZ _ ?_;refine bS λlf a=>?_;generalize (d 18).b=awO at a⊢;generalize (d 19).A=Ut at a⊢;generalize (d 19).c=Qy at a⊢;replace a:=a.drop 6;go_upto_region 18 with fail;refine bP a [15,18,19,23] (λi u=>match i with|15=>av #[J R m.to,J R Fj]|18=>ad (ab ⟨u.b,0,af⟩) 1 1|19=>ad u.A ((q+1)+1) u.c|_=>aZ) (λd i=>match i with|18=>ah ((d 18).b) #[J R eZ] 3|19=>bp ((d 19).A) ((q+1)+1) ((d 19).c) 3 1 ((dG (q+1)).map (λi=>J R (vc ms i))++([J R eZ]))|23=>ah y #[J R s,ad Ut ((q+1)+1) Qy,ad (d 19).A ((q+1)+1) (d 19).c,ad P (q+1) X] 248|_=>emp) (λ|19=>[1]|23=>[8]|_=>[]) (λ|5=>[8]|10=>[8]|13=>[1]|14=>[0]|19=>[27]|_=>[]) (λ|18=>[18]|19=>[19]|23=>[19]|_=>[]) [0,2,3,4,5,6,7,24,27,28,32] (λd=>?_);refine oI ?_;refine dl 0 2 ?_;refine ix ?_;refine dl 0 2 ?_;refine aL ?_;refine aM (ay (ab ⟨B,q,af⟩)) (λ_ _ _=>cI 82 3 1 (bc 91) (bc 92) aa ik aT _ _ _ _ _ q aa aa zZ ae) ?_;refine aM (J R eS) (λ_ _ a=>nk aa aa (Row.cellAt (a.atR 0) (by rw[<-K.out.2.2.1];simp)) aT) ?_;refine eb 0 #[J R m.k,J R m.to,J R m.fr,J R m.n,ad f m.data.length g] ?_;refine dE (λ_ _ _=>Dn.out _) ?_;refine gC (J R Fj) ?_;refine tO eS Fj eZ ?_;refine lM _ 3 ?_;refine tN (m:=1) 8 (λ_ _ a=>aX.cellsOf (m:=1) (a.a1 1) aa) (by intro u r;rw[u5.1 r];rfl) ?_;refine c7 ?_;refine fZ _ ?_;refine bS λmm a=>?_;generalize (d 18).b=awP at a⊢;generalize (d 19).A=awb at a⊢;generalize (d 19).c=akr at a⊢;replace a:=a.drop 7;replace a:=a.pk [1,2,9,6,8,4];replace a:=a.KQ.pk [1,2,3,4,0];go_wp2_with fail;obtain⟨g2,rfl⟩:=Row.at (a.atR 1) ae;obtain⟨g3,rfl⟩:=Row.at (a.atR 2) ae;go_roundw
     case rel=>
      refine⟨q+1,P,g2,g3,X,Qy,akr,l++[(m,Us,X1)],ae,by go_num,hid (by rw[gy,F9.out,fv,o.out];rfl),?_⟩;rw[List.range_succ,gy,gy,jx,kC,jx,kC,K.out.2.1,K.out.2.2.2,Bu,DR];exact a
     case measure=>grind[cx]
    .obtain rfl:q=ms.length:=ae;have fP:=F9.out;rw[il]at fP;go_upto_region 20 with fail;refine ar ?_;refine v2 ?_;refine ak ?_;replace a:=(a.pk [3,4,1,0]).Bv;replace a:=(a.star.pk [1,0]).star;go_wp2_with fail;go_ret;refine⟨y,_,aa,a.fresh 0,λW h=>?_⟩;have hc:hE _ E c1 ms:=⟨l,fP,aa⟩;exact⟨⟨_,c2,_,fG,E,c1,⟨h.1.cell 0 aa,h.1.cell 1 aa,h.1.cell 2 aa,h.1.cell 3 aa⟩,Row.MS (N:=0) (n:=_) (c:=c2) (by rw[List.map_map];exact h.2.1.2.1),hc.s6 h.2.1.1⟩,⟨cr.out.1,ae⟩,V.out,v.out⟩

end Go.Proofs.YtcmhplknoglbkaaGreat
