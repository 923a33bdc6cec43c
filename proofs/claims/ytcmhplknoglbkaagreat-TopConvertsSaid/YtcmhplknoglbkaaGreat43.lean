/- Part 43 of the proof of TopConvertsSaid. -/
import Derived.Test.YtcmhplknoglbkaaGreat0
import Derived.Test.YtcmhplknoglbkaaGreat6
import Derived.Test.YtcmhplknoglbkaaGreat29
import Derived.Test.YtcmhplknoglbkaaGreat42
set_option linter.all false
set_option maxRecDepth 100000
set_option maxHeartbeats 4000000
open Go.Proofs.Tryz
open Array renaming size->jD
open Bool renaming false->au,true->aB
open Go.AllReadyIn renaming cons->Jg,nil->Oa
open Go renaming Calls->aD,Oper->cR,Value->aP,World->aN,execOp->bw,leaves_cons->OS,run_firstCells_some->JD,wpAnyIn->FQ,wpAnyIn_ready->OX,wpList_nil->ak,wp_region_lit->ar,yielded->cY
open Go.Ending renaming returned->aA
open Go.IntKind renaming i64->R,u64->aH
open Go.Next renaming value->c8
open Go.Oper renaming wp->hC,wpIn->afX
open Go.Operand renaming tmp->bc
open Go.Proofs.Tryz renaming func157->agb,ntmps157->ag2,prog->ax,underlying65->ahC
open Go.Region renaming ready->sj,wanted->c4
open Go.Result renaming ok->a8
open Go.RowKit renaming Hid->aE
open Go.Value renaming agg->av,bool->aj,int->J,pointer->ay,slice->ad,tuple->bh
open List renaming append_assoc->j5,drop_eq_getElem_cons->Dt,drop_of_length_le->Gq,drop_zero->PZ,getElem?_eq_getElem->cm,map_append->gy,map_cons->jx,map_nil->kC,map_toArray->ob,not_mem_nil->gb,range->dG
open Nat renaming add_mul->Bd,le_refl->cp,zero_add->kV,zero_le->cQ
open Option renaming none->af,some->ab
open Option.some renaming inj->Ke
open Sum.inr renaming inj->ajs
namespace Go.Proofs.YtcmhplknoglbkaaGreat
open Go.RowKit Go.MapKept
structure vQ where
 bd:Nat
 o:Nat
 n:Nat
 g1:dY
 g2:dY
 ms:List bI
structure se (C:vQ) (d:dM):Prop where
 ok:dS d
 bd:1<=C.bd/\C.bd<=65536
 sz:C.o<=1048576/\C.n<=1048576
 p8:nC C.o C.n C.ms
 lay:k6 d.size C.bd (max C.o C.n)<=d.cnt
 en:(ey C.bd C.ms).length<=1048576
 ch:∀bF∈ey C.bd C.ms,∃t:Nat,bF.to=(t:Int)/\0<=cS bF/\cS bF<=(C.bd:Int)/\(t:Int)+cS bF<=(C.n:Int)/\(bF.k=1->0<=bF.fr/\bF.fr+bF.n<=(C.o:Int))
def vQ.E(C:vQ)(d:dM):pd:=⟨0,0,0,C.bd,C.o,C.n,0,0,(fh d.size 0 (max C.o C.n)).2,(mJ (jI C.o C.n C.g1 C.g2 C.ms)).toNat,C.g1,C.g2,af,C.ms⟩
structure q3 where
 st:Int
 nx:Int
 wr:Int
 bq:Int
 pos:Int
def x1(x:q3):List Value:=[J R x.st,J R x.nx,J R x.wr,J R x.bq,J R x.pos]
def ER(C:vQ)(d:dM):(Int×Int)⊕pe:=Gy d C.bd C.o C.n C.g1 C.g2 C.ms
def oh(C:vQ)(d:dM):q3×dM:=match ER C d with
 |.inl f=>(⟨0,0,R.wrap (d.et -d.et),f.1,f.2⟩,uz d)
 |.inr s=>(⟨s.st,s.nx,R.wrap ((qT (C.E d) s).2.d.et -d.et),(qT (C.E d) s).1,0⟩,uz (qT (C.E d) s).2.d)
theorem aeE{E E'}(h:E'.bd=E.bd/\E'.o=E.o/\E'.n=E.n/\E'.first=E.first/\E'.id=E.id/\E'.g1=E.g1/\E'.g2=E.g2/\E'.ms=E.ms)s:iZ E' s=iZ E s/\AA E' s=AA E s:=by obtain⟨h1,a,b,c,d,e,f,g⟩:=h;unfold iZ AA zH ov;rw[h1,a,b,c,d,e,f,g];exact⟨aa,aa⟩
def aty{E E'}(h:E'.bd=E.bd/\E'.o=E.o/\E'.n=E.n/\E'.first=E.first/\E'.id=E.id/\E'.g1=E.g1/\E'.g2=E.g2/\E'.ms=E.ms)s:qT E' s=qT E s:=by
 have key:∀(k) s,vL E' k s=vL E k s:=by
  intro k;induction k with
  |zero=>intro s;rfl
  |succ k a=>grind[vL,aeE]
 unfold qT;rw[(aeE h s).2,key,h.1,h.2.2.2.2.2.2.2]
def acp{C d E s}(h:se C d)(u:d.down=au)(r:d.cache.length<=1000000000)(a:ER C d=.inr s)(D:E.bd=C.bd/\E.o=C.o/\E.n=C.n/\E.first=(fh d.size 0 (max C.o C.n)).2/\E.id=(mJ (jI C.o C.n C.g1 C.g2 C.ms)).toNat/\E.ms=C.ms):rz E s/\s.d=d:=by
 obtain⟨bD,b9,A,J,B,j⟩:=D;have O:kk d _ _:=⟨h.ok,h.bd.1,h.bd.2,by have:=h.lay;unfold k6 at this;exact this⟩
 have M:max C.o C.n<=d.bytes.length:=by have h1:=abU (s:=_) (N:=max C.o C.n) (e:=0) (x:=2*jZ d.size C.bd) h.ok.mj;rw[h.ok.len,Nat.mul_comm _];refine Nat.le_trans h1 (Nat.mul_le_mul_left _ ?_);have:=h.lay;unfold k6 at this;omega
 have H:∀bF∈ey _ _,((kG d bF).length:Int)=cS bF:=λbF f=>by
  obtain⟨t,_,y,_,z,i⟩:=h.ch bF f;unfold kG cS at*;by_cases hk:bF.k=1;·rw[if_pos hk]at*;obtain⟨eS,eZ⟩:=i hk;rw[An h.ok ae];omega
  .grind
 have m:CT E d:=by
  refine⟨by rw[bD];exact h.bd.1,by rw[bD];exact h.bd.2,by rw[b9,A,j];exact h.p8,ae,ae,by rw[bD,j];exact h.en,?_,?_⟩;·rw[B];have h1:=TW ⟨ic (jI C.o C.n C.g1 C.g2 C.ms),0,0,0⟩ 8;grind[mJ,k',S7]
  .rw[bD,j];intro bF f;obtain⟨t,w,y,I,z,i⟩:=h.ch bF f;have K:=H bF f;refine⟨t,⟨w,λhk=>?_,ae,ae⟩,λhk=>by grind[cS]⟩;obtain⟨eS,eZ⟩:=i hk;have sA:0<=bF.n:=by grind[cS]
   exact⟨bF.fr.toNat,bF.n.toNat,ae,ae,ae⟩
 obtain⟨b,c⟩:=ex (rZ d C.bd C.o C.n C.g1 C.g2 C.ms)
 have p:0<=b.next/\b.next<18446744073709551616:=by rw[<-c,rZ,acN];exact aq5 _
 have F:b.has=aB->0<=b.last.cur/\0<=b.last.off:=λhh=>by rw[<-c]at hh⊢;obtain⟨bs,G⟩:=adz (Td (d:=d) (first:=(fh d.size 0 (max C.o C.n)).2) (bound:=C.bd) (id:=mJ (jI C.o C.n C.g1 C.g2 C.ms)) hh);have hr:=Yu G;exact⟨hr.1,hr.2.2⟩
 unfold ER Gy at a;rw[c]at a;obtain⟨L,q⟩:=ex (ey C.bd C.ms);have hch:=h.ch;rw[q]at a hch;clear c;split at a;·grind
 .split at a;·have l:=ajs a;subst l;exact⟨⟨m,aG,u,r,p,cQ _,λh=>aG⟩,aa⟩
  .split at a
   .rename_i v g;have v:b.has=true:=aG;have hr:=F v;have l:=ajs a;unfold EN at g;rw[q]at g;simp at g;obtain⟨P,Q,R⟩:=g;subst l;refine⟨⟨m,aG,u,r,p,?_,λ_ hst=>?_⟩,aa⟩;·grind
    .grind[stepT,b']
   .grind
def adV{E s}(h:rz E s):kg s.d (qT E s).2.d:=by
 unfold qT;split;·exact kg.refl h.j.dev
 .grind[adW]
def adH{d}(a:dS d):kg d (uz d)/\(uz d).down=au/\(uz d).cache=[]:=by have h:=Tq a (λ_=>au);exact⟨⟨⟨h.mj,h.ve,h.len,h.small,h.cache,h.en,show db (-1) by(unfold db;omega)⟩,aa,aa⟩,aa,aa⟩
def se.yd{C d cE}(h:se C d)(e:kg d cE):se C cE:=⟨e.ok,h.bd,h.sz,h.p8,by rw[e.size,e.cnt];exact h.lay,h.en,h.ch⟩
def aj2{C d}(h:se C d)(g:d.down=au)(e:d.cache.length<=1000000000):kg d (oh C d).2/\(oh C d).2.down=au/\(oh C d).2.cache=[]:=by
 unfold oh;cases hn:ER C d with
 |inl f=>exact adH h.ok
 |inr s=>
  obtain⟨h1,c⟩:=acp (E:=C.E d) h g e hn ⟨aa,aa,aa,aa,aa,aa⟩;have a:=adV h1;rw[c]at a;have b:=adH a.ok;exact⟨a.trans b.1,b.2⟩
def ajo(P:aP)(t:bu)(pk:Int):Prop:=∀W,t.p W->aD ax 158 #[P] W λe w'=>e=aA (J R pk)/\ao W w'
def XK(B c b dg)m d(st nx wr bq pos et)u(an w)FX F(g:dS d)(a:ai an FX w [ah dg #[J R st,J R nx,J R wr,J R bq,J R pos] 158,ah b #[J R et] 3,ah c #[(di B)] 32,aO B m d,F]):
 CallsD ax 233 #[ay (ab ⟨c,0,af⟩),ay (ab ⟨b,0,af⟩),ay (ab ⟨dg,0,af⟩)] u w λe k w'=>k=u/\e=aA (bh #[])/\∃f,ai an FX w' [ah dg #[J R st,J R nx,J R (R.wrap (d.et -et)),J R bq,J R pos] 158,ah b #[J R et] 3,ah c #[(di B)] 32,aO B f (uz d),F]:=by
 have h:=hid g;clear g;go_enter_d func233,ntmps233;go_upto_region 0 with fail;refine bP a [1,6] (λi _=>match i with|1=>av #[J R d.et,J R d.e0,J R d.ir,J R d.hi,J R d.cW]|_=>undef) (λ_=>λ|6=>ah dg #[J R st,J R nx,J R (R.wrap (d.et -et)),J R bq,J R pos] 158|_=>emp) (λ|6=>[0]|_=>[]) (λ|0=>[2]|1=>[3]|3=>[1]|_=>[]) (λ_=>[]) [1,2,3,4,6,11] (λn=>?_);refine dl 0 0 ?_;refine dE (λl _ a=>Q0 B m d l (a.has 0)) ?_;refine gC (J R d.et) ?_;refine dl 0 0 ?_;refine aM (J R (R.wrap (d.et -et))) (λ_ _ _=>by(go_simp;try rfl)) ?_;refine aL ?_;refine fZ (J R (R.wrap (d.et -et))) ?_;refine bS λw1 a=>?_;replace a:=a.drop 4;refine aF ?_;refine pl a 1 0 ?_;refine a7 (al4 B m d _ (a.has 2) h) ?_;rintro e o ⟨rfl,f,j⟩;replace a:=a.eG 2 j;refine AE ?_;go_wp2_with fail;first|go_end0|refine bodyPost_ret (results_none rfl _ _ _) rfl ?_
 exact⟨aa,f,a.pick [4,0,1,2,3]⟩
def aj3 C(B c)A m d(an w)FX F(h:se C d)(N:d.down=au)(gK:d.cache.length<=1000000000)(hl:∀W,aq FX an W->cD W A C.ms)(a:ai an FX w [aO B m d,F]):
 aD ax 157 #[di B,J R (C.bd:Int),dD (C.o:Int) (C.n:Int) C.g1 C.g2 (ad A C.ms.length c)] w λe w'=>∃pk,pk<=(C.bd:Int)/\∃P,e=aA (bh #[av (x1 (oh C d).1).toArray,P])/\∃t,ajo P t pk/\∃aV,ai an FX w' [t,aO B aV (oh C d).2,F]:=by
 have fN:=hid h.ok;have L:=hid (λW F G=>ajH B m d C.bd C.o C.n c C.g1 C.g2 A C.ms an W FX F h.ok N h.bd h.sz h.p8 h.lay h.en hl G);cases hn:Gy d C.bd C.o C.n C.g1 C.g2 C.ms with
 |inl f=>
  have hat:oh C d=(⟨0,0,R.wrap (d.et -d.et),f.1,f.2⟩,uz d):=by unfold oh ER;rw[hn]
  rw[hat];obtain⟨I,K⟩:=f;simp only[x1];clear hat;have M:aE (∀W F,ai an FX W [aO B m d,F]->aD ax 12 #[di B,J R (C.bd:Int),dD (C.o:Int) (C.n:Int) C.g1 C.g2 (ad A C.ms.length c)] W λe w'=>e=aA (bh #[ay af,av #[J R I,J R K]])/\ai an FX w' [aO B m d,F]):=hid (λW F G=>by have q:=L W F G;rw[hn]at q;exact q);clear hn L h N gK hl;go_enter_defers agb,ag2;go_upto_region 0 with fail;refine ar ?_;refine bO a (ay (ab ⟨B,0,af⟩)) (λu w1 a=>?_);refine bO a (av (a6 (C.o:Int) (C.n:Int) C.g1 C.g2 (ad A C.ms.length c))) (λD aS a=>?_);refine bA a #[J R 0,J R 0,J R 0,J R 0,J R 0] (λv bN a=>?_);refine dR ?_;refine pl a 2 0 ?_;refine bC (Q0 B m d _ (a.has 3)) a (λcc a=>?_);refine pk (J R d.et) ?_;refine bA a #[J R 0] (λx cG a=>?_);refine ba a 0 (J R d.et) (λc6 a=>?_);refine b6 ?_;refine Tj {target:=.fn (.func 233) #[ay (ab ⟨u,0,af⟩),ay (ab ⟨x,0,af⟩),ay (ab ⟨v,0,af⟩)],args:=#[]} aw ?_;refine aF ?_;refine pl a 3 0 ?_;refine ag ?_;refine bt a 2 (a6 (C.o:Int) (C.n:Int) C.g1 C.g2 (ad A C.ms.length c)) ?_ (hv:=(ef _)) (hk:=by show 0+_<=jD _;rw[kV];exact cp _) (hz:=(by rw[cN];rfl));have r:=(a.pk [4,0,1,2,3,5]).t1;refine a7 (M _ _ r) ?_;rintro e dX ⟨rfl,a⟩;clear r;replace a:=a.dc;refine bb ?_;refine v5 ?_;refine ba a 2 (av #[J R I,J R K]) (λdH a=>?_);refine b6 ?_;refine aJ (aj au) (by(go_simp;try rfl)) ?_;refine aF ?_;refine bt a 2 #[J R 0,J R 0,J R 0,J R I,J R K] ?_;refine ag ?_;refine ba a 2 (av #[J R 0,J R 0,J R 0,J R I,J R K]) (λe9 a=>?_);refine bR ?_;go_wp2_with fail;have r:=(a.pk [2,1,4,0,3,5]).t4;refine OS (f:=233) (args:=#[ay (ab ⟨u,0,af⟩),ay (ab ⟨x,0,af⟩),ay (ab ⟨v,0,af⟩)]) aU (by simp[go_sem]) ?_;refine(XK B u x v m d 0 0 0 I K d.et _ an _ FX _ fN r).mono ?_;clear r a;rintro e yW aS ⟨rfl,rfl,S,a⟩;replace a:=a.oH;have ah2:=(a.pick (l':=[aO B S (uz d),F]) [3,5]).new emp ⟨aq.refl _ _,trivial,λ_ h=>h.elim⟩;exact⟨_,mP aa aa aa (a.a1 0) aw aw,0,Int.natCast_nonneg _,ay af,by first|rfl|trivial,emp,λW _=>ajN W,S,ah2⟩
 |inr s=>
  have Ri:∀B dg dx p g b,qT (⟨B,dg,dx,C.bd,C.o,C.n,p,g,(fh d.size 0 (max C.o C.n)).2,(mJ (jI C.o C.n C.g1 C.g2 C.ms)).toNat,C.g1,C.g2,b,C.ms⟩:pd) s=qT (C.E d) s:=λB dg dx p g b=>aty (E:=C.E d) (E':=⟨B,dg,dx,C.bd,C.o,C.n,p,g,(fh d.size 0 (max C.o C.n)).2,(mJ (jI C.o C.n C.g1 C.g2 C.ms)).toNat,C.g1,C.g2,b,C.ms⟩) ⟨aa,aa,aa,aa,aa,aa,aa,aa⟩ s;have O:∀B dg dx p g b,rz (⟨B,dg,dx,C.bd,C.o,C.n,p,g,(fh d.size 0 (max C.o C.n)).2,(mJ (jI C.o C.n C.g1 C.g2 C.ms)).toNat,C.g1,C.g2,b,C.ms⟩:pd) s/\s.d=d:=λB dg dx p g b=>acp h N gK hn ⟨aa,aa,aa,aa,aa,aa⟩;obtain⟨rc,H,Q⟩:∃rc H,qT (C.E d) s=(rc,H):=⟨_,_,aa⟩;have jl:=adV (O 0 0 0 0 0 af).1;rw[Ri,Q]at jl;have hat:oh C d=(⟨s.st,s.nx,R.wrap (H.d.et -d.et),rc,0⟩,uz H.d):=by unfold oh ER;rw[hn];simp only;rw[Q]
  rw[hat];simp only[x1];have uh:=(O 0 0 0 0 0 af).2;obtain⟨st,nx,bE,j,i⟩:=s;simp only at uh⊢;obtain rfl:i=d:=uh;have rj:=hid jl.ok;have M:aE (∀W F,ai an FX W [aO B m i,F]->aD ax 12 #[di B,J R (C.bd:Int),dD (C.o:Int) (C.n:Int) C.g1 C.g2 (ad A C.ms.length c)] W λe w'=>∃ dg dx p g c2 l k b aK,ss l p C.bd C.ms/\hE k b g C.ms/\e=aA (bh #[ay (ab ⟨dg,0,af⟩),av #[J R 0,J R 0]])/\ai an FX w' [fy ⟨B,dg,dx,C.bd,C.o,C.n,p,g,(fh i.size 0 (max C.o C.n)).2,(mJ (jI C.o C.n C.g1 C.g2 C.ms)).toNat,C.g1,C.g2,b,C.ms⟩ l k 0 ⟨st,nx,bE,j,i⟩ aK c2 m,F]):=hid (λW F G=>by have q:=L W F G;rw[hn]at q;exact q);have WT:aE (∀dg dx p g b l k pk aK c2 m W F,ss l p C.bd C.ms->hE k b g C.ms->ai an FX W [fy ⟨B,dg,dx,C.bd,C.o,C.n,p,g,(fh i.size 0 (max C.o C.n)).2,(mJ (jI C.o C.n C.g1 C.g2 C.ms)).toNat,C.g1,C.g2,b,C.ms⟩ l k pk ⟨st,nx,bE,j,i⟩ aK c2 m,F]->aD ax 13 #[ay (ab ⟨dg,0,af⟩)] W λe w'=>e=aA (av #[J R rc,J R 0])/\∃b4,gF ⟨B,dg,dx,C.bd,C.o,C.n,p,g,(fh i.size 0 (max C.o C.n)).2,(mJ (jI C.o C.n C.g1 C.g2 C.ms)).toNat,C.g1,C.g2,b,C.ms⟩ l k pk H b4/\ai an FX w' [b4,F]):=hid (λdg dx p g b l k pk aK c2 m W F Y X G=>by have q:=ajY _ l k pk _ aK c2 m an W FX F Y X (O B dg dx p g b).1 G;rw[Ri,Q]at q;exact q);obtain⟨y,pR⟩:=ex ((fh i.size 0 (max C.o C.n)).2);obtain⟨z,Eg⟩:=ex ((mJ (jI C.o C.n C.g1 C.g2 C.ms)).toNat);rw[pR,Eg]at M WT;clear hat jl O Ri hn L h N gK hl Q pR Eg;go_enter_defers agb,ag2;go_upto_region 0 with fail;refine ar ?_;refine bO a (ay (ab ⟨B,0,af⟩)) (λu hT a=>?_);refine bO a (av (a6 (C.o:Int) (C.n:Int) C.g1 C.g2 (ad A C.ms.length c))) (λD i' a=>?_);refine bA a #[J R 0,J R 0,J R 0,J R 0,J R 0] (λv ks a=>?_);refine dR ?_;refine pl a 2 0 ?_;refine bC (Q0 B m i _ (a.has 3)) a (λlf a=>?_);refine pk (J R i.et) ?_;refine bA a #[J R 0] (λx mm a=>?_);refine ba a 0 (J R i.et) (λnU a=>?_);refine b6 ?_;refine Tj {target:=.fn (.func 233) #[ay (ab ⟨u,0,af⟩),ay (ab ⟨x,0,af⟩),ay (ab ⟨v,0,af⟩)],args:=#[]} aw ?_;refine aF ?_;refine pl a 3 0 ?_;refine ag ?_;refine bt a 2 (a6 (C.o:Int) (C.n:Int) C.g1 C.g2 (ad A C.ms.length c)) ?_ (hv:=(ef _)) (hk:=by show 0+_<=jD _;rw[kV];exact cp _) (hz:=(by rw[cN];rfl));have r:=(a.pk [4,0,1,2,3,5]).t1;refine a7 (M _ _ r) ?_;rintro e pa ⟨dg,dx,p,g,c2,l,k,b,aK,Y,X,rfl,a⟩;clear r;replace a:=a.dc;refine bb ?_;refine v5 ?_;refine ba a 2 (av #[J R 0,J R 0]) (λta a=>?_);refine b6 ?_;refine aJ (aj aB) (by(go_simp;try rfl)) ?_;refine ak ?_;replace a:ai _ _ _ [ct ⟨B,dg,dx,C.bd,C.o,C.n,p,g,y,z,C.g1,C.g2,b,C.ms⟩ 0 st (nx:Int) bE,cV ⟨B,dg,dx,C.bd,C.o,C.n,p,g,y,z,C.g1,C.g2,b,C.ms⟩ j aK c2,aO B m i,l,k,ah x #[J R i.et] 3,ah v #[J R 0,J R 0,J R 0,J R 0,J R 0] 158,ah D (a6 (C.o:Int) (C.n:Int) C.g1 C.g2 (ad A C.ms.length c)) 26,ah u #[ay (ab ⟨B,0,af⟩)] 32,F]:=ai.kq (a.pick (l':=[fy ⟨B,dg,dx,C.bd,C.o,C.n,p,g,y,z,C.g1,C.g2,b,C.ms⟩ l k 0 ⟨st,nx,bE,j,i⟩ aK c2 m,ah x #[J R i.et] 3,ah v #[J R 0,J R 0,J R 0,J R 0,J R 0] 158,ah D (a6 (C.o:Int) (C.n:Int) C.g1 C.g2 (ad A C.ms.length c)) 26,ah u #[ay (ab ⟨B,0,af⟩)] 32,F]) [0,1,2,3,4,5]);refine b6 ?_;refine bC (ajZ dg (di B) (ad b C.ms.length g) (ay (ab ⟨p,0,af⟩)) (ay (ab ⟨dx,0,af⟩)) (C.bd:Int) 0 (C.o:Int) (C.n:Int) st (nx:Int) C.g1 C.g2 bE _ (a.a1 0)) a (λtb a=>?_);refine ag ?_;refine bC (ajI dg (di B) (ad b C.ms.length g) (ay (ab ⟨p,0,af⟩)) (ay (ab ⟨dx,0,af⟩)) (C.bd:Int) 0 (C.o:Int) (C.n:Int) st (nx:Int) C.g1 C.g2 bE _ (a.a1 0)) a (λxo a=>?_);refine ag ?_;refine ba a 6 (J R st) (λAB a=>?_);refine ag ?_;refine ba a 6 (J R (nx:Int)) (λCI a=>?_);refine ak ?_;replace a:ai _ _ _ [fy ⟨B,dg,dx,C.bd,C.o,C.n,p,g,y,z,C.g1,C.g2,b,C.ms⟩ l k 0 ⟨st,nx,bE,j,i⟩ aK c2 m,ah x #[J R i.et] 3,ah v #[J R st,J R (nx:Int),J R 0,J R 0,J R 0] 158,ah D (a6 (C.o:Int) (C.n:Int) C.g1 C.g2 (ad A C.ms.length c)) 26,ah u #[ay (ab ⟨B,0,af⟩)] 32,F]:=(a.pick (l':=[ct ⟨B,dg,dx,C.bd,C.o,C.n,p,g,y,z,C.g1,C.g2,b,C.ms⟩ 0 st (nx:Int) bE,cV ⟨B,dg,dx,C.bd,C.o,C.n,p,g,y,z,C.g1,C.g2,b,C.ms⟩ j aK c2,aO B m i,l,k,ah x #[J R i.et] 3,ah v #[J R st,J R (nx:Int),J R 0,J R 0,J R 0] 158,ah D (a6 (C.o:Int) (C.n:Int) C.g1 C.g2 (ad A C.ms.length c)) 26,ah u #[ay (ab ⟨B,0,af⟩)] 32,F]) [0,1,2,3,4,5,6,7,8,9]).fC 5;refine aF ?_;refine ag ?_;have r:=(a.pk [0,1,2,3,4,5]).t1;refine a7 (WT dg dx p g b l k 0 aK c2 m _ _ Y X r) ?_;rintro e CJ ⟨rfl,t9,hq,a⟩;clear r;replace a:=a.dc;refine bb ?_;refine ag ?_;refine ba a 2 (av #[J R rc,J R 0]) (λFm a=>?_);refine ak ?_;obtain⟨pk,lF,oj,m9,hle,rfl⟩:=hq;obtain⟨V,T,U,abG,Z⟩:=H;simp only at rj⊢;replace a:ai _ _ _ [ct ⟨B,dg,dx,C.bd,C.o,C.n,p,g,y,z,C.g1,C.g2,b,C.ms⟩ pk V (T:Int) U,cV ⟨B,dg,dx,C.bd,C.o,C.n,p,g,y,z,C.g1,C.g2,b,C.ms⟩ abG lF oj,aO B m9 Z,l,k,ah x #[J R i.et] 3,ah v #[J R st,J R (nx:Int),J R 0,J R rc,J R 0] 158,ah D (a6 (C.o:Int) (C.n:Int) C.g1 C.g2 (ad A C.ms.length c)) 26,ah u #[ay (ab ⟨B,0,af⟩)] 32,F]:=ai.kq (a.pick (l':=[fy ⟨B,dg,dx,C.bd,C.o,C.n,p,g,y,z,C.g1,C.g2,b,C.ms⟩ l k pk ⟨V,T,U,abG,Z⟩ lF oj m9,ah x #[J R i.et] 3,ah v #[J R st,J R (nx:Int),J R 0,J R rc,J R 0] 158,ah D (a6 (C.o:Int) (C.n:Int) C.g1 C.g2 (ad A C.ms.length c)) 26,ah u #[ay (ab ⟨B,0,af⟩)] 32,F]) [0,1,2,3,4,5]);refine aF ?_;refine bt a 6 #[J R st,J R (nx:Int),J R 0,J R rc,J R 0] ?_;refine ag ?_;refine ba a 6 (av #[J R st,J R (nx:Int),J R 0,J R rc,J R 0]) (λIP a=>?_);refine bR ?_;go_wp2_with fail;have r:=(a.pk [6,5,8,2,0,1,3,4,7,9]).t4;refine OS (f:=233) (args:=#[ay (ab ⟨u,0,af⟩),ay (ab ⟨x,0,af⟩),ay (ab ⟨v,0,af⟩)]) aU (by simp[go_sem]) ?_;refine(XK B u x v m9 Z st (nx:Int) 0 rc 0 i.et _ an _ FX _ rj r).mono ?_;clear r a;rintro e yW aS ⟨rfl,rfl,S,a⟩;replace a:=a.oH;exact⟨_,mP aa aa aa (a.a1 0) aw aw,pk,Int.le_trans hle (by show max 0 (C.bd:Int)<=_;omega),ay (ab ⟨dg,0,af⟩),by first|rfl|trivial,ct ⟨B,dg,dx,C.bd,C.o,C.n,p,g,y,z,C.g1,C.g2,b,C.ms⟩ pk V (T:Int) U,λW hp=>ajO dg (di B) (ad b C.ms.length g) (ay (ab ⟨p,0,af⟩)) (ay (ab ⟨dx,0,af⟩)) (C.bd:Int) pk (C.o:Int) (C.n:Int) V (T:Int) C.g1 C.g2 U W hp,S,a.pick [4,3,9]⟩
section
section
variable {P:Program} {ops:Array cR} {Q:Exit->Act->aN->Prop} {md:Region.Mode} {n:Nat} {r:Option Nat}
def XB {i f d:Nat} {b:Array Bool} {a e:Act} {w:aN} {oi:cR} (v:aP) (h:FQ (Fr af) n P md ops Q f (b.setIfInBounds i aB) e w) (k:ops[i]?=ab oi:=by rfl) (l:∀w,(bw a.eval oi).run P w=a8 (c8 v) w:=by(intro w;go_simp;try with_reducible rfl)) (j:oi.dst=ab d:=by rfl) (g:a.put (ab d) v=e:=by((try simp only[Act.put,List.setIfInBounds_toArray,List.set_cons_zero,List.set_cons_succ]);rfl))
 (hs:Region.noSelect ops=true:=by kernel_rfl) (hf:Region.free md ops b i=true:=by kernel_rfl) (hr:(sj md ops b).contains i=true:=by kernel_rfl) (hw:c4 oi (cY ops a.tmps)=true:=by kernel_rfl) (hab:∀w,oi.about P w a.eval=none:=by(intro _;rfl)) (D8:∀c a w,Q (.panic c) (a.put oi.dst v) w->Q (.panic c) a w:=by(intro _ _ _ h;exact h)):FQ (Fr af) n P md ops Q (f+1) b a w:=by
 rw[<-j]at g;subst g;exact wpAnyIn_take aa k hs hf hr D8 ⟨Or.inl ⟨hw,l⟩,hab⟩ h
def ajK {i j x s t:Nat} {m:Array Bool} {a g:Act} {w:aN} {oi b:cR} {v u:aP} (c:aN->Prop) (p:c w)
 (h1:∀w,c w->(bw a.eval oi).run P w=a8 (c8 v) w/\(bw (a.put b.dst u).eval oi).run P w=a8 (c8 v) w)
 (l:∀w,c w->∃f args,(bw a.eval b).run P w=a8 (.enter f args) w/\(bw (a.put oi.dst v).eval b).run P w=a8 (.enter f args) w/\aD P f args w λe w'=>e=aA u/\c w')
 (h:∀w,c w->FQ (Fr r) n P md ops Q x ((m.setIfInBounds i aB).setIfInBounds j aB) g w)
 (hr:sj md ops m=[i,j]:=by kernel_rfl) (hr1:sj md ops (m.setIfInBounds i aB)=[j]:=by kernel_rfl) (hr2:sj md ops (m.setIfInBounds j aB)=[i]:=by kernel_rfl)
 (Lt:ops[i]?=ab oi:=by rfl) (B4:ops[j]?=ab b:=by rfl) (rN:oi.dst=ab s:=by rfl) (jV:b.dst=ab t:=by rfl) (ha:(a.put (ab s) v).put (ab t) u=g:=by((try simp only[Act.put,List.setIfInBounds_toArray,List.set_cons_zero,List.set_cons_succ]);rfl)) (ud:s3 oi=true:=by kernel_rfl) (pX:s3 b=true:=by kernel_rfl) (hne:i≠j:=by decide) (hd:∀d,oi.dst=ab d->b.dst≠ab d:=by(intro d h;injection h with h;subst h;decide))
 (w1:c4 oi (cY ops a.tmps)=true:=by kernel_rfl) (aS:c4 b (cY ops a.tmps)=true:=by kernel_rfl) (bN:c4 oi (cY ops (a.put b.dst u).tmps)=true:=by kernel_rfl) (cc:c4 b (cY ops (a.put oi.dst v).tmps)=true:=by kernel_rfl):
 FQ (Fr r) n P md ops Q (x+2) m a w:=by
 rw[<-rN,<-jV]at ha;subst ha
 have rd:∀(a) w K,(bw _ oi).run P w=a8 (c8 v) w->K (a.put oi.dst v) w->afX (Fr r) n P oi a w K Q:=λa w K k hk=>by refine Ms (K0:=λ_ _=>False) (next0:=λg w'=>g=a.put oi.dst v/\w'=w) (λg w' ⟨h1,l⟩=>aG) ud ?_;unfold hC;rw[k];exact⟨aa,aa⟩
 have q:∀(a) w K,(∃f args,(bw a.eval b).run P w=a8 (.enter f args) w/\aD P f args w λe w'=>e=aA u/\c w')->(∀w',c w'->K (a.put b.dst u) w')->afX (Fr r) n P b a w K Q:=λa w K ⟨f,_,k,hc⟩ hk=>by refine Ms (K0:=λ_ _=>False) (next0:=λg w'=>g=a.put b.dst u/\c w') (λg w' ⟨h1,l⟩=>aG) pX ?_;unfold hC;rw[k];exact hc.mono λe w' ⟨h1,l⟩=>by grind
 refine OX hr aU (Jg Lt (λK o=>?_) (Jg B4 (λK o=>?_) Oa));·rw[if_pos w1];refine rd _ _ _ (h1 w p).1 (o _ _ (OX hr1 aU (Jg B4 (λz y=>?_) Oa)));rw[if_pos cc];obtain⟨f,args,_,k,hc⟩:=l w p;exact q _ _ _ ⟨f,_,k,hc⟩ (λw' hw'=>y _ _ (h w' hw'))
 .rw[if_pos aS];obtain⟨f,args,k,_,hc⟩:=l w p;refine q _ _ _ ⟨f,_,k,hc⟩ (λw' hw'=>o _ _ (OX hr2 aU (Jg Lt (λz y=>?_) Oa)));grind[Array.setIfInBounds_comm,Act.put_comm]
def Ce(n k:Nat):Array Bool:=((dG n).map (λj=>decide (j<k))).toArray
def aqK{n k}:(Ce n k).setIfInBounds k aB=Ce n (k+1):=by unfold Ce;apply Array.ext aU;grind
def XC(g:(dG ops.size).all (λk=>sj md ops (Ce ops.size k)==[k])=aB\/True):∀(m k) a w l,k+m=ops.size->ops.toList.drop k=l->(∀q,k<=q->q<ops.size->sj md ops (Ce ops.size q)=[q])->sj md ops (Ce ops.size ops.size)=[]->wpListIn (Fr r) n P ops Q l a w->FQ (Fr r) n P md ops Q m (Ce ops.size k) a w
 |0,k,a,w,l,hk,b,c,hz,h=>by obtain rfl:k=ops.size:=ae;rw[Gq aU]at b;subst b;exact⟨hz,h⟩
 |m+1,k,a,w,l,hk,b,c,hz,h=>by
  have hlt:k<ops.toList.length:=aG;rw[Dt hlt]at b;subst b;have f:ops[k]?=ab ops.toList[k]:=aU;refine OX (c k (cp _) ae) aU (Jg f (λK e=>?_) Oa);unfold wpListIn at h;have key:=λa w h=>e _ _ (by rw[aqK];exact XC g m (k+1) a w _ ae aa (λq h1 d=>c q ae d) hz h);split at h;·grind[Oper.wpIn_mono]
  .grind
end
section
variable {P:Program} {ops:Array cR} {rest:List cR} {Q:Exit->Act->aN->Prop} {o:cR} {a:Act} {w an:aN} {FX:Nat->Prop} {l:List bu}
def atB w (N sz) (t ty e) i z (g:P.underlying t=ab (.slice e)) (hi:P.info? e=ab i) (hz:i.zero=ab z) (hsize:i.size=sz) (hzs:z.cells.size=sz) (hsz:0<sz)
 A n xs (hx:Cells w sz A n xs) aK (m c2) news (hr:Cells w sz aK m news) (h1:∀u∈news,u.oneCell'=aB) (hm:0<m)
 (h63:n+m<=maxLen) (hbytes:(n+m)*i.bytes<=140737488355328) (fl:N<=w.heap.size):
 ∃B c w',(Builtin.append_ #[t,t] ty #[ad A n n,ad aK m c2]).run P w=a8 (ad (ab ⟨B,0,af⟩) (n+m) c) w'/\Row N w' (ab ⟨B,0,af⟩) (n+m) c e sz (xs++news)/\ao w w'/\w.heap.size<=B:=by
 have hlx:=hx.1;have f:=hr.1;obtain⟨a,rfl,hnews⟩:=hr.2 hm;have l:Src P i.size t _ m _ w:=Src.ofSlice w g a m c2 _ (by rw[hr.1,hsize]) hnews h1
 have hold:(Builtin.firstCells i.size n (ad A n n)).run P w.drew=a8 xs.toArray w.drew:=by
  rw[hsize];rcases Nat.eq_zero_or_pos n with b|b
  .subst b;obtain rfl:=List.eq_nil_of_length_eq_zero (by rw[hlx,Nat.zero_mul]);cases A with
   |none=>exact run_firstCells_none w.drew sz 0 0 0
   |some a=>exact JD w.drew sz 0 a 0 0 [] aU (λj u o=>by simp at o)
  .obtain⟨a,rfl,hc⟩:=hx.2 b;exact JD _ sz n a n n xs hlx hc
 have hrun:=run_append_grow_src (P:=P) w t t ty e i z g hi hz A n n xs hold _ m _ l ae (by unfold maxLen at h63;omega) (growslice_fits ae hbytes);have d:=grownCap_ge w (n+m) n e;have k:=grownCap_le_maxLen w _ n e h63;have hlen:(xs++news).length=(n+m)*sz:=by rw[List.length_append,hlx,f,Bd]
 refine⟨_,_,_,hrun,⟨hlen,.inr ⟨_,_,_,aa,fl,heap_alloc_new _ _,d,k,?_,?_⟩⟩,ao.trans (aq.drew _) (aq.alloc _ _),cp _⟩;·have h:=Nat.mul_le_mul_right sz d;simp only[Array.size_append,List.size_toArray,Builtin.zeroCells,hlx,f];simp[hzs];rw[Bd]at h;rw[Nat.sub_mul,Bd];omega
 .simp only[Array.toList_append,j5];rw[<-j5,<-hlen];exact List.take_left
def ar3 {s x:Operand} {t e sz n m c2:Nat} {A aK:Option Addr} {xs news:List aP} {c:Nat->Nat->Act} (d:ai an FX w l) (bytes:Nat) (hx0:Cells w sz A n xs) (hr:Cells w sz aK m news) (h1:∀u∈news,u.oneCell'=aB)
 (h:∀B b w',ai an FX w' (bp (ab ⟨B,0,af⟩) (n+m) b e sz (xs++news)::l)->wpList P ops Q rest (c B b) w') (hm:0<m:=by decide) (hsz:0<sz:=by decide) (ho:o.op=.call {callee:=.builtin .append,args:=#[s,x],argTypes:=#[t,t]}:=by rfl) (hs:a.eval s=ad A n n:=by rfl) (hx:a.eval x=ad aK m c2:=by rfl)
 (ht:P.underlying t=ab (.slice e):=by kernel_rfl) (kZ:(P.info? e).map (λi=>(i.zero.isSome,(i.zero.map (·.cells.size)).getD 0,i.size,i.bytes))=ab (aB,sz,sz,bytes):=by kernel_rfl) (hb0:0<bytes:=by decide) (hby:(n+m)*bytes<=140737488355328:=by omega)
 (hw:c4 o (cY ops a.tmps)=true:=by kernel_rfl) (ha:∀B b,a.put o.dst (ad (ab ⟨B,0,af⟩) (n+m) b)=c B b:=by(intro _ _;((try simp only[Act.put,List.setIfInBounds_toArray,List.set_cons_zero,List.set_cons_succ]);rfl))):wpList P ops Q (o::rest) a w:=by
 refine wpList_step λK k=>?_;rw[if_pos hw];cases hq:P.info? e with
 |none=>simp[hq]at kZ
 |some i=>
  rw[hq]at kZ;simp at kZ;obtain⟨bD,b9,f,g⟩:=kZ;obtain⟨z,hz⟩:=Option.isSome_iff_exists.1 bD;rw[hz]at b9;simp at b9;subst g;have hle:(n+m)<=(n+m)*i.bytes:=Nat.le_mul_of_pos_right _ hb0;obtain⟨B,b,w',hrun,h1,j,p⟩:=atB (P:=P) w w.heap.size sz t o.type e i z ht hq hz f b9 hsz A n xs hx0 aK m c2 news hr h1 hm (by grind[maxLen]) hby (cp _);unfold hC bw;simp only[ho,resolve,invoke,builtin,Sem.run_bind,Sem.run_pure,Result.andThen_ok,ob,jx,kC,hs,hx,hrun];have hk:=k _ _ (h B b w' (d.k8 j h1));rw[<-ha]at hk;exact hk
end
def ajU{d}(h:dS d){n a}(b:db n):dS (sy d n a):=⟨h.mj,h.ve,h.len,h.small,h.cache,h.en,by have:db (max n (-1)):=by{unfold db at*;omega};exact this⟩
def l6(l:List (Int×Int)):List Value:=l.flatMap (λk=>[J R k.1,J aH k.2])
def alm{l j x}(hx:l[j]?=ab x):∀(i) v,([J R x.1,J aH x.2]:List aP)[i]?=ab v->(l6 l)[j*2+i]?=ab v:=by
 induction l generalizing j with
 |nil=>grind
 |cons y l a=>
  intro i v hv;have hc:l6 (y::l)=[J R y.1,J aH y.2]++l6 l:=aT;have hi:i<2:=(List.getElem?_eq_some_iff.1 hv).1;rw[hc];cases j with
  |zero=>grind
  |succ j=>grind
def gA(C:vQ):List (Int×Int)->dM->List q3×dM
 |[],d=>([],d)
 |k::l,d=>if(oh C (sy d k.1 k.2)).1.bq=18 then((oh C (sy d k.1 k.2)).1::(gA C l (oh C (sy d k.1 k.2)).2).1,(gA C l (oh C (sy d k.1 k.2)).2).2)else([(oh C (sy d k.1 k.2)).1],(oh C (sy d k.1 k.2)).2)
def amv(x:q3×Int):Array Value:=#[av (x1 x.1).toArray,J R x.2]
def Xx(bd:Nat)(all:List q3)(pre:List (q3×Int)):Prop:=pre.map (·.1)<+:all/\∀x∈pre,x.2<=(bd:Int)
def am4(bd:Nat)(all:List q3)(pre:List (q3×Int)):Prop:=pre.map (·.1)=all/\∀x∈pre,x.2<=(bd:Int)
def aj4 C(B bZ cC r s c cs)(A g)m d f an FX(h:se C d)(cZ:d.down=au)(gK:d.cache.length<=1000000000)(hl:∀W,aq FX an W->cD W A C.ms)(hsc:∀W,aq FX an W->Cells W 2 g f.length (l6 f))(e6:f.length<=cs/\f.length<=1048576)(rR:∀k∈f,db k.1):
 Kh ax 156 #[ay (ab ⟨bZ,0,af⟩),ay (ab ⟨cC,0,af⟩),ay (ab ⟨r,0,af⟩),ay (ab ⟨s,0,af⟩)] amv an FX (bQ [ah bZ #[ad g f.length cs] 65,ah cC #[(di B)] 32,ah r #[J R (C.bd:Int)] 3,ah s (a6 (C.o:Int) (C.n:Int) C.g1 C.g2 (ad A C.ms.length c)) 26,aO B m d]) (λu=>∃aV,u=bQ [ah bZ #[ad g f.length cs] 65,ah cC #[(di B)] 32,ah r #[J R (C.bd:Int)] 3,ah s (a6 (C.o:Int) (C.n:Int) C.g1 C.g2 (ad A C.ms.length c)) 26,aO B aV (gA C (f++[(-1,0)]) d).2]) (Xx C.bd (gA C (f++[(-1,0)]) d).1) (am4 C.bd (gA C (f++[(-1,0)]) d).1) (λ_=>emp):=by
 intro l S gO W F t bL h0 a;have mW:=hid h;have aiJ:=hid hsc;have F7:=hid hl;have jf:=hid e6;have axh:=hid rR;obtain⟨L,cj⟩:=ex (f++[((-1:Int),(0:Int))]);have BE:L.length=f.length+1:=aG;have aii:aE (∀k∈L,db k.1):=hid (λk hk=>by grind[db]);have O':aE (l6 f++[J R (-1),J aH 0]=l6 L):=hid (by grind[l6]);rw[cj]at bL⊢;obtain⟨all,l8,BG⟩:∃all l8,gA C L d=(all,l8):=⟨_,_,aa⟩;rw[BG]at bL⊢;simp only at bL⊢;have O5:=hid BG;have Pr:=hid BE;have O5:=hid BG;have Pr:=hid BE;have l1:=hid cZ;have ri:=hid gK;clear cj BE BG cZ gK h hl hsc rR;go_enter func156,ntmps156;replace a:ai an FX W [ah bZ #[ad g f.length cs] 65,ah cC #[(di B)] 32,ah r #[J R (C.bd:Int)] 3,ah s (a6 (C.o:Int) (C.n:Int) C.g1 C.g2 (ad A C.ms.length c)) 26,aO B m d,t,F]:=a.kq;go_upto_region 0 with fail;refine ar ?_;refine pl a 0 0 ?_;refine pl a 0 0 ?_;refine ag ?_;refine pl a 0 0 ?_;refine ag ?_;refine aJ (ad g f.length f.length) (aen 65 105 2 (bc 10) (bc 12) (bc 14) aa ahC aw g f.length cs f.length f.length aa aa aa (cp _) jf.out.1) ?_;refine ag ?_;refine ga a #[J R (-1),J aH 0] 105 (λUy w1 a=>?_);refine ar3 (e:=105) (sz:=2) (m:=1) (xs:=l6 f) (news:=[J R (-1),J aH 0]) a 16 (aiJ _ a.only) (aX.cellsOf (m:=1) (a.a1 0) aa) (by intro u hu;simp only[List.mem_cons,gb,or_false]at hu;rcases hu with rfl|rfl<;>rfl) (λN Q tb a=>?_) (hby:=by omega);rw[O']at a;refine dQ ?_;have ca:=a.pk [0,2,3,4,5,6,7,8];go_wp2_with fail;go_loopw [20] (λaW wr=>∃(j:Nat) (pre:List (q3×Int)) (Y:nu) (G:dM) (t2:bu),j<=L.length/\aE (pre.map (·.1)++(gA C (L.drop j) G).1=all)/\aE ((gA C (L.drop j) G).2=l8)/\se C G/\G.down=au/\G.cache.length<=1000000000/\aE (∀x∈pre,x.2<=(C.bd:Int))/\aW=J R (j:Int)/\S pre t2/\ai an FX wr [bp (ab ⟨N,0,af⟩) (f.length+1) Q 105 2 (l6 L),ah bZ #[ad g f.length cs] 65,ah cC #[(di B)] 32,ah r #[J R (C.bd:Int)] 3,ah s (a6 (C.o:Int) (C.n:Int) C.g1 C.g2 (ad A C.ms.length c)) 26,aO B Y G,t2,F]) (λaW wr=>L.length -(intOf aW).toNat);case atStart=>exact⟨0,[],m,d,t,cQ _,hid (by rw[PZ,O5];rfl),hid (by rw[PZ,O5]),mW,l1,ri,hid (λ_ h=>(gb h).elim),aa,h0,ca⟩
 case round=>
  clear a ca h0;obtain⟨j,pre,Y,G,t2,hj,hall,RD,Z,RC,Rx,o2,rfl,hS,a⟩:=hrel;by_cases hlt:j<L.length
  .have cJ:(j:Int)<((f.length+1:Nat):Int):=by have:=Pr.out;omega
   obtain⟨x,hx⟩:∃x,L[j]?=ab x:=⟨_,cm hlt⟩;have tx:=hid (alm hx);have aat:=aii x (List.mem_of_getElem? hx);have X:=hall.out;have hz:=RD.out;rw[Dt hlt,show L[j]=x from by rw[cm hlt]at hx;exact Ke hx]at X hz;rw[gA]at X hz;have Ly:se C (sy G x.1 x.2):=⟨ajU Z.ok aat,Z.bd,Z.sz,Z.p8,Z.lay,Z.en,Z.ch⟩;have jl:=aj2 Ly RC Rx;have R9:=Ly.yd jl.1;have uQ:=hid (λW m F ac=>aj3 C B c A m (sy G x.1 x.2) an W FX F Ly RC Rx F7 ac);obtain⟨y,w,hy⟩:∃y w,oh C (sy G x.1 x.2)=(y,w):=⟨_,_,aa⟩;rw[hy]at X hz jl R9 uQ;simp only at X hz jl R9 uQ;obtain⟨P,O⟩:=x;have RY:j<f.length+1:=ae;have wu:aE (∀p,p<=(C.bd:Int)->Xx C.bd all (pre++[(y,p)])):=hid (λp hp=>⟨by rw[<-X,gy];split;exact⟨(gA C (L.drop (j+1)) w).1,aU⟩;exact⟨[],aU⟩,λz hz=>by rcases List.mem_append.1 hz with h|h;exact o2 z h;obtain rfl:=List.mem_singleton.1 h;exact hp⟩);have F3:aE (y.bq=18->(pre.map (·.1)++[y])++(gA C (L.drop (j+1)) w).1=all/\(gA C (L.drop (j+1)) w).2=l8):=hid (λh=>aG);have WX:aE (y.bq≠18->pre.map (·.1)++[y]=all/\w=l8):=hid (λh=>aG);obtain⟨K,H,M,E,I⟩:=y;simp only[x1]at uQ;simp only at F3 WX;have rj:=hid jl;clear hx X hz Ly hy hall RD jl RC Rx aat;go_upto_region 1 with fail;refine ar ?_;refine dR ?_;refine aJ (ay (ab ⟨N,(0+j*2),af⟩)) (cI 65 105 2 (bc 18) (bc 20) aa ahC aw N 0 ((f.length+1)) Q j ((0+j*2)) aa aa RY aa) ?_;refine aJ (av #[J R P,J aH O]) (e7 105 (bc 22) aa N (0+j*2) aa ([J R P,J aH O]:List aP) (Row.range (a.atR 0) aa (λi v hi=>by rw[kV];exact tx i v hi)) underlying105 aa aw) ?_;refine bA a #[J R 0,J aH 0] (λT aS a=>?_);refine ba a 0 (av #[J R P,J aH O]) (λbN a=>?_);refine aF ?_;refine pl a 3 0 ?_;refine ag ?_;refine pl a 0 0 ?_;refine ag ?_;refine pl a 0 1 ?_;refine a7 (alO B Y G P O _ (a.has 6)) ?_;rintro e cc ⟨rfl,bH⟩;replace a:=a.eG 6 bH;refine bb ?_;refine aF ?_;refine pl a 3 0 ?_;refine pl a 4 0 ?_;refine bt a 5 (a6 (C.o:Int) (C.n:Int) C.g1 C.g2 (ad A C.ms.length c)) ?_ (hv:=(ef _)) (hk:=by omega) (hz:=(by rw[cN];rfl));have bm:=(a.pk [6,0,1,2,3,4,5,7,8]).t1;refine a7 (uQ _ Y _ bm) ?_;rintro e cG ⟨pk,LF,Xn,rfl,dm,an0,D,a⟩;clear bm;replace a:=a.bo;refine bb ?_;refine v3 ?_;refine bA a #[J R 0,J R 0,J R 0,J R 0,J R 0] (λU c6 a=>?_);refine ba a 0 (av #[J R K,J R H,J R M,J R E,J R I]) (λdX a=>?_);refine ih ?_;refine(wpIn_wide (n:=0)).1 (wpIn_region_any (F:=Fr af) aw ?_);skip;refine XB (i:=0) (.func (.yield l) #[] #[]) ?_;refine XB (i:=2) Xn ?_;have Wp:=a.aI (aq.drew _);refine ajK (i:=1) (j:=3) (v:=av #[J R K,J R H,J R M,J R E,J R I]) (u:=J R pk) (λw'=>ai an FX w' [ah U #[J R K,J R H,J R M,J R E,J R I] 158,dm,aO B D w,ah T #[J R P,J aH O] 105,bp (ab ⟨N,0,af⟩) (f.length+1) Q 105 2 (l6 L),ah bZ #[ad g f.length cs] 65,ah cC #[(di B)] 32,ah r #[J R (C.bd:Int)] 3,ah s (a6 (C.o:Int) (C.n:Int) C.g1 C.g2 (ad A C.ms.length c)) 26,t2,F]) Wp (λw' a=>⟨?_,?_⟩) (λw' a=>⟨158,#[Xn],?_,?_,(an0 w' (a.at (t:=dm) 1)).mono λe aS h=>⟨h.1,a.aI h.2⟩⟩) (λcG a=>?_);·first|exact mg (cs':=#[J R K,J R H,J R M,J R E,J R I]) aa aa (a.a1 0) aw (of_decide_eq_true aw) aw aw|(go_simp;done)|(go_simp;rfl)
   .first|exact mg (cs':=#[J R K,J R H,J R M,J R E,J R I]) aa aa (a.a1 0) aw (of_decide_eq_true aw) aw aw|(go_simp;done)|(go_simp;rfl)
   . (go_simp;try with_reducible rfl)
   . (go_simp;try with_reducible rfl)
   clear Wp;refine XC (.inr trivial) 8 4 _ _ _ aa aa (λq h1 h2=>?_) aw ?_;·have h3:q<12:=h2;rcases(show q=4\/q=5\/q=6\/q=7\/q=8\/q=9\/q=10\/q=11 by omega)with rfl|rfl|rfl|rfl|rfl|rfl|rfl|rfl<;>(show _=_;kernel_rfl)
   have bm:=(a.pick (l':=[t2,ah U #[J R K,J R H,J R M,J R E,J R I] 158,dm,aO B D w,ah T #[J R P,J aH O] 105,bp (ab ⟨N,0,af⟩) (f.length+1) Q 105 2 (l6 L),ah bZ #[ad g f.length cs] 65,ah cC #[(di B)] 32,ah r #[J R (C.bd:Int)] 3,ah s (a6 (C.o:Int) (C.n:Int) C.g1 C.g2 (ad A C.ms.length c)) 26,F]) [9,0,1,2,3,4,5,6,7,8,10]).GG;have rf:ai an FX cG [t2,both emp (bQ [ah U #[J R K,J R H,J R M,J R E,J R I] 158,dm,aO B D w,ah T #[J R P,J aH O] 105,bp (ab ⟨N,0,af⟩) (f.length+1) Q 105 2 (l6 L),ah bZ #[ad g f.length cs] 65,ah cC #[(di B)] 32,ah r #[J R (C.bd:Int)] 3,ah s (a6 (C.o:Int) (C.n:Int) C.g1 C.g2 (ad A C.ms.length c)) 26,F])]:=((bm.pick (l':=[bQ [ah U #[J R K,J R H,J R M,J R E,J R I] 158,dm,aO B D w,ah T #[J R P,J aH O] 105,bp (ab ⟨N,0,af⟩) (f.length+1) Q 105 2 (l6 L),ah bZ #[ad g f.length cs] 65,ah cC #[(di B)] 32,ah r #[J R (C.bd:Int)] 3,ah s (a6 (C.o:Int) (C.n:Int) C.g1 C.g2 (ad A C.ms.length c)) 26,F],t2]) [1,0]).new emp ⟨aq.refl _ _,trivial,λ_ h=>h.elim⟩).star.pick [1,0];refine IU (bL pre (⟨K,H,M,E,I⟩,pk) _ _ _ (wu pk LF) hS rf) (λb c6 hb=>?_) (λ_ _ he=>he.elim (λh=>⟨_,h.1⟩) (λh=>⟨_,h.1⟩)) (GX aa aa (by simp only[ob,jx,kC];rfl));clear bm rf a;rcases II hb with⟨rfl,V,K9,a⟩|⟨rfl,V,K9,a⟩
   .clear hb;replace a:ai _ _ _ [V,ah U #[J R K,J R H,J R M,J R E,J R I] 158,dm,aO B D w,ah T #[J R P,J aH O] 105,bp (ab ⟨N,0,af⟩) (f.length+1) Q 105 2 (l6 L),ah bZ #[ad g f.length cs] 65,ah cC #[(di B)] 32,ah r #[J R (C.bd:Int)] 3,ah s (a6 (C.o:Int) (C.n:Int) C.g1 C.g2 (ad A C.ms.length c)) 26,F]:=ai.xk ((a.pick (l':=[both emp (bQ [ah U #[J R K,J R H,J R M,J R E,J R I] 158,dm,aO B D w,ah T #[J R P,J aH O] 105,bp (ab ⟨N,0,af⟩) (f.length+1) Q 105 2 (l6 L),ah bZ #[ad g f.length cs] 65,ah cC #[(di B)] 32,ah r #[J R (C.bd:Int)] 3,ah s (a6 (C.o:Int) (C.n:Int) C.g1 C.g2 (ad A C.ms.length c)) 26,F]),V]) [1,0]).fi.pick (l':=[V,bQ [ah U #[J R K,J R H,J R M,J R E,J R I] 158,dm,aO B D w,ah T #[J R P,J aH O] 105,bp (ab ⟨N,0,af⟩) (f.length+1) Q 105 2 (l6 L),ah bZ #[ad g f.length cs] 65,ah cC #[(di B)] 32,ah r #[J R (C.bd:Int)] 3,ah s (a6 (C.o:Int) (C.n:Int) C.g1 C.g2 (ad A C.ms.length c)) 26,F]]) [2,1]);refine vF ?_;by_cases D0:E=18
    .have OY:=hid D0;have Wx:=hid (F3 D0);clear D0;refine v4 ?_;refine pl a 1 3 ?_;refine dt OY (aj au) ?_;refine dR ?_;refine pad (j:Int) 1 ((j+1:Nat):Int) ?_;refine bR ?_;go_wp2_with fail;go_roundw;case rel=>exact⟨j+1,_,D,w,V,ae,hid (by rw[gy];exact Wx.1),hid Wx.out.2,R9,rj.2.1,by rw[rj.2.2];exact cQ _,hid (λz hz=>(wu.out pk LF).2 z hz),aa,K9,a.pick [5,6,7,8,9,3,0,10]⟩
     case measure=>simp[intOf]<;>omega
    .have OY:=hid D0;obtain⟨hg1,hg2⟩:=WX D0;subst hg2;have uU:=hid hg1;clear D0 hg1;refine v4 ?_;refine pl a 1 3 ?_;refine dt OY (aj aB) ?_;refine bR ?_;go_wp2_with fail;first|go_end0|refine bodyPost_ret (results_none rfl _ _ _) rfl ?_
     exact wD.all (u:=bQ [ah bZ #[ad g f.length cs] 65,ah cC #[(di B)] 32,ah r #[J R (C.bd:Int)] 3,ah s (a6 (C.o:Int) (C.n:Int) C.g1 C.g2 (ad A C.ms.length c)) 26,aO B D w]) ⟨by rw[gy];exact uU,(wu.out pk LF).2⟩ K9 ⟨D,aa⟩ (ai.pick (ai.bQ (l:=[ah bZ #[ad g f.length cs] 65,ah cC #[(di B)] 32,ah r #[J R (C.bd:Int)] 3,ah s (a6 (C.o:Int) (C.n:Int) C.g1 C.g2 (ad A C.ms.length c)) 26,aO B D w]) (a.pick (l':=[ah bZ #[ad g f.length cs] 65,ah cC #[(di B)] 32,ah r #[J R (C.bd:Int)] 3,ah s (a6 (C.o:Int) (C.n:Int) C.g1 C.g2 (ad A C.ms.length c)) 26,aO B D w,V,F]) [6,7,8,9,3,0,10])) [1,0,2])
   .clear hb;replace a:ai _ _ _ [V,ah U #[J R K,J R H,J R M,J R E,J R I] 158,dm,aO B D w,ah T #[J R P,J aH O] 105,bp (ab ⟨N,0,af⟩) (f.length+1) Q 105 2 (l6 L),ah bZ #[ad g f.length cs] 65,ah cC #[(di B)] 32,ah r #[J R (C.bd:Int)] 3,ah s (a6 (C.o:Int) (C.n:Int) C.g1 C.g2 (ad A C.ms.length c)) 26,F]:=ai.xk ((a.pick (l':=[both emp (bQ [ah U #[J R K,J R H,J R M,J R E,J R I] 158,dm,aO B D w,ah T #[J R P,J aH O] 105,bp (ab ⟨N,0,af⟩) (f.length+1) Q 105 2 (l6 L),ah bZ #[ad g f.length cs] 65,ah cC #[(di B)] 32,ah r #[J R (C.bd:Int)] 3,ah s (a6 (C.o:Int) (C.n:Int) C.g1 C.g2 (ad A C.ms.length c)) 26,F]),V]) [1,0]).fi.pick (l':=[V,bQ [ah U #[J R K,J R H,J R M,J R E,J R I] 158,dm,aO B D w,ah T #[J R P,J aH O] 105,bp (ab ⟨N,0,af⟩) (f.length+1) Q 105 2 (l6 L),ah bZ #[ad g f.length cs] 65,ah cC #[(di B)] 32,ah r #[J R (C.bd:Int)] 3,ah s (a6 (C.o:Int) (C.n:Int) C.g1 C.g2 (ad A C.ms.length c)) 26,F]]) [2,1]);refine vF ?_;refine v2 ?_;iterate 4 refine ps ?_
    refine bR ?_;go_wp2_with fail;first|go_end0|refine bodyPost_ret (results_none rfl _ _ _) rfl ?_
    exact wD.cut (u:=bQ [ah bZ #[ad g f.length cs] 65,ah cC #[(di B)] 32,ah r #[J R (C.bd:Int)] 3,ah s (a6 (C.o:Int) (C.n:Int) C.g1 C.g2 (ad A C.ms.length c)) 26,aO B D w]) (wu.out pk LF) K9 (ai.pick (ai.bQ (l:=[ah bZ #[ad g f.length cs] 65,ah cC #[(di B)] 32,ah r #[J R (C.bd:Int)] 3,ah s (a6 (C.o:Int) (C.n:Int) C.g1 C.g2 (ad A C.ms.length c)) 26,aO B D w]) (a.pick (l':=[ah bZ #[ad g f.length cs] 65,ah cC #[(di B)] 32,ah r #[J R (C.bd:Int)] 3,ah s (a6 (C.o:Int) (C.n:Int) C.g1 C.g2 (ad A C.ms.length c)) 26,aO B D w,V,F]) [6,7,8,9,3,0,10])) [1,0,2])
  .have cJ:¬(j:Int)<((f.length+1:Nat):Int):=by have:=Pr.out;omega
   have X:=hall.out;have hz:=RD.out;rw[Gq ae]at X hz;obtain rfl:G=l8:=hz;have ha2:pre.map (·.1)=all:=by grind[gA]
   go_upto_region 1 with fail;refine ar ?_;refine bR ?_;go_wp2_with fail;first|go_end0|refine bodyPost_ret (results_none rfl _ _ _) rfl ?_
   exact wD.all (u:=bQ [ah bZ #[ad g f.length cs] 65,ah cC #[(di B)] 32,ah r #[J R (C.bd:Int)] 3,ah s (a6 (C.o:Int) (C.n:Int) C.g1 C.g2 (ad A C.ms.length c)) 26,aO B Y G]) ⟨ha2,o2.out⟩ hS ⟨Y,aa⟩ (ai.pick (ai.bQ (l:=[ah bZ #[ad g f.length cs] 65,ah cC #[(di B)] 32,ah r #[J R (C.bd:Int)] 3,ah s (a6 (C.o:Int) (C.n:Int) C.g1 C.g2 (ad A C.ms.length c)) 26,aO B Y G]) (a.pick (l':=[ah bZ #[ad g f.length cs] 65,ah cC #[(di B)] 32,ah r #[J R (C.bd:Int)] 3,ah s (a6 (C.o:Int) (C.n:Int) C.g1 C.g2 (ad A C.ms.length c)) 26,aO B Y G,t2,F]) [1,2,3,4,5,6,7])) [1,0,2])
end
end Go.Proofs.YtcmhplknoglbkaaGreat
