/- Part 9 of the proof of TopMemorySaid. -/
import Derived.Recover
import Derived.Test.YtcmhplknoglbkaaGreatQm0
import Derived.Test.YtcmhplknoglbkaaGreatQm3
import Derived.Test.YtcmhplknoglbkaaGreatQm5
import Derived.Test.YtcmhplknoglbkaaGreatQm8
set_option linter.all false
set_option maxRecDepth 100000
set_option maxHeartbeats 4000000
open Go.Proofs.Tryz
open Array renaming replicate_succ->pV,replicate_zero->pW,size->gw
open Bool renaming false->ao,false_and->ahK,true->az,true_and->Kg
open Decidable renaming of_not_not->DL
open Go renaming Act->b3,Addr->bT,Calls->aD,Oper->cS,Program->ew,Value->aP,World->aQ,bodyPost_ret->c',callFunc->kB,execOp->bA,leaves_cons->Pz,results->nw,results_cell_row->gG,run_endLoop->PC,run_firstCells_some->KR,undef->a7,wpAnyIn->GL,wpAnyIn_ready->PD,wpIn_skip->BV,wpIn_wide->ya,wpList->cN,wpList_nil->an,wp_region_lit->cw,yielded->cZ
open Go.AllReadyIn renaming cons->Ko,nil->OV
open Go.Ending renaming returned->aB
open Go.Exit renaming thenS->ahZ
open Go.Fn renaming func->ed,yield->wB
open Go.FrameMode renaming returning->Vu
open Go.IntKind renaming i64->R,u64->aF
open Go.LoopState renaming busy->sJ,exhausted->Gz,ready->kA
open Go.Next renaming value->dc
open Go.Obj renaming deferred->jP,loop->ga
open Go.Oper renaming wp->iy,wpIn->ah6
open Go.Operand renaming tmp->bj
open Go.Proofs.Tryz renaming func142->VF,func62->O',ntmps59->Wm,ntmps62->Pg,prog->ax,results223->ajT,underlying23->sK,underlying24->ee,underlying49->x5,underlying5->mm,underlying73->fO
open Go.Proofs renaming enters_of->lf
open Go.Region renaming ready->sL,wanted->c9
open Go.Result renaming andThen_ok->jE,ok->bf
open Go.RowKit renaming Hid->aE,intOf->bQ
open Go.Sem renaming run_bind->gx,run_pure->kh
open Go.Target renaming collected->BQ
open Go.Value renaming agg->ar,bool->ai,func->dI,iface->vc,int->J,pointer->ay,slice->ae,tuple->bn
open Int renaming eq_ofNat_of_zero_le->wW,le_of_lt->Eh,natCast_nonneg->alG
open List renaming append_assoc->kD,append_nil->kE,append_toArray->p7,cons_append->pj,drop_eq_getElem_cons->Hc,drop_of_length_le->QI,drop_zero->X6,eq_nil_of_length_eq_zero->j3,flatMap_cons->Ya,getElem?_eq_getElem->cE,length_append->c7,length_cons->jQ,length_map->hB,length_nil->mq,length_singleton->vr,map_append->fP,map_cons->j5,map_nil->ln,map_toArray->oI,mem_append->iX,mem_cons->gy,mem_cons_of_mem->p8,mem_cons_self->sU,mem_of_getElem?->cX,mem_singleton->vs,nil_append->lJ,not_mem_nil->fQ,push_toArray->qa,range->dQ,range_succ->sV,size_toArray->iK,take_add_one->gq,take_append_drop->oa
open Nat renaming add_assoc->QQ,add_mul->Cg,le_refl->b9,le_trans->dT,lt_succ_iff_lt_or_eq->vv,succ_mul->Ae,zero_add->iY,zero_le->cC
open Option renaming none->af,some->ab
open Option.some renaming inj->Lp
open Or renaming inl->b1,inr->cm
open Prod.mk renaming injEq->pq
open Sum renaming inr->Ls
open Sum.inr renaming inj->amb
namespace Go.Proofs.YtcmhplknoglbkaaGreat
section
open Go.RowKit Go.MapKept
section
variable {P:ew} {α:Type} {encs:α->Array aP} {aq:aQ} {FX:Nat->Prop} {lb:Array aP} {g:Nat}
def ama(P:ew)(l:Nat)(encs:α->Array aP)(aq:aQ)(FX:Nat->Prop)(S d:List α->bq->Prop)(c:List α->Prop)(L:α->bq):Prop:=
 ∀pre x W F t,c (pre++[x])->S pre t->ak aq FX W [t,both (L x) F]->YieldAt (Fr af) 0 P l (encs x) W λe b=>(e=aB (ai az)/\∃a,S (pre++[x]) a/\ak aq FX b [a,both (L x) F])\/(e=aB (ai ao)/\∃a,d (pre++[x]) a/\ak aq FX b [a,both (L x) F])
def tX(aq:aQ)(FX:Nat->Prop)(S d:List α->bq->Prop)(f:bq->Prop)(c Fin:List α->Prop)(F:bq)(e:Ending)(b:aQ):Prop:=
 (∃v,e=aB v)/\((∃xs a u,Fin xs/\S xs a/\f u/\ak aq FX b [a,u,F])\/∃pre a u,c pre/\d pre a/\ak aq FX b [a,u,F])
def tX.all{S e a c Fin}{xs:List α}{F t u v b}(h:Fin xs)(f:S xs t)(g:a u)(d:ak aq FX b [t,u,F]):tX aq FX S e a c Fin F (aB v) b:=⟨⟨_,aa⟩,b1 ⟨_,_,_,h,f,g,d⟩⟩
theorem tX.cut{S b e a Fin}{pre:List α}{F t u v c}(g:a pre)(f:b pre t)(d:ak aq FX c [t,u,F]):tX aq FX S b e a Fin F (aB v) c:=⟨⟨_,aa⟩,cm ⟨_,_,_,g,f,d⟩⟩
def Hk(P:ew)(g:Nat)(lb:Array aP)(encs:α->Array aP)(aq:aQ)(FX:Nat->Prop)(T:bq)(c:bq->Prop)(a Fin:List α->Prop)(L:α->bq):Prop:=
 ∀(l:Nat) (S b:List α->bq->Prop) (W:aQ) (F t:bq),ama P l encs aq FX S b a L->S [] t->ak aq FX W [T,t,F]->
  aD P g (#[dI (wB l) #[] #[]]++lb) W (tX aq FX S b c a Fin F)
def US {K:Operand} {ps:Array Tmp} {assign body:Code} {Q:Exit->b3->aQ->Prop} {r:Array aP} {ds:List Deferred} {w:aQ} {A Fin:List α->Prop} {L:α->bq} {T:bq} {H:bq->Prop} {t F:bq} {jb:α->Array aP}
 (hg:(Act.mk r ds).eval K=dI (ed g) #[] lb) (gz:∀args w,(kB g args).run P w=bf (.enter g args) w) (sm:∀x,(encs x).size=ps.size) (hseq:Hk P g lb encs aq FX T H A Fin L)
 (S:List α->bq->Prop) (gR:Code->List α->bq->Prop) (h0:S [] t) (I:ak aq FX w [T,t,F])
 (SY:∀(l:Nat) (rd:Loop) (pre:List α) (x:α) (W:aQ) (t F:bq),A (pre++[x])->rd.state=kA->S pre t->ak aq FX W [t,obj l (ga rd),both (L x) F]->
   assign.wpIn (Fr (ab l)) 0 P (Exit.then (λJ w1=>∃z,(Instr.beginRound l).run P w1=bf () z/\body.wpIn (Fr (ab l)) 0 P (afq aq FX S gR (pre++[x]) (obj l (ga {rd with state:=sJ})) (both (L x) F)) J z) (λ_ _ _=>False))
    {tmps:=jb x,defers:=[]} W)
 (hdone:∀D xs t u W,Fin xs->S xs t->H u->ak aq FX W [t,u,obj D (jP (ab [])),F]->Q .normal {tmps:=r,defers:={target:=BQ D,args:=#[]}::ds} W)
 (S0:∀D c pre t u W,A pre->gR c pre t->ak aq FX W [t,u,obj D (jP (ab [])),F]->c.wp P Q {tmps:=r,defers:={target:=BQ D,args:=#[]}::ds} W)
 (hat:∀x,(ps.zip (encs x)).foldl (λt (p,v)=>t.setIfInBounds p v) r=jb x:=by(intro _;simp only[List.zip_toArray,List.zip_cons_cons,List.zip_nil_right,List.foldl_toArray',List.size_toArray,List.foldl_cons,List.foldl_nil,List.setIfInBounds_toArray,List.set_cons_succ,List.set_cons_zero];rfl)):
 (Code.rangeFunc K ps assign body).wp P Q {tmps:=r,defers:=ds} w:=by
 refine(ya (n:=0)).1 (wpIn_rangeFunc ?_);intro fn hfn;obtain⟨a,m⟩:∃a:LoopState->Option Code->Loop,a=λst aG=>{state:=st,pending:=aG,fn,tmps:=r,params:=ps,assign,body,defers:=w.heap.size}:=⟨_,aa⟩;obtain⟨D,M⟩:=ex w.heap.size;obtain⟨l,R⟩:=ex ((w.alloc (jP (ab []))).heap.size);have V:=I.newObj (jP (ab []));have C:=V.newObj (ga (a kA af));have SB:l=w.heap.size+1:=by rw[<-R];simp
 rw[R,M]at C;obtain⟨j,N⟩:=ex ((w.alloc (jP (ab []))).alloc (ga (a kA af)));rw[N]at C
 refine⟨l,[{target:=BQ D,args:=#[]}],j,{target:=.fn (ed g) lb,args:=#[dI (wB l) #[] #[]]},j,g,
  #[dI (wB l) #[] #[]]++lb,j,?_,?_,?_,?_,λh=>(by cases h),?_⟩;·rw[<-N,m,SB,<-M];exact run_enterLoop_outer _ _ _ _ _
 .simp only[resolve,hg];simp[go_sem]
 .intro _ _;trivial
 .grind[invoke]
 .refine callsIn_wide.2 ((hseq l (λpre t=>∃t2,S pre t2/\t=both t2 (obj l (ga (a kA af)))) (λpre t=>∃t2 c,gR c pre t2/\t=both t2 (obj l (ga (a .done (ab c))))) j (both (obj D (jP (ab []))) F) _ ?_ ⟨t,h0,aa⟩ ?_).mono ?_)
  .rintro pre x W Vr _ G ⟨t2,s,rfl⟩ hst;obtain⟨B,E⟩:=ex (both (L x) Vr);rw[E]at hst⊢;have h1:=hst.fx;have CZ:=h1.obj 1;have U:=run_yield (P:=P) (args:=encs x) CZ aH;rw[m]at U;refine⟨fn,_,assign,body,U,roundIn_of_wpIn hfn (wpIn_mono ((hat x).symm▸(E▸SY l (a kA af) pre x W t2 Vr G aH s (E.symm▸h1))) ?_)⟩;rintro e J w1 O;cases e with
   |normal=>
    obtain⟨z,hb,Y⟩:=O;refine⟨z,hb,wpIn_mono Y ?_⟩
    have fin:∀(f:Option Code) (i:aQ) (t3:bq),ak aq FX i [t3,obj l (ga {a kA af with state:=sJ}),B]->(Instr.endRound l f).run P i=bf (ai f.isNone) (i.putObj l (ga (a (if f.isNone then kA else .done) f)))/\
     ak aq FX (i.putObj l (ga (a (if f.isNone then kA else .done) f))) [both t3 (obj l (ga (a (if f.isNone then kA else .done) f))),B]:=λf i t3 d=>by
     have hr:=run_endRound (P:=P) f (d.obj 1);have b:ak aq FX _ [t3,obj l (ga (a (if f.isNone then kA else .done) f)),B]:=d.putObj 1 (ga (a (if f.isNone then kA else .done) f)) aa;refine⟨?_,b.star⟩;rw[hr,m]
    rintro e a3 i o;cases e with
    |normal=>
     obtain⟨t3,hs3,d⟩:=o;obtain⟨hr,b⟩:=fin af i t3 d;exact⟨_,_,hr,b1 ⟨aa,_,⟨t3,hs3,aa⟩,b⟩⟩
    |ret=>
     obtain⟨t3,hs3,d⟩:=o;obtain⟨hr,b⟩:=fin (ab .ret) i t3 d;exact⟨_,_,hr,cm ⟨aa,_,⟨t3,_,hs3,aa⟩,b⟩⟩
    |exit id=>
     obtain⟨t3,hs3,d⟩:=o;obtain⟨hr,b⟩:=fin (ab (.exit id)) i t3 d;exact⟨_,_,hr,cm ⟨aa,_,⟨t3,_,hs3,aa⟩,b⟩⟩
    |goto q=>
     obtain⟨t3,hs3,d⟩:=o;obtain⟨hr,b⟩:=fin (ab (.goto q)) i t3 d;exact⟨_,_,hr,cm ⟨aa,_,⟨t3,_,hs3,aa⟩,b⟩⟩
    |panic ch=>exact o.elim
    |outgrown=>exact o.elim
   |_=>exact O.elim
  .have k:ak aq FX j [obj l (ga (a kA af)),obj D (jP (ab [])),T,t,F]:=C;have d:ak aq FX j [t,obj l (ga (a kA af)),obj D (jP (ab [])),F,T]:=k.pick [3,0,1,4,2];have b:ak aq FX j [obj D (jP (ab [])),F,T,both t (obj l (ga (a kA af)))]:=d.star.pick [1,2,3,0];exact b.star.pick [1,2,0]
  .rintro e y ⟨⟨v,rfl⟩,(⟨xs,_,u,Z,⟨t2,s,rfl⟩,X,hst⟩|⟨pre,_,u,G,⟨t2,c,s,rfl⟩,hst⟩)⟩;·have h1:ak aq FX y [t2,obj l (ga (a kA af)),u,both (obj D (jP (ab []))) F]:=hst.fx;have k:ak aq FX y [obj D (jP (ab [])),F,t2,obj l (ga (a kA af)),u]:=(h1.pick (l':=[both (obj D (jP (ab []))) F,t2,obj l (ga (a kA af)),u]) [3,0,1,2]).fx;have d:=k.putObj 3 (ga {a kA af with state:=Gz}) aa;refine⟨af,_,by have:=PC (P:=P) (k.obj 3) aH;rw[m]at this;exact this,?_⟩;have b:=hdone D xs t2 u _ Z s X ((ak.pick (l:=[obj D (jP (ab [])),F,t2,obj l (ga {a kA af with state:=Gz}),u]) d [2,4,0,1]));rw[m]at b;exact b
   .have h1:ak aq FX y [t2,obj l (ga (a .done (ab c))),u,both (obj D (jP (ab []))) F]:=hst.fx;have k:ak aq FX y [obj D (jP (ab [])),F,t2,obj l (ga (a .done (ab c))),u]:=(h1.pick (l':=[both (obj D (jP (ab []))) F,t2,obj l (ga (a .done (ab c))),u]) [3,0,1,2]).fx;have d:=k.putObj 3 (ga {a .done (ab c)with state:=Gz}) aa;refine⟨ab c,_,by have:=PC (P:=P) (k.obj 3) aH;rw[m]at this;exact this,?_⟩;have b:=S0 D c pre t2 u _ G s ((ak.pick (l:=[obj D (jP (ab [])),F,t2,obj l (ga {a .done (ab c)with state:=Gz}),u]) d [2,4,0,1]));rw[m]at b;exact(ya (n:=0)).2 b
end
end
open Go.RowKit Go.MapKept
def AB(E:List (Int×Int))(p:Int×Int->Bool):Int:=match E.findIdx? p with|some k=>(k:Int)|none=>-1
def apF E p:decide (0<=AB E p)=E.any p:=by grind[AB]
def asz A (c g:Nat) lb E p w (cv:E.length<=1073741824) (t:kU w A E) (o:∀args w,(kB g args).run ax w=bf (.enter g args) w)
 (hp:∀x W,x∈E->au w W->aD ax g (#[ar #[J R x.1,J R x.2]]++lb) W λe w'=>e=aB (ai (p x))/\au W w'):
 aD ax 300 #[ae A E.length c,dI (ed g) #[] lb] w λe w'=>e=aB (J R (AB E p))/\au w w':=by
 have B:=hid o;have D:=hid hp;have C:=hid t;clear t o hp;go_enter func300,ntmps300;have a:=a8 w;go_step;refine ah ?_;refine ag ?_;refine ah ?_;refine v3 ?_;refine an ?_;go_wp2_with fail;go_loopw [8] (λl wr=>∃j:Nat,j<=E.length/\l=J R (j:Int)/\(∀(i:Nat) (x:Int×Int),i<j->E[i]?=ab x->p x=ao)/\ak w (λ_=>False) wr []) (λl wr=>E.length -(bQ l).toNat);case atStart=>grind
 case round=>
  clear a;obtain⟨j,I,rfl,r,a⟩:=hrel;by_cases hlt:j<E.length
  .have G:(j:Int)<(E.length:Int):=ad;obtain⟨x,hx⟩:∃x,E[j]?=ab x:=⟨_,cE hlt⟩;obtain⟨b,d,q,s⟩:=C (show 0<E.length by omega);obtain⟨hc1,hc2⟩:=s j hlt;rw[hx]at hc1 hc2;obtain⟨jf,u⟩:=ex (p x);have H:=cX hx;have F:aE (∀W,au w W->W.rangeAt b (d+j*2) [J R x.1,J R x.2]):=hid (λW g i v hi=>by grind[Hs]);have n:=hid hx;have f:=hid u;have m:=hid r;have z:=hid q;clear hx u r s q hc1 hc2;go_step;refine ah ?_;refine ag ?_;refine ah ?_;refine v2 ?_;refine jk ?_;refine aG (ay (ab ⟨b,(d+j*2),af⟩)) (b4 176 35 2 (bj 12) (bj 13) aa underlying176 aw b d (E.length) c j ((d+j*2)) (by show ae A _ _=_;rw[z]) aa hlt aa) ?_;refine aG _ (by(refine eW 35 _ aa b _ aa _ (F _ a.only) Tryz.underlying35 aa aw)) ?_;refine bC ((by have h:=D.out x _ H a.only;rw[f.out]at h;exact h)) a (λw1 a=>?_) (hr:=by(go_simp;exact B _ _));refine an ?_;cases jf with
   |true=>
    refine ah ?_;refine dU ?_;go_wp2_with fail;go_ret;exact⟨by rw[show AB E p=(j:Int)from by unfold AB;rw[show E.findIdx? p=ab j from Mc n f m]];rfl,a.only⟩
   |false=>
    refine ah ?_;refine pad (j:Int) 1 ((j+1:Nat):Int) ?_;refine bX ?_;go_wp2_with fail;go_roundw;case rel=>exact⟨j+1,ad,rfl,λi y hi k=>by rcases vv.1 hi with h|rfl;exact m i y h k;rw[n]at k;cases k;exact f,a⟩
    case measure=>simp[bQ]<;>omega
  .have G:¬(j:Int)<(E.length:Int):=ad;obtain rfl:j=E.length:=ad;go_step;refine ah ?_;refine ag ?_;refine ah ?_;refine ag ?_;refine an ?_;go_wp2_with fail;go_ret;exact⟨by rw[show AB E p=-1 from by grind[AB,Mb]];rfl,a.only⟩
def anY A (c g:Nat) lb E p w (cv:E.length<=1073741824) (j:kU w A E) (i:∀args w,(kB g args).run ax w=bf (.enter g args) w)
 (hp:∀x W,x∈E->au w W->aD ax g (#[ar #[J R x.1,J R x.2]]++lb) W λe w'=>e=aB (ai (p x))/\au W w'):
 aD ax 247 #[ae A E.length c,dI (ed g) #[] lb] w λe w'=>e=aB (ai (E.any p))/\au w w':=by
 have f:=hid (λW (g2:au w W)=>asz A c g lb E p W cv (j.aI g2) i (λx m hx n=>hp x m hx (au.trans g2 n)));have d:=apF E p;obtain⟨q,k⟩:=ex (AB E p);obtain⟨b,hb⟩:=ex (E.any p);rw[k]at f d;rw[hb]at d⊢;have l:=hid d;clear j i hp k hb d;go_enter Tryz.func247,Tryz.ntmps247;have a:=a8 w;go_step;refine ah ?_;refine kg ?_;refine bC (f.out _ a.only) a (λw1 a=>?_);refine aG (ai b) (by(have h:=l.out;go_simp;try exact h)) ?_;refine bX ?_;go_wp2_with fail;go_ret;exact⟨aa,a.only⟩
def avy bS(s x)w(h1:eY s)(i:eY x)(hb:aX w bS #[J R s.1,J R s.2] 35):
 aD ax 248 #[ar #[J R x.1,J R x.2],ay (ab ⟨bS,0,af⟩)] w λe w'=>e=aB (ai (meets s x))/\au w w':=by
 obtain⟨a,b⟩:=s;obtain⟨c,d⟩:=x;obtain⟨n,g⟩:=ex (meets (a,b) (c,d));obtain⟨⟨gC,k⟩,ho⟩:∃z,me (a,b) (c,d)=z:=⟨_,aa⟩;have h:=hid (λW=>ND a b c d W h1 i);rw[g,ho]at h;rw[g];have j:=hid hb;clear g ho hb h1 i;go_enter Tryz.func248,ntmps248;have f:=a8 w;go_step;refine ah ?_;refine bL f (ar #[J R c,J R d]) (λl w1 f=>?_);refine dV ?_;refine aG (ar #[J R a,J R b]) (mH (cs':=#[J R a,J R b]) aa aa (aX.aI j.out f.only) aw (of_decide_eq_true aw) aw aw) ?_;refine bh f 0 #[J R c,J R d] ?_;refine bC (h _) f (λo f=>?_);refine v3 ?_;refine bl f #[J R 0,J R 0] (λm p f=>?_);refine a' f 0 (ar #[J R gC,J R k]) (λq f=>?_);refine ag ?_;refine ah ?_;refine dU ?_;go_wp2_with fail;go_ret;exact⟨aa,f.only⟩
def FZ(m:bO)(E:List (Int×Int)):Bool:=decide (m.k=1)&&E.any (λe=>meets (m.fr,m.n) e)
def avz(A f)(c i)m E w(hv:gd m)(cv:E.length<=1048576)(p:kU w A E)(q:∀e∈E,eY e):
 aD ax 173 #[kW m f i,ae A E.length c] w λe w'=>e=aB (ai (FZ m E))/\au w w':=by
 have v:=hid p;have z:=hid q;by_cases hk:m.k=1
 .obtain⟨mk,o,b,d,l⟩:=m;simp only at hk;subst hk;have C:eY (b,d):=by rcases hv with⟨_,_,h,_⟩|⟨h,_⟩;exact h;cases h
  have j:aE (FZ ⟨1,o,b,d,l⟩ E=E.any (λe=>meets (b,d) e)):=hid bc;have s:aE (∀W bS,au w W->aX W bS #[J R b,J R d] 35->aD ax 247 #[ae A E.length c,dI (ed 248) #[] #[ay (ab ⟨bS,0,af⟩)]] W λe w'=>e=aB (ai (E.any (λe=>meets (b,d) e)))/\au W w'):=hid (λW bS g hb=>anY A c 248 _ E (λe=>meets (b,d) e) W ad (v.out.aI g) (lf Tryz.func248 aw aa) (λx B hx g2=>avy bS (b,d) x B C (z x hx) (aX.aI hb g2)));obtain⟨D,t⟩:=ex (E.any (λe=>meets (b,d) e));rw[t]at j s;clear t hv p q;go_enter Tryz.func173,Tryz.ntmps173;have a:=a8 w;go_step;refine ah ?_;refine bL a (ar #[J R 1,J R o,J R b,J R d,ae f l.length i]) (λu w1 a=>?_);refine dV ?_;refine bh a 0 #[J R 1,J R o,J R b,J R d,ae f l.length i] ?_;refine bC (Bk o b d f l.length i _) a (λF a=>?_);refine v3 ?_;refine bl a #[J R 0,J R 0] (λr G a=>?_);refine a' a 0 (ar #[J R b,J R d]) (λH a=>?_);refine By ?_;refine bC (s.out _ r a.only (a.aW 0)) a (λI a=>?_);refine pk (ai D) ?_;refine bX ?_;go_wp2_with fail;go_ret;exact⟨by rw[j];rfl,a.only⟩
 .have j:aE (FZ m E=ao):=hid (by grind[FZ]);have y:=hid (λW=>Bl m.k m.to m.fr m.n f m.data.length i W hk);clear hv p q hk;go_enter Tryz.func173,Tryz.ntmps173;have a:=a8 w;go_step;refine ah ?_;refine bL a (ar #[J R m.k,J R m.to,J R m.fr,J R m.n,ae f m.data.length i]) (λu K a=>?_);refine dV ?_;refine bh a 0 #[J R m.k,J R m.to,J R m.fr,J R m.n,ae f m.data.length i] ?_;refine bC (y _) a (λL a=>?_);refine v3 ?_;refine bl a #[J R 0,J R 0] (λr M a=>?_);refine a' a 0 (ar #[J R 0,J R 0]) (λN a=>?_);refine kg ?_;iterate 3 refine ps ?_
  refine pk (ai ao) ?_;refine bX ?_;go_wp2_with fail;go_ret;exact⟨by rw[j];rfl,a.only⟩
def zm(ms:List bO)(i:Nat):Bool:=match ms[i]? with|some m=>FZ m ((ms.take i).map ck)|none=>ao
def su(ms:List bO):Nat:=(dQ ms.length).findIdx (zm ms)
def avc{ms j}(h:j<ms.length)(h1:zm ms j=az)(b:∀i,i<j->zm ms i=ao):su ms=j:=by unfold su;have a:j<(dQ ms.length).length:=aH;refine(List.findIdx_eq a).2 ⟨aH,λk hk=>aH⟩
def avb{ms}(h:∀i,i<ms.length->zm ms i=ao):su ms=ms.length:=by grind[su,List.length_range]
def Y5 E x:mx (E++[x])=mx E++[J R x.1,J R x.2]:=by simp[mx]
abbrev Es:=Nat×Option bT×Nat
def tY(ms:List bO)(l:List Es):Prop:=l.map (·.1)=dQ l.length/\l.length<=ms.length
def tY.snoc{ms l j A c}(h:tY ms l)(a:l.length=j)(b:j<ms.length):tY ms (l++[(j,A,c)]):=by subst a;refine⟨?_,aH⟩;rw[fP,h.1,c7,vr,sV];rfl
def tY.last{ms l x}(h:tY ms (l++[x])):x.1=l.length/\l.length<ms.length:=by obtain⟨h1,a⟩:=h;rw[fP,c7,vr,sV]at h1;grind[List.append_inj_right']
def IV(ms:List bO)(x:Es):bq:=ba x.2.1 x.1 x.2.2 35 2 (mx ((ms.take x.1).map ck))
def axt cM A c ms aq FX(Q:∀W,av FX aq W->cU W A ms)(eR:ms.length<=1048576):
 Hk ax 246 #[ay (ab ⟨cM,0,af⟩)] (λx:Es=>#[J R (x.1:Int),ae x.2.1 x.1 x.2.2]) aq FX (aj cM #[ae A ms.length c] 24) (λ_=>True) (tY ms) (λl=>tY ms l/\l.length=ms.length) (IV ms):=by
 intro l S gR W F t N z a;have w:=hid Q;go_enter Tryz.func246,ntmps246;go_step;refine ah ?_;refine ag ?_;refine an ?_;go_step;refine ah ?_;refine pl a 0 0 ?_;iterate 2 refine ag ?_
 refine an ?_;replace a:=a.new (ba _ 0 0 35 2 []) ⟨av.refl _ _,Row.nil _ _ _ _,λb ⟨_,_,e⟩=>aH⟩;go_wp2_with fail;go_loopw [3,8] (λH r wr=>∃(j:Nat) (aK:Option bT) (c2:Nat) (pre:List Es) (t:bq),j<=ms.length/\pre.length=j/\aE (tY ms pre)/\H=ae aK j c2/\r=J R (j:Int)/\S pre t/\ak aq FX wr [ba aK j c2 35 2 (mx ((ms.take j).map ck)),aj cM #[ae A ms.length c] 24,t,F]) (λH r wr=>ms.length -(bQ r).toNat);case atStart=>exact⟨0,_,0,[],t,cC _,aa,hid ⟨aa,cC _⟩,aa,aa,z,a⟩
 case round=>
  clear a z;obtain⟨j,aK,c2,pre,t,hj,hpl,s,rfl,rfl,C,a⟩:=hrel;by_cases hlt:j<ms.length
  .have T:(j:Int)<(ms.length:Int):=ad;obtain⟨m,i⟩:∃m,ms[j]?=ab m:=⟨_,cE hlt⟩;obtain⟨y,U,_,_,B,_⟩:=cU.LJ w.out a.only i
   have L:aE (∀W,av FX aq W->∃d f,W.rangeAt y (U+j*5) [J R m.k,J R m.to,J R m.fr,J R m.n,ae d m.data.length f]):=hid (λW g=>by obtain⟨eK,eZ,aK,c2,h1,h2⟩:=cU.LJ w g i;grind);obtain⟨d,f,E⟩:=L _ a.only;have D:=s.out.snoc (A:=aK) (c:=c2) hpl hlt;have p:=hid D;have O:aE ((ms.take (j+1)).map ck=(ms.take j).map ck++[ck m]):=hid (by grind[gq]);have Z:=hid i;have I:=hid B;have K:=hid E;have M:aE ((pre++[(j,aK,c2)]).length=j+1):=hid aH;clear i B E D;go_step;refine ah ?_;refine ag ?_;refine an ?_;go_step;refine ah ?_;refine ag ?_;refine aG _ (b4 24 73 5 _ _ aa ee bc _ _ _ _ _ _ (by show ae A _ _=_;rw[I]) aa hlt aa) ?_;refine aG _ (by(refine eW 73 _ aa y _ aa _ K.out fO aa bc)) ?_;refine bl a #[J _ 0,J _ 0,J _ 0,J _ 0,ae _ 0 0] (λY w1 a=>?_);refine ag ?_;refine a' a 0 (ar _) (λaT a=>?_);refine an ?_;replace a:=a.pick (l':=[ba aK j c2 35 2 _,aj _ _ 73,aj cM _ 24,t,F]) [1,0,2,3,4];go_step;refine cy ?_;refine JE 3 ?_;iterate 3 refine ag ?_
   refine an ?_;have v:=(a.pick (l':=[t,ba aK j c2 35 2 _,aj _ _ 73,aj cM _ 24,F]) [3,0,1,2,4]).Ey;refine Gh (N _ _ _ _ _ p C v) (λb bF hb=>?_) (λ_ _ P=>P.elim (λh=>⟨_,h.1⟩) (λh=>⟨_,h.1⟩)) (EL aa aa (by simp only[oI,j5,ln];rfl));clear v a;rcases Ga hb with⟨rfl,o,q,a⟩|⟨rfl,o,q,a⟩
   .clear hb;replace a:ak _ _ _ [o,ba aK j c2 35 2 (mx ((ms.take j).map _)),aj _ _ 73,aj cM _ 24,F]:=a.u0;refine th ?_;refine ag ?_;refine an ?_;go_step;refine ah ?_;refine ag ?_;refine bh a 2 #[J R m.k,J R m.to,J R m.fr,J R m.n,ae d m.data.length f] ?_;refine aR (tt m.k m.to m.fr m.n d _ f _) ?_;rintro e b8 ⟨rfl,g⟩;replace a:=a.aI g;refine aU ?_;refine e7 a #[J R m.to,J R (cG m)] 35 (λX cA a=>?_);refine jV (m:=1) a 2 16 (aX.cellsOf (m:=1) (a.aW 0) aa) (by intro u G;simp only[gy,fQ,or_false]at G;rcases G with rfl|rfl<;>rfl) (λV Ri cR a=>?_) (hby:=by omega);refine ag ?_;refine an ?_;go_step;refine ah ?_;refine aG _ (mu 3 _ _ 3 aa _ 1 ((j+1:Nat):Int) aa aa ad ad ad) ?_;refine ag ?_;refine an ?_;go_wp2_with fail;go_roundw;case rel=>exact⟨_,_,_,_,_,ad,M,p,aa,aa,q,by rw[O,Y5];exact a.pick [2,4,1,5]⟩
    case measure=>grind[bQ]
   .clear hb;replace a:ak _ _ _ [o,ba aK j c2 35 2 (mx ((ms.take j).map _)),aj _ _ 73,aj cM _ 24,F]:=a.u0;refine th ?_;refine ag ?_;refine an ?_;go_wp2_with fail;first|go_end0|refine bodyPost_ret (results_none rfl _ _ _) rfl ?_
    exact tX.cut p q (((a.pick (l':=[aj cM _ 24,ba aK j c2 35 2 _,o,F]) [3,1,0,4]).fh 2).pick [1,0,2])
  .have T:¬(j:Int)<(ms.length:Int):=ad;go_step;refine ah ?_;refine ag ?_;refine an ?_;go_wp2_with fail;first|go_end0|refine bodyPost_ret (results_none rfl _ _ _) rfl ?_
   exact tX.all (Fin:=λl=>tY ms l/\l.length=ms.length) ⟨s,ad⟩ C trivial (((a.pick (l':=[aj cM _ 24,ba aK j c2 35 2 _,t,F]) [1,0,2,3]).fh 2).pick [1,0,2])
def axq A(n c)w:
 aD ax 172 #[ae A n c] w λe w'=>∃cM,e=aB (dI (ed 246) #[] #[ay (ab ⟨cM,0,af⟩)])/\cf w w' (aj cM #[ae A n c] 24):=by
 go_enter func172,ntmps172;have a:=a8 w;go_step;refine ah ?_;refine bL a (ae A n c) (λb w1 a=>?_);refine ag ?_;refine ah ?_;refine dU ?_;go_wp2_with fail;go_ret;exact⟨_,aa,a.fresh 0⟩
def prefix_at A c ms w(v:cU w A ms)(hv:∀m∈ms,gd m)(eR:ms.length<=1048576):
 aD ax 84 #[ae A ms.length c] w λe w'=>e=aB (J R (su ms:Int))/\au w w':=by
 have Y:=hid v;have I:=hid hv;have s:∀cM,Hk ax 246 #[ay (ab ⟨cM,0,af⟩)] (λx:Es=>#[J R (x.1:Int),ae x.2.1 x.1 x.2.2]) w (λ_=>False) (aj cM #[ae A ms.length c] 24) (λ_=>True) (tY ms) (λl=>tY ms l/\l.length=ms.length) (IV ms):=λcM=>axt cM A c ms w _ (λW g=>v.aI g) eR;clear v hv;refine Aq func84 aa ?_;simp only[ntmps84,iK,jQ,mq,pV,pW,qa,p7,lJ,pj];have a:=a8 w;go_upto_region 0 with fail;refine cw ?_;refine bL a (ae A ms.length c) (λd w1 a=>?_);refine bl a #[J R 0] (λf aT a=>?_);refine an ?_;go_upto_region 1 with fail;refine cw ?_;refine pl a 1 0 ?_;refine aR (axq A _ c _) ?_;rintro e bF ⟨U,rfl,Z⟩;replace a:=a.new _ Z;refine aU ?_;refine an ?_;go_wp2_with fail;have H:ak _ _ _ [aj U #[ae A ms.length c] 24,bP [aj d #[ae A ms.length c] 24,aj f #[J R 0] 3],bP []]:=ak.Cr (a.pick [0,2,1]);refine US (encs:=(λx:Es=>#[J R (x.1:Int),ae x.2.1 x.1 x.2.2])) aa (lf Tryz.func246 bc aa) (λ_=>aa) (s _) (λpre t=>aE (∀i,i<pre.length->zm ms i=ao)/\t=bP _) (λbt pre t=>(match bt with|.ret=>∃j:Nat,aE (su ms=j)/\t=bP [aj d #[ae A ms.length c] 24,aj f #[J R (j:Int)] 3]|_=>False)) (⟨hid (λi hi=>absurd hi (Nat.not_lt_zero _)),aa⟩) H ?_ ?_ ?_;all_goals clear H a
 .rintro l rd pre ⟨j,aK,c2⟩ W t F P o1 ⟨p,rfl⟩ a;obtain⟨hx1,fj⟩:=tY.last P;simp only at hx1;have z:j<ms.length:=ad;have K:=hid hx1;clear hx1 fj;replace a:=a.kM;repeat((fail_if_success (with_reducible refine at_region ?_));gi_step)
  refine jX ?_;refine ag ?_;refine an ?_;repeat((fail_if_success (with_reducible refine at_region ?_));gi_step)
  refine jX ?_;refine ag ?_;refine an ?_;first|refine BV ?_|skip
  simp only[Exit.then];refine Am a 2 o1 (λb8 a=>?_);replace a:ak _ _ _ [aj d #[ae A ms.length c] 24,aj f #[J R 0] 3,obj l (ga {rd with state:=sJ}),both (IV ms (j,aK,c2)) F]:=a;replace a:=(a.pk [3,0,1,2]).fx;obtain⟨m,B⟩:∃m,ms[j]?=ab m:=⟨_,cE z⟩;obtain⟨L,T,o,q,M,_,N⟩:=cU.jb Y.out B;have S:=I.out m (cX B);have Q:zm ms j=FZ m ((ms.take j).map ck):=by grind[zm]
  have O:((ms.take j).map ck).length=j:=aH
  have G:aE (∀W,Row 0 W aK j c2 35 2 (mx ((ms.take j).map ck))->aD ax 173 #[ar #[J R m.k,J R m.to,J R m.fr,J R m.n,ae o m.data.length q],ae aK j c2] W λe w'=>e=aB (ai (zm ms j))/\au W w'):=hid (λW hr=>by
   obtain⟨_,hs⟩:=Row.Uv hr
   have h:=avz aK o c2 q m ((ms.take j).map ck) W S ad hs (λe he=>by obtain⟨y,hy,rfl⟩:=List.mem_map.1 he;have:=(I.out y (List.mem_of_mem_take hy)).ck;exact⟨this.1,Eh this.2.1,this.2.2⟩);rw[O,<-Q]at h;exact h);have X:=hid N;have V:=hid M;obtain⟨Ja,C⟩:=ex (zm ms j);rw[C]at G;have E:=hid C;clear B M N S Q O C s;repeat((fail_if_success (with_reducible refine at_region ?_));gi_step)
  refine jX ?_;refine pl a 2 0 ?_;refine ag ?_;refine aG (ay (ab ⟨L,(T+j*5),af⟩)) (b4 24 73 5 (bj 9) (bj 10) aa ee bc _ _ _ _ _ _ (by show ae A _ _=_;rw[V.out]) aa z aa) ?_;refine aG (ar #[J R m.k,J R m.to,J R m.fr,J R m.n,ae o m.data.length q]) (by(refine eW 73 (bj 11) aa L (T+j*5) aa ([J R m.k,J R m.to,J R m.fr,J R m.n,ae o m.data.length q]:List aP) (X.out _ a.only) fO aa bc)) ?_;refine ag ?_;refine aR (G.out _ (a.atR 0)) ?_;rintro e cA ⟨rfl,g⟩;replace a:=a.aI g;refine aU ?_;refine an ?_;cases Ja with
  |false=>
   replace a:=(a.pk [0,1,2,3,4]).star;repeat gi_step
   have b:=a.pk [1,2,3,0];replace b:ak _ _ _ [bP [aj d #[ae A ms.length c] 24,aj f #[J R 0] 3],obj l (ga {rd with state:=sJ}),both (IV ms (j,aK,c2)) F]:=b.fh 2;refine⟨_,?_,b⟩;exact⟨hid (λi hi=>by rw[c7,vr]at hi;rcases vv.1 hi with h|h;exact p.out i h;rw[h,<-K.out];exact E.out),aa⟩
  |true=>
   repeat((fail_if_success (with_reducible refine at_region ?_));gi_step)
   refine jX ?_;refine ag ?_;refine a' a 3 (J R (j:Int)) (λcR a=>?_);refine an ?_;replace a:=(a.pk [0,1,2,3,4]).star;repeat gi_step
   have b:=a.pk [1,2,3,0];replace b:ak _ _ _ [bP [aj d #[ae A ms.length c] 24,aj f #[J R (j:Int)] 3],obj l (ga {rd with state:=sJ}),both (IV ms (j,aK,c2)) F]:=b.fh 2;refine⟨_,?_,b⟩;exact⟨j,hid (avc z E.out (λi hi=>p.out i (by rw[<-K.out];exact hi))),aa⟩
 .rintro D xs t u W hQ ⟨p,rfl⟩ hu a;replace a:=a.kM;replace a:=(a.pk [4,0,1,2,3]).kM;have r:=hid (avb (ms:=ms) (λi hi=>p.out i ad));clear hQ s;go_upto_region 6 with fail;refine cw ?_;refine pl a 0 0 ?_;refine ag ?_;refine a' a 1 (J R (ms.length:Int)) (λdz a=>?_);refine an ?_;go_wp2_with fail;refine zc a 3 (λw' a=>⟨F2 aa aa (a.aW 1) aw,by rw[r.out],a.only⟩)
 .rintro D bt pre t u W P h a;cases bt with
  |ret=>
   obtain⟨j,r,rfl⟩:=h;replace a:=a.kM;go_wp2_with fail;refine zc a 3 (λw' a=>⟨F2 aa aa (a.aW 1) aw,by rw[r.out],a.only⟩)
  |_=>exact h.elim
def Jl(ms:List bO):Int×Int:=if su ms<ms.length then(16,(su ms:Int))else(0,0)
def awI A c ms w(d:cU w A ms)(hv:∀m∈ms,gd m)(j:ms.length<=1048576):
 aD ax 33 #[ae A ms.length c] w λe w'=>e=aB (ar #[J R (Jl ms).1,J R (Jl ms).2])/\au w w':=by
 have b:=hid (λW g=>prefix_at A c ms W (d.aI g) hv j);obtain⟨q,f⟩:=ex (su ms);unfold Jl;rw[f]at b⊢;clear d hv f;by_cases h:q<ms.length;·have k:(q:Int)<(ms.length:Int):=ad;rw[if_pos h];go_enter Tryz.func33,Tryz.ntmps33;have a:=a8 w;go_step;refine ah ?_;refine bl a #[J _ 0,J _ 0] (λi w1 a=>?_);refine b5 ?_;refine bC (b.out _ a.only) a (λl a=>?_);refine ag ?_;refine ah ?_;refine v4 ?_;refine gV ?_;refine a' a 0 (ar #[J R 16,J R (q:Int)]) (λn a=>?_);refine an ?_;go_wp2_with fail;refine c' (v:=_) (gG aa _ _ _ _ _ _ _ aa (a.aW 0) x5 aa aw) aa (⟨aa,a.only⟩)
 .have k:¬(q:Int)<(ms.length:Int):=ad;rw[if_neg h];go_enter Tryz.func33,Tryz.ntmps33;have a:=a8 w;go_step;refine ah ?_;refine bl a #[J _ 0,J _ 0] (λi o a=>?_);refine b5 ?_;refine bC (b.out _ a.only) a (λp a=>?_);refine ag ?_;refine ah ?_;refine v4 ?_;refine b5 ?_;refine a' a 0 (ar #[J R 0,J R 0]) (λr a=>?_);refine an ?_;go_wp2_with fail;refine c' (v:=_) (gG aa _ _ _ _ _ _ _ aa (a.aW 0) x5 aa aw) aa (⟨aa,a.only⟩)
def r'(d:dR)(bd:Nat)(m:bO):List Int:=if m.k=1 then jI d (hU bd m.fr.toNat m.n.toNat)else m.data
def uU(d:dR)(bd:Nat)(l:List bO)(j:Nat):List Int:=(l.take j).flatMap (r' d bd)
def au8{d bd l j m}(h:l[j]?=ab m):uU d bd l (j+1)=uU d bd l j++r' d bd m:=by grind[uU,gq]
def Aw(E:pT)(d:dR):Int:=
 if ij (jI d (hU E.bd 0 E.o))=E.g1.l then(if ij ((o8 E.ms).flatMap (r' d E.bd))=E.g2.l then 0 else 15)else 14
def HJ{bd pk}(hb:1<=bd)(a q):lM pk (hU bd a q)<=max pk (bd:Int):=by
 have h:∀(l) z,(∀x∈l,x.2<=(bd:Int))->z<=max pk (bd:Int)->lM z l<=max pk (bd:Int):=by
  intro l;induction l with
  |nil=>intro z _ hz;exact hz
  |cons x l d=>
   intro z b hz;have h1:=b x (sU ..);exact d (max z _) (λy c=>b y (p8 _ c)) ad
 refine h _ _ (λx hx=>?_) ad;obtain⟨e,c4,rfl,_,_,f,_⟩:=T4 hb hx;show(c4:Int)<=_;omega
def Zb{d o n bd m}(b:dY d)(hb:1<=bd)(h:jZ o n m)(ho:o<=d.bytes.length)(hn:n<=d.bytes.length):(r' d bd m).length<=1048576:=by
 have c:=b.small;rw[<-b.len]at c;unfold r';by_cases hk:m.k=1;·rw[if_pos hk];obtain⟨h1,a,_⟩:=h.1.copy hk;have e:=h.2.1 hk;exact dT (HI b hb _ _ _ ad) ad
 .rw[if_neg hk];have h1:=h.2.2;have a:=h.1.ck;unfold cG at h1 a;rw[if_neg hk]at h1 a;omega
def aeY{d o n bd}(a:dY d)(hb:1<=bd)(ho:o<=d.bytes.length)(hn:n<=d.bytes.length):∀(l:List bO),(∀m∈l,jZ o n m)->(l.flatMap (r' d bd)).length<=l.length*1048576
 |[],_=>by simp
 |m::l,h=>by have h1:=Zb a hb (h m (sU ..)) ho hn;have b:=aeY a hb ho hn l (λx hx=>h x (p8 _ hx));rw[Ya,c7,jQ,Ae];omega
def ap1{d o n m}(a:dY d)(h:jZ o n m)(hn:n<=d.bytes.length):m.data.length<=140737488355328:=by
 by_cases hk:m.k=1;·rw[(h.1.copy hk).2.2.2];exact cC _
 .have h1:=h.2.2;have c:=h.1.ck;have e:cG m=(m.data.length:Int):=if_neg hk;have b:=a.small;rw[<-a.len]at b;omega
def aoS E(y st nx)bI m d Y(aq w)FX F(hc:ia Y E.A E.c E.ms)(hv:r5 E.o E.n E.ms)(x:dY d)(cV:d.down=ao)(iO:1<=E.bd)(hb2:E.bd<=65536)(C6:E.o<=d.bytes.length)(nb:E.n<=d.bytes.length)(g:ak aq FX w [cH E y st nx bI,aN E.B m d,Y,F]):
 aD ax 142 #[ay (ab ⟨E.dj,0,af⟩)] w λe w'=>e=se (Aw E d) (bn #[])/\∃gD,gD<=max y (E.bd:Int)/\ak aq FX w' [cH E gD st nx bI,aN E.B m d,Y,F]:=by
 have rZ:aE (∀W u F m t msg pk (a q),a+q<=d.bytes.length->msg.length<=1099511627776->ak aq FX W [cH E pk st nx bI,iE t u msg,aN E.B m d,F]->aD _ 224 #[ay _,ay _,ar #[J R (a:Int),J R (q:Int)]] W λe w'=>∃Gn,e=aB _/\ak aq FX w' _):=hid (λW u F m t msg pk a q hn hl h=>Z3 E pk st nx bI m d a q t u msg aq W FX F x cV hn iO hb2 hl h);have cJ:=hid hv;have c6:=hid hc;have aBp:=hv.dM;have fG:=Ux E.ms;have hpl:=aeY x iO C6 nb _ (λm v=>hv.fits m (F8 v));have zS:aE (∀m∈o8 _,jZ _ _ m/\(r' d _ m).length<=1048576):=hid (λm v=>⟨hv.fits m (F8 v),Zb x iO (hv.fits m (F8 v)) C6 nb⟩);have eg:=hid (λW h=>af6 (E.o:Int) (E.n:Int) E.g1 E.g2 _ E.c _ W (hc.wm h) hv.dM (λm v=>ap1 x (hv.fits m v) nb));have gU:(jI d (hU E.bd 0 E.o)).length<=1048576:=by have h1:=HI x iO E.o 0 E.o ad;have V:=x.small;rw[<-x.len]at V;exact dT h1 ad
 obtain⟨ce,hce⟩:=ex (Aw E d);rw[hce];unfold Aw at hce;obtain⟨G,uw⟩:=ex (jI d (hU E.bd 0 E.o));rw[uw]at hce gU;have zP:=hid uw;have M:=hid hce;have sN:=hid x;clear hce uw hc cV hv x;by_cases N:ij G=E.g1.l
 .have vi:=hid N;have P:=M.out;rw[if_pos N]at P;have M:=hid P;clear N P;go_enter VF,Tryz.ntmps142;go_step;refine ah ?_;refine aR (A2 _) ?_;rintro e w1 ⟨t,rfl,H⟩;replace g:=g.new _ H;refine aU ?_;refine hX ?_;refine bR g [10] (λ_ _=>a7) (λr=>λ|10=>both (cH E (lM y (hU E.bd 0 E.o)) st nx bI) (iE t (r 10).A ([]++jI d (hU E.bd 0 E.o)))|_=>emp) (λ|10=>[1,0]|_=>[]) (λ|8=>[1]|10=>[2]|_=>[]) (λ|10=>[10]|_=>[]) [2,3,4,15] (λr=>?_);refine Bx ?_;refine dl 0 3 ?_ (hv:=r6 (j:=3) aa);refine aJ ?_;refine di (λs Fr g=>((rZ s _ (bP Fr) m t [] _ 0 E.o ad bg g.t3)).mono ?_) ?_;·rintro e dr ⟨Q,rfl,g⟩;exact⟨{A:=Q},aa,ak.iF [both _ _,aN _ m d] Fr g⟩
  refine bW λaT g=>?_;generalize (r 10).A=BA at g⊢;replace g:=(g.pk [3,0,1,2]).fx;rw[lJ,zP]at g;have S:(lM y (hU _ 0 E.o))<=max _ _:=HJ iO _ _;obtain⟨FW,T⟩:=ex ((lM y (hU E.bd 0 E.o)));rw[T]at g S;clear T;refine cy ?_;refine bR g [1] (λi _=>match i with|1=>ar (aM a6 (ij G) [])|_=>a7) (λ_ _=>emp) (λ_=>[]) (λ|1=>[1]|6=>[0]|_=>[]) (λ_=>[]) [0,1,2,3,4,6] (λr=>?_);refine aJ ?_;refine dK (λs _ g=>zq t _ G s ad (g.at 0)) ?_;refine hW ?_;refine aL _ (λ_ _ g=>mH aa aa (g.aW 0) YC (by rw[pr];simp[aM,E.g1.len]) aw (by simp only[aM,kE,iK,hB,E.g1.len];kernel_rfl)) ?_;refine aL (ai ao) (λ_ _ _=>(yC 23 5 32 _ _ 23 aa sK mm aw aw _ _ aa aa (s8 G) E.g1.len).trans (by rw[vi];simp)) ?_;refine bW λbF g=>?_;replace g:=g.drop 5;refine ah ?_;refine aR (A2 _) ?_;rintro e b8 ⟨L,rfl,H⟩;replace g:=g.new _ H;refine aU ?_;refine J7 ?_;refine aG (ar (bb (E.o:Int) (E.n:Int) E.g1 E.g2 (ae E.A E.ms.length E.c))) (mH aa aa (g.aW 1) amt (by rw[bH,pr];decide) aw (by rw[bH];kernel_rfl)) ?_;refine aR (eg _ (g.at 4)) ?_;rintro e cA ⟨aK,c2,zv,rfl,H,XW⟩;replace g:=g.new _ H;refine aU ?_;refine aG _ (aer (ft:=24) (k:=66) 26 _ 4 aa aa aw aw e') ?_;refine dU ?_;obtain⟨l,fY⟩:=ex (o8 E.ms);have hce:=M.out;rw[fY]at XW zS fG hpl hce⊢;have M:=hid hce;clear fY hce eg;have bJ:=g.pk [2,1,4,0,5,6];go_wp2_with fail;go_loopw [36] (λaO wr=>∃(j:Nat) (u:Option bT) (K:Int),j<=l.length/\aO=J R (j:Int)/\K<=max y (E.bd:Int)/\ak aq FX wr [cH E K st nx bI,iE L u (uU d E.bd l j),aN E.B m d,zv,Y,F]) (λaO wr=>l.length -(bQ aO).toNat);case atStart=>exact⟨0,_,_,cC _,aa,S,bJ⟩
  case round=>
   clear g bJ;obtain⟨j,u,K,hj,rfl,qu,g⟩:=hrel;by_cases hlt:j<l.length
   .have cb:(j:Int)<(l.length:Int):=ad;obtain⟨bB,v⟩:∃m,l[j]?=ab m:=⟨_,cE hlt⟩;obtain⟨z,D,CX,hcm⟩:=XW.cmd v;obtain⟨_,C,bx,_⟩:=hcm _ (g.at 3)
    have Z:aE (∀W,zv.p W->W.rangeAt C _ [J _ _,J _ _,J _ _,J _ _,ae z _ D]):=hid (λW hp=>by obtain⟨_,il,bE,cr⟩:=hcm W hp;rw[bx]at bE;injection bE with bE;injection bE with bE;rw[<-bE]at cr;exact cr);have iz:=hid (λW hp=>(hcm W hp).1);have cq:=hid bx;have P7:=hid CX;have cg:=hid v;clear bx hcm CX v;have U:=au8 (d:=d) (bd:=E.bd) cg;have fU:(uU d E.bd l j).length<=1099511627776:=by have h:l.flatMap (r' d E.bd)=uU d E.bd l j++(l.drop j).flatMap (r' d E.bd):=(by grind[uU,oa]);rw[h,c7]at hpl;omega
    obtain⟨msg,Ik⟩:=ex (uU d E.bd l j);obtain⟨X,gj⟩:=zS bB (cX cg);rw[Ik]at U fU g;clear Ik;go_step;refine ah ?_;refine bX ?_;by_cases hk:bB.k=1
    .obtain⟨h1,V,_⟩:=X.1.copy hk;have h3:=X.2.1 hk;obtain⟨f,hf⟩:=wW h1;obtain⟨q,hq⟩:=wW (Eh V);have CR:f+q<=d.bytes.length:=ad;have tO:aE (uU d _ l _=msg++jI d (hU _ f q)):=hid (by rw[U,r',if_pos hk,hf,hq];rfl);rw[hk,hf,hq]at Z;clear U hk hf hq h1 V h3 X;refine ah ?_;refine aG (ay (ab ⟨C,(0+j*5),af⟩)) (b4 24 73 5 (bj 34) (bj 36) aa ee aw C 0 (l.length) c2 j ((0+j*5)) (by show ae aK _ _=_;rw[cq]) aa hlt aa) ?_;refine aG _ (eW 73 _ aa C _ aa _ (Z _ (g.at 3)) fO aa aw) ?_;refine bl g #[J _ 0,J _ 0,J _ 0,J _ 0,ae _ 0 0] (λdw cR g=>?_);refine a' g 0 (ar _) (λdz g=>?_);refine ah ?_;refine bh g 0 #[J R 1,J R bB.to,J R (f:Int),J R (q:Int),ae z bB.data.length D] ?_;refine bC (Bk bB.to (f:Int) (q:Int) z _ D _) g (λdv g=>?_);refine v3 ?_;refine bl g #[J _ 0,J _ 0] (λen eU g=>?_);refine a' g 0 (ar _) (λgF g=>?_);refine ag ?_;refine ah ?_;refine hX ?_;refine bR g [5] (λ_ _=>a7) (λr=>λ|5=>both (cH E (lM K (hU E.bd f q)) st nx bI) (iE L (r 5).A (msg++jI d (hU E.bd f q)))|_=>emp) (λ|5=>[2,3]|_=>[]) (λ|4=>[0]|5=>[4]|_=>[]) (λ|5=>[5]|_=>[]) [0,1,4,5,6,7,13] (λr=>?_);refine hW ?_;refine eM 0 #[J R (f:Int),J R (q:Int)] ?_;refine di (λs Fr g=>((rZ s u (bP Fr) m L msg K f q CR ad g.t3)).mono ?_) ?_;·rintro e dr ⟨Q,rfl,g⟩;exact⟨{A:=Q},aa,ak.iF [both _ _,aN _ m d] Fr g⟩
     refine bW λhI g=>?_;generalize (r 5).A=ayU at g⊢;replace g:=(g.pk [6,0,1,2,3,4,5]).fx;refine ah ?_;refine pad (j:Int) 1 ((j+1:Nat):Int) ?_;refine bX ?_;go_wp2_with fail;go_roundw;case rel=>exact⟨j+1,_,(lM K (hU E.bd f q)),ad,aa,(by have:=HJ (pk:=K) iO f q;omega),by rw[tO.out];exact g.pick [0,1,4,5,6,7]⟩
     case measure=>simp[bQ]<;>omega
    .have tO:aE (uU d _ l _=msg++bB.data):=hid (by rw[U,r',if_neg hk]);have im:=by rw[r',if_neg hk]at gj;exact gj
     have jx:=hid (λW=>Bl _ bB.to bB.fr bB.n z bB.data.length D W hk);clear U hk gj X;refine ah ?_;refine aG (ay (ab ⟨C,(0+j*5),af⟩)) (b4 24 73 5 (bj 34) (bj 36) aa ee aw C 0 (l.length) c2 j ((0+j*5)) (by show ae aK _ _=_;rw[cq]) aa hlt aa) ?_;refine aG _ (eW 73 _ aa C _ aa _ (Z _ (g.at 3)) fO aa aw) ?_;refine bl g #[J _ 0,J _ 0,J _ 0,J _ 0,ae _ 0 0] (λdw jK g=>?_);refine a' g 0 (ar _) (λke g=>?_);refine ah ?_;refine bh g 0 #[J R bB.k,J R bB.to,J R bB.fr,J R bB.n,ae z bB.data.length D] ?_;refine bC (jx _) g (λk9 g=>?_);refine v3 ?_;refine bl g #[J _ 0,J _ 0] (λen mj g=>?_);refine a' g 0 (ar _) (λnp g=>?_);refine ag ?_;refine ah ?_;refine kg ?_;refine pl g 1 4 ?_;refine e7 g #[ae z bB.data.length D] 22 (λazo qH g=>?_);refine aR (UX L _ 0 1 u z D msg _ _ ad (g.has 4) ((g.aW 0).cell 0 aa) (iz _ (g.at 6)).1 (λb h=>g.ne (i:=6) (j:=4) aa aa aS b (P7.out b h))) ?_;rintro e rJ ⟨Oz,rfl,bM⟩;replace g:=g.eP 4 bM;refine aU ?_;refine ah ?_;refine pad (j:Int) 1 ((j+1:Nat):Int) ?_;refine bX ?_;go_wp2_with fail;go_roundw;case rel=>exact⟨j+1,_,_,ad,aa,qu,by rw[tO.out];exact g.pick [3,4,5,6,7,8]⟩
     case measure=>simp[bQ]<;>omega
   .have cb:¬(j:Int)<(l.length:Int):=ad;have Fh:uU d E.bd l j=l.flatMap (r' d E.bd):=by grind[uU]
    rw[Fh]at g;obtain⟨I,ace⟩:=ex (l.flatMap (r' d E.bd));have hce:=M.out;rw[ace]at g hpl hce;clear Fh ace;go_step;refine ah ?_;refine bX ?_;by_cases O:ij I=E.g2.l
    .rw[if_pos O]at hce;subst hce;have PW:=hid O;clear O;refine cy ?_;refine bR g [1] (λi _=>match i with|1=>ar (aM a6 (ij I) [])|_=>a7) (λ_ _=>emp) (λ_=>[]) (λ|1=>[1]|6=>[0]|_=>[]) (λ_=>[]) [0,1,2,3,4,5,7] (λr=>?_);refine aJ ?_;refine dK (λs _ g=>zq L u I s ad (g.at 0)) ?_;refine hW ?_;refine aL _ (λ_ _ g=>mH aa aa (g.aW 0) Hn (by rw[pr];simp[aM,E.g2.len]) aw (by simp only[aM,kE,iK,hB,E.g2.len];kernel_rfl)) ?_;refine aL (ai ao) (λ_ _ _=>(yC 23 5 32 _ _ 23 aa sK mm aw aw _ _ aa aa (s8 I) E.g2.len).trans (by rw[PW];simp)) ?_;refine bW λu3 g=>?_;replace g:=g.drop 6;go_wp2_with fail;first|go_end0|refine bodyPost_ret (results_none rfl _ _ _) rfl ?_
     exact⟨aa,_,qu,g.pick [0,2,4,5]⟩
    .rw[if_neg O]at hce;subst hce;have PW:=hid O;clear O;refine cy ?_;refine bR g [1] (λi _=>match i with|1=>ar (aM a6 (ij I) [])|_=>a7) (λ_ _=>emp) (λ_=>[]) (λ|1=>[1]|6=>[0]|_=>[]) (λ_=>[]) [0,1,2,3,4,5,7] (λr=>?_);refine aJ ?_;refine dK (λs _ g=>zq L u I s ad (g.at 0)) ?_;refine hW ?_;refine aL _ (λ_ _ g=>mH aa aa (g.aW 0) Hn (by rw[pr];simp[aM,E.g2.len]) aw (by simp only[aM,kE,iK,hB,E.g2.len];kernel_rfl)) ?_;refine aL (ai az) (λ_ _ _=>(yC 23 5 32 _ _ 23 aa sK mm aw aw _ _ aa aa (s8 I) E.g2.len).trans (by simp[PW.out])) ?_;refine bW λxO g=>?_;replace g:=g.drop 6;refine ah ?_;refine pk (vc 47 (J R 15)) ?_;refine NJ ?_;exact⟨aa,aa,_,qu,g.pick [0,2,4,5]⟩
 .have vi:=hid N;have P:=M.out;rw[if_neg N]at P;subst P;clear N;go_enter VF,Tryz.ntmps142;go_step;refine ah ?_;refine aR (A2 _) ?_;rintro e Bt ⟨t,rfl,H⟩;replace g:=g.new _ H;refine aU ?_;refine hX ?_;refine bR g [10] (λ_ _=>a7) (λr=>λ|10=>both (cH E (lM y (hU E.bd 0 E.o)) st nx bI) (iE t (r 10).A ([]++jI d (hU E.bd 0 E.o)))|_=>emp) (λ|10=>[1,0]|_=>[]) (λ|8=>[1]|10=>[2]|_=>[]) (λ|10=>[10]|_=>[]) [2,3,4,15] (λr=>?_);refine Bx ?_;refine dl 0 3 ?_ (hv:=r6 (j:=3) aa);refine aJ ?_;refine di (λs Fr g=>((rZ s _ (bP Fr) m t [] _ 0 E.o ad bg g.t3)).mono ?_) ?_;·rintro e dr ⟨Q,rfl,g⟩;exact⟨{A:=Q},aa,ak.iF [both _ _,aN _ m d] Fr g⟩
  refine bW λBu g=>?_;generalize (r 10).A=BA at g⊢;replace g:=(g.pk [3,0,1,2]).fx;rw[lJ,zP]at g;have S:(lM y (hU _ 0 E.o))<=max _ _:=HJ iO _ _;obtain⟨FW,T⟩:=ex ((lM y (hU E.bd 0 E.o)));rw[T]at g S;clear T;refine cy ?_;refine bR g [1] (λi _=>match i with|1=>ar (aM a6 (ij G) [])|_=>a7) (λ_ _=>emp) (λ_=>[]) (λ|1=>[1]|6=>[0]|_=>[]) (λ_=>[]) [0,1,2,3,4,6] (λr=>?_);refine aJ ?_;refine dK (λs _ g=>zq t _ G s ad (g.at 0)) ?_;refine hW ?_;refine aL _ (λ_ _ g=>mH aa aa (g.aW 0) YC (by rw[pr];simp[aM,E.g1.len]) aw (by simp only[aM,kE,iK,hB,E.g1.len];kernel_rfl)) ?_;refine aL (ai az) (λ_ _ _=>(yC 23 5 32 _ _ 23 aa sK mm aw aw _ _ aa aa (s8 G) E.g1.len).trans (by simp[vi.out])) ?_;refine bW λDD g=>?_;replace g:=g.drop 5;refine ah ?_;refine pk (vc 47 (J R 14)) ?_;refine NJ ?_;exact⟨aa,aa,_,S,g.pick [0,2,3,4]⟩
section
def ann B w:
 CallsD ax 223 #[ay (ab ⟨B,0,af⟩)] Vu w λe c w'=>e=aB (bn #[])/\c=Vu/\w'=w:=by
 refine callsD_of_wpS Tryz.func223 rfl λa cs b=>?_;apply wpS_seq;apply wpS_region;simp[wpOpsS,go_sem,recoverD,b,ahZ];refine wpS_of_wp ?_;go_wp2;cases a;simp_all [bodyPostS,nw,ajT]
def anm B bt v w(hb:aX w B #[v] 47):
 CallsD ax 223 #[ay (ab ⟨B,0,af⟩)] (.panicking (ud bt)) w λe g w'=>e=aB (bn #[])/\g=.panicking [{v:=vc 47 (J R bt),recovered:=az}]/\Turned w w' (aj B #[v] 47) (aj B #[J R bt] 47):=by
 refine callsD_of_wpS Tryz.func223 rfl λc cs f=>?_;apply wpS_seq;apply wpS_region;simp[wpOpsS,go_sem,recoverD,f,ud,ntmps223,ahZ];refine wpS_of_wp ?_;show Code.wp _ _ _ {tmps:=#[ay (ab ⟨B,0,af⟩),a7,a7,a7,vc 47 (J R bt),a7,a7,a7,a7,a7,a7],defers:=[]} w;have a:=ak.start (t:=aj B #[v] 47) ⟨hb,λb h=>by have d:b=B:=h;rw[d];exact aX.lt hb⟩;go_step;refine ah ?_;refine aG (ai ao) (by(go_simp)) ?_;refine an ?_;go_step;refine ah ?_;refine pk (bn #[J R bt,ai az]) ?_;refine v2 ?_;refine an ?_;go_step;refine ah ?_;refine ag ?_;refine an ?_;go_step;refine ah ?_;refine ag ?_;refine a' a 0 (J R bt) (λw1 a=>?_);refine an ?_;go_wp2_with fail;have i:=a.gl 0;cases c;simp_all [bodyPostS,nw,ajT]
section
variable {P:ew} {ops:Array cS} {Q:Exit->b3->aQ->Prop} {rest:List cS} {o:cS} {a bu:b3} {w:aQ}
def TZ(d:Deferred)(hr:(bA a.eval o).run P w=bf (.defer d) w)(h:cN P ops Q rest bu w)(c:c9 o (cZ ops a.tmps)=true:=by kernel_rfl)(b:{a with defers:=d::a.defers}.put o.dst a7=bu:=by((try simp only[Act.put,List.setIfInBounds_toArray,List.set_cons_zero,List.set_cons_succ]);rfl)):cN P ops Q (o::rest) a w:=by subst b;unfold cN;rw[if_pos c];refine b1 ?_;unfold iy;rw[hr];exact h
end
def N8 (g:Nat) lb bt (t F) (Q:bq->Prop) (aq w) FX (n:∀args w,(kB g args).run ax w=bf (.enter g args) w)
 (hf:∀W F,ak aq FX W [t,F]->aD ax g lb W λe w'=>e=se bt (bn #[])/\∃b,Q b/\ak aq FX w' [b,F]) (a:ak aq FX w [t,F]):
 aD ax 141 #[dI (ed g) lb #[]] w λe w'=>e=aB (J R bt)/\∃b,Q b/\ak aq FX w' [b,F]:=by
 have l:=hid hf;have k:=hid n;clear hf n;go_enter_defers func141,ntmps141;go_step;refine ah ?_;refine bl a #[J R 0] (λi w1 a=>?_);refine b5 ?_;refine TZ {target:=.fn (ed 223) #[ay (ab ⟨i,0,af⟩)],args:=#[]} aw ?_;refine an ?_;by_cases hz:bt=0;·have m:=hid hz;clear hz;refine ah ?_;refine ag ?_;have c:=(a.pk [1,0,2]).t1;refine aR ((l.out _ _ c)) ?_ (hr:=by(first|(go_simp;done)|(go_simp;exact k _ _)));rintro e o ⟨d,b,j,a⟩;clear c;rw[m]at d;subst d;replace a:=a.cW;refine aU ?_;refine ah ?_;refine a' a 1 (J R 0) (λu a=>?_);refine an ?_;go_wp2_with fail;refine Pz (f:=223) (args:=#[ay (ab ⟨i,0,af⟩)]) bg bc ?_;refine(ann _ _).mono ?_;rintro e s o ⟨rfl,rfl,rfl⟩;exact⟨_,F2 aa aa (a.aW 1) aw,by rw[m],b,j,a.pick [0,2]⟩
 .have p:=hid hz;clear hz;refine ah ?_;refine ag ?_;have c:=(a.pk [1,0,2]).t1;refine T2 (ch:=ud bt) ((l.out _ _ c).mono λe w' ⟨d,h⟩=>⟨d.trans (uk p.out _),h⟩) (λv q=>?_) (hr:=by(first|(go_simp;done)|(go_simp;exact k _ _)));clear c a;obtain⟨b,j,a⟩:=q;replace a:=a.cW;refine Pz (f:=223) (args:=#[ay (ab ⟨i,0,af⟩)]) bg bc ?_;refine(anm _ bt _ _ (a.aW 1)).mono ?_;rintro e s o ⟨rfl,rfl,r⟩;replace a:=a.eP 1 r;exact⟨_,F2 aa aa (a.aW 1) aw,aa,b,j,a.pick [0,2]⟩
end
structure pU where
 st:Int
 nx:Nat
 bI:Bool
 j:pg
 d:dR
def ji(E:pT)(s:pU):Int×pU:=
 if s.st=2 then(0,s)
 else if s.bI=az then
  if(kf s.d s.j.last.off.toNat s.j.last.data).1=0 then(0,⟨1,s.nx+1,ao,s.j,(kf s.d s.j.last.off.toNat s.j.last.data).2⟩)
  else((kf s.d s.j.last.off.toNat s.j.last.data).1,{s with d:=(kf s.d s.j.last.off.toNat s.j.last.data).2})
 else match(ec E.bd E.ms)[s.nx]? with
  |none=>if(oU E s.d s.j.next.toNat s.j).1=0 then(0,{s with st:=2,j:=(oU E s.d s.j.next.toNat s.j).2.1,d:=(oU E s.d s.j.next.toNat s.j).2.2})
   else((oU E s.d s.j.next.toNat s.j).1,{s with j:=(oU E s.d s.j.next.toNat s.j).2.1,d:=(oU E s.d s.j.next.toNat s.j).2.2})
  |some bB=>if(l2 s.d E.first E.bd E.id s.j.next.toNat s.nx bB.to.toNat s.j (k1 s.d bB)).1=0 then(0,⟨1,s.nx+1,ao,(l2 s.d E.first E.bd E.id s.j.next.toNat s.nx bB.to.toNat s.j (k1 s.d bB)).2.1,(l2 s.d E.first E.bd E.id s.j.next.toNat s.nx bB.to.toNat s.j (k1 s.d bB)).2.2⟩)
   else((l2 s.d E.first E.bd E.id s.j.next.toNat s.nx bB.to.toNat s.j (k1 s.d bB)).1,{s with j:=(l2 s.d E.first E.bd E.id s.j.next.toNat s.nx bB.to.toNat s.j (k1 s.d bB)).2.1,d:=(l2 s.d E.first E.bd E.id s.j.next.toNat s.nx bB.to.toNat s.j (k1 s.d bB)).2.2})
structure DM (E:pT) (d:dR):Prop where
 eF:1<=E.bd
 eK:E.bd<=65536
 sy:r5 E.o E.n E.ms
 old:E.o<=d.bytes.length
 new:E.n<=d.bytes.length
 dM:(ec E.bd E.ms).length<=1048576
 id:E.id<18446744073709551616
 ch:∀bB∈ec E.bd E.ms,∃t:Nat,Gr d E.bd bB t/\(bB.k=1->bB.n<=(E.bd:Int))
structure r4 (E:pT) (s:pU):Prop where
 e:DM E s.d
 j:kC s.d E.first E.bd
 up:s.d.down=ao
 dM:s.d.cache.length<=1000000000
 next:0<=s.j.next/\s.j.next<18446744073709551616
 nx:s.nx<=(ec E.bd E.ms).length
 bI:s.bI=az->s.st≠2->s.j.has=az/\0<=s.j.last.off/\s.j.last.off.toNat+s.j.last.data.length<=s.d.bytes.length/\s.nx<(ec E.bd E.ms).length
def fF(E:pT)(b a:bq)(pk:Int)(s:pU)(A:Option bT)(c:Nat)(m:nT):bq:=bP [cH E pk s.st (s.nx:Int) s.bI,cY E s.j A c,aN E.B m s.d,b,a]
def gL(E:pT)(d b:bq)(a:Int)(s:pU)(t:bq):Prop:=∃pk A c m,pk<=max a (E.bd:Int)/\t=fF E d b pk s A c m
def gL.mk{E d b a pk s A c m}(h:pk<=max a (E.bd:Int)):gL E d b a s (fF E d b pk s A c m):=⟨pk,A,c,m,h,aa⟩
def yz(E:pT)(s:pU):Nat:=if s.bI=az then 144 else if s.nx=(ec E.bd E.ms).length then 145 else 143
def ami E(f g)pk s A c m(aq W)FX F(y:sS f E.p E.bd E.ms)(h:r4 E s)(hst:s.st≠2)(L:ak aq FX W [fF E f g pk s A c m,F]):
 aD ax (yz E s) #[ay (ab ⟨E.dj,0,af⟩)] W λe w'=>e=se (ji E s).1 (bn #[])/\∃K,gL E f g pk (ji E s).2 K/\ak aq FX w' [K,F]:=by
 obtain⟨st,nx,bI,j,d⟩:=s;have z:ak aq FX W [cH E pk st (nx:Int) bI,cY E j A c,aN E.B m d,f,g,F]:=L.kd;have G:=h.e.dM;have T:nx<=(ec E.bd E.ms).length:=h.nx;have S:=h.e.sy.dM;obtain⟨O,R⟩:0<=j.next/\j.next<18446744073709551616:=h.next;obtain⟨jn,H⟩:=wW O;have P:j.next.toNat=jn:=ad;simp only at hst;unfold ji yz;simp only[if_neg hst];by_cases u:bI=az
 .obtain⟨h1,C,w,_⟩:=h.bI u hst;simp only at h1 C w;obtain⟨a,M⟩:=wW C;have hat:j.last.off.toNat=a:=ad;rw[hat]at w⊢
  have N:j.last.data.length<=140737488355328:=by have D:=h.j.dev.small;rw[<-h.j.dev.len]at D;simp only at D;omega
  rw[if_pos u,if_pos u];have v:ak aq FX W [cH E pk st (nx:Int) bI,cY E j A c,aN E.B m d,bP [f,g,F]]:=ak.tail [cH E pk st (nx:Int) bI,cY E j A c,aN E.B m d] [f,g,F] z;refine(avH E pk st nx bI m d a j A c aq W FX (bP [f,g,F]) h.j.dev h.up w h.dM ad h1 M N v).mono λe w' ⟨o,q,r⟩=>?_;by_cases hz:(kf d a j.last.data).1=0;·obtain⟨b,k⟩:=q hz;rw[if_pos hz,o,hz];refine⟨aa,_,gL.mk (pk:=pk) (A:=A) (c:=c) (m:=b) ad,?_⟩;exact ak.fh 5 (ak.iF [cH E pk 1 _ _,cY E j A c,aN _ b _] _ k)
  .obtain⟨b,k⟩:=r hz;rw[if_neg hz,o];refine⟨aa,_,gL.mk (pk:=pk) (A:=A) (c:=c) (m:=b) ad,?_⟩;exact ak.fh 5 (ak.iF [cH E pk st _ bI,cY E j A c,aN _ b _] _ k)
 .rw[if_neg u,if_neg u];have v:ak aq FX W [cH E pk st (nx:Int) bI,cY E j A c,aN E.B m d,f,bP [g,F]]:=ak.tail [cH E pk st (nx:Int) bI,cY E j A c,aN E.B m d,f] [g,F] z;rw[P];by_cases I:nx=(ec E.bd E.ms).length
  .have hn:(ec E.bd E.ms)[nx]?=none:=List.getElem?_eq_none ad;rw[if_pos I,hn];simp only;refine(aml E pk st (nx:Int) bI m d jn j A c f aq W FX (bP [g,F]) y G h.e.new h.j h.up h.dM H ⟨ad,h.e.id⟩ v).mono λe w' ⟨o,q,r⟩=>?_;by_cases hz:(oU E d jn j).1=0;·obtain⟨i,l,b,k⟩:=q hz;rw[if_pos hz,o,hz];refine⟨aa,_,gL.mk (pk:=lM pk (hU _ 0 E.n)) (A:=i) (c:=l) (m:=b) (HJ h.e.eF _ _),?_⟩;exact ak.fh 5 (ak.iF [cH E _ 2 _ bI,cY E _ i l,aN _ b _,f] _ k)
   .obtain⟨i,l,b,k⟩:=r hz;rw[if_neg hz,o];refine⟨aa,_,gL.mk (pk:=lM pk (hU _ 0 E.n)) (A:=i) (c:=l) (m:=b) (HJ h.e.eF _ _),?_⟩;exact ak.fh 5 (ak.iF [cH E _ st _ bI,cY E _ i l,aN _ b _,f] _ k)
  .obtain⟨bB,x⟩:∃bB,(ec E.bd E.ms)[nx]?=ab bB:=⟨_,cE ad⟩;rw[if_neg I,x];simp only;obtain⟨t,hch,U⟩:=h.e.ch bB (cX x);have Q:bB.to.toNat=t:=by rw[hch.cQ];rfl
   rw[Q];have J:AD pk bB<=max pk (E.bd:Int):=by grind[AD]
   refine(apG E pk st nx bI m d jn t j A c bB f aq W FX (bP [g,F]) y ad G x hch h.j h.up h.dM H ⟨ad,h.e.id⟩ v).mono λe w' ⟨o,q,r⟩=>?_;by_cases hz:(l2 d E.first E.bd E.id jn nx t j (k1 d bB)).1=0;·obtain⟨i,l,b,k⟩:=q hz;rw[if_pos hz,o,hz];refine⟨aa,_,gL.mk (pk:=_) (A:=i) (c:=l) (m:=b) J,?_⟩;exact ak.fh 5 (ak.iF [cH E _ 1 _ ao,cY E _ i l,aN E.B b _,f] [g,F] k)
   .obtain⟨i,l,b,k⟩:=r hz;rw[if_neg hz,o];refine⟨aa,_,gL.mk (pk:=_) (A:=i) (c:=l) (m:=b) J,?_⟩;exact ak.fh 5 (ak.iF [cH E _ st _ bI,cY E _ i l,aN E.B b _,f] [g,F] k)
def Gr.yQ{d cI bd bB t}(h:Gr d bd bB t)(g:cI.bytes.length=d.bytes.length)(i:dY d)(j:dY cI):Gr cI bd bB t:=by
 have e:(k1 cI bB).length=(k1 d bB).length:=by
  unfold k1;by_cases hk:bB.k=1;·obtain⟨f,q,l,n,m⟩:=h.LX hk;grind[Bc]
  .grind
 exact⟨h.cQ,λhk=>by obtain⟨f,q,a,b,c⟩:=h.LX hk;exact⟨f,q,a,b,ad⟩,by rw[e];exact h.hD,by rw[e,g];exact h.fit⟩
def DM.yQ{E d cI}(h:DM E d)(c:cI.bytes.length=d.bytes.length)(e:dY d)(f:dY cI):DM E cI:=
 ⟨h.eF,h.eK,h.sy,by rw[c];exact h.old,by rw[c];exact h.new,h.dM,h.id,λbB g=>by obtain⟨t,a,b⟩:=h.ch bB g;exact⟨t,a.yQ c e f,b⟩⟩
def apE{d first bd id jn nx t j bs}(c:kC d first bd)(f:d.down=ao)(g:d.cache.length<=1000000000)(hb:bs.length<=bd)(i:t+bs.length<=d.bytes.length):
 kz d (l2 d first bd id jn nx t j bs).2.2/\((l2 d first bd id jn nx t j bs).1=0->(l2 d first bd id jn nx t j bs).2.2.down=ao/\(l2 d first bd id jn nx t j bs).2.2.cache=[]/\(l2 d first bd id jn nx t j bs).2.1.next =aF.wrap ((jn:Int)+1)):=by
 have h1:=Q9 (id:=id) (nx:=jn) (cu:=nx) (of:=t) (j:=j) c f g hb;unfold l2;by_cases h:(jG d first bd id j jn nx t bs).1≠0;·grind
 .rw[if_neg h];have e:=h1.2.1 (DL h);have a:=ag3 (o:=t) (bs:=bs) h1.1.ok (by rw[h1.1.len c.dev];exact i) e.1 aH;exact⟨h1.1.trans a.1,λb=>⟨(a.2 b).1,(a.2 b).2,aH⟩⟩
theorem apV{E d jn j}(a:kC d E.first E.bd)(b:d.down=ao)(c:d.cache.length<=1000000000):kz d (oU E d jn j).2.2:=by
 unfold oU;split;·grind[Q9]
 .exact kz.refl a.dev
def agh{E s}(h:r4 E s)(hst:s.st≠2):kz s.d (ji E s).2.d/\((ji E s).1=0->(ji E s).2.st≠2->r4 E (ji E s).2/\(ji E s).2.nx=s.nx+1):=by
 obtain⟨st,nx,bI,j,d⟩:=s;have q:nx<=(ec E.bd E.ms).length:=h.nx;have a:kC d E.first E.bd:=h.j;have l:d.down=false:=h.up;have i:d.cache.length<=1000000000:=h.dM;have b:DM E d:=h.e;have m:0<=j.next/\j.next<18446744073709551616:=h.next;simp only at hst;unfold ji;simp only[if_neg hst];by_cases c:bI=az
 .obtain⟨_,_,f,g⟩:=h.bI c hst;simp only at f g;rw[if_pos c];have h1:=ag3 (o:=j.last.off.toNat) (bs:=j.last.data) a.dev f l i;by_cases hz:(kf d j.last.off.toNat j.last.data).1=0;·rw[if_pos hz];refine⟨h1.1,λ_ _=>⟨⟨b.yQ (h1.1.len a.dev) a.dev h1.1.ok,a.yQ h1.1,(h1.2 hz).1,?_,m,g,λh=>aH⟩,aa⟩⟩;grind
  .grind
 .rw[if_neg c];by_cases p:nx=(ec E.bd E.ms).length;·grind[apV]
  .obtain⟨bB,k⟩:∃bB,(ec E.bd E.ms)[nx]?=ab bB:=⟨_,cE ad⟩;rw[k];simp only;obtain⟨t,hch,r⟩:=b.ch bB (cX k);have n:bB.to.toNat=t:=by rw[hch.cQ];rfl
   rw[n];have h1:=apE (id:=E.id) (jn:=j.next.toNat) (nx:=nx) (t:=t) (j:=j) a l i hch.hD hch.fit;by_cases hz:(l2 d E.first E.bd E.id j.next.toNat nx t j (k1 d bB)).1=0
   .rw[if_pos hz];refine⟨h1.1,λ_ _=>⟨⟨b.yQ (h1.1.len a.dev) a.dev h1.1.ok,a.yQ h1.1,(h1.2 hz).1,?_,?_,?_,λh=>aH⟩,aa⟩⟩;·grind
    .show 0<=(l2 d E.first E.bd E.id j.next.toNat nx t j (k1 d bB)).2.1.next /\_;rw[(h1.2 hz).2.2];exact wrap_u64 _
    .grind
   .grind
def wk(E:pT):Nat->pU->Int×pU
 |0,s=>(0,s)
 |k+1,s=>if(ji E s).1≠0\/(ji E s).2.st=2 then ji E s else wk E k (ji E s).2
def Um{E s}(h:s.st=2):ji E s=(0,s):=by grind[ji]
theorem afy{E}:∀(k) s,r4 E s->kz s.d (wk E k s).2.d
 |0,s,h=>kz.refl h.j.dev
 |k+1,s,h=>by
  unfold wk;by_cases hst:s.st=2;·rw[Um hst,if_pos (cm hst)];exact kz.refl h.j.dev
  .have h1:=agh h hst;by_cases a:(ji E s).1≠0\/(ji E s).2.st=2;·rw[if_pos a];exact h1.1
   .rw[if_neg a];have b:=h1.2 (DL λh=>a (b1 h)) (λh=>a (cm h));exact h1.1.trans (afy k _ b.1)
def aoR E(b a)pk s A c m(aq w)FX F(l:ia a E.A E.c E.ms)(h:r4 E s)(n:ak aq FX w [fF E b a pk s A c m,F]):
 aD ax 142 #[ay (ab ⟨E.dj,0,af⟩)] w λe w'=>e=se (Aw E s.d) (bn #[])/\∃f,gL E b a pk s f/\ak aq FX w' [f,F]:=by
 have o:ak aq FX w [cH E pk _ _ _,cY E _ A c,aN _ m _,b,a,F]:=n.kd;have g:ak aq FX w [cH E pk _ _ _,aN _ m _,a,bP _]:=ak.tail [cH E pk _ _ _,aN _ m _,a] [cY E _ A c,b,F] (o.pick [0,2,4,1,3,5]);refine(aoS E pk s.st (s.nx:Int) s.bI m s.d a aq w FX (bP [cY E s.j A c,b,F]) l h.e.sy h.j.dev h.up h.e.eF h.e.eK h.e.old h.e.new g).mono λe w' ⟨p,q,hle,i⟩=>⟨p,_,gL.mk (pk:=q) (A:=A) (c:=c) (m:=m) hle,?_⟩;have k:ak aq FX w' [cH E _ _ _ _,aN _ m _,a,cY E _ A c,b,F]:=ak.iF [cH E _ _ _ _,aN _ m _,a] _ i;exact ak.fh 5 (k.pick (l':=[cH E _ _ _ _,cY E _ A c,aN _ m _,b,a,F]) [0,3,1,4,2,5])
def Bs(E:pT)(s:pU):Int:=if s.st=0 then Aw E s.d else 0
def amO E(f b)pk s A c m(aq w)FX F(q:ia b E.A E.c E.ms)(h:r4 E s)(a:ak aq FX w [fF E f b pk s A c m,F]):
 aD ax 61 #[ay (ab ⟨E.dj,0,af⟩)] w λe w'=>e=aB (ar #[J R (Bs E s),J R 0])/\∃g,gL E f b pk s g/\ak aq FX w' [g,F]:=by
 have p:aE (∀W F,ak aq FX W [fF E f b pk s A c m,F]->aD ax 142 #[ay (ab ⟨E.dj,0,af⟩)] W λe w'=>e=se (Aw E s.d) (bn #[])/\∃g,gL E f b pk s g/\ak aq FX w' [g,F]):=hid (λW F k=>aoR E f b pk s A c m aq W FX F q h k);obtain⟨bt,n⟩:=ex (Aw E s.d);obtain⟨st,nx,bI,j,d⟩:=s;unfold Bs;simp only at n⊢;rw[n]at p⊢;clear n h;by_cases hst:st=0;·have l:=hid hst;rw[if_pos hst];clear hst;go_enter Tryz.func61,Tryz.ntmps61;replace a:ak _ _ _ [cH E pk st (nx:Int) bI,cY E j A c,aN E.B m d,f,b,F]:=ak.kd (a.pick (l':=[fF E f b pk ⟨st,nx,bI,j,d⟩ A c m,F]) [0,1]);go_step;refine ah ?_;refine bl a #[J R 0,J R 0] (λi w1 a=>?_);refine b5 ?_;refine aG (ai ao) (by(go_simp;try rfl)) ?_;refine jk ?_;refine pl a 1 72 ?_ (hv:=fy (j:=3) aa);refine dp l (ai ao) ?_;refine an ?_;replace a:ak _ _ _ [fF E f b pk ⟨st,nx,bI,j,d⟩ A c m,aj i #[J R 0,J R 0] 49,F]:=(a.pick (l':=[cH E pk st (nx:Int) bI,cY E j A c,aN E.B m d,f,b,aj i #[J R 0,J R 0] 49,F]) [1,2,3,4,5,0,6]).fh 5;refine ah ?_;refine v2 ?_;have o:=(a.pk [0,1,2]).t1;refine aR (N8 142 #[ay (ab ⟨E.dj,0,af⟩)] bt (fF E f b pk ⟨st,nx,bI,j,d⟩ A c m) _ (gL E f b pk ⟨st,nx,bI,j,d⟩) aq _ FX (lf VF aw aa) (λW F k=>p W F k) o) ?_;rintro e t ⟨rfl,g,r,a⟩;clear o;replace a:=a.cW;refine aU ?_;refine ag ?_;refine a' a 1 (ar #[J R bt,J R 0]) (λu a=>?_);refine an ?_;go_wp2_with fail;refine c' (v:=ar #[J R bt,J R 0]) (gG aa _ _ _ _ _ _ _ aa (a.aW 1) x5 aa aw) aa (⟨aa,g,r,a.pick [0,2]⟩)
 .have l:=hid hst;rw[if_neg hst];clear hst;go_enter Tryz.func61,Tryz.ntmps61;replace a:ak _ _ _ [cH E pk st (nx:Int) bI,cY E j A c,aN E.B m d,f,b,F]:=ak.kd (a.pick (l':=[fF E f b pk ⟨st,nx,bI,j,d⟩ A c m,F]) [0,1]);go_step;refine ah ?_;refine bl a #[J R 0,J R 0] (λi x a=>?_);refine b5 ?_;refine aG (ai ao) (by(go_simp;try rfl)) ?_;refine jk ?_;refine pl a 1 72 ?_ (hv:=fy (j:=3) aa);refine dp l (ai az) ?_;refine b5 ?_;refine a' a 0 (ar #[J R 0,J R 0]) (λy a=>?_);refine an ?_;replace a:ak _ _ _ [fF E f b pk ⟨st,nx,bI,j,d⟩ A c m,aj i #[J R 0,J R 0] 49,F]:=(a.pick (l':=[cH E pk st (nx:Int) bI,cY E j A c,aN E.B m d,f,b,aj i #[J R 0,J R 0] 49,F]) [1,2,3,4,5,0,6]).fh 5;go_wp2_with fail;refine c' (v:=ar #[J R 0,J R 0]) (gG aa _ _ _ _ _ _ _ aa (a.aW 1) x5 aa aw) aa (⟨aa,_,gL.mk (pk:=pk) (A:=A) (c:=c) (m:=m) ad,a.pick [0,2]⟩)
def amH E(b f)pk s A c m(aq w)FX F(Y:sS b E.p E.bd E.ms)(h:r4 E s)(a:ak aq FX w [fF E b f pk s A c m,F]):
 aD ax 62 #[ay (ab ⟨E.dj,0,af⟩)] w λe w'=>e=aB (bn #[ai (decide ((ji E s).1=0)&&decide ((ji E s).2.st=2)),J R (ji E s).1])/\∃G,gL E b f pk (ji E s).2 G/\ak aq FX w' [G,F]:=by
 obtain⟨bt,I,hs1⟩:∃bt I,ji E s=(bt,I):=⟨_,_,aa⟩;rw[hs1];simp only;have Z:aE (∀W,b.p W->aD ax 60 #[ay (ab ⟨E.p,0,af⟩)] W λe w'=>e=aB (J R ((ec E.bd E.ms).length:Int))/\au W w'):=hid (λW h=>YtcmhplknoglbkaaGreat.FX E.p E.bd E.ms W (Y W h));have T:aE (s.st≠2->∀W F,ak aq FX W [fF E b f pk s A c m,F]->aD ax (yz E s) #[ay (ab ⟨E.dj,0,af⟩)] W λe w'=>e=se bt (bn #[])/\∃G,gL E b f pk I G/\ak aq FX w' [G,F]):=hid (λhst W F M=>by have q:=ami E b f pk s A c m aq W FX F Y h hst M;rw[hs1]at q;exact q);have P:=Um (E:=E) (s:=s);rw[hs1]at P;have U:=h.nx;obtain⟨V,df⟩:∃z,(ec E.bd E.ms).length=z:=⟨_,aa⟩;rw[df]at Z U;have gp:=hid df;obtain⟨st,nx,bI,j,d⟩:=s;simp only at T P U;clear hs1 h Y df;by_cases hst:st=2
 .have O:=hid hst;have he:=P hst;simp only[pq]at he;obtain⟨rfl,rfl⟩:=he;clear P hst T;go_enter O',Pg;replace a:ak _ _ _ [cH E pk st (nx:Int) bI,cY E j A c,aN E.B m d,b,f,F]:=ak.kd (a.pick (l':=[fF E b f pk ⟨st,nx,bI,j,d⟩ A c m,F]) [0,1]);go_step;refine ah ?_;iterate 2 refine ag ?_
  refine an ?_;go_step;refine ah ?_;refine ag ?_;refine aG (ai ao) (by(go_simp;try rfl)) ?_;refine an ?_;go_step;refine ah ?_;iterate 3 refine ag ?_
  refine pl a 0 72 ?_ (hv:=fy (j:=3) aa);refine aG (ai az) (by(have h:=O.out;go_simp;try simp[h])) ?_;refine an ?_;go_step;refine ah ?_;iterate 2 refine ag ?_
  refine an ?_;replace a:ak _ _ _ [fF E b f pk ⟨st,nx,bI,j,d⟩ A c m,F]:=(a.pick (l':=[cH E pk st (nx:Int) bI,cY E j A c,aN E.B m d,b,f,F]) [0,1,2,3,4,5]).fh 5;go_wp2_with fail;go_ret2;exact⟨by rw[decide_eq_true O.out];rfl,_,gL.mk (pk:=pk) (A:=A) (c:=c) (m:=m) ad,a.pick [0,1]⟩
 .have O:=hid hst;have N:=hid (T hst);clear P hst T;cases bI with
  |true=>
   have K:=N;rw[show yz E ⟨st,nx,az,j,d⟩=144 by unfold yz;rw[if_pos aa]]at K;clear N;go_enter O',Pg;replace a:ak _ _ _ [cH E pk st (nx:Int) az,cY E j A c,aN E.B m d,b,f,F]:=ak.kd (a.pick (l':=[fF E b f pk ⟨st,nx,az,j,d⟩ A c m,F]) [0,1]);go_step;refine ah ?_;iterate 2 refine ag ?_
   refine an ?_;go_step;refine ah ?_;refine ag ?_;refine aG (ai ao) (by(go_simp;try rfl)) ?_;refine an ?_;go_step;refine ah ?_;iterate 3 refine ag ?_
   refine pl a 0 72 ?_ (hv:=fy (j:=3) aa);refine aG (ai ao) (by(have h:=O.out;go_simp;try simp[h])) ?_;refine an ?_;go_step;refine ah ?_;iterate 3 refine ag ?_
   refine an ?_;go_step;refine ah ?_;iterate 3 refine ag ?_
   refine pl a 0 74 ?_ (hv:=fy (j:=5) aa);refine ag ?_;refine an ?_;go_step;refine ah ?_;iterate 3 refine ag ?_
   refine an ?_;replace a:ak _ _ _ [fF E b f pk ⟨st,nx,az,j,d⟩ A c m,F]:=(a.pick (l':=[cH E pk st (nx:Int) az,cY E j A c,aN E.B m d,b,f,F]) [0,1,2,3,4,5]).fh 5;go_step;refine ah ?_;refine ag ?_;have L:ak _ _ _ ([fF E b f pk ⟨st,nx,az,j,d⟩ A c m]++[bP [F]]):=ak.tail [fF E b f pk ⟨st,nx,az,j,d⟩ A c m] [F] (a.pick [0,1]);refine aR (N8 144 #[ay (ab ⟨E.dj,0,af⟩)] bt (fF E b f pk ⟨st,nx,az,j,d⟩ A c m) _ (gL E b f pk I) aq _ FX (lf Tryz.func144 aw aa) (λW F M=>K W F M) L) ?_;rintro e w1 ⟨rfl,G,S,a⟩;clear L;replace a:ak _ _ _ [G,F]:=ak.iF [G] [F] a;refine aU ?_;refine ag ?_;refine an ?_;obtain⟨v,l,n,t,hle,rfl⟩:=S;obtain⟨k,u,x,r,o⟩:=I;replace a:ak _ _ _ [cH E v k (u:Int) x,cY E r l n,aN E.B t o,b,f,F]:=ak.kd (a.pick (l':=[fF E b f v ⟨k,u,x,r,o⟩ l n t,F]) [0,1]);by_cases D:bt=0
   .have H:=hid D;subst D;by_cases C:k=2
    .have y:=hid C;clear C;go_step;refine ah ?_;refine ag ?_;refine aG (ai az) (by(show _=_;kernel_rfl)) ?_;iterate 4 refine ag ?_
     refine pl a 0 72 ?_ (hv:=fy (j:=3) aa);refine aG (ai az) (by(have h:=y.out;go_simp;try simp[h])) ?_;iterate 4 refine ag ?_
     refine an ?_;replace a:ak _ _ _ [fF E b f v ⟨k,u,x,r,o⟩ l n t,F]:=(a.pick (l':=[cH E v k (u:Int) x,cY E r l n,aN E.B t o,b,f,F]) [0,1,2,3,4,5]).fh 5;go_wp2_with fail;go_ret2;exact⟨by rw[decide_eq_true y.out];rfl,_,gL.mk (s:=⟨k,u,x,r,o⟩) (pk:=v) (A:=l) (c:=n) (m:=t) hle,a.pick [0,1]⟩
    .have y:=hid C;clear C;go_step;refine ah ?_;refine ag ?_;refine aG (ai az) (by(show _=_;kernel_rfl)) ?_;iterate 4 refine ag ?_
     refine pl a 0 72 ?_ (hv:=fy (j:=3) aa);refine aG (ai ao) (by(have h:=y.out;go_simp;try simp[h])) ?_;iterate 4 refine ag ?_
     refine an ?_;replace a:ak _ _ _ [fF E b f v ⟨k,u,x,r,o⟩ l n t,F]:=(a.pick (l':=[cH E v k (u:Int) x,cY E r l n,aN E.B t o,b,f,F]) [0,1,2,3,4,5]).fh 5;go_wp2_with fail;go_ret2;exact⟨by rw[decide_eq_false y];rfl,_,gL.mk (s:=⟨k,u,x,r,o⟩) (pk:=v) (A:=l) (c:=n) (m:=t) hle,a.pick [0,1]⟩
   .have H:=hid D;clear D;go_step;refine ah ?_;refine ag ?_;refine aG (ai ao) (by(have h:=H.out;go_simp;try simp[h])) ?_;refine ag ?_;iterate 5 refine ps ?_
    iterate 4 refine ag ?_
    refine an ?_;replace a:ak _ _ _ [fF E b f v ⟨k,u,x,r,o⟩ l n t,F]:=(a.pick (l':=[cH E v k (u:Int) x,cY E r l n,aN E.B t o,b,f,F]) [0,1,2,3,4,5]).fh 5;go_wp2_with fail;go_ret2;exact⟨by rw[decide_eq_false H];rfl,_,gL.mk (s:=⟨k,u,x,r,o⟩) (pk:=v) (A:=l) (c:=n) (m:=t) hle,a.pick [0,1]⟩
  |false=>
   by_cases Q:nx=V
   .have X:=hid Q;have K:=N;rw[show yz E ⟨st,nx,ao,j,d⟩=145 by unfold yz;rw[if_neg bg,if_pos (Q.trans gp.out.symm)]]at K;clear N Q U;go_enter O',Pg;replace a:ak _ _ _ [cH E pk st (nx:Int) ao,cY E j A c,aN E.B m d,b,f,F]:=ak.kd (a.pick (l':=[fF E b f pk ⟨st,nx,ao,j,d⟩ A c m,F]) [0,1]);go_step;refine ah ?_;iterate 2 refine ag ?_
    refine an ?_;go_step;refine ah ?_;refine ag ?_;refine aG (ai ao) (by(go_simp;try rfl)) ?_;refine an ?_;go_step;refine ah ?_;iterate 3 refine ag ?_
    refine pl a 0 72 ?_ (hv:=fy (j:=3) aa);refine aG (ai ao) (by(have h:=O.out;go_simp;try simp[h])) ?_;refine an ?_;go_step;refine ah ?_;iterate 3 refine ag ?_
    refine an ?_;go_step;refine ah ?_;iterate 3 refine ag ?_
    refine pl a 0 74 ?_ (hv:=fy (j:=5) aa);refine ag ?_;refine an ?_;go_step;refine cy ?_;refine bR a [8] (λi _=>match i with|8=>J R (V:Int)|_=>a7) (λ_ _=>emp) (λ_=>[]) (λ|3=>[0]|7=>[0]|8=>[3]|_=>[]) (λ_=>[]) [0,1,2,3,4,5,14] (λus=>?_);iterate 3 refine aJ ?_
    refine dl 0 73 ?_ (hv:=fy (j:=4) aa);iterate 3 refine aJ ?_
    refine dl 0 70 ?_ (hv:=fy (j:=1) aa);refine di (λwl Fr a=>(Z wl (a.at 0)).mono ?_) ?_;·rintro e dr ⟨rfl,g⟩;exact⟨{},aa,(a.aI g).dE⟩
    refine aL (ai az) (λ_ _ _=>by(have h:=X.out;go_simp;try simp[h])) ?_;refine aJ ?_;refine pN (λaT a=>?_);replace a:ak _ _ _ [cH E pk st (nx:Int) ao,cY E j A c,aN E.B m d,b,f,F,emp]:=a;replace a:=a.drop 6;go_step;refine ah ?_;iterate 3 refine ag ?_
    refine an ?_;replace a:ak _ _ _ [fF E b f pk ⟨st,nx,ao,j,d⟩ A c m,F]:=(a.pick (l':=[cH E pk st (nx:Int) ao,cY E j A c,aN E.B m d,b,f,F]) [0,1,2,3,4,5]).fh 5;go_step;refine ah ?_;refine ag ?_;have L:ak _ _ _ ([fF E b f pk ⟨st,nx,ao,j,d⟩ A c m]++[bP [F]]):=ak.tail [fF E b f pk ⟨st,nx,ao,j,d⟩ A c m] [F] (a.pick [0,1]);refine aR (N8 145 #[ay (ab ⟨E.dj,0,af⟩)] bt (fF E b f pk ⟨st,nx,ao,j,d⟩ A c m) _ (gL E b f pk I) aq _ FX (lf Tryz.func145 aw aa) (λW F M=>K W F M) L) ?_;rintro e bF ⟨rfl,G,S,a⟩;clear L;replace a:ak _ _ _ [G,F]:=ak.iF [G] [F] a;refine aU ?_;refine ag ?_;refine an ?_;obtain⟨v,l,n,t,hle,rfl⟩:=S;obtain⟨k,u,x,r,o⟩:=I;replace a:ak _ _ _ [cH E v k (u:Int) x,cY E r l n,aN E.B t o,b,f,F]:=ak.kd (a.pick (l':=[fF E b f v ⟨k,u,x,r,o⟩ l n t,F]) [0,1]);by_cases D:bt=0
    .have H:=hid D;subst D;by_cases C:k=2
     .have y:=hid C;clear C;go_step;refine ah ?_;refine ag ?_;refine aG (ai az) (by(show _=_;kernel_rfl)) ?_;iterate 4 refine ag ?_
      refine pl a 0 72 ?_ (hv:=fy (j:=3) aa);refine aG (ai az) (by(have h:=y.out;go_simp;try simp[h])) ?_;iterate 4 refine ag ?_
      refine an ?_;replace a:ak _ _ _ [fF E b f v ⟨k,u,x,r,o⟩ l n t,F]:=(a.pick (l':=[cH E v k (u:Int) x,cY E r l n,aN E.B t o,b,f,F]) [0,1,2,3,4,5]).fh 5;go_wp2_with fail;go_ret2;exact⟨by rw[decide_eq_true y.out];rfl,_,gL.mk (s:=⟨k,u,x,r,o⟩) (pk:=v) (A:=l) (c:=n) (m:=t) hle,a.pick [0,1]⟩
     .have y:=hid C;clear C;go_step;refine ah ?_;refine ag ?_;refine aG (ai az) (by(show _=_;kernel_rfl)) ?_;iterate 4 refine ag ?_
      refine pl a 0 72 ?_ (hv:=fy (j:=3) aa);refine aG (ai ao) (by(have h:=y.out;go_simp;try simp[h])) ?_;iterate 4 refine ag ?_
      refine an ?_;replace a:ak _ _ _ [fF E b f v ⟨k,u,x,r,o⟩ l n t,F]:=(a.pick (l':=[cH E v k (u:Int) x,cY E r l n,aN E.B t o,b,f,F]) [0,1,2,3,4,5]).fh 5;go_wp2_with fail;go_ret2;exact⟨by rw[decide_eq_false y];rfl,_,gL.mk (s:=⟨k,u,x,r,o⟩) (pk:=v) (A:=l) (c:=n) (m:=t) hle,a.pick [0,1]⟩
    .have H:=hid D;clear D;go_step;refine ah ?_;refine ag ?_;refine aG (ai ao) (by(have h:=H.out;go_simp;try simp[h])) ?_;refine ag ?_;iterate 5 refine ps ?_
     iterate 4 refine ag ?_
     refine an ?_;replace a:ak _ _ _ [fF E b f v ⟨k,u,x,r,o⟩ l n t,F]:=(a.pick (l':=[cH E v k (u:Int) x,cY E r l n,aN E.B t o,b,f,F]) [0,1,2,3,4,5]).fh 5;go_wp2_with fail;go_ret2;exact⟨by rw[decide_eq_false H];rfl,_,gL.mk (s:=⟨k,u,x,r,o⟩) (pk:=v) (A:=l) (c:=n) (m:=t) hle,a.pick [0,1]⟩
   .have X:aE (¬(nx:Int)=(V:Int)):=hid ad;have K:=N;rw[show yz E ⟨st,nx,ao,j,d⟩=143 by unfold yz;rw[if_neg bg,if_neg (λh=>Q (h.trans gp))]]at K;clear N Q U;go_enter O',Pg;replace a:ak _ _ _ [cH E pk st (nx:Int) ao,cY E j A c,aN E.B m d,b,f,F]:=ak.kd (a.pick (l':=[fF E b f pk ⟨st,nx,ao,j,d⟩ A c m,F]) [0,1]);go_step;refine ah ?_;iterate 2 refine ag ?_
    refine an ?_;go_step;refine ah ?_;refine ag ?_;refine aG (ai ao) (by(go_simp;try rfl)) ?_;refine an ?_;go_step;refine ah ?_;iterate 3 refine ag ?_
    refine pl a 0 72 ?_ (hv:=fy (j:=3) aa);refine aG (ai ao) (by(have h:=O.out;go_simp;try simp[h])) ?_;refine an ?_;go_step;refine ah ?_;iterate 3 refine ag ?_
    refine an ?_;go_step;refine ah ?_;iterate 3 refine ag ?_
    refine pl a 0 74 ?_ (hv:=fy (j:=5) aa);refine ag ?_;refine an ?_;go_step;refine cy ?_;refine bR a [8] (λi _=>match i with|8=>J R (V:Int)|_=>a7) (λ_ _=>emp) (λ_=>[]) (λ|3=>[0]|7=>[0]|8=>[3]|_=>[]) (λ_=>[]) [0,1,2,3,4,5,14] (λus=>?_);iterate 3 refine aJ ?_
    refine dl 0 73 ?_ (hv:=fy (j:=4) aa);iterate 3 refine aJ ?_
    refine dl 0 70 ?_ (hv:=fy (j:=1) aa);refine di (λwl Fr a=>(Z wl (a.at 0)).mono ?_) ?_;·rintro e dr ⟨rfl,g⟩;exact⟨{},aa,(a.aI g).dE⟩
    refine aL (ai ao) (λ_ _ _=>by(have h:=X.out;go_simp;try simp[h])) ?_;refine aJ ?_;refine pN (λb8 a=>?_);replace a:ak _ _ _ [cH E pk st (nx:Int) ao,cY E j A c,aN E.B m d,b,f,F,emp]:=a;replace a:=a.drop 6;replace a:ak _ _ _ [fF E b f pk ⟨st,nx,ao,j,d⟩ A c m,F]:=(a.pick (l':=[cH E pk st (nx:Int) ao,cY E j A c,aN E.B m d,b,f,F]) [0,1,2,3,4,5]).fh 5;go_step;refine ah ?_;refine ag ?_;have L:ak _ _ _ ([fF E b f pk ⟨st,nx,ao,j,d⟩ A c m]++[bP [F]]):=ak.tail [fF E b f pk ⟨st,nx,ao,j,d⟩ A c m] [F] (a.pick [0,1]);refine aR (N8 143 #[ay (ab ⟨E.dj,0,af⟩)] bt (fF E b f pk ⟨st,nx,ao,j,d⟩ A c m) _ (gL E b f pk I) aq _ FX (lf Tryz.func143 aw aa) (λW F M=>K W F M) L) ?_;rintro e cA ⟨rfl,G,S,a⟩;clear L;replace a:ak _ _ _ [G,F]:=ak.iF [G] [F] a;refine aU ?_;refine ag ?_;refine an ?_;obtain⟨v,l,n,t,hle,rfl⟩:=S;obtain⟨k,u,x,r,o⟩:=I;replace a:ak _ _ _ [cH E v k (u:Int) x,cY E r l n,aN E.B t o,b,f,F]:=ak.kd (a.pick (l':=[fF E b f v ⟨k,u,x,r,o⟩ l n t,F]) [0,1]);by_cases D:bt=0
    .have H:=hid D;subst D;by_cases C:k=2
     .have y:=hid C;clear C;go_step;refine ah ?_;refine ag ?_;refine aG (ai az) (by(show _=_;kernel_rfl)) ?_;iterate 4 refine ag ?_
      refine pl a 0 72 ?_ (hv:=fy (j:=3) aa);refine aG (ai az) (by(have h:=y.out;go_simp;try simp[h])) ?_;iterate 4 refine ag ?_
      refine an ?_;replace a:ak _ _ _ [fF E b f v ⟨k,u,x,r,o⟩ l n t,F]:=(a.pick (l':=[cH E v k (u:Int) x,cY E r l n,aN E.B t o,b,f,F]) [0,1,2,3,4,5]).fh 5;go_wp2_with fail;go_ret2;exact⟨by rw[decide_eq_true y.out];rfl,_,gL.mk (s:=⟨k,u,x,r,o⟩) (pk:=v) (A:=l) (c:=n) (m:=t) hle,a.pick [0,1]⟩
     .have y:=hid C;clear C;go_step;refine ah ?_;refine ag ?_;refine aG (ai az) (by(show _=_;kernel_rfl)) ?_;iterate 4 refine ag ?_
      refine pl a 0 72 ?_ (hv:=fy (j:=3) aa);refine aG (ai ao) (by(have h:=y.out;go_simp;try simp[h])) ?_;iterate 4 refine ag ?_
      refine an ?_;replace a:ak _ _ _ [fF E b f v ⟨k,u,x,r,o⟩ l n t,F]:=(a.pick (l':=[cH E v k (u:Int) x,cY E r l n,aN E.B t o,b,f,F]) [0,1,2,3,4,5]).fh 5;go_wp2_with fail;go_ret2;exact⟨by rw[decide_eq_false y];rfl,_,gL.mk (s:=⟨k,u,x,r,o⟩) (pk:=v) (A:=l) (c:=n) (m:=t) hle,a.pick [0,1]⟩
    .have H:=hid D;clear D;go_step;refine ah ?_;refine ag ?_;refine aG (ai ao) (by(have h:=H.out;go_simp;try simp[h])) ?_;refine ag ?_;iterate 5 refine ps ?_
     iterate 4 refine ag ?_
     refine an ?_;replace a:ak _ _ _ [fF E b f v ⟨k,u,x,r,o⟩ l n t,F]:=(a.pick (l':=[cH E v k (u:Int) x,cY E r l n,aN E.B t o,b,f,F]) [0,1,2,3,4,5]).fh 5;go_wp2_with fail;go_ret2;exact⟨by rw[decide_eq_false H];rfl,_,gL.mk (s:=⟨k,u,x,r,o⟩) (pk:=v) (A:=l) (c:=n) (m:=t) hle,a.pick [0,1]⟩
theorem gL.trans{E d b pk a s t}(h:gL E d b a s t)(k:a<=max pk (E.bd:Int)):gL E d b pk s t:=by obtain⟨p,A,c,m,h1,e⟩:=h;exact⟨p,A,c,m,ad,e⟩
def rD(E:pT)(s:pU):Int×pU:=if Bs E s≠0 then(Bs E s,s)else wk E ((ec E.bd E.ms).length+1 -s.nx) s
def FP(b:Nat)(w:aQ):Nat:=match w.cell? ⟨b,73,af⟩with|some v=>(bQ v).toNat|none=>0
def gL.nx{E b a pk s t F aq W FX}(h:gL E b a pk s t)(e:ak aq FX W (t::F::[])):FP E.dj W=s.nx:=by obtain⟨p,A,c,m,_,rfl⟩:=h;have d:ak aq FX W [cH E p _ _ _,cY E _ A c,aN _ m _,b,a,F]:=e.kd;unfold FP;rw[aX.cell (d.aW 0) 73 (fy (j:=4) aa)];simp[bQ]
def amF E(r o)pk s A c m(aq w)FX F(Q:sS r E.p E.bd E.ms)(N:ia o E.A E.c E.ms)(h:r4 E s)(a:ak aq FX w [fF E r o pk s A c m,F]):
 aD ax 13 #[ay (ab ⟨E.dj,0,af⟩)] w λe w'=>e=aB (ar #[J R (rD E s).1,J R 0])/\∃C,gL E r o pk (rD E s).2 C/\ak aq FX w' [C,F]:=by
 have B6:aE (∀W s t F,r4 E s->gL E r o pk s t->ak aq FX W [t,F]->aD ax 62 #[ay (ab ⟨E.dj,0,af⟩)] W λe w'=>e=aB (bn #[ai (decide ((ji E s).1=0)&&decide ((ji E s).2.st=2)),J R (ji E s).1])/\∃C,gL E r o pk (ji E s).2 C/\ak aq FX w' [C,F]):=hid (λW s t F h l j=>by obtain⟨p,A,c,m,hle,rfl⟩:=l;exact(amH E r o p s A c m aq W FX F Q h j).mono λe w' ⟨y,C,l,h3⟩=>⟨y,C,l.trans hle,h3⟩);have I:=hid (λW F j=>amO E r o pk s A c m aq W FX F N h j);have P:aE (∀s t F W,gL E r o pk s t->ak aq FX W [t,F]->FP E.dj W=s.nx):=hid (λs t F W h j=>h.nx j);have U:=hid h;obtain⟨fin,k⟩:∃z,rD E s=z:=⟨_,aa⟩;rw[k];unfold rD at k;obtain⟨L,X⟩:∃z,fF E r o pk s A c m=z:=⟨_,aa⟩;rw[X]at I a;obtain⟨iL,hcv⟩:∃z,Bs E s=z:=⟨_,aa⟩;rw[hcv]at I k;clear h hcv Q N X;by_cases hz:iL=0
 .subst hz;rw[if_neg bg]at k;go_enter Tryz.func13,Tryz.ntmps13;go_step;refine ah ?_;refine bl a #[J R 0,J R 0] (λb w1 a=>?_);refine an ?_;go_step;refine ah ?_;refine ag ?_;have g:ak _ _ _ ([L]++[bP [aj b #[J R 0,J R 0] 49,F]]):=ak.tail [L] [aj b #[J R 0,J R 0] 49,F] (a.pick [1,0,2]);refine aR (I _ _ g) ?_;rintro e aT ⟨rfl,t1,l,a⟩;clear g;replace a:ak _ _ _ [t1,aj b #[J R 0,J R 0] 49,F]:=ak.iF [t1] [aj b #[J R 0,J R 0] 49,F] a;refine aU ?_;refine bl a #[J R 0,J R 0] (λd bF a=>?_);refine a' a 0 (ar #[J R 0,J R 0]) (λb8 a=>?_);refine an ?_;go_step;refine ah ?_;refine bh a 0 #[J R 0,J R 0] ?_;refine ag ?_;refine aG (ai ao) (by(show _=_;kernel_rfl)) ?_;refine an ?_;have S:=a.pick (l':=[t1,aj b #[J R 0,J R 0] 49,aj d #[J R 0,J R 0] 49,F]) [1,2,0,3];have O:aE (wk E ((ec E.bd E.ms).length+1 -s.nx) s=fin):=hid k;clear k I;go_wp2_with fail;go_loopw [] (λwr=>∃(u:Nat) (s:pU) (t:bq),r4 E s/\aE (wk E u s=fin)/\(ec E.bd E.ms).length+1 -s.nx<=u/\gL E r o pk s t/\ak aq FX wr [t,aj b #[J R 0,J R 0] 49,aj d #[J R 0,J R 0] 49,F]) (λwr=>(ec E.bd E.ms).length+1 -FP E.dj wr);case atStart=>exact⟨_,s,t1,U,O,b9 _,l,S⟩
  case round=>
   clear a S l O U;obtain⟨u,s,t,h,k,Y,l,a⟩:=hrel;have M:FP E.dj _=s.nx:=P s t (bP [aj b #[J R 0,J R 0] 49,aj d #[J R 0,J R 0] 49,F]) _ l (ak.tail [t] [aj b #[J R 0,J R 0] 49,aj d #[J R 0,J R 0] 49,F] a);have V:=h.nx;obtain⟨u,rfl⟩:∃f,u=f+1:=⟨u -1,ad⟩;have D:s.st≠2->(ji E s).1=0->(ji E s).2.st≠2->r4 E (ji E s).2/\(ji E s).2.nx=s.nx+1:=λhs=>(agh h hs).2;have G:=Um (E:=E) (s:=s);have n:=k.out;unfold wk at n;have i:=hid (λW F j=>B6 W s t F h l j);obtain⟨bt,B,hs1⟩:∃bt B,ji E s=(bt,B):=⟨_,_,aa⟩;rw[hs1]at D G n i;simp only at D G n i;clear hs1 k;by_cases K:bt=0
   .subst K;by_cases x:B.st=2
    .rw[if_pos (cm x)]at n;subst n;rw[decide_eq_true x]at i;clear D G x M Y V h;have i:=hid (λW F j=>(i W F j).mono λe w' h=>(show e=aB (bn #[ai az,J R 0])/\_ from h));go_step;refine ah ?_;refine ag ?_;have g:ak _ _ _ ([t]++[bP [aj b #[J R 0,J R 0] 49,aj d #[J R 0,J R 0] 49,F]]):=ak.tail [t] [aj b #[J R 0,J R 0] 49,aj d #[J R 0,J R 0] 49,F] (a.pick [0,1,2,3]);refine aR (i _ _ g) ?_;rintro e cA ⟨y,t2,H,a⟩;clear g;subst y;replace a:ak _ _ _ [t2,aj b #[J R 0,J R 0] 49,aj d #[J R 0,J R 0] 49,F]:=ak.iF [t2] [aj b #[J R 0,J R 0] 49,aj d #[J R 0,J R 0] 49,F] a;refine aU ?_;iterate 5 refine ag ?_
     refine an ?_;go_step;refine ah ?_;iterate 2 refine ag ?_
     iterate 2 refine ps ?_
     refine ag ?_;refine an ?_;go_step;refine ah ?_;iterate 2 refine ag ?_
     refine a' a 1 (ar #[J R 0,J R 0]) (λcR a=>?_);refine an ?_;go_wp2_with fail;refine c' (v:=ar #[J R 0,J R 0]) (gG aa _ _ _ _ _ _ _ aa (a.aW 1) x5 aa aw) aa (⟨aa,t2,H,a.pick [0,3]⟩)
    .rw[if_neg (by simp[x])]at n;rw[decide_eq_false x]at i;have hs2:s.st≠2:=λh=>x (by have q:=G h;simp only[pq]at q;rw[q.2];exact h);obtain⟨h6,h7⟩:=D hs2 aa x;have sO:aE (wk E u B=fin):=hid n;clear D G x hs2 n;have i:=hid (λW F j=>(i W F j).mono λe w' h=>(show e=aB (bn #[ai ao,J R 0])/\_ from h));go_step;refine ah ?_;refine ag ?_;have g:ak _ _ _ ([t]++[bP [aj b #[J R 0,J R 0] 49,aj d #[J R 0,J R 0] 49,F]]):=ak.tail [t] [aj b #[J R 0,J R 0] 49,aj d #[J R 0,J R 0] 49,F] (a.pick [0,1,2,3]);refine aR (i _ _ g) ?_;rintro e dz ⟨y,t2,H,a⟩;clear g;subst y;replace a:ak _ _ _ [t2,aj b #[J R 0,J R 0] 49,aj d #[J R 0,J R 0] 49,F]:=ak.iF [t2] [aj b #[J R 0,J R 0] 49,aj d #[J R 0,J R 0] 49,F] a;refine aU ?_;iterate 5 refine ag ?_
     refine an ?_;go_step;refine ah ?_;iterate 3 refine ag ?_
     refine aG (ai ao) (by(show _=_;kernel_rfl)) ?_;refine ag ?_;refine an ?_;have T:=a.pick (l':=[t2,aj b #[J R 0,J R 0] 49,aj d #[J R 0,J R 0] 49,F]) [0,1,2,3];have om:FP E.dj _=B.nx:=P B t2 (bP [aj b #[J R 0,J R 0] 49,aj d #[J R 0,J R 0] 49,F]) _ H (ak.tail [t2] [aj b #[J R 0,J R 0] 49,aj d #[J R 0,J R 0] 49,F] T);go_wp2_with fail;go_roundw;case rel=>exact⟨u,B,t2,h6,sO,ad,H,T⟩
     case measure=>(rw[om,M,h7];omega)
   .rw[if_pos (b1 K)]at n;subst n;rw[decide_eq_false K,ahK]at i;have Z:=hid K;clear D G M Y V h K;go_step;refine ah ?_;refine ag ?_;have g:ak _ _ _ ([t]++[bP [aj b #[J R 0,J R 0] 49,aj d #[J R 0,J R 0] 49,F]]):=ak.tail [t] [aj b #[J R 0,J R 0] 49,aj d #[J R 0,J R 0] 49,F] (a.pick [0,1,2,3]);refine aR (i _ _ g) ?_;rintro e dv ⟨y,t2,H,a⟩;clear g;subst y;replace a:ak _ _ _ [t2,aj b #[J R 0,J R 0] 49,aj d #[J R 0,J R 0] 49,F]:=ak.iF [t2] [aj b #[J R 0,J R 0] 49,aj d #[J R 0,J R 0] 49,F] a;refine aU ?_;iterate 5 refine ag ?_
    refine an ?_;go_step;refine ah ?_;iterate 3 refine ag ?_
    refine aG (ai az) (by(have h:=Z.out;go_simp;try simp[h])) ?_;refine ag ?_;refine an ?_;go_step;refine ah ?_;iterate 2 refine ag ?_
    refine a' a 1 (ar #[J R bt,J R 0]) (λeU a=>?_);refine an ?_;go_wp2_with fail;refine c' (v:=ar #[J R bt,J R 0]) (gG aa _ _ _ _ _ _ _ aa (a.aW 1) x5 aa aw) aa (⟨aa,t2,H,a.pick [0,3]⟩)
 .rw[if_pos hz]at k;subst k;have e3:=hid hz;clear hz;go_enter Tryz.func13,Tryz.ntmps13;go_step;refine ah ?_;refine bl a #[J R 0,J R 0] (λb gF a=>?_);refine an ?_;go_step;refine ah ?_;refine ag ?_;have g:ak _ _ _ ([L]++[bP [aj b #[J R 0,J R 0] 49,F]]):=ak.tail [L] [aj b #[J R 0,J R 0] 49,F] (a.pick [1,0,2]);refine aR (I _ _ g) ?_;rintro e hI ⟨rfl,t1,l,a⟩;clear g;replace a:ak _ _ _ [t1,aj b #[J R 0,J R 0] 49,F]:=ak.iF [t1] [aj b #[J R 0,J R 0] 49,F] a;refine aU ?_;refine bl a #[J R 0,J R 0] (λd jK a=>?_);refine a' a 0 (ar #[J R iL,J R 0]) (λke a=>?_);refine an ?_;go_step;refine ah ?_;refine bh a 0 #[J R iL,J R 0] ?_;refine ag ?_;refine aG (ai az) (by(have h:=e3.out;go_simp;try simp[h])) ?_;refine an ?_;go_step;refine ah ?_;refine bh a 0 #[J R iL,J R 0] ?_;refine a' a 2 (ar #[J R iL,J R 0]) (λk9 a=>?_);refine an ?_;go_wp2_with fail;refine c' (v:=ar #[J R iL,J R 0]) (gG aa _ _ _ _ _ _ _ aa (a.aW 2) x5 aa aw) aa (⟨aa,t1,l,a.pick [1,3]⟩)
def amG dj(c S pl d)(bd pk o n st nx)(g h)bI w(hb:aX w dj (hC c bd pk o n g h S pl d st nx bI) 135):
 aD ax 17 #[ay (ab ⟨dj,0,af⟩)] w λe w'=>e=aB (J R st)/\au w w':=by
 have b:=hid hb;clear hb;go_enter func17,ntmps17;have a:=a8 w;go_step;refine ah ?_;refine cB ?_;refine aG (ai ao) (by(go_simp;try rfl)) ?_;refine jk ?_;refine aG (J R st) (fH aa aa (aX.aI b.out a.only) (fy (j:=3) aa) aw) ?_;refine bX ?_;go_wp2_with fail;go_ret;exact⟨aa,a.only⟩
def amr dj(c S pl d)(bd pk o n st nx)(g h)bI w(hb:aX w dj (hC c bd pk o n g h S pl d st nx bI) 135):
 aD ax 234 #[ay (ab ⟨dj,0,af⟩)] w λe w'=>e=aB (J R nx)/\au w w':=by
 have b:=hid hb;clear hb;go_enter func234,ntmps234;have a:=a8 w;go_step;refine ah ?_;refine cB ?_;refine aG (ai ao) (by(go_simp;try rfl)) ?_;refine jk ?_;refine aG (J R nx) (fH aa aa (aX.aI b.out a.only) (fy (j:=4) aa) aw) ?_;refine bX ?_;go_wp2_with fail;go_ret;exact⟨aa,a.only⟩
def amw dj(c S pl d)(bd pk o n st nx)(g h)bI w(hb:aX w dj (hC c bd pk o n g h S pl d st nx bI) 135):
 aD ax 158 #[ay (ab ⟨dj,0,af⟩)] w λe w'=>e=aB (J R pk)/\au w w':=by
 have b:=hid hb;clear hb;go_enter Tryz.func158,Tryz.ntmps158;have a:=a8 w;go_step;refine ah ?_;refine cB ?_;refine aG (ai ao) (by(go_simp;try rfl)) ?_;refine o9 ?_;refine aG (J R pk) (fH aa aa (aX.aI b.out a.only) (r6 (j:=2) aa) aw) ?_;refine bX ?_;go_wp2_with fail;go_ret;exact⟨aa,a.only⟩
def amv w:
 aD ax 158 #[ay af] w λe w'=>e=aB (J R 0)/\au w w':=by
 go_enter Tryz.func158,Tryz.ntmps158;have a:=a8 w;go_step;refine ah ?_;refine cB ?_;refine aG (ai az) (by(go_simp;try rfl)) ?_;refine ah ?_;refine ag ?_;refine an ?_;go_wp2_with fail;go_ret;exact⟨aa,a.only⟩
def au2 p(i s)ms w(f:Ck w p s ms)(hi:i<0\/((ec s ms).length:Int)<=i):
 aD ax 139 #[ay (ab ⟨p,0,af⟩),J R i] w λe w'=>e=aB (bn #[ar #[J R 0,J R 0,J R 0,J R 0,J R 0,J R 0,ae af 0 0],ai ao])/\au w w':=by
 have d:=hid (λW g=>FX p s ms W (f.aI g));obtain⟨l,h⟩:=ex ((ec s ms).length);rw[h]at d hi;clear f h;by_cases b:i<0
 .have c:=hid b;clear b hi;go_enter Tryz.func139,Tryz.ntmps139;have a:=a8 w;go_step;refine ah ?_;refine bl a #[J _ 0,J _ 0,J _ 0,J _ 0,J _ 0,J _ 0,ae _ 0 0] (λj w1 a=>?_);refine cB ?_;refine dp c (ai az) ?_;refine ag ?_;iterate 4 refine ps ?_
  refine cB ?_;refine a' a 0 (ar #[J R 0,J R 0,J R 0,J R 0,J R 0,J R 0,ae af 0 0]) (λm a=>?_);refine bX ?_;go_wp2_with fail;refine c' (v:=_) (mh aa aa aa (a.aW 0) aw aw) aa (⟨aa,a.only⟩)
 .have c:=hid b;have k:=hid (hi.resolve_left b);clear b hi;go_enter Tryz.func139,Tryz.ntmps139;have a:=a8 w;go_step;refine ah ?_;refine bl a #[J _ 0,J _ 0,J _ 0,J _ 0,J _ 0,J _ 0,ae _ 0 0] (λj n a=>?_);refine cB ?_;refine dp c (ai ao) ?_;refine v3 ?_;refine bC (d _ a.only) a (λo a=>?_);refine dp k (ai az) ?_;refine cB ?_;refine a' a 0 (ar #[J R 0,J R 0,J R 0,J R 0,J R 0,J R 0,ae af 0 0]) (λq a=>?_);refine bX ?_;go_wp2_with fail;refine c' (v:=_) (mh aa aa aa (a.aW 0) aw aw) aa (⟨aa,a.only⟩)
def stepT(s:Int)(ms:List bO)(i:Int):Int×Int:=if 0<=i then(match(ec s ms)[i.toNat]? with|some m=>ck m|none=>(0,0))else(0,0)
def FI(s:Int)(ms:List bO)(r:Rec):Bool:=decide (r.cur<=((ec s ms).length:Int))&&(decide ((stepT s ms r.cur).1=r.off)&&decide ((stepT s ms r.cur).2=(r.data.length:Int)))
def Yz(dj p)s ms(E F)(T S X)(bd pk o n st nx)(g1 g2)bI r z C(aq w)FX(v:sS E p s ms)(I:ms.length<=1048575)(a:ak aq FX w [aj dj (hC T bd pk o n g1 g2 S (ay (ab ⟨p,0,af⟩)) X st nx bI) 135,E,F]):
 aD ax 59 #[ay (ab ⟨dj,0,af⟩),ar (recC r z C)] w λe w'=>e=aB (ai (FI s ms r))/\ak aq FX w' [aj dj (hC T bd pk o n g1 g2 S (ay (ab ⟨p,0,af⟩)) X st nx bI) 135,E,F]:=by
 have B:=hid (λW h=>YtcmhplknoglbkaaGreat.FX p s ms W (v W h));have G:=hid (λi W h hi=>au2 p i s ms W (v W h) hi);unfold FI;obtain⟨zv,m⟩:=ex (stepT s ms r.cur);rw[m];unfold stepT at m;have D:=λ(q) W h=>aeV p q s ms W (v W h) I;obtain⟨l,H⟩:=ex ((ec s ms).length);rw[H]at B G D⊢;by_cases hr:0<=r.cur/\r.cur<(l:Int)
 .rw[if_pos hr.1]at m;obtain⟨q,K⟩:=wW hr.1;have V:q<l:=ad;obtain⟨bB,U⟩:∃bB,(ec s ms)[q]?=ab bB:=⟨_,cE ad⟩;rw[K,show(q:Int).toNat=q from aa,U]at m;simp only at m;subst m
  have Y:aE (∀W,E.p W->aD ax 139 #[ay _,J R r.cur] W λe w'=>∃(x:Nat) (t:Option bT) (y:Nat),e=aB (bn #[ar #[J R r.cur,J R (x:Int),J R bB.k,J R bB.to,J R bB.fr,J R bB.n,ae t bB.data.length y],ai az])/\cf W w' (cx t y bB.data)):=hid (λW h=>by rw[K];refine(D q W h V).mono λe w' ⟨x,t,y,m2,h1,h2,h3,h4⟩=>?_;grind[cf.TO]);have g:aE (r.cur<=(l:Int)):=hid ad;rw[decide_eq_true g.out,Kg];clear D H hr K V U v I;go_enter Tryz.func59,Wm;go_step;refine ah ?_;refine bL a (ar #[J _ _,J _ _,J _ _,J _ _,ae z _ C]) (λM w1 a=>?_);refine hX ?_;refine bR a [6,10,11] (λi u=>match i with|6=>bn #[ar #[J R r.cur,J R (u.c2:Int),J R bB.k,J R bB.to,J R bB.fr,J R bB.n,ae u.A bB.data.length u.c],ai az]|10=>ay (ab ⟨u.b,0,af⟩)|_=>a7) (λd=>λ|6=>cx ((d 6).A) ((d 6).c) bB.data|10=>aj ((d 10).b) #[J R 0,J R 0,J R 0,J R 0,J R 0,J R 0,ae af 0 0] 253|11=>aj ((d 10).b) #[J R r.cur,J R ((d 6).c2:Int),J R bB.k,J R bB.to,J R bB.fr,J R bB.n,ae (d 6).A bB.data.length (d 6).c] 253|_=>emp) (λ|11=>[14]|_=>[]) (λ|3=>[1]|5=>[0]|6=>[2]|_=>[]) (λ|6=>[6]|10=>[10]|11=>[6,10]|_=>[]) [0,1,2,3,10,15] (λd=>?_);refine da ?_;refine dl 0 70 ?_ (hv:=fy (j:=1) aa);refine aJ ?_;refine dl 0 2 ?_;refine di (λf Fr a=>(Y f (a.at 0)).mono ?_) ?_;·rintro e dr ⟨x,t,y,rfl,Z⟩;exact⟨{A:=t,c:=y,c2:=x},aa,a.new _ Z⟩
  refine da ?_;refine rh _ ?_;refine fS _ ?_;refine aJ ?_;refine bW λaT a=>?_;generalize (d 6).A=L at a⊢;generalize (d 6).c=Q at a⊢;generalize (d 6).c2=az8 at a⊢;generalize (d 10).b=N at a⊢;refine b5 ?_;refine bh a 5 #[J R bB.k,J R bB.to,J R bB.fr,J R bB.n,ae L bB.data.length Q] ?_;refine bC (tt bB.k bB.to bB.fr bB.n L _ Q _) a (λbF a=>?_);refine bl a #[J _ 0,J _ 0] (λO b8 a=>?_);refine a' a 0 (ar #[J _ _,J _ (cG bB)]) (λcA a=>?_);refine ah ?_;refine v2 ?_;refine cy ?_;refine bR a [6] (λi _=>match i with|6=>J R (l:Int)|_=>a7) (λ_ _=>emp) (λ_=>[]) (λ|1=>[1]|5=>[2]|6=>[3]|9=>[0]|11=>[1]|13=>[1]|_=>[]) (λ_=>[]) [0,1,2,3,4,5,6,13] (λd=>?_);refine aJ ?_;refine dl 0 2 ?_;refine da ?_;refine dl 0 70 ?_ (hv:=fy (j:=1) aa);refine dK (λf _ a=>B f (a.at 0)) ?_;refine aL (ai az) (λ_ _ _=>by(have h:=g.out;go_simp;try simp[h])) ?_;refine aJ ?_;refine eM 0 #[J R bB.to,J R (cG bB)] ?_;refine aJ ?_;refine dl 0 3 ?_;refine aJ ?_;refine dl 0 4 ?_;refine bG ?_;refine aL (ai (decide (bB.to=r.off)&&decide (cG bB=(r.data.length:Int)))) (λ_ _ _=>by(go_simp;grind)) ?_;refine bG ?_;refine bW λcR a=>?_;replace a:=a.drop 7;go_wp2_with fail;go_ret;exact⟨aa,a.pick [2,3,4]⟩
 .have ar1:zv=(0,0):=aH;subst ar1;have P:aE (r.cur<0\/(l:Int)<=r.cur):=hid ad;clear D m v I H;by_cases hle:r.cur<=(l:Int);·have g:=hid hle;rw[decide_eq_true g.out,Kg];clear hle hr;go_enter Tryz.func59,Wm;go_step;refine ah ?_;refine bL a (ar #[J _ _,J _ _,J _ _,J _ _,ae z _ C]) (λM dz a=>?_);refine hX ?_;refine bR a [6,10,11] (λi u=>match i with|6=>bn #[ar #[J R 0,J R 0,J R 0,J R 0,J R 0,J R 0,ae af 0 0],ai ao]|10=>ay (ab ⟨u.b,0,af⟩)|_=>a7) (λd=>λ|10=>aj ((d 10).b) #[J R 0,J R 0,J R 0,J R 0,J R 0,J R 0,ae af 0 0] 253|11=>aj ((d 10).b) #[J R 0,J R 0,J R 0,J R 0,J R 0,J R 0,ae af 0 0] 253|_=>emp) (λ|11=>[14]|_=>[]) (λ|3=>[1]|5=>[0]|6=>[2]|_=>[]) (λ|10=>[10]|11=>[10]|_=>[]) [0,1,2,3,10,15] (λd=>?_);refine da ?_;refine dl 0 70 ?_ (hv:=fy (j:=1) aa);refine aJ ?_;refine dl 0 2 ?_;refine dK (λf _ a=>G _ f (a.at 0) P) ?_;refine da ?_;refine rh _ ?_;refine fS _ ?_;refine aJ ?_;refine bW λdv a=>?_;generalize (d 10).b=N at a⊢;replace a:=a.drop 4;refine b5 ?_;refine bh a 4 #[J R 0,J R 0,J R 0,J R 0,ae af 0 0] ?_;refine bC (tt 0 0 0 0 _ 0 0 _) a (λeU a=>?_);refine bl a #[J _ 0,J _ 0] (λO gF a=>?_);refine a' a 0 (ar #[J _ 0,J _ 0]) (λhI a=>?_);refine ah ?_;refine DG ?_;refine a' a 0 (ar #[J R 0,J R 0]) (λjK a=>?_);refine cy ?_;refine bR a [6] (λi _=>match i with|6=>J R (l:Int)|_=>a7) (λ_ _=>emp) (λ_=>[]) (λ|1=>[1]|5=>[2]|6=>[3]|9=>[0]|11=>[1]|13=>[1]|_=>[]) (λ_=>[]) [0,1,2,3,4,5,12] (λd=>?_);refine aJ ?_;refine dl 0 2 ?_;refine da ?_;refine dl 0 70 ?_ (hv:=fy (j:=1) aa);refine dK (λf _ a=>B f (a.at 0)) ?_;refine aL (ai az) (λ_ _ _=>by(have h:=g.out;go_simp;try simp[h])) ?_;refine aJ ?_;refine eM 0 #[J R 0,J R 0] ?_;refine aJ ?_;refine dl 0 3 ?_;refine aJ ?_;refine dl 0 4 ?_;refine bG ?_;refine aL (ai (decide (0=r.off)&&decide (0=(r.data.length:Int)))) (λ_ _ _=>by(go_simp;grind)) ?_;refine bG ?_;refine bW λke a=>?_;replace a:=a.drop 6;go_wp2_with fail;go_ret;exact⟨aa,a.pick [2,3,4]⟩
  .have g:=hid hle;rw[decide_eq_false g,ahK];clear hle hr;go_enter Tryz.func59,Wm;go_step;refine ah ?_;refine bL a (ar #[J _ _,J _ _,J _ _,J _ _,ae z _ C]) (λM k9 a=>?_);refine hX ?_;refine bR a [6,10,11] (λi u=>match i with|6=>bn #[ar #[J R 0,J R 0,J R 0,J R 0,J R 0,J R 0,ae af 0 0],ai ao]|10=>ay (ab ⟨u.b,0,af⟩)|_=>a7) (λd=>λ|10=>aj ((d 10).b) #[J R 0,J R 0,J R 0,J R 0,J R 0,J R 0,ae af 0 0] 253|11=>aj ((d 10).b) #[J R 0,J R 0,J R 0,J R 0,J R 0,J R 0,ae af 0 0] 253|_=>emp) (λ|11=>[14]|_=>[]) (λ|3=>[1]|5=>[0]|6=>[2]|_=>[]) (λ|10=>[10]|11=>[10]|_=>[]) [0,1,2,3,10,15] (λd=>?_);refine da ?_;refine dl 0 70 ?_ (hv:=fy (j:=1) aa);refine aJ ?_;refine dl 0 2 ?_;refine dK (λf _ a=>G _ f (a.at 0) P) ?_;refine da ?_;refine rh _ ?_;refine fS _ ?_;refine aJ ?_;refine bW λmj a=>?_;generalize (d 10).b=N at a⊢;replace a:=a.drop 4;refine b5 ?_;refine bh a 4 #[J R 0,J R 0,J R 0,J R 0,ae af 0 0] ?_;refine bC (tt 0 0 0 0 _ 0 0 _) a (λnp a=>?_);refine bl a #[J _ 0,J _ 0] (λO qH a=>?_);refine a' a 0 (ar #[J _ 0,J _ 0]) (λrJ a=>?_);refine ah ?_;refine DG ?_;refine a' a 0 (ar #[J R 0,J R 0]) (λu3 a=>?_);refine cy ?_;refine bR a [6] (λi _=>match i with|6=>J R (l:Int)|_=>a7) (λ_ _=>emp) (λ_=>[]) (λ|1=>[1]|5=>[2]|6=>[3]|_=>[]) (λ_=>[]) [0,1,2,3,4,5,12] (λd=>?_);refine aJ ?_;refine dl 0 2 ?_;refine da ?_;refine dl 0 70 ?_ (hv:=fy (j:=1) aa);refine dK (λf _ a=>B f (a.at 0)) ?_;refine aL (ai ao) (λ_ _ _=>by(have h:=g.out;go_simp;try simp[h])) ?_;refine aJ ?_;iterate 8 refine ds ?_
   refine bG ?_;refine bW λxO a=>?_;replace a:=a.drop 6;go_wp2_with fail;go_ret;exact⟨aa,a.pick [2,3,4]⟩
def awq(B p q k c)(bd o n)(g h)A w:(Instr.build 135 #[(0,ar #[ay (ab ⟨B,0,af⟩),J R bd,J R 0]),(1,eL o n g h (ae A k c)),(2,ay (ab ⟨p,0,af⟩)),(3,ay (ab ⟨q,0,af⟩))]).run ax w=bf (ar (hC (ay (ab ⟨B,0,af⟩)) bd 0 o n g h (ae A k c) (ay (ab ⟨p,0,af⟩)) (ay (ab ⟨q,0,af⟩)) 0 0 ao)) w:=by obtain⟨a,bE⟩:=g;obtain⟨b,cr⟩:=h;obtain⟨d,cW,bk,iu,hJ,L,M,N,O,P,e,f,i,j,l,m,r,s,t,u,v,x,y,z,C,D,E,F,G,H,I,K,rfl⟩:=FE a bE;obtain⟨Q,S,bG,da,hW,oz,J3,J4,Bx,J5,T,U,V,W,X,Y,Z,ahc,ahd,ahe,ahf,ahg,ahh,ahi,ahj,ahk,ahl,ahm,ahn,aho,ahp,ahq,rfl⟩:=FE b cr;kernel_rfl
def am2{l}{a:b3}{w b d f j B p q k c bd o n g h A}(ho:l.op=.build 135 #[(0,b),(1,d),(2,f),(3,j)])(m:a.eval b=ar #[ay (ab ⟨B,0,af⟩),J R bd,J R 0])(h1:a.eval d=eL o n g h (ae A k c))(r:a.eval f=ay (ab ⟨p,0,af⟩))(s:a.eval j=ay (ab ⟨q,0,af⟩)):
 (bA a.eval l).run ax w=bf (dc (ar (hC (ay (ab ⟨B,0,af⟩)) bd 0 o n g h (ae A k c) (ay (ab ⟨p,0,af⟩)) (ay (ab ⟨q,0,af⟩)) 0 0 ao))) w:=by
 have hr:=awq B p q k c bd o n g h A w;unfold bA;simp only[ho,gx];have e:(#[(0,b),(1,d),(2,f),(3,j)].map λ(i,x)=>(i,a.eval x))=(#[(0,ar #[ay (ab ⟨B,0,af⟩),J R bd,J R 0]),(1,eL o n g h (ae A k c)),(2,ay (ab ⟨p,0,af⟩)),(3,ay (ab ⟨q,0,af⟩))]:Array _):=aH;rw[e,hr];rfl
def sq(d:dR)(bd o n:Nat)(g1 g2:dq)(ms:List bO):pg:=sr d (eu d.size 0 (max o n)).2 bd (nd (jR o n g1 g2 ms))
def Hm(d:dR)(bd o n:Nat)(g1 g2:dq)(ms:List bO):(Int×Int)⊕pU:=
 if su ms<ms.length then .inl (16,(su ms:Int))
 else if(sq d bd o n g1 g2 ms).has=ao then Ls ⟨0,0,ao,sq d bd o n g1 g2 ms,d⟩
 else if FI bd ms (sq d bd o n g1 g2 ms).last=az then Ls ⟨if(sq d bd o n g1 g2 ms).last.cur=((ec bd ms).length:Int)then 2 else 1,(sq d bd o n g1 g2 ms).last.cur.toNat,az,sq d bd o n g1 g2 ms,d⟩
 else .inl (19,(sq d bd o n g1 g2 ms).last.cur)
def Ep(aq:aQ)(FX:Nat->Prop)(B:Nat)(m:nT)(F:bq)(d:dR)(bd o n:Nat)(g1 g2:dq)(ms:List bO)(out:(Int×Int)⊕pU)(e:Ending)(w':aQ):Prop:=match out with
 |.inl f=>e=aB (bn #[ay af,ar #[J R f.1,J R f.2]])/\ak aq FX w' [aN B m d,F]
 |.inr s=>∃(dj dC p b c2:Nat) (g c:bq) (a aK:Option bT),sS g p bd ms/\ia c a b ms/\e=aB (bn #[ay (ab ⟨dj,0,af⟩),ar #[J R 0,J R 0]])/\ak aq FX w' [fF ⟨B,dj,dC,bd,o,n,p,b,(eu d.size 0 (max o n)).2,(nd (jR o n g1 g2 ms)).toNat,g1,g2,a,ms⟩ g c 0 s aK c2 m,F]
def UG r s:0<=(lD r s).1:=by
 unfold lD;split;·exact(TN _).1
 .omega
def Ts r:0<=(qy r).1/\(qy r).1<=4611686018427387903:=by
 unfold qy;split;·omega
 .exact⟨UG _ _,ad⟩
def Zy{bs r}(h:ug bs=ab r):0<=r.cur/\r.cur<=4611686018427387903/\0<=r.off:=by
 unfold ug at h;simp only at h;split at h;·grind
 .split at h;·grind
  .obtain⟨a,b,rfl⟩:=Option.map_eq_some_iff.1 h;unfold H5;exact⟨(Ts _).1,(Ts _).2,(Ts _).1⟩
theorem amX:∀{l},l≠[]->Rb l∈l
 |[],h=>absurd aa h
 |x::l,_=>by
  show l.foldl (λb y=>if y.seq>b.seq then y else b) x∈x::l
  have key:∀(l) (b:Rec),l.foldl (λb y=>if y.seq>b.seq then y else b) b∈b::l:=by
   intro l;induction l with
   |nil=>simp
   |cons y l a=>grind
  exact key l x
theorem TU{d first bound id}(h:(sr d first bound id).has=az):(sr d first bound id).last∈uV d first bound:=by grind[TS,TT,ze,amX]
def afd{d first bound r}(h:r∈uV d first bound):∃bs,ug bs=ab r:=by
 unfold uV w4 at h;simp at h;rcases h with h|h;·exact⟨_,h⟩
 .exact⟨_,h⟩
def auf{d first bound}(a:kC d first bound)id:(sr d first bound id).last.data.length<=140737488355328:=by
 cases h:(sr d first bound id).has with
 |false=>
  rw[TS]at h;rw[TT];unfold ze at h⊢;simp only[decide_eq_false_iff_not]at h⊢;rw[j3 (l:=List.filter _ _) ad];exact cC _
 |true=>grind[afe,TU]
def apn(o n)(g1 g2)ms K(h:∀m∈ms,m.data.length<=K):(jR o n g1 g2 ms).length<=89+ms.length*(25+K):=by
 have h1:∀l:List _,(∀m∈l,m.data.length<=K)->(l.flatMap r9).length<=l.length*(25+K):=by
  intro l;induction l with
  |nil=>simp
  |cons x l c=>
   intro h;rw[Ya,c7,jQ,Ae];grind[r9,ja,r7]
 have a:=h1 ms h
 have b:(rp o n g1 g2 ms.length).length=89:=by unfold rp xf oX;simp only[c7,g1.len,g2.len];simp[ja,r7,FG]
 unfold jR;rw[c7];omega
def Je {P w b p u ty} {t B:Nat} {cs tmps v} (h:b.results=#[.tmp u,.cell p ty]) (c:tmps.getD p a7=ay (ab ⟨B,0,af⟩)) (hv:tmps.getD u a7=v) (hb:aX w B cs t)
 (hu:(P.underlying ty).map (λd=>d.isRow)=ab az) (hi:(P.info? ty).map (·.size)=ab cs.size):(nw b tmps).run P w=bf (bn #[v,ar cs]) w:=by
 have j:tmps[p]?.getD a7=ay (ab ⟨B,0,af⟩):=by simpa using c
 cases hq:P.underlying ty with
 |none=>grind
 |some d=>
  have g:d.isRow=true:=aH;have i:=run_loadVar_row (P:=P) w B t ty cs (0,0) d hb hq aH hi
  have hr:(nw b tmps).run P w=((asAddr (tmps.getD p a7)).run P w).andThen λa e=>((loadVar ty a).run P e).andThen λx f=>bf (bn #[tmps.getD u a7,x]) f:=by simp only[nw,h];simp
  grind[asAddr,kh,jE]
def atN:∀l,0<=Di l/\Di l<18446744073709551616
 |[]=>by decide
 |[_]=>wrap_u64 _
 |_::_::_=>wrap_u64 _
def amq B m d(bd o n c)(g1 g2)A ms(aq w)FX F(Y:dY d)(cV:d.down=ao)(hb:1<=bd/\bd<=65536)(ho:o<=1048576/\n<=1048576)(hv:r5 o n ms)(SF:gv d.size bd (max o n)<=d.cnt)(fN:(ec bd ms).length<=1048576)(Z:∀W,av FX aq W->cU W A ms)(a:ak aq FX w [aN B m d,F]):
 aD ax 12 #[de B,J R (bd:Int),eL (o:Int) (n:Int) g1 g2 (ae A ms.length c)] w λe w'=>Ep aq FX B m F d bd o n g1 g2 ms (Hm d bd o n g1 g2 ms) e w':=by
 have hj:kC d (eu d.size 0 (max o n)).2 bd:=⟨Y,hb.1,hb.2,by unfold gv at SF;exact SF⟩
 have Sj:∀m∈ms,m.data.length<=1048576:=λm D=>by
  have h1:=hv.fits m D;by_cases hk:m.k=1;·rw[(h1.1.copy hk).2.2.2];exact cC _
  .have h2:=h1.2.2;have h3:0<=m.to:=(w3.ck h1.1).1.1;unfold cG at h2;rw[if_neg hk]at h2;omega
 have j':∀m∈ms,gd m/\m.data.length<=140737488355328:=λm D=>⟨(hv.fits m D).1,dT (Sj m D) aS⟩;have yX:(jR o n g1 g2 ms).length<=8796093022208:=dT (apn o n g1 g2 ms 1048576 Sj) (by have:=hv.dM;omega)
 have hes:k0 (ms.map ck)<=4611686018427387903:=by
  have h1:∀l:List bO,(∀m∈l,cG m<=1048576)->k0 (l.map ck)<=(l.length:Int)*1048576:=by
   intro l;induction l with
   |nil=>intro _;exact Int.le_refl _
   |cons x l cn=>
    intro h;have h3:=cn (λm D=>h m (p8 _ D));have h4:=h x (sU ..);show cG x+k0 (l.map ck)<=_;rw[jQ];omega
  have h2:=h1 ms (λm D=>by have h3:=(hv.fits m D).2.2;have h4:0<=m.to:=(w3.ck (hv.fits m D).1).1.1;omega);have h3:=hv.dM;omega
 have jv:=hid (λW g=>Zx o n g1 g2 A c ms W (Z W g) hv);have G6:=hid (λW g=>awI A c ms W (Z W g) (λm D=>(hv.fits m D).1) (dT hv.dM aS));have q2:=hid (λW (h:Has W (aN B m d))=>w7 B m d W h.dev Y);have r1:=hid (λW=>adS d.size bd o n g1 g2 (ae A ms.length c) ⟨Y.mL,Y.Cw.2⟩ hb ho.1 ho.2 W);have K9:=hid (λW (h:Has W (aN B m d))=>adE d.size bd (max o n) B m d W h Y aa SF);have GV:=hid (λW g=>apQ o n g1 g2 A c ms W ⟨hv.gC,hv.mI⟩ (Z W g) (λm D=>(hv.fits m D).1) (dT hv.dM aS) yX);have K7:=hid (λp fW du W hp hb bx=>apS p 1 fW du (jR o n g1 g2 ms) W yX hp hb bx);have U:=hid (λW (h:Has W (aN B m d))=>asN B m d (eu d.size 0 (max o n)).2 bd (nd (jR o n g1 g2 ms)) W h hj cV);have B8:=hid (λW g=>JB (o:Int) (n:Int) g1 g2 (ae A ms.length c) A c ms W aa (Z W g) (dT hv.dM aS) (λm D=>(j' m D).2));have XN:=hid (λW g=>au3 (bd:Int) A c ms W (Z W g) (dT hv.dM aS) fN ad j' hes);have df:=hv.dM;have P3:aE (0<=nd (jR o n g1 g2 ms)):=hid (UG _ _);have CU:(sq d bd o n g1 g2 ms).last.data.length<=140737488355328:=auf hj _;have oh:(sq d bd o n g1 g2 ms).has=az->∀r,(sq d bd o n g1 g2 ms).last=r->0<=r.cur:=λh r hr=>by obtain⟨bs,iB⟩:=afd (TU (d:=d) (first:=(eu d.size 0 (max o n)).2) (bound:=bd) (id:=nd (jR o n g1 g2 ms)) h);rw[<-hr];exact(Zy iB).1
 unfold Hm;rw[show sr d (eu d.size 0 (max o n)).2 bd (nd (jR o n g1 g2 ms))=sq d bd o n g1 g2 ms from aa]at U;obtain⟨j,abN⟩:=ex (sq d bd o n g1 g2 ms);rw[abN]at U CU oh⊢;have jr:aE (∀br p W,sS br p (bd:Int) ms->br.p W->aD ax 60 #[ay (ab ⟨p,0,af⟩)] W λe w'=>e=aB (J R ((ec bd ms).length:Int))/\au W w'):=hid (λbr p W bZ h=>YtcmhplknoglbkaaGreat.FX p bd ms W (bZ W h));have ru:ms.length<=1048575:=dT df aS;obtain⟨V,hen⟩:=ex (jR o n g1 g2 ms);rw[hen]at GV K7 U P3;obtain⟨M,E5⟩:=wW P3;rw[E5]at U K7;obtain⟨C,qn⟩:=ex ((eu d.size 0 (max o n)).2);rw[qn]at U;have sO:=hid qn;have P2:aE ((nd (jR o n g1 g2 ms)).toNat=M):=hid (by rw[hen,E5];rfl);have Lf:aE (Jl ms=if su ms<ms.length then(16,(su ms:Int))else(0,0)):=hid aa;obtain⟨FF,Ii⟩:=ex (gv d.size bd (max o n));unfold mF at r1 K9;rw[qn,Ii]at r1 K9;obtain⟨X,Fi⟩:=ex (su ms);obtain⟨b7,abZ⟩:=ex ((ec bd ms).length);rw[Fi]at Lf⊢;rw[abZ]at jr⊢;obtain⟨aB5,IC⟩:=ex (Jl ms);rw[IC]at Lf G6;clear Y cV hv Sj j' yX hes abN Z hj hen E5 qn Ii IC Fi abZ df fN P3;by_cases Fm:X<ms.length;·have N:=Lf.out;rw[if_pos Fm]at N;subst N;rw[if_pos Fm];simp only at G6;clear Fm r1 K9 GV K7 U B8 XN jr q2;go_enter Tryz.func12,Tryz.ntmps12;go_step;refine ah ?_;refine bL a (ar (bb (o:Int) (n:Int) g1 g2 (ae A ms.length c))) (λen w1 a=>?_);refine ag ?_;refine bl a #[J R 0,J R 0] (λfl aT a=>?_);refine b5 ?_;refine aG (ai ao) (by(go_simp;try rfl)) ?_;refine ah ?_;refine bh a 1 (bb (o:Int) (n:Int) g1 g2 (ae A ms.length c)) ?_ (hv:=(e6 _)) (hk:=by show 0+_<=gw _;rw[iY];exact b9 _) (hz:=(by rw[bH];rfl));refine bC (jv _ a.only) a (λbF a=>?_);refine bl a #[J R 0,J R 0] (λep b8 a=>?_);refine a' a 0 (ar #[J R 0,J R 0]) (λcA a=>?_);refine ah ?_;refine bh a 0 #[J R 0,J R 0] ?_;refine ag ?_;refine pk (ai ao) ?_;refine b5 ?_;refine pl a 2 66 ?_ (hv:=e');refine bC (G6 _ a.only) a (λcR a=>?_);refine bl a #[J R 0,J R 0] (λjM dz a=>?_);refine a' a 0 (ar #[J R 16,J R (X:Int)]) (λdv a=>?_);refine ah ?_;refine bh a 0 #[J R 16,J R (X:Int)] ?_;refine ag ?_;refine pk (ai az) ?_;refine cy ?_;refine bR a [2] (λ_ _=>a7) (λ_=>λ|2=>aj fl #[J R 16,J R (X:Int)] 49|_=>emp) (λ|2=>[2]|_=>[]) (λ|0=>[0]|_=>[]) (λ_=>[]) [0,1,3,4,5,8] (λf=>?_);refine eM 0 #[J R 16,J R (X:Int)] ?_;refine aJ ?_;refine fS (ar #[J R 16,J R (X:Int)]) ?_;refine bW λeU a=>?_;go_wp2_with fail;refine c' (v:=bn #[ay af,ar #[J R 16,J R (X:Int)]]) (Je aa aa aa (a.aW 5) aw aw) aa ?_;unfold Ep;exact⟨by first|rfl|trivial,a.pick [3,4]⟩
 .have N:=Lf.out;rw[if_neg Fm]at N;subst N;rw[if_neg Fm];simp only at G6;clear Fm;skip;obtain⟨out,hout⟩:=ex ((if j.has=ao then Ls ⟨0,0,ao,j,d⟩else if FI bd ms j.last=az then Ls ⟨if j.last.cur=(b7:Int)then 2 else 1,j.last.cur.toNat,az,j,d⟩else .inl (19,j.last.cur):(Int×Int)⊕pU));rw[hout];have D':=hid hout;have wR:=hid oh;have P4:=hid CU;clear hout oh CU;go_enter Tryz.func12,Tryz.ntmps12;go_step;refine ah ?_;refine bL a (ar (bb (o:Int) (n:Int) g1 g2 (ae A ms.length c))) (λen gF a=>?_);refine ag ?_;refine bl a #[J R 0,J R 0] (λfl hI a=>?_);refine b5 ?_;refine aG (ai ao) (by(go_simp;try rfl)) ?_;refine ah ?_;refine bh a 1 (bb (o:Int) (n:Int) g1 g2 (ae A ms.length c)) ?_ (hv:=(e6 _)) (hk:=by show 0+_<=gw _;rw[iY];exact b9 _) (hz:=(by rw[bH];rfl));refine bC (jv _ a.only) a (λjK a=>?_);refine bl a #[J R 0,J R 0] (λep ke a=>?_);refine a' a 0 (ar #[J R 0,J R 0]) (λk9 a=>?_);refine ah ?_;refine bh a 0 #[J R 0,J R 0] ?_;refine ag ?_;refine pk (ai ao) ?_;refine b5 ?_;refine pl a 2 66 ?_ (hv:=e');refine bC (G6 _ a.only) a (λmj a=>?_);refine bl a #[J R 0,J R 0] (λjM np a=>?_);refine a' a 0 (ar #[J R 0,J R 0]) (λqH a=>?_);refine ah ?_;refine bh a 0 #[J R 0,J R 0] ?_;refine ag ?_;refine pk (ai ao) ?_;refine cy ?_;refine bR a [1,4,8,9] (λi u=>match i with|1=>J R (d.size:Int)|4=>bn #[ar #[J R (d.size:Int),J R (bd:Int),J R 0,J R ((max o n:Nat):Int),J R (C:Int),J R ((2*gE d.size bd:Nat):Int),J R (FF:Int)],J R 0]|8=>ay (ab ⟨u.b,0,af⟩)|_=>a7) (λf=>λ|8=>aj ((f 8).b) #[J R 0,J R 0,J R 0,J R 0,J R 0,J R 0,J R 0] 93|9=>aj ((f 8).b) #[J R (d.size:Int),J R (bd:Int),J R 0,J R ((max o n:Nat):Int),J R (C:Int),J R ((2*gE d.size bd:Nat):Int),J R (FF:Int)] 93|_=>emp) (λ|9=>[14]|_=>[]) (λ|1=>[4]|3=>[3]|_=>[]) (λ|8=>[8]|9=>[8]|_=>[]) [0,1,2,3,4,5,7,10,15] (λf=>?_);refine aJ ?_;refine dK (λE _ a=>q2 E (a.has 0)) ?_;refine aJ ?_;refine eM 0 (bb (o:Int) (n:Int) g1 g2 (ae A ms.length c)) ?_ (hv:=(e6 _)) (hk:=by show 0+_<=gw _;rw[iY];exact b9 _) (hz:=(by rw[bH];rfl));refine dK (λE _ _=>r1 E) ?_;iterate 3 refine aJ ?_
  refine rh #[J R 0,J R 0,J R 0,J R 0,J R 0,J R 0,J R 0] ?_;refine fS (ar #[J R (d.size:Int),J R (bd:Int),J R 0,J R ((max o n:Nat):Int),J R (C:Int),J R ((2*gE d.size bd:Nat):Int),J R (FF:Int)]) ?_;refine aJ ?_;refine bW λrJ a=>?_;generalize (f 8).b=qO at a⊢;replace a:=a.drop 6;replace a:=a.drop 6;refine b5 ?_;refine pk (ai az) ?_;refine ah ?_;refine bh a 6 #[J R (d.size:Int),J R (bd:Int),J R 0,J R ((max o n:Nat):Int),J R (C:Int),J R ((2*gE d.size bd:Nat):Int),J R (FF:Int)] ?_;refine ag ?_;refine bC (K9 _ (a.has 4)) a (λu3 a=>?_);refine cB ?_;refine pk (ai ao) ?_;refine ah ?_;refine bh a 3 (bb (o:Int) (n:Int) g1 g2 (ae A ms.length c)) ?_ (hv:=(e6 _)) (hk:=by show 0+_<=gw _;rw[iY];exact b9 _) (hz:=(by rw[bH];rfl));refine aR (GV _ a.only) ?_;rintro e xO ⟨Q,S,rfl,P⟩;replace a:=a.new _ P;refine aU ?_;refine v5 ?_;refine cy ?_;refine bR a [6,7,8] (λi u=>match i with|6=>ae (ab ⟨u.b,0,af⟩) 1 1|7=>J aF (M:Int)|8=>bn #[ay (ab ⟨u.b,0,af⟩),J R 0]|_=>a7) (λf=>λ|6=>aj ((f 6).b) #[ae Q V.length S] 22|8=>qx (f 8).b B C bd (M:Int) j (f 8).A (f 8).c|_=>emp) (λ_=>[]) (λ|3=>[7]|7=>[14,0]|8=>[5]|_=>[]) (λ|6=>[6]|8=>[8]|_=>[]) [0,1,2,3,4,5,6,7,14,15,16] (λf=>?_);iterate 3 refine aJ ?_
  refine dl 0 4 ?_;iterate 2 refine aJ ?_
  refine kH #[ae Q V.length S] 22 ?_;refine dK (λE _ a=>K7 _ Q S E ((a.aW 0).cell 0 aa) (a.lK 1).1 (λb off e=>(a.has (t:=cx Q S V) 1).2 b ⟨off,af,e⟩)) ?_;refine di (λE Fr a=>(U E (a.has 0)).mono ?_) ?_;·rintro e dr ⟨dC,rfl,aV,aY,P⟩;exact⟨{b:=dC,A:=aV,c:=aY},aa,a.new _ P⟩
  iterate 5 refine aJ ?_
  refine bW λBt a=>?_;generalize (f 6).b=Vj at a⊢;generalize (f 8).b=s at a⊢;generalize (f 8).A=K at a⊢;generalize (f 8).c=L at a⊢;replace a:=a.drop 9;refine b5 ?_;refine pk (ai ao) ?_;refine an ?_;skip;refine cy ?_;refine bR a [6,10,13] (λi u=>match i with|6=>ar (bb (o:Int) (n:Int) g1 g2 (ae u.A ms.length u.c))|10=>ay (ab ⟨u.b,0,af⟩)|13=>ay (ab ⟨u.b,0,af⟩)|_=>a7) (λf=>λ|6=>kc (ia (f 6).t (f 6).A (f 6).c ms) (f 6).t|10=>kc (sS (f 10).t (f 10).b (bd:Int) ms) (f 10).t|13=>aj ((f 13).b) (hC (de B) (bd:Int) 0 (o:Int) (n:Int) g1 g2 (ae (f 6).A ms.length (f 6).c) (ay (ab ⟨(f 10).b,0,af⟩)) (ay (ab ⟨s,0,af⟩)) 0 0 ao) 135|_=>emp) (λ_=>[]) (λ|3=>[4]|5=>[4]|9=>[4]|_=>[]) (λ|6=>[6]|10=>[10]|13=>[6,10,13]|_=>[]) [0,1,2,3,4,5,6,7,8,9,16,20,23] (λf=>?_);iterate 3 refine aJ ?_
  refine eM 0 (bb (o:Int) (n:Int) g1 g2 (ae A ms.length c)) ?_ (hv:=(e6 _)) (hk:=by show 0+_<=gw _;rw[iY];exact b9 _) (hz:=(by rw[bH];rfl));refine aJ ?_;refine dl 0 66 ?_ (hv:=e');refine di (λE Fr a=>(B8 E a.only).mono ?_) ?_;·rintro e dr ⟨aA,aC,t,rfl,P,kS⟩;exact⟨{A:=aA,c:=aC,t:=t},aa,(a.new _ P).kc kS⟩
  iterate 2 refine aJ ?_
  refine dl 0 66 ?_ (hv:=e');refine di (λE Fr a=>(XN E a.only).mono ?_) ?_;·rintro e dr ⟨p,t,rfl,P,O⟩;exact⟨{b:=p,t:=t},aa,(a.new _ P).kc O⟩
  refine aJ ?_;refine aL (ar (hC (de B) (bd:Int) 0 (o:Int) (n:Int) g1 g2 (ae (f 6).A ms.length (f 6).c) (ay (ab ⟨(f 10).b,0,af⟩)) (ay (ab ⟨s,0,af⟩)) 0 0 ao)) (λ_ _ _=>am2 aa aa aa aa aa) ?_;refine aoy (ar (hC (de B) (bd:Int) 0 (o:Int) (n:Int) g1 g2 (ae (f 6).A ms.length (f 6).c) (ay (ab ⟨(f 10).b,0,af⟩)) (ay (ab ⟨s,0,af⟩)) 0 0 ao)) ?_;refine aJ ?_;refine bW λBu a=>?_;generalize (f 6).A=G at a⊢;generalize (f 6).c=H at a⊢;generalize (f 6).t=T at a⊢;generalize (f 10).b=y at a⊢;generalize (f 10).t=I at a⊢;generalize (f 13).b=z at a⊢;replace a:=a.front 10;obtain⟨kS,a⟩:=a.Jw;replace a:ak _ _ _ [T,cx Q S V,aj jM #[J R 0,J R 0] 49,aj ep #[J R 0,J R 0] 49,aj fl #[J R 0,J R 0] 49,aj en (bb (o:Int) (n:Int) g1 g2 (ae A ms.length c)) 26,aN B m d,F,aj qO #[J R (d.size:Int),J R (bd:Int),J R 0,J R ((max o n:Nat):Int),J R (C:Int),J R ((2*gE d.size bd:Nat):Int),J R (FF:Int)] 93,aj Vj #[ae Q V.length S] 22,qx s B C bd (M:Int) j K L,kc (sS I y (bd:Int) ms) I,aj z (hC (de B) (bd:Int) 0 (o:Int) (n:Int) g1 g2 (ae G ms.length H) (ay (ab ⟨y,0,af⟩)) (ay (ab ⟨s,0,af⟩)) 0 0 ao) 135]:=a;replace a:=a.front 11;obtain⟨O,a⟩:=a.Jw;replace a:ak _ _ _ [I,T,cx Q S V,aj jM #[J R 0,J R 0] 49,aj ep #[J R 0,J R 0] 49,aj fl #[J R 0,J R 0] 49,aj en (bb (o:Int) (n:Int) g1 g2 (ae A ms.length c)) 26,aN B m d,F,aj qO #[J R (d.size:Int),J R (bd:Int),J R 0,J R ((max o n:Nat):Int),J R (C:Int),J R ((2*gE d.size bd:Nat):Int),J R (FF:Int)] 93,aj Vj #[ae Q V.length S] 22,qx s B C bd (M:Int) j K L,aj z (hC (de B) (bd:Int) 0 (o:Int) (n:Int) g1 g2 (ae G ms.length H) (ay (ab ⟨y,0,af⟩)) (ay (ab ⟨s,0,af⟩)) 0 0 ao) 135]:=a;cases hh:j.has with
  |false=>
   have ho:=D'.out;rw[if_pos hh]at ho;subst ho;have D7:aE (∀W,Has W (qx s B C bd (M:Int) j K L)->aD ax 58 #[ay (ab ⟨s,0,af⟩)] W λe w'=>e=aB (bn #[ar #[J aF 0,J aF 0,J R 0,J R 0,ae af 0 0],ai ao])/\au W w'):=hid (λW h=>by have q:=Tl s B C bd (M:Int) j K L W h P4;rw[hh]at q;exact q);clear hh;refine b5 ?_;refine bC (D7.out _ (a.has 11)) a (λDD a=>?_);refine v3 ?_;refine bl a #[J aF 0,J aF 0,J R 0,J R 0,ae af 0 0] (λDJ JA a=>?_);refine a' a 0 (ar #[J aF 0,J aF 0,J R 0,J R 0,ae af 0 0]) (λUK a=>?_);refine ag ?_;refine ah ?_;refine v2 ?_;refine jk ?_;refine a' a 6 (ar #[J R 0,J R 0]) (λUL a=>?_);refine an ?_;go_wp2_with fail;refine c' (v:=bn #[ay (ab ⟨z,0,af⟩),ar #[J R 0,J R 0]]) (Je aa aa aa (a.aW 6) aw aw) aa ?_;unfold Ep;simp only;rw[sO,P2];have ca:ak _ _ _ [aj z (hC (de B) (bd:Int) 0 (o:Int) (n:Int) g1 g2 (ae G ms.length H) (ay (ab ⟨y,0,af⟩)) (ay (ab ⟨s,0,af⟩)) 0 0 ao) 135,qx s B C bd (M:Int) j K L,aN B m d,I,T,F]:=a.pick [13,12,8,1,2,9];exact⟨z,s,y,H,L,I,T,G,K,O,kS,by first|rfl|trivial,ca.fh 5⟩
  |true=>
   obtain⟨r,hr⟩:=ex j.last;have k2:=wR hh r hr;obtain⟨q,hq⟩:=wW k2;have jw:=hid hq;have D7:aE (∀W,Has W (qx s B C bd (M:Int) j K L)->aD ax 58 #[ay (ab ⟨s,0,af⟩)] W λe w'=>∃aA aC,e=aB (bn #[ar (recC r aA aC),ai az])/\cf W w' (cx aA aC r.data)):=hid (λW h=>by have q:=Tl s B C bd (M:Int) j K L W h P4;rw[hh,hr]at q;exact q);have ho:=D'.out;rw[if_neg (by rw[hh];simp),hr,hq]at ho;have XL:=hid ho;clear ho hq k2 hh wR D' P4;refine b5 ?_;refine aR (D7.out _ (a.has 11)) ?_;rintro e UM ⟨Gm,Hq,rfl,P⟩;replace a:=a.new _ P;refine aU ?_;refine v3 ?_;refine bl a #[J aF 0,J aF 0,J R 0,J R 0,ae af 0 0] (λDJ UN a=>?_);refine a' a 0 (ar #[J aF r.seq,J aF r.id,J R r.cur,J R r.off,ae Gm r.data.length Hq]) (λagS a=>?_);refine ag ?_;refine ah ?_;refine dU ?_;obtain⟨xv,uy⟩:=ex (FI bd ms r);have ho:=XL.out;rw[uy]at ho;have XC:=hid uy;have Qi:=hid ho;clear ho uy XL;cases xv with
   |false=>
    have ho:=Qi.out;rw[if_neg bg]at ho;subst ho;refine b5 ?_;refine bh a 0 #[J aF r.seq,J aF r.id,J R r.cur,J R r.off,ae Gm r.data.length Hq] ?_;have HB:=(a.pk [14,2,0,1,3,4,5,6,7,8,9,10,11,12,13]).t2;refine aR (Yz z y (bd:Int) ms I _ (de B) (ae G ms.length H) (ay (ab ⟨s,0,af⟩)) (bd:Int) 0 (o:Int) (n:Int) 0 0 g1 g2 ao r Gm Hq aq _ FX O ru HB) ?_;rintro e aya ⟨N,a⟩;clear HB;rw[XC]at N;subst N;replace a:=a.bk;refine aU ?_;refine hX ?_;refine bR a [4] (λ_ _=>a7) (λ_=>λ|4=>aj fl #[J R 19,J R (q:Int)] 49|_=>emp) (λ|4=>[8]|_=>[]) (λ|1=>[2]|_=>[]) (λ_=>[]) [0,1,2,3,4,5,6,7,9,10,11,12,13,14,19] (λf=>?_);refine aJ ?_;refine aL (J R (q:Int)) (λ_ _ a=>by(rw[<-jw];exact fH aa aa (a.aW 0) aa aw)) ?_;iterate 2 refine aJ ?_
    refine fS (ar #[J R 19,J R (q:Int)]) ?_;refine bW λayb a=>?_;go_wp2_with fail;refine c' (v:=bn #[ay af,ar #[J R 19,J R (q:Int)]]) (Je aa aa aa (a.aW 14) aw aw) aa ?_;unfold Ep;exact⟨by first|rfl|trivial,a.pick [9,10]⟩
   |true=>
    refine b5 ?_;refine bh a 0 #[J aF r.seq,J aF r.id,J R r.cur,J R r.off,ae Gm r.data.length Hq] ?_;have HB:=(a.pk [14,2,0,1,3,4,5,6,7,8,9,10,11,12,13]).t2;refine aR (Yz z y (bd:Int) ms I _ (de B) (ae G ms.length H) (ay (ab ⟨s,0,af⟩)) (bd:Int) 0 (o:Int) (n:Int) 0 0 g1 g2 ao r Gm Hq aq _ FX O ru HB) ?_;rintro e ayc ⟨N,a⟩;clear HB;rw[XC]at N;subst N;replace a:=a.bk;refine aU ?_;refine hX ?_;refine bR a [7,10,13] (λ_ _=>a7) (λ_=>λ|7=>aj z (hC (de B) (bd:Int) 0 (o:Int) (n:Int) g1 g2 (ae G ms.length H) (ay (ab ⟨y,0,af⟩)) (ay (ab ⟨s,0,af⟩)) 1 0 ao) 135|10=>aj z (hC (de B) (bd:Int) 0 (o:Int) (n:Int) g1 g2 (ae G ms.length H) (ay (ab ⟨y,0,af⟩)) (ay (ab ⟨s,0,af⟩)) 1 (q:Int) ao) 135|13=>aj z (hC (de B) (bd:Int) 0 (o:Int) (n:Int) g1 g2 (ae G ms.length H) (ay (ab ⟨y,0,af⟩)) (ay (ab ⟨s,0,af⟩)) 1 (q:Int) az) 135|_=>emp) (λ|7=>[0]|10=>[22]|13=>[25]|_=>[]) (λ|4=>[2]|_=>[]) (λ_=>[]) [1,2,3,4,5,6,7,8,9,10,11,12,13,14,28] (λf=>?_);iterate 4 refine aJ ?_
    refine aL (J R (q:Int)) (λ_ _ a=>by(rw[<-jw];exact fH aa aa (a.aW 0) aa aw)) ?_;iterate 2 refine aJ ?_
    refine fS (J R 1) ?_ (hk:=by show _+1<=_;rw[pr];decide) (hc:=LI);iterate 2 refine aJ ?_
    refine fS (J R (q:Int)) ?_ (hk:=by show _+1<=_;rw[pr];decide) (hc:=YD);iterate 2 refine aJ ?_
    refine fS (ai az) ?_ (hk:=by show _+1<=_;rw[pr];decide) (hc:=YE);refine bW λayd a=>?_;have ho:=Qi.out;rw[if_pos aa]at ho;clear Qi;by_cases AS:(q:Int)=(b7:Int)
    .rw[if_pos AS]at ho;subst ho;have Lc:=hid AS;clear AS;refine cy ?_;refine bR a [8] (λi _=>match i with|8=>J R (b7:Int)|_=>a7) (λ_ _=>emp) (λ_=>[]) (λ|3=>[14]|7=>[14]|8=>[0]|_=>[]) (λ_=>[]) [0,1,2,3,4,5,6,7,8,9,10,11,12,13,14,23] (λf=>?_);iterate 3 refine aJ ?_
     refine dl 0 73 ?_ (hv:=fy (j:=4) aa);iterate 3 refine aJ ?_
     refine dl 0 70 ?_ (hv:=fy (j:=1) aa);refine dK (λE _ a=>jr I y E O (a.at 0)) ?_;refine aL (ai az) (λ_ _ _=>by(have h:=Lc.out;go_simp;try simp[h])) ?_;refine bW λaye a=>?_;replace a:=a.drop 15;refine jk ?_;refine a' a 14 (J R 2) (λayf a=>?_) (hk:=by show _+1<=_;rw[pr];decide) (hc:=LI);refine jk ?_;refine a' a 7 (ar #[J R 0,J R 0]) (λayg a=>?_);refine an ?_;go_wp2_with fail;refine c' (v:=bn #[ay (ab ⟨z,0,af⟩),ar #[J R 0,J R 0]]) (Je aa aa aa (a.aW 7) aw aw) aa ?_;unfold Ep;simp only;rw[sO,P2];have ca:ak _ _ _ [aj z (hC (de B) (bd:Int) 0 (o:Int) (n:Int) g1 g2 (ae G ms.length H) (ay (ab ⟨y,0,af⟩)) (ay (ab ⟨s,0,af⟩)) 2 (q:Int) az) 135,qx s B C bd (M:Int) j K L,aN B m d,I,T,F]:=a.pick [14,13,9,0,3,10];exact⟨z,s,y,H,L,I,T,G,K,O,kS,by first|rfl|trivial,ca.fh 5⟩
    .rw[if_neg AS]at ho;subst ho;have Lc:=hid AS;clear AS;refine cy ?_;refine bR a [8] (λi _=>match i with|8=>J R (b7:Int)|_=>a7) (λ_ _=>emp) (λ_=>[]) (λ|3=>[14]|7=>[14]|8=>[0]|_=>[]) (λ_=>[]) [0,1,2,3,4,5,6,7,8,9,10,11,12,13,14,23] (λf=>?_);iterate 3 refine aJ ?_
     refine dl 0 73 ?_ (hv:=fy (j:=4) aa);iterate 3 refine aJ ?_
     refine dl 0 70 ?_ (hv:=fy (j:=1) aa);refine dK (λE _ a=>jr I y E O (a.at 0)) ?_;refine aL (ai ao) (λ_ _ _=>by(have h:=Lc.out;go_simp;try simp[h])) ?_;refine bW λayh a=>?_;replace a:=a.drop 15;refine jk ?_;refine a' a 7 (ar #[J R 0,J R 0]) (λayi a=>?_);refine an ?_;go_wp2_with fail;refine c' (v:=bn #[ay (ab ⟨z,0,af⟩),ar #[J R 0,J R 0]]) (Je aa aa aa (a.aW 7) aw aw) aa ?_;unfold Ep;simp only;rw[sO,P2];have ca:ak _ _ _ [aj z (hC (de B) (bd:Int) 0 (o:Int) (n:Int) g1 g2 (ae G ms.length H) (ay (ab ⟨y,0,af⟩)) (ay (ab ⟨s,0,af⟩)) 1 (q:Int) az) 135,qx s B C bd (M:Int) j K L,aN B m d,I,T,F]:=a.pick [14,13,9,0,3,10];exact⟨z,s,y,H,L,I,T,G,K,O,kS,by first|rfl|trivial,ca.fh 5⟩
structure wy where
 bd:Nat
 o:Nat
 n:Nat
 g1:dq
 g2:dq
 ms:List bO
structure qP (C:wy) (d:dR):Prop where
 ok:dY d
 bd:1<=C.bd/\C.bd<=65536
 sz:C.o<=1048576/\C.n<=1048576
 sy:r5 C.o C.n C.ms
 lay:gv d.size C.bd (max C.o C.n)<=d.cnt
 dM:(ec C.bd C.ms).length<=1048576
 ch:∀bB∈ec C.bd C.ms,∃t:Nat,bB.to=(t:Int)/\0<=cG bB/\cG bB<=(C.bd:Int)/\(t:Int)+cG bB<=(C.n:Int)/\(bB.k=1->0<=bB.fr/\bB.fr+bB.n<=(C.o:Int))
def wy.E(C:wy)(d:dR):pT:=⟨0,0,0,C.bd,C.o,C.n,0,0,(eu d.size 0 (max C.o C.n)).2,(nd (jR C.o C.n C.g1 C.g2 C.ms)).toNat,C.g1,C.g2,af,C.ms⟩
structure rQ where
 st:Int
 nx:Int
 wr:Int
 bt:Int
 pos:Int
def yA(x:rQ):List Value:=[J R x.st,J R x.nx,J R x.wr,J R x.bt,J R x.pos]
def FN(C:wy)(d:dR):(Int×Int)⊕pU:=Hm d C.bd C.o C.n C.g1 C.g2 C.ms
def oL(C:wy)(d:dR):rQ×dR:=match FN C d with
 |.inl f=>(⟨0,0,R.wrap (d.eE -d.eE),f.1,f.2⟩,uW d)
 |.inr s=>(⟨s.st,s.nx,R.wrap ((rD (C.E d) s).2.d.eE -d.eE),(rD (C.E d) s).1,0⟩,uW (rD (C.E d) s).2.d)
theorem agf{E E'}(h:E'.bd=E.bd/\E'.o=E.o/\E'.n=E.n/\E'.first=E.first/\E'.id=E.id/\E'.g1=E.g1/\E'.g2=E.g2/\E'.ms=E.ms)s:ji E' s=ji E s/\Bs E' s=Bs E s:=by obtain⟨h1,a,b,c,d,e,f,g⟩:=h;unfold ji Bs Aw oU;rw[h1,a,b,c,d,e,f,g];exact⟨aa,aa⟩
def awk{E E'}(h:E'.bd=E.bd/\E'.o=E.o/\E'.n=E.n/\E'.first=E.first/\E'.id=E.id/\E'.g1=E.g1/\E'.g2=E.g2/\E'.ms=E.ms)s:rD E' s=rD E s:=by
 have key:∀(k) s,wk E' k s=wk E k s:=by
  intro k;induction k with
  |zero=>intro s;rfl
  |succ k a=>grind[wk,agf]
 unfold rD;rw[(agf h s).2,key,h.1,h.2.2.2.2.2.2.2]
def ad5{C d E s}(h:qP C d)(q:d.down=ao)(p:d.cache.length<=1000000000)(hn:FN C d=Ls s)(A:E.bd=C.bd/\E.o=C.o/\E.n=C.n/\E.first=(eu d.size 0 (max C.o C.n)).2/\E.id=(nd (jR C.o C.n C.g1 C.g2 C.ms)).toNat/\E.ms=C.ms):r4 E s/\s.d=d:=by
 obtain⟨bE,cr,y,H,z,i⟩:=A;have K:kC d _ _:=⟨h.ok,h.bd.1,h.bd.2,by have:=h.lay;unfold gv at this;exact this⟩
 have J:max C.o C.n<=d.bytes.length:=by have h1:=M' (s:=_) (N:=max C.o C.n) (e:=0) (x:=2*gE d.size C.bd) h.ok.mL;rw[h.ok.len,Nat.mul_comm _];refine dT h1 (Nat.mul_le_mul_left _ ?_);have:=h.lay;unfold gv at this;omega
 have F:∀bB∈ec _ _,((k1 d bB).length:Int)=cG bB:=λbB c=>by
  obtain⟨t,_,v,_,w,g⟩:=h.ch bB c;unfold k1 cG at*;by_cases hk:bB.k=1;·rw[if_pos hk]at*;obtain⟨eF,eK⟩:=g hk;rw[Bc h.ok ad];omega
  .grind
 have l:DM E d:=by
  refine⟨by rw[bE];exact h.bd.1,by rw[bE];exact h.bd.2,by rw[cr,y,i];exact h.sy,ad,ad,by rw[bE,i];exact h.dM,?_,?_⟩;·rw[z];have h1:=UG ⟨ij (jR C.o C.n C.g1 C.g2 C.ms),0,0,0⟩ 8;grind[nd,lD,TN]
  .rw[bE,i];intro bB c;obtain⟨t,u,v,G,w,g⟩:=h.ch bB c;have I:=F bB c;refine⟨t,⟨u,λhk=>?_,ad,ad⟩,λhk=>by grind[cG]⟩;obtain⟨eF,eK⟩:=g hk;have pt:0<=bB.n:=by grind[cG]
   exact⟨bB.fr.toNat,bB.n.toNat,ad,ad,ad⟩
 obtain⟨a,b⟩:=ex (sq d C.bd C.o C.n C.g1 C.g2 C.ms)
 have m:0<=a.next/\a.next<18446744073709551616:=by rw[<-b,sq,aeu];exact atN _
 have B:a.has=az->0<=a.last.cur/\0<=a.last.off:=λhh=>by rw[<-b]at hh⊢;obtain⟨bs,D⟩:=afd (TU (d:=d) (first:=(eu d.size 0 (max C.o C.n)).2) (bound:=C.bd) (id:=nd (jR C.o C.n C.g1 C.g2 C.ms)) hh);have hr:=Zy D;exact⟨hr.1,hr.2.2⟩
 unfold FN Hm at hn;rw[b]at hn;obtain⟨L,cv⟩:=ex (ec C.bd C.ms);have hch:=h.ch;rw[cv]at hn hch;clear b;split at hn;·grind
 .split at hn;·have j:=amb hn;subst j;exact⟨⟨l,aH,q,p,m,cC _,λh=>aH⟩,aa⟩
  .split at hn
   .rename_i r f;have r:a.has=true:=aH;have hr:=B r;have j:=amb hn;unfold FI at f;rw[cv]at f;simp at f;obtain⟨M,O,P⟩:=f;subst j;refine⟨⟨l,aH,q,p,m,?_,λ_ hst=>?_⟩,aa⟩;·grind
    .grind[stepT,ck]
   .grind
def afx{E s}(h:r4 E s):kz s.d (rD E s).2.d:=by
 unfold rD;split;·exact kz.refl h.j.dev
 .grind[afy]
def afj{d}(a:dY d):kz d (uW d)/\(uW d).down=ao/\(uW d).cache=[]:=by have h:=T6 a (λ_=>ao);exact⟨⟨⟨h.mL,h.vA,h.len,h.small,h.cache,h.dM,show cO (-1) by(unfold cO;omega)⟩,aa,aa⟩,aa,aa⟩
def qP.yQ{C d cI}(h:qP C d)(e:kz d cI):qP C cI:=⟨e.ok,h.bd,h.sz,h.sy,by rw[e.size,e.cnt];exact h.lay,h.dM,h.ch⟩
def amJ{C d}(h:qP C d)(g:d.down=ao)(e:d.cache.length<=1000000000):kz d (oL C d).2/\(oL C d).2.down=ao/\(oL C d).2.cache=[]:=by
 unfold oL;cases hn:FN C d with
 |inl f=>exact afj h.ok
 |inr s=>
  obtain⟨h1,c⟩:=ad5 (E:=C.E d) h g e hn ⟨aa,aa,aa,aa,aa,aa⟩;have a:=afx h1;rw[c]at a;have b:=afj a.ok;exact⟨a.trans b.1,b.2⟩
def al6(P:aP)(t:bq)(pk:Int):Prop:=∀W,t.p W->aD ax 158 #[P] W λe w'=>e=aB (J R pk)/\au W w'
def YJ(B c b dj)m d(st nx wr bt pos eE)u(aq w)FX F(g:dY d)(a:ak aq FX w [aj dj #[J R st,J R nx,J R wr,J R bt,J R pos] 158,aj b #[J R eE] 3,aj c #[(de B)] 32,aN B m d,F]):
 CallsD ax 233 #[ay (ab ⟨c,0,af⟩),ay (ab ⟨b,0,af⟩),ay (ab ⟨dj,0,af⟩)] u w λe k w'=>k=u/\e=aB (bn #[])/\∃f,ak aq FX w' [aj dj #[J R st,J R nx,J R (R.wrap (d.eE -eE)),J R bt,J R pos] 158,aj b #[J R eE] 3,aj c #[(de B)] 32,aN B f (uW d),F]:=by
 have h:=hid g;clear g;go_enter_d func233,ntmps233;go_step;refine cy ?_;refine bR a [1,6] (λi _=>match i with|1=>ar #[J R d.eE,J R d.hG,J R d.iD,J R d.hi,J R d.mo]|_=>a7) (λ_=>λ|6=>aj dj #[J R st,J R nx,J R (R.wrap (d.eE -eE)),J R bt,J R pos] 158|_=>emp) (λ|6=>[0]|_=>[]) (λ|0=>[2]|1=>[3]|3=>[1]|_=>[]) (λ_=>[]) [1,2,3,4,6,11] (λn=>?_);refine dl 0 0 ?_;refine dK (λl _ a=>RL B m d l (a.has 0)) ?_;refine fT (J R d.eE) ?_;refine dl 0 0 ?_;refine aL (J R (R.wrap (d.eE -eE))) (λ_ _ _=>by(go_simp;try rfl)) ?_;refine aJ ?_;refine fS (J R (R.wrap (d.eE -eE))) ?_;refine bW λw1 a=>?_;replace a:=a.drop 4;refine ah ?_;refine pl a 1 0 ?_;refine aR (aoV B m d _ (a.has 2) h) ?_;rintro e o ⟨rfl,f,j⟩;replace a:=a.eP 2 j;refine xT ?_;go_wp2_with fail;first|go_end0|refine bodyPost_ret (results_none rfl _ _ _) rfl ?_
 exact⟨aa,f,a.pick [4,0,1,2,3]⟩
def amK C(B c)A m d(aq w)FX F(h:qP C d)(N:d.down=ao)(gK:d.cache.length<=1000000000)(hl:∀W,av FX aq W->cU W A C.ms)(a:ak aq FX w [aN B m d,F]):
 aD ax 157 #[de B,J R (C.bd:Int),eL (C.o:Int) (C.n:Int) C.g1 C.g2 (ae A C.ms.length c)] w λe w'=>∃pk,pk<=(C.bd:Int)/\∃P,e=aB (bn #[ar (yA (oL C d).1).toArray,P])/\∃t,al6 P t pk/\∃aZ,ak aq FX w' [t,aN B aZ (oL C d).2,F]:=by
 have eV:=hid h.ok;have L:=hid (λW F G=>amq B m d C.bd C.o C.n c C.g1 C.g2 A C.ms aq W FX F h.ok N h.bd h.sz h.sy h.lay h.dM hl G);cases hn:Hm d C.bd C.o C.n C.g1 C.g2 C.ms with
 |inl f=>
  have hat:oL C d=(⟨0,0,R.wrap (d.eE -d.eE),f.1,f.2⟩,uW d):=by unfold oL FN;rw[hn]
  rw[hat];obtain⟨I,K⟩:=f;simp only[yA];clear hat;have M:aE (∀W F,ak aq FX W [aN B m d,F]->aD ax 12 #[de B,J R (C.bd:Int),eL (C.o:Int) (C.n:Int) C.g1 C.g2 (ae A C.ms.length c)] W λe w'=>e=aB (bn #[ay af,ar #[J R I,J R K]])/\ak aq FX w' [aN B m d,F]):=hid (λW F G=>by have q:=L W F G;rw[hn]at q;exact q);clear hn L h N gK hl;go_enter_defers Tryz.func157,Tryz.ntmps157;go_step;refine ah ?_;refine bL a (ay (ab ⟨B,0,af⟩)) (λu w1 a=>?_);refine bL a (ar (bb (C.o:Int) (C.n:Int) C.g1 C.g2 (ae A C.ms.length c))) (λD aT a=>?_);refine bl a #[J R 0,J R 0,J R 0,J R 0,J R 0] (λv bF a=>?_);refine dV ?_;refine pl a 2 0 ?_;refine bC (RL B m d _ (a.has 3)) a (λb8 a=>?_);refine pk (J R d.eE) ?_;refine bl a #[J R 0] (λx cA a=>?_);refine a' a 0 (J R d.eE) (λcR a=>?_);refine b5 ?_;refine TZ {target:=.fn (ed 233) #[ay (ab ⟨u,0,af⟩),ay (ab ⟨x,0,af⟩),ay (ab ⟨v,0,af⟩)],args:=#[]} aw ?_;refine ah ?_;refine pl a 3 0 ?_;refine ag ?_;refine bh a 2 (bb (C.o:Int) (C.n:Int) C.g1 C.g2 (ae A C.ms.length c)) ?_ (hv:=(e6 _)) (hk:=by show 0+_<=gw _;rw[iY];exact b9 _) (hz:=(by rw[bH];rfl));have r:=(a.pk [4,0,1,2,3,5]).t1;refine aR (M _ _ r) ?_;rintro e dz ⟨rfl,a⟩;clear r;replace a:=a.cW;refine aU ?_;refine v5 ?_;refine a' a 2 (ar #[J R I,J R K]) (λdv a=>?_);refine b5 ?_;refine aG (ai ao) (by(go_simp;try rfl)) ?_;refine ah ?_;refine bh a 2 #[J R 0,J R 0,J R 0,J R I,J R K] ?_;refine ag ?_;refine a' a 2 (ar #[J R 0,J R 0,J R 0,J R I,J R K]) (λeU a=>?_);refine bX ?_;go_wp2_with fail;have r:=(a.pk [2,1,4,0,3,5]).t4;refine Pz (f:=233) (args:=#[ay (ab ⟨u,0,af⟩),ay (ab ⟨x,0,af⟩),ay (ab ⟨v,0,af⟩)]) bg (by simp[go_sem]) ?_;refine(YJ B u x v m d 0 0 0 I K d.eE _ aq _ FX _ eV r).mono ?_;clear r a;rintro e zw aT ⟨rfl,rfl,S,a⟩;replace a:=a.hJ;have aku:=(a.pick (l':=[aN B S (uW d),F]) [3,5]).new emp ⟨av.refl _ _,trivial,λ_ h=>h.elim⟩;exact⟨_,mh aa aa aa (a.aW 0) aw aw,0,alG _,ay af,by first|rfl|trivial,emp,λW _=>amv W,S,aku⟩
 |inr s=>
  have R1:∀B dj dC p g b,rD (⟨B,dj,dC,C.bd,C.o,C.n,p,g,(eu d.size 0 (max C.o C.n)).2,(nd (jR C.o C.n C.g1 C.g2 C.ms)).toNat,C.g1,C.g2,b,C.ms⟩:pT) s=rD (C.E d) s:=λB dj dC p g b=>awk (E:=C.E d) (E':=⟨B,dj,dC,C.bd,C.o,C.n,p,g,(eu d.size 0 (max C.o C.n)).2,(nd (jR C.o C.n C.g1 C.g2 C.ms)).toNat,C.g1,C.g2,b,C.ms⟩) ⟨aa,aa,aa,aa,aa,aa,aa,aa⟩ s;have O:∀B dj dC p g b,r4 (⟨B,dj,dC,C.bd,C.o,C.n,p,g,(eu d.size 0 (max C.o C.n)).2,(nd (jR C.o C.n C.g1 C.g2 C.ms)).toNat,C.g1,C.g2,b,C.ms⟩:pT) s/\s.d=d:=λB dj dC p g b=>ad5 h N gK hn ⟨aa,aa,aa,aa,aa,aa⟩;obtain⟨rc,H,Q⟩:∃rc H,rD (C.E d) s=(rc,H):=⟨_,_,aa⟩;have kr:=afx (O 0 0 0 0 0 af).1;rw[R1,Q]at kr;have hat:oL C d=(⟨s.st,s.nx,R.wrap (H.d.eE -d.eE),rc,0⟩,uW H.d):=by unfold oL FN;rw[hn];simp only;rw[Q]
  rw[hat];simp only[yA];have uD:=(O 0 0 0 0 0 af).2;obtain⟨st,nx,bI,j,i⟩:=s;simp only at uD⊢;obtain rfl:i=d:=uD;have vj:=hid kr.ok;have M:aE (∀W F,ak aq FX W [aN B m i,F]->aD ax 12 #[de B,J R (C.bd:Int),eL (C.o:Int) (C.n:Int) C.g1 C.g2 (ae A C.ms.length c)] W λe w'=>∃ dj dC p g c2 l k b aK,sS l p C.bd C.ms/\ia k b g C.ms/\e=aB (bn #[ay (ab ⟨dj,0,af⟩),ar #[J R 0,J R 0]])/\ak aq FX w' [fF ⟨B,dj,dC,C.bd,C.o,C.n,p,g,(eu i.size 0 (max C.o C.n)).2,(nd (jR C.o C.n C.g1 C.g2 C.ms)).toNat,C.g1,C.g2,b,C.ms⟩ l k 0 ⟨st,nx,bI,j,i⟩ aK c2 m,F]):=hid (λW F G=>by have q:=L W F G;rw[hn]at q;exact q);have Ec:aE (∀dj dC p g b l k pk aK c2 m W F,sS l p C.bd C.ms->ia k b g C.ms->ak aq FX W [fF ⟨B,dj,dC,C.bd,C.o,C.n,p,g,(eu i.size 0 (max C.o C.n)).2,(nd (jR C.o C.n C.g1 C.g2 C.ms)).toNat,C.g1,C.g2,b,C.ms⟩ l k pk ⟨st,nx,bI,j,i⟩ aK c2 m,F]->aD ax 13 #[ay (ab ⟨dj,0,af⟩)] W λe w'=>e=aB (ar #[J R rc,J R 0])/\∃cc,gL ⟨B,dj,dC,C.bd,C.o,C.n,p,g,(eu i.size 0 (max C.o C.n)).2,(nd (jR C.o C.n C.g1 C.g2 C.ms)).toNat,C.g1,C.g2,b,C.ms⟩ l k pk H cc/\ak aq FX w' [cc,F]):=hid (λdj dC p g b l k pk aK c2 m W F Y X G=>by have q:=amF _ l k pk _ aK c2 m aq W FX F Y X (O B dj dC p g b).1 G;rw[R1,Q]at q;exact q);obtain⟨y,qn⟩:=ex ((eu i.size 0 (max C.o C.n)).2);obtain⟨z,E5⟩:=ex ((nd (jR C.o C.n C.g1 C.g2 C.ms)).toNat);rw[qn,E5]at M Ec;clear hat kr O R1 hn L h N gK hl Q qn E5;go_enter_defers Tryz.func157,Tryz.ntmps157;go_step;refine ah ?_;refine bL a (ay (ab ⟨B,0,af⟩)) (λu gF a=>?_);refine bL a (ar (bb (C.o:Int) (C.n:Int) C.g1 C.g2 (ae A C.ms.length c))) (λD hI a=>?_);refine bl a #[J R 0,J R 0,J R 0,J R 0,J R 0] (λv jK a=>?_);refine dV ?_;refine pl a 2 0 ?_;refine bC (RL B m i _ (a.has 3)) a (λke a=>?_);refine pk (J R i.eE) ?_;refine bl a #[J R 0] (λx k9 a=>?_);refine a' a 0 (J R i.eE) (λmj a=>?_);refine b5 ?_;refine TZ {target:=.fn (ed 233) #[ay (ab ⟨u,0,af⟩),ay (ab ⟨x,0,af⟩),ay (ab ⟨v,0,af⟩)],args:=#[]} aw ?_;refine ah ?_;refine pl a 3 0 ?_;refine ag ?_;refine bh a 2 (bb (C.o:Int) (C.n:Int) C.g1 C.g2 (ae A C.ms.length c)) ?_ (hv:=(e6 _)) (hk:=by show 0+_<=gw _;rw[iY];exact b9 _) (hz:=(by rw[bH];rfl));have r:=(a.pk [4,0,1,2,3,5]).t1;refine aR (M _ _ r) ?_;rintro e np ⟨dj,dC,p,g,c2,l,k,b,aK,Y,X,rfl,a⟩;clear r;replace a:=a.cW;refine aU ?_;refine v5 ?_;refine a' a 2 (ar #[J R 0,J R 0]) (λqH a=>?_);refine b5 ?_;refine aG (ai az) (by(go_simp;try rfl)) ?_;refine an ?_;replace a:ak _ _ _ [cH ⟨B,dj,dC,C.bd,C.o,C.n,p,g,y,z,C.g1,C.g2,b,C.ms⟩ 0 st (nx:Int) bI,cY ⟨B,dj,dC,C.bd,C.o,C.n,p,g,y,z,C.g1,C.g2,b,C.ms⟩ j aK c2,aN B m i,l,k,aj x #[J R i.eE] 3,aj v #[J R 0,J R 0,J R 0,J R 0,J R 0] 158,aj D (bb (C.o:Int) (C.n:Int) C.g1 C.g2 (ae A C.ms.length c)) 26,aj u #[ay (ab ⟨B,0,af⟩)] 32,F]:=ak.kd (a.pick (l':=[fF ⟨B,dj,dC,C.bd,C.o,C.n,p,g,y,z,C.g1,C.g2,b,C.ms⟩ l k 0 ⟨st,nx,bI,j,i⟩ aK c2 m,aj x #[J R i.eE] 3,aj v #[J R 0,J R 0,J R 0,J R 0,J R 0] 158,aj D (bb (C.o:Int) (C.n:Int) C.g1 C.g2 (ae A C.ms.length c)) 26,aj u #[ay (ab ⟨B,0,af⟩)] 32,F]) [0,1,2,3,4,5]);refine b5 ?_;refine bC (amG dj (de B) (ae b C.ms.length g) (ay (ab ⟨p,0,af⟩)) (ay (ab ⟨dC,0,af⟩)) (C.bd:Int) 0 (C.o:Int) (C.n:Int) st (nx:Int) C.g1 C.g2 bI _ (a.aW 0)) a (λrJ a=>?_);refine ag ?_;refine bC (amr dj (de B) (ae b C.ms.length g) (ay (ab ⟨p,0,af⟩)) (ay (ab ⟨dC,0,af⟩)) (C.bd:Int) 0 (C.o:Int) (C.n:Int) st (nx:Int) C.g1 C.g2 bI _ (a.aW 0)) a (λu3 a=>?_);refine ag ?_;refine a' a 6 (J R st) (λxO a=>?_);refine ag ?_;refine a' a 6 (J R (nx:Int)) (λBt a=>?_);refine an ?_;replace a:ak _ _ _ [fF ⟨B,dj,dC,C.bd,C.o,C.n,p,g,y,z,C.g1,C.g2,b,C.ms⟩ l k 0 ⟨st,nx,bI,j,i⟩ aK c2 m,aj x #[J R i.eE] 3,aj v #[J R st,J R (nx:Int),J R 0,J R 0,J R 0] 158,aj D (bb (C.o:Int) (C.n:Int) C.g1 C.g2 (ae A C.ms.length c)) 26,aj u #[ay (ab ⟨B,0,af⟩)] 32,F]:=(a.pick (l':=[cH ⟨B,dj,dC,C.bd,C.o,C.n,p,g,y,z,C.g1,C.g2,b,C.ms⟩ 0 st (nx:Int) bI,cY ⟨B,dj,dC,C.bd,C.o,C.n,p,g,y,z,C.g1,C.g2,b,C.ms⟩ j aK c2,aN B m i,l,k,aj x #[J R i.eE] 3,aj v #[J R st,J R (nx:Int),J R 0,J R 0,J R 0] 158,aj D (bb (C.o:Int) (C.n:Int) C.g1 C.g2 (ae A C.ms.length c)) 26,aj u #[ay (ab ⟨B,0,af⟩)] 32,F]) [0,1,2,3,4,5,6,7,8,9]).fh 5;refine ah ?_;refine ag ?_;have r:=(a.pk [0,1,2,3,4,5]).t1;refine aR (Ec dj dC p g b l k 0 aK c2 m _ _ Y X r) ?_;rintro e Bu ⟨rfl,t9,hq,a⟩;clear r;replace a:=a.cW;refine aU ?_;refine ag ?_;refine a' a 2 (ar #[J R rc,J R 0]) (λDD a=>?_);refine an ?_;obtain⟨pk,kx,mv,m9,hle,rfl⟩:=hq;obtain⟨V,T,U,adh,Z⟩:=H;simp only at vj⊢;replace a:ak _ _ _ [cH ⟨B,dj,dC,C.bd,C.o,C.n,p,g,y,z,C.g1,C.g2,b,C.ms⟩ pk V (T:Int) U,cY ⟨B,dj,dC,C.bd,C.o,C.n,p,g,y,z,C.g1,C.g2,b,C.ms⟩ adh kx mv,aN B m9 Z,l,k,aj x #[J R i.eE] 3,aj v #[J R st,J R (nx:Int),J R 0,J R rc,J R 0] 158,aj D (bb (C.o:Int) (C.n:Int) C.g1 C.g2 (ae A C.ms.length c)) 26,aj u #[ay (ab ⟨B,0,af⟩)] 32,F]:=ak.kd (a.pick (l':=[fF ⟨B,dj,dC,C.bd,C.o,C.n,p,g,y,z,C.g1,C.g2,b,C.ms⟩ l k pk ⟨V,T,U,adh,Z⟩ kx mv m9,aj x #[J R i.eE] 3,aj v #[J R st,J R (nx:Int),J R 0,J R rc,J R 0] 158,aj D (bb (C.o:Int) (C.n:Int) C.g1 C.g2 (ae A C.ms.length c)) 26,aj u #[ay (ab ⟨B,0,af⟩)] 32,F]) [0,1,2,3,4,5]);refine ah ?_;refine bh a 6 #[J R st,J R (nx:Int),J R 0,J R rc,J R 0] ?_;refine ag ?_;refine a' a 6 (ar #[J R st,J R (nx:Int),J R 0,J R rc,J R 0]) (λJA a=>?_);refine bX ?_;go_wp2_with fail;have r:=(a.pk [6,5,8,2,0,1,3,4,7,9]).t4;refine Pz (f:=233) (args:=#[ay (ab ⟨u,0,af⟩),ay (ab ⟨x,0,af⟩),ay (ab ⟨v,0,af⟩)]) bg (by simp[go_sem]) ?_;refine(YJ B u x v m9 Z st (nx:Int) 0 rc 0 i.eE _ aq _ FX _ vj r).mono ?_;clear r a;rintro e zw aT ⟨rfl,rfl,S,a⟩;replace a:=a.hJ;exact⟨_,mh aa aa aa (a.aW 0) aw aw,pk,Int.le_trans hle (by show max 0 (C.bd:Int)<=_;omega),ay (ab ⟨dj,0,af⟩),by first|rfl|trivial,cH ⟨B,dj,dC,C.bd,C.o,C.n,p,g,y,z,C.g1,C.g2,b,C.ms⟩ pk V (T:Int) U,λW hp=>amw dj (de B) (ae b C.ms.length g) (ay (ab ⟨p,0,af⟩)) (ay (ab ⟨dC,0,af⟩)) (C.bd:Int) pk (C.o:Int) (C.n:Int) V (T:Int) C.g1 C.g2 U W hp,S,a.pick [4,3,9]⟩
section
section
variable {P:ew} {ops:Array cS} {Q:Exit->b3->aQ->Prop} {md:Region.Mode} {n:Nat} {r:Option Nat}
def YA {i f d:Nat} {b:Array Bool} {a e:b3} {w:aQ} {oi:cS} (v:aP) (h:GL (Fr af) n P md ops Q f (b.setIfInBounds i az) e w) (ho:ops[i]?=ab oi:=by rfl) (k:∀w,(bA a.eval oi).run P w=bf (dc v) w:=by(intro w;go_simp;try with_reducible rfl)) (j:oi.dst=ab d:=by rfl) (g:a.put (ab d) v=e:=by((try simp only[Act.put,List.setIfInBounds_toArray,List.set_cons_zero,List.set_cons_succ]);rfl))
 (hs:Region.noSelect ops=true:=by kernel_rfl) (hf:Region.free md ops b i=true:=by kernel_rfl) (hr:(sL md ops b).contains i=true:=by kernel_rfl) (hw:c9 oi (cZ ops a.tmps)=true:=by kernel_rfl) (hab:∀w,oi.about P w a.eval=none:=by(intro _;rfl)) (EV:∀c a w,Q (.panic c) (a.put oi.dst v) w->Q (.panic c) a w:=by(intro _ _ _ h;exact h)):GL (Fr af) n P md ops Q (f+1) b a w:=by
 rw[<-j]at g;subst g;exact wpAnyIn_take aa ho hs hf hr EV ⟨b1 ⟨hw,k⟩,hab⟩ h
def ams {i j x s t:Nat} {m:Array Bool} {a g:b3} {w:aQ} {oi b:cS} {v u:aP} (c:aQ->Prop) (p:c w)
 (h1:∀w,c w->(bA a.eval oi).run P w=bf (dc v) w/\(bA (a.put b.dst u).eval oi).run P w=bf (dc v) w)
 (l:∀w,c w->∃f args,(bA a.eval b).run P w=bf (.enter f args) w/\(bA (a.put oi.dst v).eval b).run P w=bf (.enter f args) w/\aD P f args w λe w'=>e=aB u/\c w')
 (h:∀w,c w->GL (Fr r) n P md ops Q x ((m.setIfInBounds i az).setIfInBounds j az) g w)
 (hr:sL md ops m=[i,j]:=by kernel_rfl) (hr1:sL md ops (m.setIfInBounds i az)=[j]:=by kernel_rfl) (hr2:sL md ops (m.setIfInBounds j az)=[i]:=by kernel_rfl)
 (MF:ops[i]?=ab oi:=by rfl) (C5:ops[j]?=ab b:=by rfl) (sh:oi.dst=ab s:=by rfl) (jB:b.dst=ab t:=by rfl) (ha:(a.put (ab s) v).put (ab t) u=g:=by((try simp only[Act.put,List.setIfInBounds_toArray,List.set_cons_zero,List.set_cons_succ]);rfl)) (uz:tn oi=true:=by kernel_rfl) (qu:tn b=true:=by kernel_rfl) (hne:i≠j:=by decide) (hd:∀d,oi.dst=ab d->b.dst≠ab d:=by(intro d h;injection h with h;subst h;decide))
 (w1:c9 oi (cZ ops a.tmps)=true:=by kernel_rfl) (aT:c9 b (cZ ops a.tmps)=true:=by kernel_rfl) (bF:c9 oi (cZ ops (a.put b.dst u).tmps)=true:=by kernel_rfl) (b8:c9 b (cZ ops (a.put oi.dst v).tmps)=true:=by kernel_rfl):
 GL (Fr r) n P md ops Q (x+2) m a w:=by
 rw[<-sh,<-jB]at ha;subst ha
 have rd:∀(a) w K,(bA _ oi).run P w=bf (dc v) w->K (a.put oi.dst v) w->ah6 (Fr r) n P oi a w K Q:=λa w K k hk=>by refine Nz (K0:=λ_ _=>False) (next0:=λg w'=>g=a.put oi.dst v/\w'=w) (λg w' ⟨h1,l⟩=>aH) uz ?_;unfold iy;rw[k];exact⟨aa,aa⟩
 have q:∀(a) w K,(∃f args,(bA a.eval b).run P w=bf (.enter f args) w/\aD P f args w λe w'=>e=aB u/\c w')->(∀w',c w'->K (a.put b.dst u) w')->ah6 (Fr r) n P b a w K Q:=λa w K ⟨f,_,k,hc⟩ hk=>by refine Nz (K0:=λ_ _=>False) (next0:=λg w'=>g=a.put b.dst u/\c w') (λg w' ⟨h1,l⟩=>aH) qu ?_;unfold iy;rw[k];exact hc.mono λe w' ⟨h1,l⟩=>by grind
 refine PD hr bg (Ko MF (λK o=>?_) (Ko C5 (λK o=>?_) OV));·rw[if_pos w1];refine rd _ _ _ (h1 w p).1 (o _ _ (PD hr1 bg (Ko C5 (λz y=>?_) OV)));rw[if_pos b8];obtain⟨f,args,_,k,hc⟩:=l w p;exact q _ _ _ ⟨f,_,k,hc⟩ (λw' hw'=>y _ _ (h w' hw'))
 .rw[if_pos aT];obtain⟨f,args,k,_,hc⟩:=l w p;refine q _ _ _ ⟨f,_,k,hc⟩ (λw' hw'=>o _ _ (PD hr2 bg (Ko MF (λz y=>?_) OV)));grind[Array.setIfInBounds_comm,Act.put_comm]
def Dg(n k:Nat):Array Bool:=((dQ n).map (λj=>decide (j<k))).toArray
def att{n k}:(Dg n k).setIfInBounds k az=Dg n (k+1):=by unfold Dg;apply Array.ext bg;grind
def YB(f:(dQ ops.size).all (λk=>sL md ops (Dg ops.size k)==[k])=az\/True):∀(m k) a w l,k+m=ops.size->ops.toList.drop k=l->(∀q,k<=q->q<ops.size->sL md ops (Dg ops.size q)=[q])->sL md ops (Dg ops.size ops.size)=[]->wpListIn (Fr r) n P ops Q l a w->GL (Fr r) n P md ops Q m (Dg ops.size k) a w
 |0,k,a,w,l,hk,b,c,hz,h=>by obtain rfl:k=ops.size:=ad;rw[QI bg]at b;subst b;exact⟨hz,h⟩
 |m+1,k,a,w,l,hk,b,c,hz,h=>by
  have hlt:k<ops.toList.length:=aH;rw[Hc hlt]at b;subst b;have ho:ops[k]?=ab ops.toList[k]:=bg;refine PD (c k (b9 _) ad) bg (Ko ho (λK e=>?_) OV);unfold wpListIn at h;have key:=λa w h=>e _ _ (by rw[att];exact YB f m (k+1) a w _ ad aa (λq h1 d=>c q ad d) hz h);split at h;·grind[Oper.wpIn_mono]
  .grind
end
section
variable {P:ew} {ops:Array cS} {rest:List cS} {Q:Exit->b3->aQ->Prop} {o:cS} {a:b3} {w aq:aQ} {FX:Nat->Prop} {l:List bq}
def awn w (N sz) (t ty e) i z (g:P.underlying t=ab (.slice e)) (hi:P.info? e=ab i) (hz:i.zero=ab z) (hsize:i.size=sz) (hzs:z.cells.size=sz) (hsz:0<sz)
 A n xs (hx:Cells w sz A n xs) aK (m c2) news (hr:Cells w sz aK m news) (h1:∀u∈news,u.oneCell'=az) (hm:0<m)
 (h63:n+m<=maxLen) (hbytes:(n+m)*i.bytes<=140737488355328) (fp:N<=w.heap.size):
 ∃B c w',(Builtin.append_ #[t,t] ty #[ae A n n,ae aK m c2]).run P w=bf (ae (ab ⟨B,0,af⟩) (n+m) c) w'/\Row N w' (ab ⟨B,0,af⟩) (n+m) c e sz (xs++news)/\au w w'/\w.heap.size<=B:=by
 have hlx:=hx.1;have f:=hr.1;obtain⟨a,rfl,hnews⟩:=hr.2 hm;have l:Src P i.size t _ m _ w:=Src.ofSlice w g a m c2 _ (by rw[hr.1,hsize]) hnews h1
 have hold:(Builtin.firstCells i.size n (ae A n n)).run P w.drew=bf xs.toArray w.drew:=by
  rw[hsize];rcases Nat.eq_zero_or_pos n with b|b
  .subst b;obtain rfl:=j3 (by rw[hlx,Nat.zero_mul]);cases A with
   |none=>exact run_firstCells_none w.drew sz 0 0 0
   |some a=>exact KR w.drew sz 0 a 0 0 [] bg (λj u o=>by simp at o)
  .obtain⟨a,rfl,hc⟩:=hx.2 b;exact KR _ sz n a n n xs hlx hc
 have hrun:=run_append_grow_src (P:=P) w t t ty e i z g hi hz A n n xs hold _ m _ l ad (by unfold maxLen at h63;omega) (growslice_fits ad hbytes);have d:=grownCap_ge w (n+m) n e;have k:=grownCap_le_maxLen w _ n e h63;have hlen:(xs++news).length=(n+m)*sz:=by rw[c7,hlx,f,Cg]
 refine⟨_,_,_,hrun,⟨hlen,cm ⟨_,_,_,aa,fp,heap_alloc_new _ _,d,k,?_,?_⟩⟩,au.trans (av.drew _) (av.alloc _ _),b9 _⟩;·have h:=Nat.mul_le_mul_right sz d;simp only[Array.size_append,iK,Builtin.zeroCells,hlx,f];simp[hzs];rw[Cg]at h;rw[Nat.sub_mul,Cg];omega
 .simp only[Array.toList_append,kD];rw[<-kD,<-hlen];exact List.take_left
def auM {s x:Operand} {t e sz n m c2:Nat} {A aK:Option bT} {xs news:List aP} {c:Nat->Nat->b3} (d:ak aq FX w l) (bytes:Nat) (hx0:Cells w sz A n xs) (hr:Cells w sz aK m news) (h1:∀u∈news,u.oneCell'=az)
 (h:∀B b w',ak aq FX w' (ba (ab ⟨B,0,af⟩) (n+m) b e sz (xs++news)::l)->cN P ops Q rest (c B b) w') (hm:0<m:=by decide) (hsz:0<sz:=by decide) (ho:o.op=.call {callee:=.builtin .append,args:=#[s,x],argTypes:=#[t,t]}:=by rfl) (hs:a.eval s=ae A n n:=by rfl) (hx:a.eval x=ae aK m c2:=by rfl)
 (ht:P.underlying t=ab (.slice e):=by kernel_rfl) (lr:(P.info? e).map (λi=>(i.zero.isSome,(i.zero.map (·.cells.size)).getD 0,i.size,i.bytes))=ab (az,sz,sz,bytes):=by kernel_rfl) (hb0:0<bytes:=by decide) (hby:(n+m)*bytes<=140737488355328:=by omega)
 (hw:c9 o (cZ ops a.tmps)=true:=by kernel_rfl) (ha:∀B b,a.put o.dst (ae (ab ⟨B,0,af⟩) (n+m) b)=c B b:=by(intro _ _;((try simp only[Act.put,List.setIfInBounds_toArray,List.set_cons_zero,List.set_cons_succ]);rfl))):cN P ops Q (o::rest) a w:=by
 refine wpList_step λK k=>?_;rw[if_pos hw];cases hq:P.info? e with
 |none=>simp[hq]at lr
 |some i=>
  rw[hq]at lr;simp at lr;obtain⟨bE,cr,f,g⟩:=lr;obtain⟨z,hz⟩:=Option.isSome_iff_exists.1 bE;rw[hz]at cr;simp at cr;subst g;have hle:(n+m)<=(n+m)*i.bytes:=Nat.le_mul_of_pos_right _ hb0;obtain⟨B,b,w',hrun,h1,j,p⟩:=awn (P:=P) w w.heap.size sz t o.type e i z ht hq hz f cr hsz A n xs hx0 aK m c2 news hr h1 hm (by grind[maxLen]) hby (b9 _);unfold iy bA;simp only[ho,resolve,invoke,builtin,gx,kh,jE,oI,j5,ln,hs,hx,hrun];have hk:=k _ _ (h B b w' (d.lA j h1));rw[<-ha]at hk;exact hk
end
def amB{d}(h:dY d){n a}(hn:cO n):dY (sZ d n a):=⟨h.mL,h.vA,h.len,h.small,h.cache,h.dM,by have:cO (max n (-1)):=by{unfold cO at*;omega};exact this⟩
def iA(l:List (Int×Int)):List Value:=l.flatMap (λk=>[J R k.1,J aF k.2])
def Zl l:(iA l).length=l.length*2:=by
 induction l with
 |nil=>rfl
 |cons x l a=>grind[iA]
def LY{l j x}(hx:l[j]?=ab x):∀(i) v,([J R x.1,J aF x.2]:List aP)[i]?=ab v->(iA l)[j*2+i]?=ab v:=by
 induction l generalizing j with
 |nil=>grind
 |cons y l a=>
  intro i v hv;have hc:iA (y::l)=[J R y.1,J aF y.2]++iA l:=bc;have hi:i<2:=(List.getElem?_eq_some_iff.1 hv).1;rw[hc];cases j with
  |zero=>grind
  |succ j=>grind
def fR(C:wy):List (Int×Int)->dR->List rQ×dR
 |[],d=>([],d)
 |k::l,d=>if(oL C (sZ d k.1 k.2)).1.bt=18 then((oL C (sZ d k.1 k.2)).1::(fR C l (oL C (sZ d k.1 k.2)).2).1,(fR C l (oL C (sZ d k.1 k.2)).2).2)else([(oL C (sZ d k.1 k.2)).1],(oL C (sZ d k.1 k.2)).2)
def apm(x:rQ×Int):Array Value:=#[ar (yA x.1).toArray,J R x.2]
def Yw(bd:Nat)(all:List rQ)(pre:List (rQ×Int)):Prop:=pre.map (·.1)<+:all/\∀x∈pre,x.2<=(bd:Int)
def apU(bd:Nat)(all:List rQ)(pre:List (rQ×Int)):Prop:=pre.map (·.1)=all/\∀x∈pre,x.2<=(bd:Int)
def amL C(B bS b' r s c cs)(A g)m d f aq FX(h:qP C d)(cV:d.down=ao)(gK:d.cache.length<=1000000000)(hl:∀W,av FX aq W->cU W A C.ms)(hsc:∀W,av FX aq W->Cells W 2 g f.length (iA f))(fG:f.length<=cs/\f.length<=1048576)(l5:∀k∈f,cO k.1):
 Hk ax 156 #[ay (ab ⟨bS,0,af⟩),ay (ab ⟨b',0,af⟩),ay (ab ⟨r,0,af⟩),ay (ab ⟨s,0,af⟩)] apm aq FX (bP [aj bS #[ae g f.length cs] 65,aj b' #[(de B)] 32,aj r #[J R (C.bd:Int)] 3,aj s (bb (C.o:Int) (C.n:Int) C.g1 C.g2 (ae A C.ms.length c)) 26,aN B m d]) (λu=>∃aZ,u=bP [aj bS #[ae g f.length cs] 65,aj b' #[(de B)] 32,aj r #[J R (C.bd:Int)] 3,aj s (bb (C.o:Int) (C.n:Int) C.g1 C.g2 (ae A C.ms.length c)) 26,aN B aZ (fR C (f++[(-1,0)]) d).2]) (Yw C.bd (fR C (f++[(-1,0)]) d).1) (apU C.bd (fR C (f++[(-1,0)]) d).1) (λ_=>emp):=by
 intro l S gR W F t bV h0 a;have nA:=hid h;have yn:=hid hsc;have tM:=hid hl;have jx:=hid fG;have azT:=hid l5;obtain⟨L,cv⟩:=ex (f++[((-1:Int),(0:Int))]);have xb:L.length=f.length+1:=aH;have akJ:aE (∀k∈L,cO k.1):=hid (λk hk=>by grind[cO]);have PS:aE (iA f++[J R (-1),J aF 0]=iA L):=hid (by grind[iA]);rw[cv]at bV⊢;obtain⟨all,j6,CK⟩:∃all j6,fR C L d=(all,j6):=⟨_,_,aa⟩;rw[CK]at bV⊢;simp only at bV⊢;have PM:=hid CK;have P8:=hid xb;have PM:=hid CK;have P8:=hid xb;have mn:=hid cV;have ye:=hid gK;clear cv xb CK cV gK h hl hsc l5;go_enter Tryz.func156,ntmps156;replace a:ak aq FX W [aj bS #[ae g f.length cs] 65,aj b' #[(de B)] 32,aj r #[J R (C.bd:Int)] 3,aj s (bb (C.o:Int) (C.n:Int) C.g1 C.g2 (ae A C.ms.length c)) 26,aN B m d,t,F]:=a.kd;go_step;refine ah ?_;refine pl a 0 0 ?_;refine pl a 0 0 ?_;refine ag ?_;refine pl a 0 0 ?_;refine ag ?_;refine aG (ae g f.length f.length) (af0 65 105 2 (bj 10) (bj 12) (bj 14) aa Tryz.underlying65 aw g f.length cs f.length f.length aa aa aa (b9 _) jx.1) ?_;refine ag ?_;refine e7 a #[J R (-1),J aF 0] 105 (λOL w1 a=>?_);refine auM (e:=105) (sz:=2) (m:=1) (xs:=iA f) (news:=[J R (-1),J aF 0]) a 16 (yn _ a.only) (aX.cellsOf (m:=1) (a.aW 0) aa) (by intro u hu;simp only[gy,fQ,or_false]at hu;rcases hu with rfl|rfl<;>rfl) (λN Q rJ a=>?_) (hby:=by omega);rw[PS]at a;refine dU ?_;have bJ:=a.pk [0,2,3,4,5,6,7,8];go_wp2_with fail;go_loopw [20] (λaO wr=>∃(j:Nat) (pre:List (rQ×Int)) (Y:nT) (G:dR) (t2:bq),j<=L.length/\aE (pre.map (·.1)++(fR C (L.drop j) G).1=all)/\aE ((fR C (L.drop j) G).2=j6)/\qP C G/\G.down=ao/\G.cache.length<=1000000000/\aE (∀x∈pre,x.2<=(C.bd:Int))/\aO=J R (j:Int)/\S pre t2/\ak aq FX wr [ba (ab ⟨N,0,af⟩) (f.length+1) Q 105 2 (iA L),aj bS #[ae g f.length cs] 65,aj b' #[(de B)] 32,aj r #[J R (C.bd:Int)] 3,aj s (bb (C.o:Int) (C.n:Int) C.g1 C.g2 (ae A C.ms.length c)) 26,aN B Y G,t2,F]) (λaO wr=>L.length -(bQ aO).toNat);case atStart=>exact⟨0,[],m,d,t,cC _,hid (by rw[X6,PM];rfl),hid (by rw[X6,PM]),nA,mn,ye,hid (λ_ h=>(fQ h).elim),aa,h0,bJ⟩
 case round=>
  clear a bJ h0;obtain⟨j,pre,Y,G,t2,hj,hall,H4,Z,Sk,Sh,k4,rfl,hS,a⟩:=hrel;by_cases hlt:j<L.length
  .have cb:(j:Int)<((f.length+1:Nat):Int):=by have:=P8.out;omega
   obtain⟨x,hx⟩:∃x,L[j]?=ab x:=⟨_,cE hlt⟩;have pf:=hid (LY hx);have abQ:=akJ x (cX hx);have X:=hall.out;have hz:=H4.out;rw[Hc hlt,show L[j]=x from by rw[cE hlt]at hx;exact Lp hx]at X hz;rw[fR]at X hz;have MK:qP C (sZ G x.1 x.2):=⟨amB Z.ok abQ,Z.bd,Z.sz,Z.sy,Z.lay,Z.dM,Z.ch⟩;have kr:=amJ MK Sk Sh;have SN:=MK.yQ kr.1;have vh:=hid (λW m F ac=>amK C B c A m (sZ G x.1 x.2) aq W FX F MK Sk Sh tM ac);obtain⟨y,w,hy⟩:∃y w,oL C (sZ G x.1 x.2)=(y,w):=⟨_,_,aa⟩;rw[hy]at X hz kr SN vh;simp only at X hz kr SN vh;obtain⟨P,O⟩:=x;have ab2:j<f.length+1:=ad;have wS:aE (∀p,p<=(C.bd:Int)->Yw C.bd all (pre++[(y,p)])):=hid (λp hp=>⟨by rw[<-X,fP];split;exact⟨(fR C (L.drop (j+1)) w).1,bg⟩;exact⟨[],bg⟩,λz hz=>by rcases iX.1 hz with h|h;exact k4 z h;obtain rfl:=vs.1 h;exact hp⟩);have Xu:aE (y.bt=18->(pre.map (·.1)++[y])++(fR C (L.drop (j+1)) w).1=all/\(fR C (L.drop (j+1)) w).2=j6):=hid (λh=>aH);have XV:aE (y.bt≠18->pre.map (·.1)++[y]=all/\w=j6):=hid (λh=>aH);obtain⟨K,H,M,E,I⟩:=y;simp only[yA]at vh;simp only at Xu XV;have vj:=hid kr;clear hx X hz MK hy hall H4 kr Sk Sh abQ;go_step;refine ah ?_;refine dV ?_;refine aG (ay (ab ⟨N,(0+j*2),af⟩)) (b4 65 105 2 (bj 18) (bj 20) aa Tryz.underlying65 aw N 0 ((f.length+1)) Q j ((0+j*2)) aa aa ab2 aa) ?_;refine aG (ar #[J R P,J aF O]) (eW 105 (bj 22) aa N (0+j*2) aa ([J R P,J aF O]:List aP) (Row.range (a.atR 0) aa (λi v hi=>by rw[iY];exact pf i v hi)) underlying105 aa aw) ?_;refine bl a #[J R 0,J aF 0] (λT aT a=>?_);refine a' a 0 (ar #[J R P,J aF O]) (λbF a=>?_);refine ah ?_;refine pl a 3 0 ?_;refine ag ?_;refine pl a 0 0 ?_;refine ag ?_;refine pl a 0 1 ?_;refine aR (aoF B Y G P O _ (a.has 6)) ?_;rintro e b8 ⟨rfl,bM⟩;replace a:=a.eP 6 bM;refine aU ?_;refine ah ?_;refine pl a 3 0 ?_;refine pl a 4 0 ?_;refine bh a 5 (bb (C.o:Int) (C.n:Int) C.g1 C.g2 (ae A C.ms.length c)) ?_ (hv:=(e6 _)) (hk:=by omega) (hz:=(by rw[bH];rfl));have HB:=(a.pk [6,0,1,2,3,4,5,7,8]).t1;refine aR (vh _ Y _ HB) ?_;rintro e cA ⟨pk,MP,Yn,rfl,dk,aqG,D,a⟩;clear HB;replace a:=a.bk;refine aU ?_;refine v3 ?_;refine bl a #[J R 0,J R 0,J R 0,J R 0,J R 0] (λU cR a=>?_);refine a' a 0 (ar #[J R K,J R H,J R M,J R E,J R I]) (λdz a=>?_);refine hX ?_;refine(ya (n:=0)).1 (wpIn_region_any (F:=Fr af) aw ?_);skip;refine YA (i:=0) (dI (wB l) #[] #[]) ?_;refine YA (i:=2) Yn ?_;have Xk:=a.aI (av.drew _);refine ams (i:=1) (j:=3) (v:=ar #[J R K,J R H,J R M,J R E,J R I]) (u:=J R pk) (λw'=>ak aq FX w' [aj U #[J R K,J R H,J R M,J R E,J R I] 158,dk,aN B D w,aj T #[J R P,J aF O] 105,ba (ab ⟨N,0,af⟩) (f.length+1) Q 105 2 (iA L),aj bS #[ae g f.length cs] 65,aj b' #[(de B)] 32,aj r #[J R (C.bd:Int)] 3,aj s (bb (C.o:Int) (C.n:Int) C.g1 C.g2 (ae A C.ms.length c)) 26,t2,F]) Xk (λw' a=>⟨?_,?_⟩) (λw' a=>⟨158,#[Yn],?_,?_,(aqG w' (a.at (t:=dk) 1)).mono λe aT h=>⟨h.1,a.aI h.2⟩⟩) (λcA a=>?_);·first|exact mH (cs':=#[J R K,J R H,J R M,J R E,J R I]) aa aa (a.aW 0) aw (of_decide_eq_true aw) aw aw|(go_simp;done)|(go_simp;rfl)
   .first|exact mH (cs':=#[J R K,J R H,J R M,J R E,J R I]) aa aa (a.aW 0) aw (of_decide_eq_true aw) aw aw|(go_simp;done)|(go_simp;rfl)
   . (go_simp;try with_reducible rfl)
   . (go_simp;try with_reducible rfl)
   clear Xk;refine YB (cm trivial) 8 4 _ _ _ aa aa (λq h1 h2=>?_) aw ?_;·have h3:q<12:=h2;rcases(show q=4\/q=5\/q=6\/q=7\/q=8\/q=9\/q=10\/q=11 by omega)with rfl|rfl|rfl|rfl|rfl|rfl|rfl|rfl<;>(show _=_;kernel_rfl)
   have HB:=(a.pick (l':=[t2,aj U #[J R K,J R H,J R M,J R E,J R I] 158,dk,aN B D w,aj T #[J R P,J aF O] 105,ba (ab ⟨N,0,af⟩) (f.length+1) Q 105 2 (iA L),aj bS #[ae g f.length cs] 65,aj b' #[(de B)] 32,aj r #[J R (C.bd:Int)] 3,aj s (bb (C.o:Int) (C.n:Int) C.g1 C.g2 (ae A C.ms.length c)) 26,F]) [9,0,1,2,3,4,5,6,7,8,10]).Ey;have p3:ak aq FX cA [t2,both emp (bP [aj U #[J R K,J R H,J R M,J R E,J R I] 158,dk,aN B D w,aj T #[J R P,J aF O] 105,ba (ab ⟨N,0,af⟩) (f.length+1) Q 105 2 (iA L),aj bS #[ae g f.length cs] 65,aj b' #[(de B)] 32,aj r #[J R (C.bd:Int)] 3,aj s (bb (C.o:Int) (C.n:Int) C.g1 C.g2 (ae A C.ms.length c)) 26,F])]:=((HB.pick (l':=[bP [aj U #[J R K,J R H,J R M,J R E,J R I] 158,dk,aN B D w,aj T #[J R P,J aF O] 105,ba (ab ⟨N,0,af⟩) (f.length+1) Q 105 2 (iA L),aj bS #[ae g f.length cs] 65,aj b' #[(de B)] 32,aj r #[J R (C.bd:Int)] 3,aj s (bb (C.o:Int) (C.n:Int) C.g1 C.g2 (ae A C.ms.length c)) 26,F],t2]) [1,0]).new emp ⟨av.refl _ _,trivial,λ_ h=>h.elim⟩).star.pick [1,0];refine Gh (bV pre (⟨K,H,M,E,I⟩,pk) _ _ _ (wS pk MP) hS p3) (λb cR hb=>?_) (λ_ _ he=>he.elim (λh=>⟨_,h.1⟩) (λh=>⟨_,h.1⟩)) (EL aa aa (by simp only[oI,j5,ln];rfl));clear HB p3 a;rcases Ga hb with⟨rfl,V,Ml,a⟩|⟨rfl,V,Ml,a⟩
   .clear hb;replace a:ak _ _ _ [V,aj U #[J R K,J R H,J R M,J R E,J R I] 158,dk,aN B D w,aj T #[J R P,J aF O] 105,ba (ab ⟨N,0,af⟩) (f.length+1) Q 105 2 (iA L),aj bS #[ae g f.length cs] 65,aj b' #[(de B)] 32,aj r #[J R (C.bd:Int)] 3,aj s (bb (C.o:Int) (C.n:Int) C.g1 C.g2 (ae A C.ms.length c)) 26,F]:=ak.u0 ((a.pick (l':=[both emp (bP [aj U #[J R K,J R H,J R M,J R E,J R I] 158,dk,aN B D w,aj T #[J R P,J aF O] 105,ba (ab ⟨N,0,af⟩) (f.length+1) Q 105 2 (iA L),aj bS #[ae g f.length cs] 65,aj b' #[(de B)] 32,aj r #[J R (C.bd:Int)] 3,aj s (bb (C.o:Int) (C.n:Int) C.g1 C.g2 (ae A C.ms.length c)) 26,F]),V]) [1,0]).fx.pick (l':=[V,bP [aj U #[J R K,J R H,J R M,J R E,J R I] 158,dk,aN B D w,aj T #[J R P,J aF O] 105,ba (ab ⟨N,0,af⟩) (f.length+1) Q 105 2 (iA L),aj bS #[ae g f.length cs] 65,aj b' #[(de B)] 32,aj r #[J R (C.bd:Int)] 3,aj s (bb (C.o:Int) (C.n:Int) C.g1 C.g2 (ae A C.ms.length c)) 26,F]]) [2,1]);refine th ?_;by_cases EN:E=18
    .have PF:=hid EN;have Xs:=hid (Xu EN);clear EN;refine v4 ?_;refine pl a 1 3 ?_;refine dp PF (ai ao) ?_;refine dV ?_;refine pad (j:Int) 1 ((j+1:Nat):Int) ?_;refine bX ?_;go_wp2_with fail;go_roundw;case rel=>exact⟨j+1,_,D,w,V,ad,hid (by rw[fP];exact Xs.1),hid Xs.2,SN,vj.2.1,by rw[vj.2.2];exact cC _,hid (λz hz=>(wS pk MP).2 z hz),aa,Ml,a.pick [5,6,7,8,9,3,0,10]⟩
     case measure=>simp[bQ]<;>omega
    .have PF:=hid EN;obtain⟨hg1,hg2⟩:=XV EN;subst hg2;have zQ:=hid hg1;clear EN hg1;refine v4 ?_;refine pl a 1 3 ?_;refine dp PF (ai az) ?_;refine bX ?_;go_wp2_with fail;first|go_end0|refine bodyPost_ret (results_none rfl _ _ _) rfl ?_
     exact tX.all (u:=bP [aj bS #[ae g f.length cs] 65,aj b' #[(de B)] 32,aj r #[J R (C.bd:Int)] 3,aj s (bb (C.o:Int) (C.n:Int) C.g1 C.g2 (ae A C.ms.length c)) 26,aN B D w]) ⟨by rw[fP];exact zQ,(wS pk MP).2⟩ Ml ⟨D,aa⟩ (ak.pick (ak.bP (l:=[aj bS #[ae g f.length cs] 65,aj b' #[(de B)] 32,aj r #[J R (C.bd:Int)] 3,aj s (bb (C.o:Int) (C.n:Int) C.g1 C.g2 (ae A C.ms.length c)) 26,aN B D w]) (a.pick (l':=[aj bS #[ae g f.length cs] 65,aj b' #[(de B)] 32,aj r #[J R (C.bd:Int)] 3,aj s (bb (C.o:Int) (C.n:Int) C.g1 C.g2 (ae A C.ms.length c)) 26,aN B D w,V,F]) [6,7,8,9,3,0,10])) [1,0,2])
   .clear hb;replace a:ak _ _ _ [V,aj U #[J R K,J R H,J R M,J R E,J R I] 158,dk,aN B D w,aj T #[J R P,J aF O] 105,ba (ab ⟨N,0,af⟩) (f.length+1) Q 105 2 (iA L),aj bS #[ae g f.length cs] 65,aj b' #[(de B)] 32,aj r #[J R (C.bd:Int)] 3,aj s (bb (C.o:Int) (C.n:Int) C.g1 C.g2 (ae A C.ms.length c)) 26,F]:=ak.u0 ((a.pick (l':=[both emp (bP [aj U #[J R K,J R H,J R M,J R E,J R I] 158,dk,aN B D w,aj T #[J R P,J aF O] 105,ba (ab ⟨N,0,af⟩) (f.length+1) Q 105 2 (iA L),aj bS #[ae g f.length cs] 65,aj b' #[(de B)] 32,aj r #[J R (C.bd:Int)] 3,aj s (bb (C.o:Int) (C.n:Int) C.g1 C.g2 (ae A C.ms.length c)) 26,F]),V]) [1,0]).fx.pick (l':=[V,bP [aj U #[J R K,J R H,J R M,J R E,J R I] 158,dk,aN B D w,aj T #[J R P,J aF O] 105,ba (ab ⟨N,0,af⟩) (f.length+1) Q 105 2 (iA L),aj bS #[ae g f.length cs] 65,aj b' #[(de B)] 32,aj r #[J R (C.bd:Int)] 3,aj s (bb (C.o:Int) (C.n:Int) C.g1 C.g2 (ae A C.ms.length c)) 26,F]]) [2,1]);refine th ?_;refine v2 ?_;iterate 4 refine ps ?_
    refine bX ?_;go_wp2_with fail;first|go_end0|refine bodyPost_ret (results_none rfl _ _ _) rfl ?_
    exact tX.cut (u:=bP [aj bS #[ae g f.length cs] 65,aj b' #[(de B)] 32,aj r #[J R (C.bd:Int)] 3,aj s (bb (C.o:Int) (C.n:Int) C.g1 C.g2 (ae A C.ms.length c)) 26,aN B D w]) (wS pk MP) Ml (ak.pick (ak.bP (l:=[aj bS #[ae g f.length cs] 65,aj b' #[(de B)] 32,aj r #[J R (C.bd:Int)] 3,aj s (bb (C.o:Int) (C.n:Int) C.g1 C.g2 (ae A C.ms.length c)) 26,aN B D w]) (a.pick (l':=[aj bS #[ae g f.length cs] 65,aj b' #[(de B)] 32,aj r #[J R (C.bd:Int)] 3,aj s (bb (C.o:Int) (C.n:Int) C.g1 C.g2 (ae A C.ms.length c)) 26,aN B D w,V,F]) [6,7,8,9,3,0,10])) [1,0,2])
  .have cb:¬(j:Int)<((f.length+1:Nat):Int):=by have:=P8.out;omega
   have X:=hall.out;have hz:=H4.out;rw[QI ad]at X hz;obtain rfl:G=j6:=hz;have ha2:pre.map (·.1)=all:=by grind[fR]
   go_step;refine ah ?_;refine bX ?_;go_wp2_with fail;first|go_end0|refine bodyPost_ret (results_none rfl _ _ _) rfl ?_
   exact tX.all (u:=bP [aj bS #[ae g f.length cs] 65,aj b' #[(de B)] 32,aj r #[J R (C.bd:Int)] 3,aj s (bb (C.o:Int) (C.n:Int) C.g1 C.g2 (ae A C.ms.length c)) 26,aN B Y G]) ⟨ha2,k4⟩ hS ⟨Y,aa⟩ (ak.pick (ak.bP (l:=[aj bS #[ae g f.length cs] 65,aj b' #[(de B)] 32,aj r #[J R (C.bd:Int)] 3,aj s (bb (C.o:Int) (C.n:Int) C.g1 C.g2 (ae A C.ms.length c)) 26,aN B Y G]) (a.pick (l':=[aj bS #[ae g f.length cs] 65,aj b' #[(de B)] 32,aj r #[J R (C.bd:Int)] 3,aj s (bb (C.o:Int) (C.n:Int) C.g1 C.g2 (ae A C.ms.length c)) 26,aN B Y G,t2,F]) [1,2,3,4,5,6,7])) [1,0,2])
end
def amN(C:wy)(B c cs)(A b)(j:List (Int×Int))w:
 aD ax 71 #[de B,J R (C.bd:Int),eL (C.o:Int) (C.n:Int) C.g1 C.g2 (ae A C.ms.length c),ae b j.length cs] w λe w'=>∃bS b' d f,e=aB (dI (ed 156) #[] #[ay (ab ⟨bS,0,af⟩),ay (ab ⟨b',0,af⟩),ay (ab ⟨d,0,af⟩),ay (ab ⟨f,0,af⟩)])/\cf w w' (bP [aj bS #[ae b j.length cs] 65,aj b' #[(de B)] 32,aj d #[J R (C.bd:Int)] 3,aj f (bb (C.o:Int) (C.n:Int) C.g1 C.g2 (ae A C.ms.length c)) 26]):=by
 go_enter func71,ntmps71;have a:=a8 w;go_step;refine ah ?_;refine bL a (ay _) (λg w1 a=>?_);refine bL a (J _ _) (λk l a=>?_);refine bL a (ar _) (λh m a=>?_);refine bL a (ae b _ cs) (λi p a=>?_);refine ag ?_;refine ah ?_;refine dU ?_;go_wp2_with fail;go_ret;exact⟨i,g,k,h,aa,(ak.fh 4 (a.pick (l':=[aj i _ 65,aj g _ 32,aj _ _ 3,aj h _ 26]) [0,3,2,1])).fresh 0⟩
def q9(l:List rQ):List Value:=l.flatMap yA
def amM l x:q9 (l++[x])=q9 l++yA x:=by simp[q9]
def I1(x:rQ):Bool:=decide (x.bt=0)&&decide (x.pos=0)
def pw(l:List rQ):Bool:=match l.getLast? with|none=>ao|some x=>I1 x
def aoU l x:pw (l++[x])=I1 x:=by simp[pw]
def amI x:∀u∈yA x,u.oneCell'=true:=by intro u a;simp only[yA,gy,fQ,or_false]at a;rcases a with rfl|rfl|rfl|rfl|rfl<;>rfl
def YK C:∀(l) d,(fR C l d).1.length<=l.length
 |[],_=>b9 _
 |k::l,d=>by
  rw[fR];split;·have:=YK C l (oL C (sZ d k.1 k.2)).2;simp only[jQ];omega
  .simp
def aff(all:List rQ)(A:Option bT)(n c:Nat)(pk:Int):List Value:=[ae A n c,ai (pw all),J R pk]
def Zo C(B c cs)(A j)m d f(aq w)FX F(h:qP C d)(y:d.down=ao)(V:d.cache.length<=1000000000)(Y:∀W,av FX aq W->cU W A C.ms)(hsc:∀W,av FX aq W->Cells W 2 j f.length (iA f))(M:f.length<=cs/\f.length<=1048576)(X:∀k∈f,cO k.1)(a:ak aq FX w [aN B m d,F]):
 aD ax 19 #[de B,J R (C.bd:Int),eL (C.o:Int) (C.n:Int) C.g1 C.g2 (ae A C.ms.length c),ae j f.length cs] w λe w'=>∃pk,pk<=(C.bd:Int)/\∃O S,e=aB (ar (aff (fR C (f++[(-1,0)]) d).1 O (fR C (f++[(-1,0)]) d).1.length S pk).toArray)/\∃z,ak aq FX w' [ba O (fR C (f++[(-1,0)]) d).1.length S 158 5 (q9 (fR C (f++[(-1,0)]) d).1),aN B z (fR C (f++[(-1,0)]) d).2,F]:=by
 have v:=λbS b' p q=>amL C B bS b' p q c cs A j m d f aq FX h y V Y hsc M X;have H:=YK C (f++[(-1,0)]) d;rw[c7,vr]at H;have jx:=hid M;obtain⟨all,j6,U⟩:∃all j6,fR C (f++[(-1,0)]) d=(all,j6):=⟨_,_,aa⟩;rw[U]at v H⊢;simp only at v H⊢;clear h y V Y hsc M X U;refine Aq func19 aa ?_;simp only[ntmps19,iK,jQ,mq,pV,pW,qa,p7,lJ,pj];go_step;refine ah ?_;refine bL a (ar _) (λr w1 a=>?_);refine bl a #[ae _ 0 0,ai _,J _ 0] (λs aT a=>?_);refine an ?_;go_step;refine ah ?_;refine bl a #[ae _ 0 0,ai _,J _ 0] (λi bF a=>?_);refine an ?_;replace a:=a.new (ba af 0 0 158 5 []) ⟨av.refl _ _,Row.nil _ _ _ _,λb ⟨_,_,e⟩=>aH⟩;go_step;refine ah ?_;refine v2 ?_;refine bh a 3 (bb (C.o:Int) (C.n:Int) C.g1 C.g2 (ae A C.ms.length c)) ?_ (hv:=(e6 _)) (hk:=by omega) (hz:=(by rw[bH];rfl));refine ag ?_;refine aR (amN C B c cs A j f _) ?_;rintro e b8 ⟨bS,b',p,q,rfl,hF⟩;replace a:=a.new _ hF;refine aU ?_;refine an ?_;replace a:ak _ _ _ [aj bS #[ae j f.length cs] 65,aj b' #[(de B)] 32,aj p #[J R (C.bd:Int)] 3,aj q _ 26,ba af 0 0 158 5 [],aj i #[ae af 0 0,ai ao,J R 0] 63,aj s #[ae af 0 0,ai ao,J R 0] 63,aj r (bb (C.o:Int) (C.n:Int) C.g1 C.g2 (ae A C.ms.length c)) 26,aN B m d,F]:=ak.kd (a.pick (l':=[bP _,ba af 0 0 158 5 [],aj i #[ae af 0 0,ai ao,J R 0] 63,aj s #[ae af 0 0,ai ao,J R 0] 63,aj r _ 26,aN B m d,F]) [0,1,2,3,4,5,6]);go_wp2_with fail;have Q:ak _ _ _ [bP [aj bS _ 65,aj b' _ 32,aj p _ 3,aj q _ 26,aN B m d],bP [aj i _ 63,ba af 0 0 158 5 []],bP [aj s _ 63,aj r _ 26,F]]:=ak.YU (a.pick [0,1,2,3,8,5,4,6,7,9]);refine US (encs:=(λx:rQ×Int=>#[ar #[J R x.1.st,J R x.1.nx,J R x.1.wr,J R x.1.bt,J R x.1.pos],J R x.2])) aa (lf Tryz.func156 bc aa) (λ_=>aa) (v _ _ _ _) (λpre t=>∃g c1 pk,aE (pk<=(C.bd:Int))/\t=bP [aj i #[ae g pre.length c1,ai (pw (pre.map (·.1))),J R pk] 63,ba g pre.length c1 158 5 (q9 (pre.map (·.1)))]) (λ_ _ _=>False) (⟨af,0,0,hid (alG _),aa⟩) Q ?_ ?_ ?_;all_goals clear Q a
 .rintro l rd pre ⟨⟨st,nx,wr,bt,pos⟩,ae3⟩ W t F L o1 ⟨g,c1,pk,G,rfl⟩ a;have ak1:aE (ae3<=(C.bd:Int)):=hid (L.2 _ (List.mem_append_right _ (List.mem_singleton_self _)));have hpl:pre.length<=f.length:=by have h1:=L.1.length_le;grind
  have aBJ:=jx.2;replace a:=a.kM;obtain⟨N,K⟩:=ex pre.length;rw[K]at a hpl;have yl:=hid K;obtain⟨uj,y⟩:=ex (pw (pre.map (·.1)));rw[y]at a;clear y L K v;repeat((fail_if_success (with_reducible refine at_region ?_));gi_step)
  refine jX ?_;refine bl a #[J _ 0,J _ 0,J _ 0,J _ 0,J _ 0] (λqO cA a=>?_);refine a' a 0 (ar _) (λcR a=>?_);refine an ?_;repeat((fail_if_success (with_reducible refine at_region ?_));gi_step)
  refine jX ?_;refine ag ?_;refine an ?_;first|refine BV ?_|skip
  simp only[Exit.then];refine Am a 3 o1 (λdz a=>?_);replace a:ak _ _ _ [aj _ _ 158,aj _ _ 63,ba g N c1 _ 5 _,obj l _,both _ F]:=a;repeat((fail_if_success (with_reducible refine at_region ?_));gi_step)
  refine jX ?_;refine ag ?_;refine pl a 1 0 ?_;refine bh a 0 #[J R st,J R nx,J R wr,J R bt,J R pos] ?_;refine e7 a #[J R st,J R nx,J R wr,J R bt,J R pos] 158 (λaze dv a=>?_);refine jV (m:=1) a 3 40 (aX.cellsOf (m:=1) (a.aW 0) aa) (amI ⟨st,nx,wr,bt,_⟩) (λP T eU a=>?_) (hby:=by omega);refine ag ?_;refine a' a 2 (ae _ _ _) (λgF a=>?_);refine an ?_;repeat((fail_if_success (with_reducible refine at_region ?_));gi_step)
  refine jX ?_;refine ag ?_;refine bh a 1 #[J R bt,J R pos] ?_;refine ag ?_;refine aG (ai (I1 ⟨st,nx,wr,bt,pos⟩)) (by(unfold I1;go_simp;by_cases c8:bt=0<;>by_cases c4:pos=0<;>simp[c8,c4])) ?_;refine ag ?_;refine a' a 2 (ai _) (λhI a=>?_);refine an ?_;repeat((fail_if_success (with_reducible refine at_region ?_));gi_step)
  refine jX ?_;refine ag ?_;refine pl a 2 2 ?_;refine ag ?_;refine aG _ (by(go_simp;try rfl)) ?_;refine ag ?_;refine a' a 2 (J _ _) (λjK a=>?_);refine an ?_;repeat gi_step
  have E:=a.pk [2,3,4,5];replace E:ak _ _ _ [bP [aj i #[ae P (N+1) T,ai (I1 ⟨st,nx,wr,bt,pos⟩),J R (max pk ae3)] 63,ba P (N+1) T 158 5 ((q9 (pre.map (·.1)))++([J R st,J R nx,J R wr,J R bt,J R pos]))],obj l (ga {rd with state:=sJ}),both emp F]:=E.fh 2;refine⟨_,?_,E⟩;exact⟨_,_,_,hid (Int.max_le.2 ⟨G,ak1⟩),by rw[c7,fP,List.map_singleton,aoU,amM,yl.out];rfl⟩
 .rintro D xs t u W I ⟨g,c1,pk,G,rfl⟩ hu a;replace a:=a.kM;replace a:=(a.pk [4,0,1,2,3]).kM;obtain⟨z,rfl⟩:=hu;have Z:xs.length=all.length:=by rw[<-I.1,hB]
  rw[I.1,Z]at a;clear I Z v;replace a:ak _ _ _ [aj bS #[ae j f.length cs] 65,aj b' #[(de B)] 32,aj p #[J R (C.bd:Int)] 3,aj q _ 26,aN B z j6,aj s #[ae af 0 0,ai ao,J R 0] 63,aj r _ 26,F,aj i #[ae g all.length c1,ai (pw all),J R pk] 63,ba g all.length c1 158 5 (q9 all),obj D (jP (ab []))]:=ak.kd (a.pick (l':=[bP _,aj s #[ae af 0 0,ai ao,J R 0] 63,aj r _ 26,F,aj i #[ae g all.length c1,ai (pw all),J R pk] 63,ba g all.length c1 158 5 (q9 all),obj D (jP (ab []))]) [5,0,1,2,3,4,6]);go_step;refine ah ?_;refine bh a 8 #[ae g all.length c1,ai (pw all),J R pk] ?_;refine a' a 5 (ar _) (λke a=>?_);refine an ?_;go_wp2_with fail;refine zc a 10 (λw' a=>⟨gG aa _ _ _ _ _ _ _ aa (a.aW 5) underlying63 aa aw,pk,G,g,c1,aa,z,a.pick [9,4,7]⟩)
 .simp
section
attribute [local irreducible] wpList cL
def zi(b' iv iG ix bS:Nat)(m:bO)(A:Option bT)(c:Nat)(s:Int):bq:=bP [aj b' #[ai (Hr m)] 4,aj iv #[J R (kG m s)] 3,aj iG #[J R m.k,J R m.to,J R m.fr,J R m.n,ae A m.data.length c] 73,aj ix #[J R m.to,J R (cG m)] 35,aj bS #[J R s] 3]
def zi.is{b' iv iG ix bS m A c s W}(h:(zi b' iv iG ix bS m A c s).p W):Hh W b' iv iG ix bS m A c s:=⟨h.1,h.2.1.1,h.2.1.2.1.1,h.2.1.2.1.2.1.1,h.2.1.2.1.2.1.2.1.1⟩
def auY m A c s w(hv:gd m)(d:1<=s):
 aD ax 160 #[kW m A c,J R s] w λe w'=>∃b' iv iG ix bS,e=aB (dI (ed 236) #[] #[ay (ab ⟨b',0,af⟩),ay (ab ⟨iv,0,af⟩),ay (ab ⟨iG,0,af⟩),ay (ab ⟨ix,0,af⟩),ay (ab ⟨bS,0,af⟩)])/\cf w w' (zi b' iv iG ix bS m A c s):=by
 have b:=hv.ck;have h:aE (∀W,aD _ _ #[kW m A c] W λe w'=>e=aB (ar #[J _ _,J _ (cG m)])/\au W w'):=hid (λW=>tt _ _ _ _ A _ c W);have g:=hid (λW=>Hy m A c s W b.2.1 ad d);have f:=hid (λW=>ZE m A c W hv);clear b hv d;go_enter func160,ntmps160;have a:=a8 w;go_step;refine ah ?_;refine bL (cs:=#[J _ _,J _ _,J _ _,J _ _,ae A _ c]) a _ (λiG w1 a=>?_);refine bL (cs:=#[J _ s]) a _ (λbS l a=>?_);refine dV ?_;refine bh a 1 #[J R m.k,J R m.to,J R m.fr,J R m.n,ae A m.data.length c] ?_;refine bC (h _) a (λo a=>?_);refine bl a #[J _ 0,J _ 0] (λix p a=>?_);refine a' a 0 (ar _) (λq a=>?_);refine ah ?_;refine bh a 2 #[J R m.k,J R m.to,J R m.fr,J R m.n,ae A m.data.length c] ?_;refine pl a 1 0 ?_;refine bC (g _) a (λr a=>?_);refine bl a #[J _ 0] (λiv t a=>?_);refine a' a 0 (J _ _) (λu a=>?_);refine ah ?_;refine bh a 3 #[J R m.k,J R m.to,J R m.fr,J R m.n,ae A m.data.length c] ?_;refine bC (f _) a (λv a=>?_);refine bl a #[ai _] (λb' i a=>?_);refine a' a 0 (ai _) (λj a=>?_);refine ah ?_;refine dU ?_;go_wp2_with fail;go_ret;exact⟨b',iv,iG,ix,bS,aa,(ak.fh 5 (a.pick (l':=[aj b' _ 4,aj iv _ 3,aj iG _ 73,aj ix _ 35,aj bS _ 3]) [0,1,4,2,3])).fresh 0⟩
abbrev xX:=bO×Option bT×Nat
def NZ(s:Int)(x:xX):Prop:=(x.1.data.length:Int)<=s/\x.1.n<=s
def aob{m s k}(hv:gd m)(a:1<=s)(hk:0<=k/\k<kG m s):(((ob m s k).data.length:Nat):Int)<=s/\(ob m s k).n<=s:=by grind[ob,vB]
abbrev apo(x:xX):Array Value:=#[kW x.1 x.2.1 x.2.2]
def Q5(s:Int)(q:Nat)(l:List xX):Prop:=(∀x∈l,NZ s x)/\l.length<=q
def anH(cM eQ q:Nat)A c m s aq FX(y:∀W,av FX aq W->p0 W m A c)(hv:gd m)(T:m.data.length<=140737488355328)(f:1<=s)(C:kG m s=(q:Int))(nI:q<=1048576):
 Hk ax 159 #[ay (ab ⟨cM,0,af⟩),ay (ab ⟨eQ,0,af⟩)] apo aq FX (bP [aj cM #[J R m.k,J R m.to,J R m.fr,J R m.n,ae A m.data.length c] 73,aj eQ #[J R s] 3]) (λu=>u=bP [aj cM #[J R m.k,J R m.to,J R m.fr,J R m.n,ae A m.data.length c] 73,aj eQ #[J R s] 3]) (Q5 s q) (Q5 s q) (λ_=>emp):=by
 intro l S gR W F t Z N a;have cq:=hid y;have cJ:=hid hv;obtain⟨e0,fJ⟩:=LU hv f;have P:=hv.ck;have H:=hid (λW=>Hy m A c s W P.2.1 ad f);have V:=hid (λW=>auY m A c s W hv f);have K:=hid (λW b' iv iG ix bS j (h1:Hh W b' iv iG ix bS m A c s) (g:av FX aq W) (Q:0<=j/\j<kG m s)=>aeT m A c b' iv iG ix bS s j W h1 (y W g) hv T f Q);have M:=hid (λj (h:0<=j/\j<kG m s)=>aob (k:=j) hv f h);rw[C]at e0 fJ H K M;have Lc:=hid C;clear y hv P C T;go_enter Tryz.func159,ntmps159;replace a:ak aq FX W [aj cM #[J R m.k,J R m.to,J R m.fr,J R m.n,ae A m.data.length c] 73,aj eQ #[J R s] 3,t,F]:=a.kd;go_step;refine ah ?_;refine bh a 0 #[J R m.k,J R m.to,J R m.fr,J R m.n,ae A m.data.length c] ?_;refine pl a 1 0 ?_;refine aR (H _) ?_;rintro e w1 ⟨rfl,g⟩;replace a:=a.aI g;refine aU ?_;refine ag ?_;refine an ?_;go_step;refine ah ?_;refine ag ?_;refine aG (ai ao) (by(go_simp;try omega)) ?_;refine an ?_;go_step;refine ah ?_;refine bh a 0 #[J R m.k,J R m.to,J R m.fr,J R m.n,ae A m.data.length c] ?_;refine pl a 1 0 ?_;refine aR (V _) ?_;rintro e aT ⟨b',iv,iG,ix,bS,rfl,hF⟩;replace a:=a.new _ hF;refine aU ?_;refine ag ?_;refine an ?_;go_step;refine ah ?_;iterate 2 refine ag ?_
 refine an ?_;have L:=a;go_wp2_with fail;go_loopw [16] (λD wr=>∃(j:Nat) (pre:List xX) (t2:bq),j<=q/\pre.length=j/\aE (∀x∈pre,NZ s x)/\D=J R (j:Int)/\S pre t2/\ak aq FX wr [zi b' iv iG ix bS m A c s,aj cM #[J R m.k,J R m.to,J R m.fr,J R m.n,ae A m.data.length c] 73,aj eQ #[J R s] 3,t2,F]) (λD wr=>q -(bQ D).toNat);case atStart=>exact⟨0,[],t,cC _,aa,hid (λ_ h=>(fQ h).elim),aa,N,L⟩
 case round=>
  clear a L N;obtain⟨j,pre,t2,Q,hpl,I,rfl,O,a⟩:=hrel;by_cases hlt:j<q
  .have U:(j:Int)<(q:Int):=ad;have G:aE ((0:Int)<=(j:Int)/\(j:Int)<(q:Int)):=hid ⟨ad,U⟩;obtain⟨o,B⟩:∃z,ob m s (j:Int)=z:=⟨_,aa⟩;have X:=hid B
   have r:aE (∀aK c2,Q5 s q (pre++[(o,aK,c2)])):=hid (λaK c2=>⟨λx hx=>by
    rcases iX.1 hx with h|h;·exact I x h
    .obtain rfl:=vs.1 h;have d:=M (j:Int) G;rw[B]at d;exact d,by rw[c7,hpl];exact hlt⟩);clear B;go_step;refine ah ?_;refine aG (ai az) (by(go_simp;try omega)) ?_;refine an ?_;go_step;refine ah ?_;iterate 2 refine ag ?_
   refine an ?_;go_step;refine cy ?_;refine JE 4 ?_;have Y:aE (∀W,Hh W b' iv iG ix bS m A c s->av FX aq W->aD ax 236 #[J R (j:Int),ay (ab ⟨b',0,af⟩),ay (ab ⟨iv,0,af⟩),ay (ab ⟨iG,0,af⟩),ay (ab ⟨ix,0,af⟩),ay (ab ⟨bS,0,af⟩)] W λe w'=>∃p v,e=aB (kW o p v)/\au W w'):=hid (λW h g=>by have d:=K W b' iv iG ix bS (j:Int) h g G;rw[X]at d;exact d.mono λ_ _ ⟨p,v,h3,_,h4⟩=>⟨p,v,h3,h4⟩);iterate 3 refine ag ?_
   refine aR (Y.out _ (zi.is (a.at (t:=zi b' iv iG ix bS m A c s) 0)) a.only) ?_;rintro e bF ⟨aK,c2,rfl,g⟩;replace a:=a.aI g;refine aU ?_;refine an ?_;replace a:=a.dE;have E:=(a.pick (l':=[t2,emp,zi b' iv iG ix bS m A c s,aj cM #[J R m.k,J R m.to,J R m.fr,J R m.n,ae A m.data.length c] 73,aj eQ #[J R s] 3,F]) [4,0,1,2,3,5]).Ey;refine Gh (Z pre (o,aK,c2) _ _ _ (r aK c2) O E) (λb b8 hb=>?_) (λ_ _ he=>he.elim (λh=>⟨_,h.1⟩) (λh=>⟨_,h.1⟩)) (EL aa aa (by simp only[oI,j5,ln];rfl));clear E a;rcases Ga hb with⟨rfl,i,w,a⟩|⟨rfl,i,w,a⟩
   .clear hb;replace a:ak _ _ _ [i,emp,zi b' iv iG ix bS m A c s,aj cM #[J R m.k,J R m.to,J R m.fr,J R m.n,ae A m.data.length c] 73,aj eQ #[J R s] 3,F]:=a.u0;refine th ?_;refine aG (ai ao) (by(show _=_;kernel_rfl)) ?_;refine an ?_;go_step;refine ah ?_;refine pad (j:Int) 1 ((j+1:Nat):Int) ?_;refine ag ?_;refine an ?_;go_wp2_with fail;go_roundw;case rel=>exact⟨j+1,pre++[(o,aK,c2)],i,ad,by rw[c7,hpl];rfl,hid (r aK c2).1,aa,w,a.pick [2,3,4,0,5]⟩
    case measure=>simp[bQ]<;>omega
   .clear hb;replace a:ak _ _ _ [i,emp,zi b' iv iG ix bS m A c s,aj cM #[J R m.k,J R m.to,J R m.fr,J R m.n,ae A m.data.length c] 73,aj eQ #[J R s] 3,F]:=a.u0;refine th ?_;refine aG (ai az) (by(show _=_;kernel_rfl)) ?_;refine an ?_;go_wp2_with fail;first|go_end0|refine bodyPost_ret (results_none rfl _ _ _) rfl ?_
    exact tX.cut (u:=bP [aj cM #[J R m.k,J R m.to,J R m.fr,J R m.n,ae A m.data.length c] 73,aj eQ #[J R s] 3]) (r aK c2) w (((a.pick (l':=[aj cM #[J R m.k,J R m.to,J R m.fr,J R m.n,ae A m.data.length c] 73,aj eQ #[J R s] 3,i,F]) [3,4,0,5]).fh 2).pick [1,0,2])
  .have U:¬(j:Int)<(q:Int):=ad;go_step;refine ah ?_;refine aG (ai ao) (by(go_simp;try omega)) ?_;refine an ?_;go_wp2_with fail;first|go_end0|refine bodyPost_ret (results_none rfl _ _ _) rfl ?_
   exact tX.all (u:=bP [aj cM #[J R m.k,J R m.to,J R m.fr,J R m.n,ae A m.data.length c] 73,aj eQ #[J R s] 3]) ⟨I,ad⟩ O aa (((a.pick (l':=[aj cM #[J R m.k,J R m.to,J R m.fr,J R m.n,ae A m.data.length c] 73,aj eQ #[J R s] 3,t2,F]) [1,2,3,4]).fh 2).pick [1,0,2])
def anI m A c s w:
 aD ax 72 #[kW m A c,J R s] w λe w'=>∃cM eQ,e=aB (dI (ed 159) #[] #[ay (ab ⟨cM,0,af⟩),ay (ab ⟨eQ,0,af⟩)])/\cf w w' (bP [aj cM #[J R m.k,J R m.to,J R m.fr,J R m.n,ae A m.data.length c] 73,aj eQ #[J R s] 3]):=by
 go_enter func72,ntmps72;have a:=a8 w;go_step;refine ah ?_;refine bL (cs:=#[J _ _,J _ _,J _ _,J _ _,ae A _ c]) a _ (λb w1 a=>?_);refine bL (cs:=#[J _ s]) a _ (λd f a=>?_);refine ag ?_;refine ah ?_;refine dU ?_;go_wp2_with fail;go_ret;exact⟨_,_,aa,(ak.fh 2 (a.pick (l':=[aj _ _ 73,aj _ _ 3]) [1,0])).fresh 0⟩
end
section
attribute [local irreducible] wpList cL
def uf(s:Nat)(m:bO):Nat:=(cG m -1).toNat/s+1
def lL(s:Nat)(ms:List bO):Nat:=(ms.map (uf s)).sum
def Ru{s}{ms:List bO}{j m}(h:ms[j]?=ab m):lL s (ms.take (j+1))=lL s (ms.take j)+uf s m:=by grind[lL,gq]
def Rv{s ms}j:lL s (ms.take j)<=lL s ms:=by grind[lL,oa]
def Y0{m}{s:Nat}(h:0<cG m):kG m (s:Int)=((uf s m:Nat):Int):=by grind[kG,cnt,uf]
def A0(a:List Nat):bq:=bP (a.map (λD=>obj D (jP (ab []))))
def TC(D:Nat):Deferred:={target:=BQ D,args:=#[]}
section
variable {P:ew} {fn:Func} {cz:Ending->aQ->Prop} {aq:aQ} {FX:Nat->Prop} {qF:Array aP} {v:aP}
def adH{L}(h:∀w',ak aq FX w' L->(nw fn qF).run P w'=bf v w'/\cz (aB v) w'):∀(a) w,ak aq FX w (A0 a::L)->LeavesInM (Fr af) 0 P fn qF cz (a.map TC) Vu w
 |[],w,c=>⟨v,h w (c.drop 0)⟩
 |D::a,w,c=>by
  have d:ak aq FX w (obj D (jP (ab []))::A0 a::L):=by have g:=ak.kd (l:=[obj D _,A0 a]) (l':=L) (c.as 0 aa _ (λh=>⟨h.1,⟨h.2.1,trivial,λ_ _ h=>h.elim⟩,λb h1 f=>h.2.2 b h1 (f.elim id (λh=>h.elim))⟩) (λb hb=>hb.elim b1 (λh=>h.elim cm (λh=>h.elim))));exact g
  have e:=d.putObj 0 (jP af) aa;exact⟨bg,b1 ⟨D,_,aa,run_takeDeferred (d.obj 0),adH h a _ (e.drop 0)⟩⟩
def ats{L:List bq}{a:b3}{w:aQ}(b:List Nat)(c:ak aq FX w (A0 b::L))(h:∀w',ak aq FX w' L->(nw fn a.tmps).run P w'=bf v w'/\cz (aB v) w')(d:a.defers=b.map TC:=by rfl):bodyPostM (Fr af) 0 P fn cz .ret a w:=by show LeavesInM _ _ _ _ _ _ a.defers _ _;rw[d];exact adH h b w c
end
def amo s A c ms w(hl:cU w A ms)(hv:∀m∈ms,gd m)(Z:∀m∈ms,m.data.length<=140737488355328)(hs:1<=s)(ht:lL s ms<=1000000)(fU:ms.length<=1048576):
 aD ax 23 #[J R (s:Int),ae A ms.length c] w λe w'=>∃l:List xX,(∀x∈l,NZ (s:Int) x)/\l.length<=lL s ms/\∃O U,e=aB (ae O l.length U)/\cf w w' (ba O l.length U 73 5 (cD l)):=by
 have cK:=hid hl;have cJ:=hid hv;have eV:=hid Z;clear hl hv Z;refine Aq func23 aa ?_;simp only[ntmps23,iK,jQ,mq,pV,pW,qa,p7,lJ,pj];have d:=a8 w;go_step;refine ah ?_;refine ag ?_;refine an ?_;go_step;refine ah ?_;refine bl d #[ae _ 0 0] (λB w1 d=>?_);refine an ?_;go_step;refine ah ?_;refine v3 ?_;refine an ?_;replace d:=d.new (ba _ 0 0 73 5 []) ⟨av.refl _ _,Row.nil _ _ _ _,λb ⟨_,_,e⟩=>by cases e⟩;replace d:ak _ _ _ [A0 [],ba _ 0 0 73 5 (cD []),aj _ _ 24]:=d.dE;go_wp2_with fail;refine wp_loop (λr w'=>∃ j o ox pO agG agI u8 agu agv agw agx u16 agy agz agA agB agC agD agE agF,(∃(aK:Option bT) (c2:Nat) (l:List xX),j<=ms.length/\aE (∀x∈l,NZ (s:Int) x)/\aE (l.length<=lL s (ms.take j))/\ak w (λ_=>False) w' [A0 o,ba aK l.length c2 73 5 (cD l),aj B #[ae aK l.length c2] 24])/\r={tmps:=#[J R (s:Int),ae A ms.length c,ox,pO,ae af 0 0,ay (ab ⟨B,0,af⟩),agG,agI,u8,ae A ms.length c,J R (ms.length:Int),J R (j:Int),agu,agv,agw,agx,u16,agy,agz,agA,agB,agC,agD,agE,agF],defers:=o.map TC}) (λr _=>ms.length -(bQ (r.tmps.getD 11 a7)).toNat) ?_ ?_;·exact⟨0,[],_,_,_,_,_,_,_,_,_,_,_,_,_,_,_,_,_,_,⟨_,0,[],cC _,hid (λ_ h=>(fQ h).elim),hid (cC _),d⟩,aa⟩
 rintro r wr ⟨j,o,ox,pO,agG,agI,u8,agu,agv,agw,agx,u16,agy,agz,agA,agB,agC,agD,agE,agF,⟨aK,c2,l,hj,Q,E,P⟩,rfl⟩;clear d;have d:=P;clear P;have hle:=dT E (dT (Rv j) ht);by_cases hlt:j<ms.length
 .have cb:(j:Int)<(ms.length:Int):=ad;obtain⟨m,I⟩:∃m,ms[j]?=ab m:=⟨_,cE hlt⟩;obtain⟨bz,bN,z,H,V,X,Y⟩:=cU.jb cK I;have cq:=hid V;have iz:=hid X;have dh:=hid Y;have G:=hid I;clear V X Y I;have N:=cJ m (cX G);have abq:=eV m (cX G);obtain⟨q,L⟩:=ex (uf s m);have M:=Ru (s:=s) G;rw[L]at M;have acu:kG m (s:Int)=(q:Int):=by rw[Y0 N.ck.2.1,L]
  have aBy:q<=1000000:=by have h1:=Rv (s:=s) (ms:=ms) (j+1);omega
  have ak7:=hid M;have S:=λcM eQ=>anH cM eQ q z H m _ w (λ_=>False) (λW g=>iz W g) N abq ad acu ad;clear N abq L M acu;go_step;refine ah ?_;refine a1 (ai az) ?_;refine an ?_;go_step;refine ah ?_;refine aG _ (b4 24 73 5 _ _ aa ee aw _ _ _ _ _ _ (by show ae A _ _=_;rw[cq]) aa hlt aa) ?_;refine aG _ (by(refine eW 73 _ aa bz _ aa _ (dh _ d.only) fO aa aw)) ?_;refine bl d #[J _ 0,J _ 0,J _ 0,J _ 0,ae _ 0 0] (λfl aT d=>?_);refine a' d 0 (ar _) (λbF d=>?_);refine an ?_;go_step;refine ah ?_;refine bh d 0 #[J R m.k,J R m.to,J R m.fr,J R m.n,ae z m.data.length H] ?_;refine ag ?_;refine aR (anI m z H _ _) ?_;rintro e b8 ⟨cM,eQ,rfl,hF⟩;replace d:=d.new _ hF;refine aU ?_;refine an ?_;go_wp2_with fail;have T:ak _ _ _ [bP _,bP [aj B _ 24,ba aK _ c2 73 5 _],bP [aj fl _ 73,A0 o]]:=ak.Cr (d.pick [0,4,3,1,2]);refine US (encs:=(λx:xX=>#[kW _ _ _])) aa (lf Tryz.func159 aw aa) (λ_=>aa) (S _ _) (λpre t=>∃i c1,t=bP [aj _ #[ae i (l.length+pre.length) c1] 24,ba i (l.length+pre.length) c1 73 5 (cD (l++pre))]) (λ_ _ _=>False) (⟨aK,c2,by rw[kE];rfl⟩) T ?_ ?_ ?_;all_goals clear T d
  .rintro ads rd pre ⟨f,p,v⟩ W t F eN o1 ⟨i,c1,rfl⟩ d;have hpl:(pre++[((f,p,v):xX)]).length<=q:=eN.2;rw[c7,vr]at hpl;replace d:=d.kM;obtain⟨nl,K⟩:=ex (l.length+pre.length);rw[K]at d;have yl:=hid K;have nb:nl<=2000000:=ad;clear K eN S;repeat((fail_if_success (with_reducible refine at_region ?_));gi_step)
   refine jX ?_;refine bl d #[J _ 0,J _ 0,J _ 0,J _ 0,ae _ 0 0] (λep cA d=>?_);refine a' d 0 (ar _) (λcR d=>?_);refine an ?_;first|refine BV ?_|skip
   simp only[Exit.then];refine Am d 3 o1 (λdz d=>?_);replace d:ak _ _ _ [aj _ _ 73,aj _ _ 24,ba i nl c1 73 5 _,obj ads _,both _ F]:=d;repeat((fail_if_success (with_reducible refine at_region ?_));gi_step)
   refine jX ?_;refine pl d 1 0 ?_;refine bh d 0 #[J R f.k,J R f.to,J R f.fr,J R f.n,ae p f.data.length v] ?_;refine e7 d #[J R f.k,J R f.to,J R f.fr,J R f.n,ae p f.data.length v] 73 (λahN dv d=>?_);refine jV (m:=1) d 3 56 (aX.cellsOf (m:=1) (d.aW 0) aa) (by intro u y;simp at y;rcases y with rfl|rfl|rfl|rfl|rfl<;>rfl) (λOt Ri eU d=>?_) (hby:=by omega);refine a' d 2 (ae _ _ _) (λgF d=>?_);refine an ?_;repeat gi_step
   have C:=d.pk [2,3,4,5];replace C:ak _ _ _ [bP [aj _ _ 24,ba _ _ _ 73 5 ((cD _)++(jt f p v))],obj ads _,both _ F]:=C.fh 2;refine⟨_,?_,C⟩;exact⟨_,_,by rw[c7,vr,<-QQ,yl,<-kD,As (l++pre),CA]⟩
  .rintro D xs t u W hQ ⟨i,c1,rfl⟩ y d;replace d:=d.kM;replace d:=(d.pk [4,0,1,2,3]).kM;subst y;have ir:=hQ.1;have fj:=hQ.2;go_step;refine ah ?_;refine pad _ 1 ((j+1:Nat):Int) ?_;refine ag ?_;refine an ?_;have akR:=(d.pick (l':=[obj D _,A0 o,ba i _ c1 73 5 _,aj _ _ 24]) [5,1,3,2]).star;go_wp2_with fail
   refine⟨⟨j+1,D::o,_,_,_,_,_,_,_,_,_,_,_,_,_,_,_,_,_,_,⟨i,c1,_,ad,hid (λx hx=>by
    rcases iX.1 hx with h|h;·exact Q x h
    .exact ir x h),hid (by rw[c7,ak7];exact Nat.add_le_add E fj),?_⟩,aa⟩,?_⟩;·rw[c7];exact akR
   .show ms.length -(bQ (J R ((j+1:Nat):Int))).toNat<ms.length -(bQ (J R (j:Int))).toNat;simp only[bQ,Int.toNat_natCast];omega
  .rintro D bt pre t u W _ h;exact h.elim
 .have cb:¬(j:Int)<(ms.length:Int):=ad;go_step;refine ah ?_;refine a1 (ai ao) ?_;refine an ?_;go_step;refine ah ?_;refine pl d 2 0 ?_;refine ag ?_;refine an ?_;go_wp2_with fail;refine ats o d (λw' d=>⟨results_tmp rfl _ _ _,l,λa b c h=>Q _ h,dT E (Rv j),aK,c2,aa,d.fresh 0⟩)
end
section
attribute [local irreducible] wpList cL
def awN k cs a w(hsc:Cells w 2 k a.length (iA a))(y:0<a.length->∀f,k=ab f->f.spot=af)(P:a.length<=1048576):
 aD ax 20 #[ae k a.length cs] w λe w'=>∃q s,e=aB (ae q a.length s)/\cf w w' (ba q a.length s 105 2 (iA a)):=by
 have E:=hid hsc;have C:=hid y;clear hsc y;go_enter func20,ntmps20;have d:=a8 w;go_step;refine ah ?_;refine ag ?_;refine ah ?_;refine ag ?_;refine ah ?_;refine v3 ?_;refine an ?_;replace d:=d.new (ba af 0 0 105 2 []) ⟨av.refl _ _,Row.nil _ _ _ _,λb ⟨_,_,e⟩=>aH⟩;have r:=d;go_wp2_with fail;go_loopw [3,8] (λB l wr=>∃(j:Nat) (A:Option bT) (c:Nat),j<=a.length/\B=ae A j c/\l=J R (j:Int)/\ak w (λ_=>False) wr [ba A j c 105 2 (iA (a.take j))]) (λB l wr=>a.length -(bQ l).toNat);case atStart=>exact⟨0,_,0,cC _,aa,aa,r⟩
 case round=>
  clear d r;obtain⟨j,A,c,O,rfl,rfl,d⟩:=hrel;by_cases hlt:j<a.length
  .have H:(j:Int)<(a.length:Int):=ad;obtain⟨x,hx⟩:∃x,a[j]?=ab x:=⟨_,cE hlt⟩;have G:=hid (LY hx);have F:aE (iA (a.take (j+1))=iA (a.take j)++[J R x.1,J aF x.2]):=hid (by grind[gq,iA]);obtain⟨n,o⟩:=x;obtain⟨f,t,hcc⟩:=E.2 ad;obtain⟨g,p,I⟩:=f;have hsp:I=none:=by have h:=C.out;rw[t]at h;exact h ad _ aa
   subst hsp;subst t;have D:aE (w.rangeAt g _ [J _ n,J _ o]):=hid (λi v hi=>by have h:=hcc _ v (G i v hi);rw[mW]at h;rw[QQ];exact h);clear hx hcc;go_step;refine ah ?_;refine a1 (ai az) ?_;refine ah ?_;refine aG (ay (ab ⟨g,(p+j*2),af⟩)) (b4 29 44 2 (bj 6) (bj 8) aa Tryz.underlying29 aw g p (a.length) cs j ((p+j*2)) aa aa hlt aa) ?_;refine aG _ (eW 44 _ aa g _ aa _ (λi v hi=>d.only.cell (D i v hi) (λh=>h)) underlying44 aa aw) ?_;refine bl d #[J _ 0,J _ 0] (λM w1 d=>?_);refine a' d 0 (ar _) (λQ d=>?_);refine b5 ?_;refine bh d 0 #[J R n,J aF o] ?_;refine e7 d #[J R n,J aF o] 105 (λL S d=>?_);refine jV (m:=1) d 2 16 (aX.cellsOf (m:=1) (d.aW 0) aa) (by intro u z;simp at z;rcases z with rfl|rfl<;>rfl) (λK N T d=>?_) (hby:=by omega);refine dV ?_;refine pad (j:Int) 1 ((j+1:Nat):Int) ?_;refine bX ?_;go_wp2_with fail;go_roundw;case rel=>exact⟨_,_,_,ad,aa,aa,by rw[F];exact d.pick [2]⟩
   case measure=>grind[bQ]
  .have H:¬(j:Int)<(a.length:Int):=ad;obtain rfl:j=a.length:=ad;go_step;refine ah ?_;refine a1 (ai ao) ?_;refine ah ?_;refine dU ?_;go_wp2_with fail;go_ret;exact⟨A,c,aa,by have h:=d.fresh 0;rwa [List.take_length]at h⟩
end
end Go.Proofs.YtcmhplknoglbkaaGreat
