/- Part 10 of the proof of TopConvertsSaid. -/
import Derived.Test.YtcmhplknoglbkaaGreatQc0
import Derived.Test.YtcmhplknoglbkaaGreatQc3
import Derived.Test.YtcmhplknoglbkaaGreatQc8
import Derived.Test.YtcmhplknoglbkaaGreatQc9
set_option linter.all false
set_option maxRecDepth 100000
set_option maxHeartbeats 4000000
open Go.Proofs.Tryz
open Array renaming replicate_succ->qf,replicate_zero->qg,size->jD
open Bool renaming false->au,true->aB
open Go.AllReadyIn renaming cons->JA,nil->OC
open Go renaming Calls->aD,Oper->cR,Program->eu,Value->aO,World->aM,bodyPost_ret->dn,callFunc->kj,execOp->bt,leaves_cons->Ph,results->n',results_cell_row->jd,run_endLoop->Pm,run_firstCells_some->JY,undef->aY,wpAnyIn->F',wpAnyIn_ready->Pn,wpIn_wide->xW,wpList_nil->an,wp_region_lit->cM,yielded->cY
open Go.Ending renaming returned->aA
open Go.Fn renaming func->ej,yield->wi
open Go.IntKind renaming i64->R,u64->aG
open Go.LoopState renaming busy->sl,exhausted->FY,ready->kh
open Go.Next renaming value->c8
open Go.Obj renaming deferred->ki,loop->fS
open Go.Oper renaming wp->hB,wpIn->agt
open Go.Operand renaming tmp->bb
open Go.Proofs.Tryz renaming prog->ax,underlying24->eA,underlying49->xS,underlying73->fW
open Go.Proofs renaming enters_of->ll
open Go.Region renaming ready->sm,wanted->c4
open Go.Result renaming andThen_ok->ji,ok->a7
open Go.RowKit renaming Hid->aE,intOf->cw
open Go.Sem renaming run_bind->gj,run_pure->jR
open Go.Target renaming collected->Dl
open Go.Value renaming agg->av,bool->ak,func->dJ,int->J,pointer->ay,slice->ad,tuple->bg
open Int renaming eq_ofNat_of_zero_le->tC,natCast_nonneg->ajN
open List renaming append_assoc->j5,append_toArray->qu,cons_append->pB,drop_eq_getElem_cons->DL,drop_of_length_le->GK,drop_zero->Qo,eq_nil_of_length_eq_zero->jH,getElem?_eq_getElem->cj,length_append->dv,length_cons->jT,length_nil->l2,length_singleton->wO,map_append->gx,map_cons->jx,map_nil->kC,map_toArray->og,mem_cons->gy,mem_of_getElem?->cL,nil_append->nd,not_mem_nil->ga,push_toArray->qv,range->dF,range_succ->pE,size_toArray->iQ
open Nat renaming add_mul->Bu,le_refl->cm,le_trans->eC,lt_succ_iff_lt_or_eq->wP,zero_add->kV,zero_le->cQ
open Option renaming none->af,some->ab
open Option.some renaming inj->KA
open Or renaming inr->b1
open Sum renaming inr->KE
open Sum.inr renaming inj->akd
namespace Go.Proofs.YtcmhplknoglbkaaGreat
section
open Go.RowKit Go.MapKept
section
variable {P:eu} {α:Type} {encs:α->Array aO} {ao:aM} {FX:Nat->Prop} {lb:Array aO} {g:Nat}
def akc(P:eu)(l:Nat)(encs:α->Array aO)(ao:aM)(FX:Nat->Prop)(S d:List α->br->Prop)(c:List α->Prop)(L:α->br):Prop:=
 ∀pre x W F t,c (pre++[x])->S pre t->aj ao FX W [t,both (L x) F]->YieldAt (Fr af) 0 P l (encs x) W λe b=>(e=aA (ak aB)/\∃a,S (pre++[x]) a/\aj ao FX b [a,both (L x) F])\/(e=aA (ak au)/\∃a,d (pre++[x]) a/\aj ao FX b [a,both (L x) F])
def wR(ao:aM)(FX:Nat->Prop)(S d:List α->br->Prop)(f:br->Prop)(c Fin:List α->Prop)(F:br)(e:Ending)(b:aM):Prop:=
 (∃v,e=aA v)/\((∃xs a u,Fin xs/\S xs a/\f u/\aj ao FX b [a,u,F])\/∃pre a u,c pre/\d pre a/\aj ao FX b [a,u,F])
def wR.all{S e a c Fin}{xs:List α}{F t u v b}(h:Fin xs)(f:S xs t)(g:a u)(d:aj ao FX b [t,u,F]):wR ao FX S e a c Fin F (aA v) b:=⟨⟨_,aa⟩,.inl ⟨_,_,_,h,f,g,d⟩⟩
theorem wR.cut{S b e a Fin}{pre:List α}{F t u v c}(g:a pre)(f:b pre t)(d:aj ao FX c [t,u,F]):wR ao FX S b e a Fin F (aA v) c:=⟨⟨_,aa⟩,b1 ⟨_,_,_,g,f,d⟩⟩
def KD(P:eu)(g:Nat)(lb:Array aO)(encs:α->Array aO)(ao:aM)(FX:Nat->Prop)(T:br)(c:br->Prop)(a Fin:List α->Prop)(L:α->br):Prop:=
 ∀(l:Nat) (S b:List α->br->Prop) (W:aM) (F t:br),akc P l encs ao FX S b a L->S [] t->aj ao FX W [T,t,F]->
  aD P g (#[dJ (wi l) #[] #[]]++lb) W (wR ao FX S b c a Fin F)
def afM {K:Operand} {ps:Array Tmp} {assign body:Code} {Q:Exit->Act->aM->Prop} {r:Array aO} {ds:List Deferred} {w:aM} {A Fin:List α->Prop} {L:α->br} {T:br} {H:br->Prop} {t F:br} {h9:α->Array aO}
 (hg:(Act.mk r ds).eval K=dJ (ej g) #[] lb) (gp:∀args w,(kj g args).run P w=a7 (.enter g args) w) (nk:∀x,(encs x).size=ps.size) (hseq:KD P g lb encs ao FX T H A Fin L)
 (S:List α->br->Prop) (gM:Code->List α->br->Prop) (h0:S [] t) (I:aj ao FX w [T,t,F])
 (SJ:∀(l:Nat) (rd:Loop) (pre:List α) (x:α) (W:aM) (t F:br),A (pre++[x])->rd.state=kh->S pre t->aj ao FX W [t,obj l (fS rd),both (L x) F]->
   assign.wpIn (Fr (ab l)) 0 P (Exit.then (λJ w1=>∃z,(Instr.beginRound l).run P w1=a7 () z/\body.wpIn (Fr (ab l)) 0 P (aei ao FX S gM (pre++[x]) (obj l (fS {rd with state:=sl})) (both (L x) F)) J z) (λ_ _ _=>False))
    {tmps:=h9 x,defers:=[]} W)
 (hdone:∀D xs t u W,Fin xs->S xs t->H u->aj ao FX W [t,u,obj D (ki (ab [])),F]->Q .normal {tmps:=r,defers:={target:=Dl D,args:=#[]}::ds} W)
 (SM:∀D c pre t u W,A pre->gM c pre t->aj ao FX W [t,u,obj D (ki (ab [])),F]->c.wp P Q {tmps:=r,defers:={target:=Dl D,args:=#[]}::ds} W)
 (hat:∀x,(ps.zip (encs x)).foldl (λt (p,v)=>t.setIfInBounds p v) r=h9 x:=by(intro _;simp only[List.zip_toArray,List.zip_cons_cons,List.zip_nil_right,List.foldl_toArray',List.size_toArray,List.foldl_cons,List.foldl_nil,List.setIfInBounds_toArray,List.set_cons_succ,List.set_cons_zero];rfl)):
 (Code.rangeFunc K ps assign body).wp P Q {tmps:=r,defers:=ds} w:=by
 refine(xW (n:=0)).1 (wpIn_rangeFunc ?_);intro fn hfn;obtain⟨a,m⟩:∃a:LoopState->Option Code->Loop,a=λst aI=>{state:=st,pending:=aI,fn,tmps:=r,params:=ps,assign,body,defers:=w.heap.size}:=⟨_,aa⟩;obtain⟨D,M⟩:=ex w.heap.size;obtain⟨l,R⟩:=ex ((w.alloc (ki (ab []))).heap.size);have V:=I.newObj (ki (ab []));have C:=V.newObj (fS (a kh af));have Si:l=w.heap.size+1:=by rw[<-R];simp
 rw[R,M]at C;obtain⟨j,N⟩:=ex ((w.alloc (ki (ab []))).alloc (fS (a kh af)));rw[N]at C
 refine⟨l,[{target:=Dl D,args:=#[]}],j,{target:=.fn (ej g) lb,args:=#[dJ (wi l) #[] #[]]},j,g,
  #[dJ (wi l) #[] #[]]++lb,j,?_,?_,?_,?_,λh=>(by cases h),?_⟩;·rw[<-N,m,Si,<-M];exact run_enterLoop_outer _ _ _ _ _
 .simp only[resolve,hg];simp[go_sem]
 .intro _ _;trivial
 .grind[invoke]
 .refine callsIn_wide.2 ((hseq l (λpre t=>∃t2,S pre t2/\t=both t2 (obj l (fS (a kh af)))) (λpre t=>∃t2 c,gM c pre t2/\t=both t2 (obj l (fS (a .done (ab c))))) j (both (obj D (ki (ab []))) F) _ ?_ ⟨t,h0,aa⟩ ?_).mono ?_)
  .rintro pre x W U9 _ G ⟨t2,s,rfl⟩ hst;obtain⟨B,E⟩:=ex (both (L x) U9);rw[E]at hst⊢;have h1:=hst.fh;have Cd:=h1.obj 1;have U:=run_yield (P:=P) (args:=encs x) Cd aF;rw[m]at U;refine⟨fn,_,assign,body,U,roundIn_of_wpIn hfn (wpIn_mono ((hat x).symm▸(E▸SJ l (a kh af) pre x W t2 U9 G aF s (E.symm▸h1))) ?_)⟩;rintro e J w1 O;cases e with
   |normal=>
    obtain⟨z,hb,Y⟩:=O;refine⟨z,hb,wpIn_mono Y ?_⟩
    have fin:∀(f:Option Code) (i:aM) (t3:br),aj ao FX i [t3,obj l (fS {a kh af with state:=sl}),B]->(Instr.endRound l f).run P i=a7 (ak f.isNone) (i.putObj l (fS (a (if f.isNone then kh else .done) f)))/\
     aj ao FX (i.putObj l (fS (a (if f.isNone then kh else .done) f))) [both t3 (obj l (fS (a (if f.isNone then kh else .done) f))),B]:=λf i t3 d=>by
     have hr:=run_endRound (P:=P) f (d.obj 1);have b:aj ao FX _ [t3,obj l (fS (a (if f.isNone then kh else .done) f)),B]:=d.putObj 1 (fS (a (if f.isNone then kh else .done) f)) aa;refine⟨?_,b.star⟩;rw[hr,m]
    rintro e a3 i o;cases e with
    |normal=>
     obtain⟨t3,hs3,d⟩:=o;obtain⟨hr,b⟩:=fin af i t3 d;exact⟨_,_,hr,.inl ⟨aa,_,⟨t3,hs3,aa⟩,b⟩⟩
    |ret=>
     obtain⟨t3,hs3,d⟩:=o;obtain⟨hr,b⟩:=fin (ab .ret) i t3 d;exact⟨_,_,hr,b1 ⟨aa,_,⟨t3,_,hs3,aa⟩,b⟩⟩
    |exit id=>
     obtain⟨t3,hs3,d⟩:=o;obtain⟨hr,b⟩:=fin (ab (.exit id)) i t3 d;exact⟨_,_,hr,b1 ⟨aa,_,⟨t3,_,hs3,aa⟩,b⟩⟩
    |goto q=>
     obtain⟨t3,hs3,d⟩:=o;obtain⟨hr,b⟩:=fin (ab (.goto q)) i t3 d;exact⟨_,_,hr,b1 ⟨aa,_,⟨t3,_,hs3,aa⟩,b⟩⟩
    |panic ch=>exact o.elim
    |outgrown=>exact o.elim
   |_=>exact O.elim
  .have k:aj ao FX j [obj l (fS (a kh af)),obj D (ki (ab [])),T,t,F]:=C;have d:aj ao FX j [t,obj l (fS (a kh af)),obj D (ki (ab [])),F,T]:=k.pick [3,0,1,4,2];have b:aj ao FX j [obj D (ki (ab [])),F,T,both t (obj l (fS (a kh af)))]:=d.star.pick [1,2,3,0];exact b.star.pick [1,2,0]
  .rintro e y ⟨⟨v,rfl⟩,(⟨xs,_,u,Z,⟨t2,s,rfl⟩,X,hst⟩|⟨pre,_,u,G,⟨t2,c,s,rfl⟩,hst⟩)⟩;·have h1:aj ao FX y [t2,obj l (fS (a kh af)),u,both (obj D (ki (ab []))) F]:=hst.fh;have k:aj ao FX y [obj D (ki (ab [])),F,t2,obj l (fS (a kh af)),u]:=(h1.pick (l':=[both (obj D (ki (ab []))) F,t2,obj l (fS (a kh af)),u]) [3,0,1,2]).fh;have d:=k.putObj 3 (fS {a kh af with state:=FY}) aa;refine⟨af,_,by have:=Pm (P:=P) (k.obj 3) aF;rw[m]at this;exact this,?_⟩;have b:=hdone D xs t2 u _ Z s X ((aj.pick (l:=[obj D (ki (ab [])),F,t2,obj l (fS {a kh af with state:=FY}),u]) d [2,4,0,1]));rw[m]at b;exact b
   .have h1:aj ao FX y [t2,obj l (fS (a .done (ab c))),u,both (obj D (ki (ab []))) F]:=hst.fh;have k:aj ao FX y [obj D (ki (ab [])),F,t2,obj l (fS (a .done (ab c))),u]:=(h1.pick (l':=[both (obj D (ki (ab []))) F,t2,obj l (fS (a .done (ab c))),u]) [3,0,1,2]).fh;have d:=k.putObj 3 (fS {a .done (ab c)with state:=FY}) aa;refine⟨ab c,_,by have:=Pm (P:=P) (k.obj 3) aF;rw[m]at this;exact this,?_⟩;have b:=SM D c pre t2 u _ G s ((aj.pick (l:=[obj D (ki (ab [])),F,t2,obj l (fS {a .done (ab c)with state:=FY}),u]) d [2,4,0,1]));rw[m]at b;exact(xW (n:=0)).2 b
end
end
open Go.RowKit Go.MapKept
def z1(E:List (Int×Int))(p:Int×Int->Bool):Int:=match E.findIdx? p with|some k=>(k:Int)|none=>-1
def anC E p:decide (0<=z1 E p)=E.any p:=by grind[z1]
def aqz A (c g:Nat) lb E p w (I:E.length<=1073741824) (t:jy w A E) (o:∀args w,(kj g args).run ax w=a7 (.enter g args) w)
 (hp:∀x W,x∈E->aq w W->aD ax g (#[av #[J R x.1,J R x.2]]++lb) W λe w'=>e=aA (ak (p x))/\aq W w'):
 aD ax 300 #[ad A E.length c,dJ (ej g) #[] lb] w λe w'=>e=aA (J R (z1 E p))/\aq w w':=by
 have B:=hid o;have D:=hid hp;have C:=hid t;clear t o hp;go_enter func300,ntmps300;have a:=bf w;go_step;refine ag ?_;refine ah ?_;refine ag ?_;refine v3 ?_;refine an ?_;go_wp2_with fail;go_loopw [8] (λl wr=>∃j:Nat,j<=E.length/\l=J R (j:Int)/\(∀(i:Nat) (x:Int×Int),i<j->E[i]?=ab x->p x=au)/\aj w (λ_=>False) wr []) (λl wr=>E.length -(cw l).toNat);case atStart=>grind
 case round=>
  clear a;obtain⟨j,K,rfl,r,a⟩:=hrel;by_cases hlt:j<E.length
  .have G:(j:Int)<(E.length:Int):=ae;obtain⟨x,hx⟩:∃x,E[j]?=ab x:=⟨_,cj hlt⟩;obtain⟨b,d,q,s⟩:=C (show 0<E.length by omega);obtain⟨hc1,hc2⟩:=s j hlt;rw[hx]at hc1 hc2;obtain⟨iK,u⟩:=ex (p x);have H:=cL hx;have F:aE (∀W,aq w W->W.rangeAt b (d+j*2) [J R x.1,J R x.2]):=hid (λW g i v hi=>by grind[G3]);have n:=hid hx;have f:=hid u;have m:=hid r;have z:=hid q;clear hx u r s q hc1 hc2;go_step;refine ag ?_;refine ah ?_;refine ag ?_;refine v2 ?_;refine jt ?_;refine aI (ay (ab ⟨b,(d+j*2),af⟩)) (cH 176 35 2 (bb 12) (bb 13) aa underlying176 aw b d (E.length) c j ((d+j*2)) (by show ad A _ _=_;rw[z]) aa hlt aa) ?_;refine aI _ (by(refine e6 35 _ aa b _ aa _ (F _ a.only) Tryz.underlying35 aa aw)) ?_;refine bA ((by have h:=D.out x _ H a.only;rw[f.out]at h;exact h)) a (λw1 a=>?_) (hr:=by(go_simp;exact B _ _));refine an ?_;cases iK with
   |true=>
    refine ag ?_;refine dP ?_;go_wp2_with fail;go_ret;exact⟨by rw[show z1 E p=(j:Int)from by unfold z1;rw[show E.findIdx? p=ab j from Lj n f m]];rfl,a.only⟩
   |false=>
    refine ag ?_;refine pad (j:Int) 1 ((j+1:Nat):Int) ?_;refine bP ?_;go_wp2_with fail;go_roundw;case rel=>exact⟨j+1,ae,rfl,λi y hi k=>by rcases wP.1 hi with h|rfl;exact m i y h k;rw[n]at k;cases k;exact f,a⟩
    case measure=>simp[cw]<;>omega
  .have G:¬(j:Int)<(E.length:Int):=ae;obtain rfl:j=E.length:=ae;go_step;refine ag ?_;refine ah ?_;refine ag ?_;refine ah ?_;refine an ?_;go_wp2_with fail;go_ret;exact⟨by rw[show z1 E p=-1 from by grind[z1,Li]];rfl,a.only⟩
def alR A (c g:Nat) lb E p w (o:E.length<=1073741824) (j:jy w A E) (i:∀args w,(kj g args).run ax w=a7 (.enter g args) w)
 (hp:∀x W,x∈E->aq w W->aD ax g (#[av #[J R x.1,J R x.2]]++lb) W λe w'=>e=aA (ak (p x))/\aq W w'):
 aD ax 247 #[ad A E.length c,dJ (ej g) #[] lb] w λe w'=>e=aA (ak (E.any p))/\aq w w':=by
 have f:=hid (λW (g2:aq w W)=>aqz A c g lb E p W o (j.aH g2) i (λx m hx n=>hp x m hx (aq.trans g2 n)));have d:=anC E p;obtain⟨q,k⟩:=ex (z1 E p);obtain⟨b,hb⟩:=ex (E.any p);rw[k]at f d;rw[hb]at d⊢;have l:=hid d;clear j i hp k hb d;go_enter Tryz.func247,Tryz.ntmps247;have a:=bf w;go_step;refine ag ?_;refine ku ?_;refine bA (f.out _ a.only) a (λw1 a=>?_);refine aI (ak b) (by(have h:=l.out;go_simp;try exact h)) ?_;refine bP ?_;go_wp2_with fail;go_ret;exact⟨aa,a.only⟩
def atE bX(s x)w(h1:eD s)(i:eD x)(hb:aW w bX #[J R s.1,J R s.2] 35):
 aD ax 248 #[av #[J R x.1,J R x.2],ay (ab ⟨bX,0,af⟩)] w λe w'=>e=aA (ak (meets s x))/\aq w w':=by
 obtain⟨a,b⟩:=s;obtain⟨c,d⟩:=x;obtain⟨o,g⟩:=ex (meets (a,b) (c,d));obtain⟨⟨fa,l⟩,j⟩:∃z,kM (a,b) (c,d)=z:=⟨_,aa⟩;have h:=hid (λW=>MT a b c d W h1 i);rw[g,j]at h;rw[g];have k:=hid hb;clear g j hb h1 i;go_enter Tryz.func248,ntmps248;have f:=bf w;go_step;refine ag ?_;refine bM f (av #[J R c,J R d]) (λm w1 f=>?_);refine dQ ?_;refine aI (av #[J R a,J R b]) (mg (cs':=#[J R a,J R b]) aa aa (aW.aH k.out f.only) aw (of_decide_eq_true aw) aw aw) ?_;refine bq f 0 #[J R c,J R d] ?_;refine bA (h _) f (λp f=>?_);refine v3 ?_;refine bx f #[J R 0,J R 0] (λn q f=>?_);refine a' f 0 (av #[J R fa,J R l]) (λr f=>?_);refine ah ?_;refine ag ?_;refine dP ?_;go_wp2_with fail;go_ret;exact⟨aa,f.only⟩
def CL(m:bG)(E:List (Int×Int)):Bool:=decide (m.k=1)&&E.any (λe=>meets (m.fr,m.n) e)
def atF(A f)(c i)m E w(hv:hX m)(F:E.length<=1048576)(p:jy w A E)(q:∀e∈E,eD e):
 aD ax 173 #[mz m f i,ad A E.length c] w λe w'=>e=aA (ak (CL m E))/\aq w w':=by
 have v:=hid p;have z:=hid q;by_cases hk:m.k=1
 .obtain⟨mk,o,b,d,l⟩:=m;simp only at hk;subst hk;have C:eD (b,d):=by rcases hv with⟨_,_,h,_⟩|⟨h,_⟩;exact h;cases h
  have j:aE (CL ⟨1,o,b,d,l⟩ E=E.any (λe=>meets (b,d) e)):=hid aS;have s:aE (∀W bX,aq w W->aW W bX #[J R b,J R d] 35->aD ax 247 #[ad A E.length c,dJ (ej 248) #[] #[ay (ab ⟨bX,0,af⟩)]] W λe w'=>e=aA (ak (E.any (λe=>meets (b,d) e)))/\aq W w'):=hid (λW bX g hb=>alR A c 248 _ E (λe=>meets (b,d) e) W ae (v.out.aH g) (ll Tryz.func248 aw aa) (λx B hx g2=>atE bX (b,d) x B C (z x hx) (aW.aH hb g2)));obtain⟨D,t⟩:=ex (E.any (λe=>meets (b,d) e));rw[t]at j s;clear t hv p q;go_enter Tryz.func173,Tryz.ntmps173;have a:=bf w;go_step;refine ag ?_;refine bM a (av #[J R 1,J R o,J R b,J R d,ad f l.length i]) (λu w1 a=>?_);refine dQ ?_;refine bq a 0 #[J R 1,J R o,J R b,J R d,ad f l.length i] ?_;refine bA (y4 o b d f l.length i _) a (λG a=>?_);refine v3 ?_;refine bx a #[J R 0,J R 0] (λr H a=>?_);refine a' a 0 (av #[J R b,J R d]) (λI a=>?_);refine AV ?_;refine bA (s.out _ r a.only (a.aZ 0)) a (λK a=>?_);refine pk (ak D) ?_;refine bP ?_;go_wp2_with fail;go_ret;exact⟨by rw[j];rfl,a.only⟩
 .have j:aE (CL m E=au):=hid (by grind[CL]);have y:=hid (λW=>y5 m.k m.to m.fr m.n f m.data.length i W hk);clear hv p q hk;go_enter Tryz.func173,Tryz.ntmps173;have a:=bf w;go_step;refine ag ?_;refine bM a (av #[J R m.k,J R m.to,J R m.fr,J R m.n,ad f m.data.length i]) (λu L a=>?_);refine dQ ?_;refine bq a 0 #[J R m.k,J R m.to,J R m.fr,J R m.n,ad f m.data.length i] ?_;refine bA (y _) a (λM a=>?_);refine v3 ?_;refine bx a #[J R 0,J R 0] (λr N a=>?_);refine a' a 0 (av #[J R 0,J R 0]) (λO a=>?_);refine ku ?_;iterate 3 refine ps ?_
  refine pk (ak au) ?_;refine bP ?_;go_wp2_with fail;go_ret;exact⟨by rw[j];rfl,a.only⟩
def xv(ms:List bG)(i:Nat):Bool:=match ms[i]? with|some m=>CL m ((ms.take i).map b8)|none=>au
def qU(ms:List bG):Nat:=(dF ms.length).findIdx (xv ms)
def atk{ms j}(h:j<ms.length)(h1:xv ms j=aB)(b:∀i,i<j->xv ms i=au):qU ms=j:=by unfold qU;have a:j<(dF ms.length).length:=aF;refine(List.findIdx_eq a).2 ⟨aF,λk hk=>aF⟩
def adR{ms}(h:∀i,i<ms.length->xv ms i=au):qU ms=ms.length:=by grind[qU,List.length_range]
def Q2 E x:il (E++[x])=il E++[J R x.1,J R x.2]:=by simp[il]
abbrev DU:=Nat×Option Addr×Nat
def tI(ms:List bG)(l:List DU):Prop:=l.map (·.1)=dF l.length/\l.length<=ms.length
def tI.snoc{ms l j A c}(h:tI ms l)(a:l.length=j)(b:j<ms.length):tI ms (l++[(j,A,c)]):=by subst a;refine⟨?_,aF⟩;rw[gx,h.1,dv,wO,pE];rfl
def tI.last{ms l x}(h:tI ms (l++[x])):x.1=l.length/\l.length<ms.length:=by obtain⟨h1,a⟩:=h;rw[gx,dv,wO,pE]at h1;grind[List.append_inj_right']
def Iv(ms:List bG)(x:DU):br:=bn x.2.1 x.1 x.2.2 35 2 (il ((ms.take x.1).map b8))
def avl da A c ms ao FX(Q:∀W,ar FX ao W->cC W A ms)(ef:ms.length<=1048576):
 KD ax 246 #[ay (ab ⟨da,0,af⟩)] (λx:DU=>#[J R (x.1:Int),ad x.2.1 x.1 x.2.2]) ao FX (ai da #[ad A ms.length c] 24) (λ_=>True) (tI ms) (λl=>tI ms l/\l.length=ms.length) (Iv ms):=by
 intro l S gM W F t N z a;have w:=hid Q;go_enter Tryz.func246,ntmps246;go_step;refine ag ?_;refine ah ?_;refine an ?_;go_step;refine ag ?_;refine pl a 0 0 ?_;iterate 2 refine ah ?_
 refine an ?_;replace a:=a.new (bn _ 0 0 35 2 []) ⟨ar.refl _ _,Row.nil _ _ _ _,λb ⟨_,_,e⟩=>aF⟩;go_wp2_with fail;go_loopw [3,8] (λH r wr=>∃(j:Nat) (aJ:Option Addr) (c2:Nat) (pre:List DU) (t:br),j<=ms.length/\pre.length=j/\aE (tI ms pre)/\H=ad aJ j c2/\r=J R (j:Int)/\S pre t/\aj ao FX wr [bn aJ j c2 35 2 (il ((ms.take j).map b8)),ai da #[ad A ms.length c] 24,t,F]) (λH r wr=>ms.length -(cw r).toNat);case atStart=>exact⟨0,_,0,[],t,cQ _,aa,hid ⟨aa,cQ _⟩,aa,aa,z,a⟩
 case round=>
  clear a z;obtain⟨j,aJ,c2,pre,t,hj,hpl,s,rfl,rfl,C,a⟩:=hrel;by_cases hlt:j<ms.length
  .have T:(j:Int)<(ms.length:Int):=ae;obtain⟨m,i⟩:∃m,ms[j]?=ab m:=⟨_,cj hlt⟩;obtain⟨y,U,_,_,B,_⟩:=cC.KS w.out a.only i
   have L:aE (∀W,ar FX ao W->∃d f,W.rangeAt y (U+j*5) [J R m.k,J R m.to,J R m.fr,J R m.n,ad d m.data.length f]):=hid (λW g=>by obtain⟨eY,et,aJ,c2,h1,h2⟩:=cC.KS w g i;grind);obtain⟨d,f,E⟩:=L _ a.only;have D:=s.out.snoc (A:=aJ) (c:=c2) hpl hlt;have p:=hid D;have O:aE ((ms.take (j+1)).map b8=(ms.take j).map b8++[b8 m]):=hid (by grind[List.take_add_one]);have Z:=hid i;have I:=hid B;have K:=hid E;have M:aE ((pre++[(j,aJ,c2)]).length=j+1):=hid aF;clear i B E D;go_step;refine ag ?_;refine ah ?_;refine an ?_;go_step;refine ag ?_;refine ah ?_;refine aI _ (cH 24 73 5 _ _ aa eA aS _ _ _ _ _ _ (by show ad A _ _=_;rw[I]) aa hlt aa) ?_;refine aI _ (by(refine e6 73 _ aa y _ aa _ K.out fW aa aS)) ?_;refine bx a #[J _ 0,J _ 0,J _ 0,J _ 0,ad _ 0 0] (λY w1 a=>?_);refine ah ?_;refine a' a 0 (av _) (λaR a=>?_);refine an ?_;replace a:=a.pick (l':=[bn aJ j c2 35 2 _,ai _ _ 73,ai da _ 24,t,F]) [1,0,2,3,4];go_step;refine ct ?_;refine NB 3 ?_;iterate 3 refine ah ?_
   refine an ?_;have v:=(a.pick (l':=[t,bn aJ j c2 35 2 _,ai _ _ 73,ai da _ 24,F]) [3,0,1,2,4]).G0;refine Jd (N _ _ _ _ _ p C v) (λb bL hb=>?_) (λ_ _ P=>P.elim (λh=>⟨_,h.1⟩) (λh=>⟨_,h.1⟩)) (Hf aa aa (by simp only[og,jx,kC];rfl));clear v a;rcases I4 hb with⟨rfl,o,q,a⟩|⟨rfl,o,q,a⟩
   .clear hb;replace a:aj _ _ _ [o,bn aJ j c2 35 2 (il ((ms.take j).map _)),ai _ _ 73,ai da _ 24,F]:=a.xz;refine vS ?_;refine ah ?_;refine an ?_;go_step;refine ag ?_;refine ah ?_;refine bq a 2 #[J R m.k,J R m.to,J R m.fr,J R m.n,ad d m.data.length f] ?_;refine a6 (uE m.k m.to m.fr m.n d _ f _) ?_;rintro e ca ⟨rfl,g⟩;replace a:=a.aH g;refine ba ?_;refine f' a #[J R m.to,J R (cS m)] 35 (λX cF a=>?_);refine nt (m:=1) a 2 16 (aW.cellsOf (m:=1) (a.aZ 0) aa) (by intro u G;simp only[gy,ga,or_false]at G;rcases G with rfl|rfl<;>rfl) (λV Yq c6 a=>?_) (hby:=by omega);refine ah ?_;refine an ?_;go_step;refine ag ?_;refine aI _ (lK 3 _ _ 3 aa _ 1 ((j+1:Nat):Int) aa aa ae ae ae) ?_;refine ah ?_;refine an ?_;go_wp2_with fail;go_roundw;case rel=>exact⟨_,_,_,_,_,ae,M,p,aa,aa,q,by rw[O,Q2];exact a.pick [2,4,1,5]⟩
    case measure=>grind[cw]
   .clear hb;replace a:aj _ _ _ [o,bn aJ j c2 35 2 (il ((ms.take j).map _)),ai _ _ 73,ai da _ 24,F]:=a.xz;refine vS ?_;refine ah ?_;refine an ?_;go_wp2_with fail;first|go_end0|refine bodyPost_ret (results_none rfl _ _ _) rfl ?_
    exact wR.cut p q (((a.pick (l':=[ai da _ 24,bn aJ j c2 35 2 _,o,F]) [3,1,0,4]).fB 2).pick [1,0,2])
  .have T:¬(j:Int)<(ms.length:Int):=ae;go_step;refine ag ?_;refine ah ?_;refine an ?_;go_wp2_with fail;first|go_end0|refine bodyPost_ret (results_none rfl _ _ _) rfl ?_
   exact wR.all (Fin:=λl=>tI ms l/\l.length=ms.length) ⟨s,ae⟩ C trivial (((a.pick (l':=[ai da _ 24,bn aJ j c2 35 2 _,t,F]) [1,0,2,3]).fB 2).pick [1,0,2])
def avi A(n c)w:
 aD ax 172 #[ad A n c] w λe w'=>∃da,e=aA (dJ (ej 246) #[] #[ay (ab ⟨da,0,af⟩)])/\b3 w w' (ai da #[ad A n c] 24):=by
 go_enter func172,ntmps172;have a:=bf w;go_step;refine ag ?_;refine bM a (ad A n c) (λb w1 a=>?_);refine ah ?_;refine ag ?_;refine dP ?_;go_wp2_with fail;go_ret;exact⟨_,aa,a.fresh 0⟩
def prefix_at A c ms w(v:cC w A ms)(hv:∀m∈ms,hX m)(ef:ms.length<=1048576):
 aD ax 84 #[ad A ms.length c] w λe w'=>e=aA (J R (qU ms:Int))/\aq w w':=by
 have Y:=hid v;have I:=hid hv;have s:∀da,KD ax 246 #[ay (ab ⟨da,0,af⟩)] (λx:DU=>#[J R (x.1:Int),ad x.2.1 x.1 x.2.2]) w (λ_=>False) (ai da #[ad A ms.length c] 24) (λ_=>True) (tI ms) (λl=>tI ms l/\l.length=ms.length) (Iv ms):=λda=>avl da A c ms w _ (λW g=>v.aH g) ef;clear v hv;refine BH func84 aa ?_;simp only[ntmps84,iQ,jT,l2,qf,qg,qv,qu,nd,pB];have a:=bf w;go_upto_region 0 with fail;refine cM ?_;refine bM a (ad A ms.length c) (λd w1 a=>?_);refine bx a #[J R 0] (λf aR a=>?_);refine an ?_;go_upto_region 1 with fail;refine cM ?_;refine pl a 1 0 ?_;refine a6 (avi A _ c _) ?_;rintro e bL ⟨U,rfl,Z⟩;replace a:=a.new _ Z;refine ba ?_;refine an ?_;go_wp2_with fail;have H:aj _ _ _ [ai U #[ad A ms.length c] 24,bO [ai d #[ad A ms.length c] 24,ai f #[J R 0] 3],bO []]:=aj.D0 (a.pick [0,2,1]);refine afM (encs:=(λx:DU=>#[J R (x.1:Int),ad x.2.1 x.1 x.2.2])) aa (ll Tryz.func246 aS aa) (λ_=>aa) (s _) (λpre t=>aE (∀i,i<pre.length->xv ms i=au)/\t=bO _) (λbo pre t=>(match bo with|.ret=>∃j:Nat,aE (qU ms=j)/\t=bO [ai d #[ad A ms.length c] 24,ai f #[J R (j:Int)] 3]|_=>False)) (⟨hid (λi hi=>absurd hi (Nat.not_lt_zero _)),aa⟩) H ?_ ?_ ?_;all_goals clear H a
 .rintro l rd pre ⟨j,aJ,c2⟩ W t F P p1 ⟨p,rfl⟩ a;obtain⟨hx1,iI⟩:=tI.last P;simp only at hx1;have z:j<ms.length:=ae;have K:=hid hx1;clear hx1 iI;replace a:=a.lE;repeat((fail_if_success (with_reducible refine at_region ?_));gi_step)
  refine ke ?_;refine ah ?_;refine an ?_;repeat((fail_if_success (with_reducible refine at_region ?_));gi_step)
  refine ke ?_;refine ah ?_;refine an ?_;first|refine wpIn_skip ?_|skip
  simp only[Exit.then];refine BB a 2 p1 (λca a=>?_);replace a:aj _ _ _ [ai d #[ad A ms.length c] 24,ai f #[J R 0] 3,obj l (fS {rd with state:=sl}),both (Iv ms (j,aJ,c2)) F]:=a;replace a:=(a.pk [3,0,1,2]).fh;obtain⟨m,B⟩:∃m,ms[j]?=ab m:=⟨_,cj z⟩;obtain⟨L,T,o,q,M,_,N⟩:=cC.h9 Y.out B;have S:=I.out m (cL B);have Q:xv ms j=CL m ((ms.take j).map b8):=by grind[xv]
  have O:((ms.take j).map b8).length=j:=aF
  have G:aE (∀W,Row 0 W aJ j c2 35 2 (il ((ms.take j).map b8))->aD ax 173 #[av #[J R m.k,J R m.to,J R m.fr,J R m.n,ad o m.data.length q],ad aJ j c2] W λe w'=>e=aA (ak (xv ms j))/\aq W w'):=hid (λW hr=>by
   obtain⟨_,hs⟩:=Row.Uc hr
   have h:=atF aJ o c2 q m ((ms.take j).map b8) W S ae hs (λe he=>by obtain⟨y,hy,rfl⟩:=List.mem_map.1 he;have:=(I.out y (List.mem_of_mem_take hy)).b8;exact⟨this.1,Int.le_of_lt this.2.1,this.2.2⟩);rw[O,<-Q]at h;exact h);have X:=hid N;have V:=hid M;obtain⟨IK,C⟩:=ex (xv ms j);rw[C]at G;have E:=hid C;clear B M N S Q O C s;repeat((fail_if_success (with_reducible refine at_region ?_));gi_step)
  refine ke ?_;refine pl a 2 0 ?_;refine ah ?_;refine aI (ay (ab ⟨L,(T+j*5),af⟩)) (cH 24 73 5 (bb 9) (bb 10) aa eA aS _ _ _ _ _ _ (by show ad A _ _=_;rw[V.out]) aa z aa) ?_;refine aI (av #[J R m.k,J R m.to,J R m.fr,J R m.n,ad o m.data.length q]) (by(refine e6 73 (bb 11) aa L (T+j*5) aa ([J R m.k,J R m.to,J R m.fr,J R m.n,ad o m.data.length q]:List aO) (X.out _ a.only) fW aa aS)) ?_;refine ah ?_;refine a6 (G.out _ (a.atR 0)) ?_;rintro e cF ⟨rfl,g⟩;replace a:=a.aH g;refine ba ?_;refine an ?_;cases IK with
  |false=>
   replace a:=(a.pk [0,1,2,3,4]).star;repeat gi_step
   have b:=a.pk [1,2,3,0];replace b:aj _ _ _ [bO [ai d #[ad A ms.length c] 24,ai f #[J R 0] 3],obj l (fS {rd with state:=sl}),both (Iv ms (j,aJ,c2)) F]:=b.fB 2;refine⟨_,?_,b⟩;exact⟨hid (λi hi=>by rw[dv,wO]at hi;rcases wP.1 hi with h|h;exact p.out i h;rw[h,<-K.out];exact E.out),aa⟩
  |true=>
   repeat((fail_if_success (with_reducible refine at_region ?_));gi_step)
   refine ke ?_;refine ah ?_;refine a' a 3 (J R (j:Int)) (λc6 a=>?_);refine an ?_;replace a:=(a.pk [0,1,2,3,4]).star;repeat gi_step
   have b:=a.pk [1,2,3,0];replace b:aj _ _ _ [bO [ai d #[ad A ms.length c] 24,ai f #[J R (j:Int)] 3],obj l (fS {rd with state:=sl}),both (Iv ms (j,aJ,c2)) F]:=b.fB 2;refine⟨_,?_,b⟩;exact⟨j,hid (atk z E.out (λi hi=>p.out i (by rw[<-K.out];exact hi))),aa⟩
 .rintro D xs t u W hI ⟨p,rfl⟩ hu a;replace a:=a.lE;replace a:=(a.pk [4,0,1,2,3]).lE;have r:=hid (adR (ms:=ms) (λi hi=>p.out i ae));clear hI s;go_upto_region 6 with fail;refine cM ?_;refine pl a 0 0 ?_;refine ah ?_;refine a' a 1 (J R (ms.length:Int)) (λdW a=>?_);refine an ?_;go_wp2_with fail;refine yU a 3 (λw' a=>⟨Ft aa aa (a.aZ 1) aw,by rw[r.out],a.only⟩)
 .rintro D bo pre t u W P h a;cases bo with
  |ret=>
   obtain⟨j,r,rfl⟩:=h;replace a:=a.lE;go_wp2_with fail;refine yU a 3 (λw' a=>⟨Ft aa aa (a.aZ 1) aw,by rw[r.out],a.only⟩)
  |_=>exact h.elim
def AH(ms:List bG):Int×Int:=if qU ms<ms.length then(16,(qU ms:Int))else(0,0)
def aex A c ms w(d:cC w A ms)(hv:∀m∈ms,hX m)(j:ms.length<=1048576):
 aD ax 33 #[ad A ms.length c] w λe w'=>e=aA (av #[J R (AH ms).1,J R (AH ms).2])/\aq w w':=by
 have b:=hid (λW g=>prefix_at A c ms W (d.aH g) hv j);obtain⟨q,f⟩:=ex (qU ms);unfold AH;rw[f]at b⊢;clear d hv f;by_cases h:q<ms.length;·have k:(q:Int)<(ms.length:Int):=ae;rw[if_pos h];go_enter Tryz.func33,Tryz.ntmps33;have a:=bf w;go_step;refine ag ?_;refine bx a #[J _ 0,J _ 0] (λi w1 a=>?_);refine b4 ?_;refine bA (b.out _ a.only) a (λl a=>?_);refine ah ?_;refine ag ?_;refine v4 ?_;refine ja ?_;refine a' a 0 (av #[J R 16,J R (q:Int)]) (λn a=>?_);refine an ?_;go_wp2_with fail;refine dn (v:=_) (jd aa _ _ _ _ _ _ _ aa (a.aZ 0) xS aa aw) aa (⟨aa,a.only⟩)
 .have k:¬(q:Int)<(ms.length:Int):=ae;rw[if_neg h];go_enter Tryz.func33,Tryz.ntmps33;have a:=bf w;go_step;refine ag ?_;refine bx a #[J _ 0,J _ 0] (λi o a=>?_);refine b4 ?_;refine bA (b.out _ a.only) a (λp a=>?_);refine ah ?_;refine ag ?_;refine v4 ?_;refine b4 ?_;refine a' a 0 (av #[J R 0,J R 0]) (λr a=>?_);refine an ?_;go_wp2_with fail;refine dn (v:=_) (jd aa _ _ _ _ _ _ _ aa (a.aZ 0) xS aa aw) aa (⟨aa,a.only⟩)
def auq(B p q k c)(bd o n)(g h)A w:(Instr.build 135 #[(0,av #[ay (ab ⟨B,0,af⟩),J R bd,J R 0]),(1,dC o n g h (ad A k c)),(2,ay (ab ⟨p,0,af⟩)),(3,ay (ab ⟨q,0,af⟩))]).run ax w=a7 (av (gX (ay (ab ⟨B,0,af⟩)) bd 0 o n g h (ad A k c) (ay (ab ⟨p,0,af⟩)) (ay (ab ⟨q,0,af⟩)) 0 0 au)) w:=by obtain⟨a,bB⟩:=g;obtain⟨b,b7⟩:=h;obtain⟨d,dc,bm,lg,oK,L,M,N,O,P,e,f,i,j,l,m,r,s,t,u,v,x,y,z,C,D,E,F,G,H,I,K,rfl⟩:=Mp a bB;obtain⟨Q,S,bp,c7,iw,oL,N4,N5,C3,N6,T,U,V,W,X,Y,Z,awB,awC,awD,awE,awF,awG,awH,awI,awJ,awK,awL,awM,awN,awO,awP,rfl⟩:=Mp b b7;kernel_rfl
def ak4{l}{a:Act}{w b d f j B p q k c bd o n g h A}(m:l.op=.build 135 #[(0,b),(1,d),(2,f),(3,j)])(r:a.eval b=av #[ay (ab ⟨B,0,af⟩),J R bd,J R 0])(h1:a.eval d=dC o n g h (ad A k c))(s:a.eval f=ay (ab ⟨p,0,af⟩))(t:a.eval j=ay (ab ⟨q,0,af⟩)):
 (bt a.eval l).run ax w=a7 (c8 (av (gX (ay (ab ⟨B,0,af⟩)) bd 0 o n g h (ad A k c) (ay (ab ⟨p,0,af⟩)) (ay (ab ⟨q,0,af⟩)) 0 0 au))) w:=by
 have hr:=auq B p q k c bd o n g h A w;unfold bt;simp only[m,gj];have e:(#[(0,b),(1,d),(2,f),(3,j)].map λ(i,x)=>(i,a.eval x))=(#[(0,av #[ay (ab ⟨B,0,af⟩),J R bd,J R 0]),(1,dC o n g h (ad A k c)),(2,ay (ab ⟨p,0,af⟩)),(3,ay (ab ⟨q,0,af⟩))]:Array _):=aF;rw[e,hr];rfl
def r2(d:dL)(bd o n:Nat)(g1 g2:dX)(ms:List bG):oQ:=r3 d (fg d.size 0 (max o n)).2 bd (mJ (jI o n g1 g2 ms))
def GS(d:dL)(bd o n:Nat)(g1 g2:dX)(ms:List bG):(Int×Int)⊕ph:=
 if qU ms<ms.length then .inl (16,(qU ms:Int))
 else if(r2 d bd o n g1 g2 ms).has=au then KE ⟨0,0,au,r2 d bd o n g1 g2 ms,d⟩
 else if E6 bd ms (r2 d bd o n g1 g2 ms).last=aB then KE ⟨if(r2 d bd o n g1 g2 ms).last.cur=((ew bd ms).length:Int)then 2 else 1,(r2 d bd o n g1 g2 ms).last.cur.toNat,aB,r2 d bd o n g1 g2 ms,d⟩
 else .inl (19,(r2 d bd o n g1 g2 ms).last.cur)
def DT(ao:aM)(FX:Nat->Prop)(B:Nat)(m:ny)(F:br)(d:dL)(bd o n:Nat)(g1 g2:dX)(ms:List bG)(out:(Int×Int)⊕ph)(e:Ending)(w':aM):Prop:=match out with
 |.inl f=>e=aA (bg #[ay af,av #[J R f.1,J R f.2]])/\aj ao FX w' [aN B m d,F]
 |.inr s=>∃(dg dw p b c2:Nat) (g c:br) (a aJ:Option Addr),sw g p bd ms/\hD c a b ms/\e=aA (bg #[ay (ab ⟨dg,0,af⟩),av #[J R 0,J R 0]])/\aj ao FX w' [fx ⟨B,dg,dw,bd,o,n,p,b,(fg d.size 0 (max o n)).2,(mJ (jI o n g1 g2 ms)).toNat,g1,g2,a,ms⟩ g c 0 s aJ c2 m,F]
def Uk r s:0<=(k' r s).1:=by
 unfold k';split;·exact(Tv _).1
 .omega
def Tf r:0<=(p4 r).1/\(p4 r).1<=4611686018427387903:=by
 unfold p4;split;·omega
 .exact⟨Uk _ _,ae⟩
def YY{bs r}(h:tS bs=ab r):0<=r.cur/\r.cur<=4611686018427387903/\0<=r.off:=by
 unfold tS at h;simp only at h;split at h;·grind
 .split at h;·grind
  .obtain⟨a,b,rfl⟩:=Option.map_eq_some_iff.1 h;unfold HG;exact⟨(Tf _).1,(Tf _).2,(Tf _).1⟩
theorem akZ:∀{l},l≠[]->QN l∈l
 |[],h=>absurd aa h
 |x::l,_=>by
  show l.foldl (λb y=>if y.seq>b.seq then y else b) x∈x::l
  have key:∀(l) (b:Rec),l.foldl (λb y=>if y.seq>b.seq then y else b) b∈b::l:=by
   intro l;induction l with
   |nil=>simp
   |cons y l a=>grind
  exact key l x
theorem TC{d first bound id}(h:(r3 d first bound id).has=aB):(r3 d first bound id).last∈uB d first bound:=by grind[TA,TB,yW,akZ]
def ad3{d first bound r}(h:r∈uB d first bound):∃bs,tS bs=ab r:=by
 unfold uB wT at h;simp at h;rcases h with h|h;·exact⟨_,h⟩
 .exact⟨_,h⟩
def asm{d first bound}(a:kk d first bound)id:(r3 d first bound id).last.data.length<=140737488355328:=by
 cases h:(r3 d first bound id).has with
 |false=>
  rw[TA]at h;rw[TB];unfold yW at h⊢;simp only[decide_eq_false_iff_not]at h⊢;rw[jH (l:=List.filter _ _) ae];exact cQ _
 |true=>grind[ad4,TC]
def ani(o n)(g1 g2)ms K(h:∀m∈ms,m.data.length<=K):(jI o n g1 g2 ms).length<=89+ms.length*(25+K):=by
 have h1:∀l:List _,(∀m∈l,m.data.length<=K)->(l.flatMap rI).length<=l.length*(25+K):=by
  intro l;induction l with
  |nil=>simp
  |cons x l c=>
   intro h;rw[List.flatMap_cons,dv,jT,Nat.succ_mul];grind[rI,iS,rG]
 have a:=h1 ms h
 have b:(qG o n g1 g2 ms.length).length=89:=by unfold qG w4 oC;simp only[dv,g1.len,g2.len];simp[iS,rG,E4]
 unfold jI;rw[dv];omega
def IP {P w b p u ty} {t B:Nat} {cs tmps v} (h:b.results=#[.tmp u,.cell p ty]) (c:tmps.getD p aY=ay (ab ⟨B,0,af⟩)) (hv:tmps.getD u aY=v) (hb:aW w B cs t)
 (hu:(P.underlying ty).map (λd=>d.isRow)=ab aB) (hi:(P.info? ty).map (·.size)=ab cs.size):(n' b tmps).run P w=a7 (bg #[v,av cs]) w:=by
 have j:tmps[p]?.getD aY=ay (ab ⟨B,0,af⟩):=by simpa using c
 cases hq:P.underlying ty with
 |none=>grind
 |some d=>
  have g:d.isRow=true:=aF;have i:=run_loadVar_row (P:=P) w B t ty cs (0,0) d hb hq aF hi
  have hr:(n' b tmps).run P w=((asAddr (tmps.getD p aY)).run P w).andThen λa e=>((loadVar ty a).run P e).andThen λx f=>a7 (bg #[tmps.getD u aY,x]) f:=by simp only[n',h];simp
  grind[asAddr,jR,ji]
def arT:∀l,0<=Cy l/\Cy l<18446744073709551616
 |[]=>by decide
 |[_]=>wrap_u64 _
 |_::_::_=>wrap_u64 _
def aks B m d(bd o n c)(g1 g2)A ms(ao w)FX F(Z:dR d)(cZ:d.down=au)(hb:1<=bd/\bd<=65536)(y:o<=1048576/\n<=1048576)(hv:nF o n ms)(Sp:k6 d.size bd (max o n)<=d.cnt)(eU:(ew bd ms).length<=1048576)(hl:∀W,ar FX ao W->cC W A ms)(a:aj ao FX w [aN B m d,F]):
 aD ax 12 #[dh B,J R (bd:Int),dC (o:Int) (n:Int) g1 g2 (ad A ms.length c)] w λe w'=>DT ao FX B m F d bd o n g1 g2 ms (GS d bd o n g1 g2 ms) e w':=by
 have hj:kk d (fg d.size 0 (max o n)).2 bd:=⟨Z,hb.1,hb.2,by unfold k6 at Sp;exact Sp⟩
 have R1:∀m∈ms,m.data.length<=1048576:=λm E=>by
  have h1:=hv.fits m E;by_cases hk:m.k=1;·rw[(h1.1.copy hk).2.2.2];exact cQ _
  .have h2:=h1.2.2;have h3:0<=m.to:=(wS.b8 h1.1).1.1;unfold cS at h2;rw[if_neg hk]at h2;omega
 have jq:∀m∈ms,hX m/\m.data.length<=140737488355328:=λm E=>⟨(hv.fits m E).1,eC (R1 m E) bh⟩;have yB:(jI o n g1 g2 ms).length<=8796093022208:=eC (ani o n g1 g2 ms 1048576 R1) (by have:=hv.ek;omega)
 have hes:kF (ms.map b8)<=4611686018427387903:=by
  have h1:∀l:List bG,(∀m∈l,cS m<=1048576)->kF (l.map b8)<=(l.length:Int)*1048576:=by
   intro l;induction l with
   |nil=>intro _;exact Int.le_refl _
   |cons x l bW=>
    intro h;have h3:=bW (λm E=>h m (List.mem_cons_of_mem _ E));have h4:=h x (List.mem_cons_self ..);show cS x+kF (l.map b8)<=_;rw[jT];omega
  have h2:=h1 ms (λm E=>by have h3:=(hv.fits m E).2.2;have h4:0<=m.to:=(wS.b8 (hv.fits m E).1).1.1;omega);have h3:=hv.ek;omega
 have lq:=hid (λW g=>Rk o n g1 g2 A c ms W (hl W g) hv);have GB:=hid (λW g=>aex A c ms W (hl W g) (λm E=>(hv.fits m E).1) (eC hv.ek bh));have qs:=hid (λW (h:Has W (aN B m d))=>wY B m d W h.dev Z);have ry:=hid (λW=>acI d.size bd o n g1 g2 (ad A ms.length c) ⟨Z.mj,Z.BJ.2⟩ hb y.1 y.2 W);have Ke:=hid (λW (h:Has W (aN B m d))=>acy d.size bd (max o n) B m d W h Z aa Sp);have Gj:=hid (λW g=>anN o n g1 g2 A c ms W ⟨hv.fa,hv.qO⟩ (hl W g) (λm E=>(hv.fits m E).1) (eC hv.ek bh) yB);have Kb:=hid (λp fJ dB W hp hb bu=>anO p 1 fJ dB (jI o n g1 g2 ms) W yB hp hb bu);have V:=hid (λW (h:Has W (aN B m d))=>aqN B m d (fg d.size 0 (max o n)).2 bd (mJ (jI o n g1 g2 ms)) W h hj cZ);have Bn:=hid (λW g=>Ja (o:Int) (n:Int) g1 g2 (ad A ms.length c) A c ms W aa (hl W g) (eC hv.ek bh) (λm E=>(jq m E).2));have Xg:=hid (λW g=>atc (bd:Int) A c ms W (hl W g) (eC hv.ek bh) eU ae jq hes);have dZ:=hv.ek;have PM:aE (0<=mJ (jI o n g1 g2 ms)):=hid (Uk _ _);have B8:(r2 d bd o n g1 g2 ms).last.data.length<=140737488355328:=asm hj _;have qF:(r2 d bd o n g1 g2 ms).has=aB->∀r,(r2 d bd o n g1 g2 ms).last=r->0<=r.cur:=λh r hr=>by obtain⟨bs,gN⟩:=ad3 (TC (d:=d) (first:=(fg d.size 0 (max o n)).2) (bound:=bd) (id:=mJ (jI o n g1 g2 ms)) h);rw[<-hr];exact(YY gN).1
 unfold GS;rw[show r3 d (fg d.size 0 (max o n)).2 bd (mJ (jI o n g1 g2 ms))=r2 d bd o n g1 g2 ms from aa]at V;obtain⟨j,aaU⟩:=ex (r2 d bd o n g1 g2 ms);rw[aaU]at V B8 qF⊢;have iB:aE (∀bl p W,sw bl p (bd:Int) ms->bl.p W->aD ax 60 #[ay (ab ⟨p,0,af⟩)] W λe w'=>e=aA (J R ((ew bd ms).length:Int))/\aq W w'):=hid (λbl p W bI h=>Fo p bd ms W (bI W h));have qK:ms.length<=1048575:=eC dZ bh;obtain⟨X,hen⟩:=ex (jI o n g1 g2 ms);rw[hen]at Gj Kb V PM;obtain⟨N,Ez⟩:=tC PM;rw[Ez]at V Kb;obtain⟨D,pU⟩:=ex ((fg d.size 0 (max o n)).2);rw[pU]at V;have x0:=hid pU;have PL:aE ((mJ (jI o n g1 g2 ms)).toNat=N):=hid (by rw[hen,Ez];rfl);have Kk:aE (AH ms=if qU ms<ms.length then(16,(qU ms:Int))else(0,0)):=hid aa;obtain⟨E3,HX⟩:=ex (k6 d.size bd (max o n));unfold rX at ry Ke;rw[pU,HX]at ry Ke;obtain⟨Y,yL⟩:=ex (qU ms);obtain⟨cO,aa6⟩:=ex ((ew bd ms).length);rw[yL]at Kk⊢;rw[aa6]at iB⊢;obtain⟨az8,EN⟩:=ex (AH ms);rw[EN]at Kk GB;clear Z cZ hv R1 jq yB hes aaU hl hj hen Ez pU HX EN yL aa6 dZ eU PM;by_cases EL:Y<ms.length;·have O:=Kk.out;rw[if_pos EL]at O;subst O;rw[if_pos EL];simp only at GB;clear EL ry Ke Gj Kb V Bn Xg iB qs;go_enter Tryz.func12,Tryz.ntmps12;go_step;refine ag ?_;refine bM a (av (a1 (o:Int) (n:Int) g1 g2 (ad A ms.length c))) (λeK w1 a=>?_);refine ah ?_;refine bx a #[J R 0,J R 0] (λfL aR a=>?_);refine b4 ?_;refine aI (ak au) (by(go_simp;try rfl)) ?_;refine ag ?_;refine bq a 1 (a1 (o:Int) (n:Int) g1 g2 (ad A ms.length c)) ?_ (hv:=(ee _)) (hk:=by show 0+_<=jD _;rw[kV];exact cm _) (hz:=(by rw[cN];rfl));refine bA (lq _ a.only) a (λbL a=>?_);refine bx a #[J R 0,J R 0] (λeW ca a=>?_);refine a' a 0 (av #[J R 0,J R 0]) (λcF a=>?_);refine ag ?_;refine bq a 0 #[J R 0,J R 0] ?_;refine ah ?_;refine pk (ak au) ?_;refine b4 ?_;refine pl a 2 66 ?_ (hv:=eS);refine bA (GB _ a.only) a (λc6 a=>?_);refine bx a #[J R 0,J R 0] (λjO dW a=>?_);refine a' a 0 (av #[J R 16,J R (Y:Int)]) (λdG a=>?_);refine ag ?_;refine bq a 0 #[J R 16,J R (Y:Int)] ?_;refine ah ?_;refine pk (ak aB) ?_;refine ct ?_;refine bN a [2] (λ_ _=>aY) (λ_=>λ|2=>ai fL #[J R 16,J R (Y:Int)] 49|_=>emp) (λ|2=>[2]|_=>[]) (λ|0=>[0]|_=>[]) (λ_=>[]) [0,1,3,4,5,8] (λf=>?_);refine ea 0 #[J R 16,J R (Y:Int)] ?_;refine aK ?_;refine fY (av #[J R 16,J R (Y:Int)]) ?_;refine bQ λe8 a=>?_;go_wp2_with fail;refine dn (v:=bg #[ay af,av #[J R 16,J R (Y:Int)]]) (IP aa aa aa (a.aZ 5) aw aw) aa ?_;unfold DT;exact⟨by first|rfl|trivial,a.pick [3,4]⟩
 .have O:=Kk.out;rw[if_neg EL]at O;subst O;rw[if_neg EL];simp only at GB;clear EL;skip;obtain⟨out,hout⟩:=ex ((if j.has=au then KE ⟨0,0,au,j,d⟩else if E6 bd ms j.last=aB then KE ⟨if j.last.cur=(cO:Int)then 2 else 1,j.last.cur.toNat,aB,j,d⟩else .inl (19,j.last.cur):(Int×Int)⊕ph));rw[hout];have Dz:=hid hout;have wG:=hid qF;have PN:=hid B8;clear hout qF B8;go_enter Tryz.func12,Tryz.ntmps12;go_step;refine ag ?_;refine bM a (av (a1 (o:Int) (n:Int) g1 g2 (ad A ms.length c))) (λeK hR a=>?_);refine ah ?_;refine bx a #[J R 0,J R 0] (λfL iZ a=>?_);refine b4 ?_;refine aI (ak au) (by(go_simp;try rfl)) ?_;refine ag ?_;refine bq a 1 (a1 (o:Int) (n:Int) g1 g2 (ad A ms.length c)) ?_ (hv:=(ee _)) (hk:=by show 0+_<=jD _;rw[kV];exact cm _) (hz:=(by rw[cN];rfl));refine bA (lq _ a.only) a (λks a=>?_);refine bx a #[J R 0,J R 0] (λeW lf a=>?_);refine a' a 0 (av #[J R 0,J R 0]) (λmm a=>?_);refine ag ?_;refine bq a 0 #[J R 0,J R 0] ?_;refine ah ?_;refine pk (ak au) ?_;refine b4 ?_;refine pl a 2 66 ?_ (hv:=eS);refine bA (GB _ a.only) a (λnX a=>?_);refine bx a #[J R 0,J R 0] (λjO pd a=>?_);refine a' a 0 (av #[J R 0,J R 0]) (λtc a=>?_);refine ag ?_;refine bq a 0 #[J R 0,J R 0] ?_;refine ah ?_;refine pk (ak au) ?_;refine ct ?_;refine bN a [1,4,8,9] (λi u=>match i with|1=>J R (d.size:Int)|4=>bg #[av #[J R (d.size:Int),J R (bd:Int),J R 0,J R ((max o n:Nat):Int),J R (D:Int),J R ((2*jZ d.size bd:Nat):Int),J R (E3:Int)],J R 0]|8=>ay (ab ⟨u.b,0,af⟩)|_=>aY) (λf=>λ|8=>ai ((f 8).b) #[J R 0,J R 0,J R 0,J R 0,J R 0,J R 0,J R 0] 93|9=>ai ((f 8).b) #[J R (d.size:Int),J R (bd:Int),J R 0,J R ((max o n:Nat):Int),J R (D:Int),J R ((2*jZ d.size bd:Nat):Int),J R (E3:Int)] 93|_=>emp) (λ|9=>[14]|_=>[]) (λ|1=>[4]|3=>[3]|_=>[]) (λ|8=>[8]|9=>[8]|_=>[]) [0,1,2,3,4,5,7,10,15] (λf=>?_);refine aK ?_;refine dD (λG _ a=>qs G (a.has 0)) ?_;refine aK ?_;refine ea 0 (a1 (o:Int) (n:Int) g1 g2 (ad A ms.length c)) ?_ (hv:=(ee _)) (hk:=by show 0+_<=jD _;rw[kV];exact cm _) (hz:=(by rw[cN];rfl));refine dD (λG _ _=>ry G) ?_;iterate 3 refine aK ?_
  refine qB #[J R 0,J R 0,J R 0,J R 0,J R 0,J R 0,J R 0] ?_;refine fY (av #[J R (d.size:Int),J R (bd:Int),J R 0,J R ((max o n:Nat):Int),J R (D:Int),J R ((2*jZ d.size bd:Nat):Int),J R (E3:Int)]) ?_;refine aK ?_;refine bQ λtd a=>?_;generalize (f 8).b=q8 at a⊢;replace a:=a.drop 6;replace a:=a.drop 6;refine b4 ?_;refine pk (ak aB) ?_;refine ag ?_;refine bq a 6 #[J R (d.size:Int),J R (bd:Int),J R 0,J R ((max o n:Nat):Int),J R (D:Int),J R ((2*jZ d.size bd:Nat):Int),J R (E3:Int)] ?_;refine ah ?_;refine bA (Ke _ (a.has 4)) a (λxD a=>?_);refine cJ ?_;refine pk (ak au) ?_;refine ag ?_;refine bq a 3 (a1 (o:Int) (n:Int) g1 g2 (ad A ms.length c)) ?_ (hv:=(ee _)) (hk:=by show 0+_<=jD _;rw[kV];exact cm _) (hz:=(by rw[cN];rfl));refine a6 (Gj _ a.only) ?_;rintro e AS ⟨S,T,rfl,Q⟩;replace a:=a.new _ Q;refine ba ?_;refine v5 ?_;refine ct ?_;refine bN a [6,7,8] (λi u=>match i with|6=>ad (ab ⟨u.b,0,af⟩) 1 1|7=>J aG (N:Int)|8=>bg #[ay (ab ⟨u.b,0,af⟩),J R 0]|_=>aY) (λf=>λ|6=>ai ((f 6).b) #[ad S X.length T] 22|8=>p3 (f 8).b B D bd (N:Int) j (f 8).A (f 8).c|_=>emp) (λ_=>[]) (λ|3=>[7]|7=>[14,0]|8=>[5]|_=>[]) (λ|6=>[6]|8=>[8]|_=>[]) [0,1,2,3,4,5,6,7,14,15,16] (λf=>?_);iterate 3 refine aK ?_
  refine dl 0 4 ?_;iterate 2 refine aK ?_
  refine lM #[ad S X.length T] 22 ?_;refine dD (λG _ a=>Kb _ S T G ((a.aZ 0).cell 0 aa) (a.lr 1).1 (λb off e=>(a.has (t:=cc S T X) 1).2 b ⟨off,af,e⟩)) ?_;refine df (λG Fr a=>(V G (a.has 0)).mono ?_) ?_;·rintro e dm ⟨dw,rfl,aP,aQ,Q⟩;exact⟨{b:=dw,A:=aP,c:=aQ},aa,a.new _ Q⟩
  iterate 5 refine aK ?_
  refine bQ λCZ a=>?_;generalize (f 6).b=U1 at a⊢;generalize (f 8).b=s at a⊢;generalize (f 8).A=L at a⊢;generalize (f 8).c=M at a⊢;replace a:=a.drop 9;refine b4 ?_;refine pk (ak au) ?_;refine an ?_;skip;refine ct ?_;refine bN a [6,10,13] (λi u=>match i with|6=>av (a1 (o:Int) (n:Int) g1 g2 (ad u.A ms.length u.c))|10=>ay (ab ⟨u.b,0,af⟩)|13=>ay (ab ⟨u.b,0,af⟩)|_=>aY) (λf=>λ|6=>kN (hD (f 6).t (f 6).A (f 6).c ms) (f 6).t|10=>kN (sw (f 10).t (f 10).b (bd:Int) ms) (f 10).t|13=>ai ((f 13).b) (gX (dh B) (bd:Int) 0 (o:Int) (n:Int) g1 g2 (ad (f 6).A ms.length (f 6).c) (ay (ab ⟨(f 10).b,0,af⟩)) (ay (ab ⟨s,0,af⟩)) 0 0 au) 135|_=>emp) (λ_=>[]) (λ|3=>[4]|5=>[4]|9=>[4]|_=>[]) (λ|6=>[6]|10=>[10]|13=>[6,10,13]|_=>[]) [0,1,2,3,4,5,6,7,8,9,16,20,23] (λf=>?_);iterate 3 refine aK ?_
  refine ea 0 (a1 (o:Int) (n:Int) g1 g2 (ad A ms.length c)) ?_ (hv:=(ee _)) (hk:=by show 0+_<=jD _;rw[kV];exact cm _) (hz:=(by rw[cN];rfl));refine aK ?_;refine dl 0 66 ?_ (hv:=eS);refine df (λG Fr a=>(Bn G a.only).mono ?_) ?_;·rintro e dm ⟨az,aC,t,rfl,Q,j4⟩;exact⟨{A:=az,c:=aC,t:=t},aa,(a.new _ Q).kN j4⟩
  iterate 2 refine aK ?_
  refine dl 0 66 ?_ (hv:=eS);refine df (λG Fr a=>(Xg G a.only).mono ?_) ?_;·rintro e dm ⟨p,t,rfl,Q,P⟩;exact⟨{b:=p,t:=t},aa,(a.new _ Q).kN P⟩
  refine aK ?_;refine aL (av (gX (dh B) (bd:Int) 0 (o:Int) (n:Int) g1 g2 (ad (f 6).A ms.length (f 6).c) (ay (ab ⟨(f 10).b,0,af⟩)) (ay (ab ⟨s,0,af⟩)) 0 0 au)) (λ_ _ _=>ak4 aa aa aa aa aa) ?_;refine amt (av (gX (dh B) (bd:Int) 0 (o:Int) (n:Int) g1 g2 (ad (f 6).A ms.length (f 6).c) (ay (ab ⟨(f 10).b,0,af⟩)) (ay (ab ⟨s,0,af⟩)) 0 0 au)) ?_;refine aK ?_;refine bQ λC0 a=>?_;generalize (f 6).A=H at a⊢;generalize (f 6).c=I at a⊢;generalize (f 6).t=U at a⊢;generalize (f 10).b=z at a⊢;generalize (f 10).t=K at a⊢;generalize (f 13).b=C at a⊢;replace a:=a.front 10;obtain⟨j4,a⟩:=a.I7;replace a:aj _ _ _ [U,cc S T X,ai jO #[J R 0,J R 0] 49,ai eW #[J R 0,J R 0] 49,ai fL #[J R 0,J R 0] 49,ai eK (a1 (o:Int) (n:Int) g1 g2 (ad A ms.length c)) 26,aN B m d,F,ai q8 #[J R (d.size:Int),J R (bd:Int),J R 0,J R ((max o n:Nat):Int),J R (D:Int),J R ((2*jZ d.size bd:Nat):Int),J R (E3:Int)] 93,ai U1 #[ad S X.length T] 22,p3 s B D bd (N:Int) j L M,kN (sw K z (bd:Int) ms) K,ai C (gX (dh B) (bd:Int) 0 (o:Int) (n:Int) g1 g2 (ad H ms.length I) (ay (ab ⟨z,0,af⟩)) (ay (ab ⟨s,0,af⟩)) 0 0 au) 135]:=a;replace a:=a.front 11;obtain⟨P,a⟩:=a.I7;replace a:aj _ _ _ [K,U,cc S T X,ai jO #[J R 0,J R 0] 49,ai eW #[J R 0,J R 0] 49,ai fL #[J R 0,J R 0] 49,ai eK (a1 (o:Int) (n:Int) g1 g2 (ad A ms.length c)) 26,aN B m d,F,ai q8 #[J R (d.size:Int),J R (bd:Int),J R 0,J R ((max o n:Nat):Int),J R (D:Int),J R ((2*jZ d.size bd:Nat):Int),J R (E3:Int)] 93,ai U1 #[ad S X.length T] 22,p3 s B D bd (N:Int) j L M,ai C (gX (dh B) (bd:Int) 0 (o:Int) (n:Int) g1 g2 (ad H ms.length I) (ay (ab ⟨z,0,af⟩)) (ay (ab ⟨s,0,af⟩)) 0 0 au) 135]:=a;cases hh:j.has with
  |false=>
   have y:=Dz.out;rw[if_pos hh]at y;subst y;have Dx:aE (∀W,Has W (p3 s B D bd (N:Int) j L M)->aD ax 58 #[ay (ab ⟨s,0,af⟩)] W λe w'=>e=aA (bg #[av #[J aG 0,J aG 0,J R 0,J R 0,ad af 0 0],ak au])/\aq W w'):=hid (λW h=>by have q:=S8 s B D bd (N:Int) j L M W h PN;rw[hh]at q;exact q);clear hh;refine b4 ?_;refine bA (Dx.out _ (a.has 11)) a (λFG a=>?_);refine v3 ?_;refine bx a #[J aG 0,J aG 0,J R 0,J R 0,ad af 0 0] (λC7 I' a=>?_);refine a' a 0 (av #[J aG 0,J aG 0,J R 0,J R 0,ad af 0 0]) (λUn a=>?_);refine ah ?_;refine ag ?_;refine v2 ?_;refine jt ?_;refine a' a 6 (av #[J R 0,J R 0]) (λUo a=>?_);refine an ?_;go_wp2_with fail;refine dn (v:=bg #[ay (ab ⟨C,0,af⟩),av #[J R 0,J R 0]]) (IP aa aa aa (a.aZ 6) aw aw) aa ?_;unfold DT;simp only;rw[x0,PL];have bY:aj _ _ _ [ai C (gX (dh B) (bd:Int) 0 (o:Int) (n:Int) g1 g2 (ad H ms.length I) (ay (ab ⟨z,0,af⟩)) (ay (ab ⟨s,0,af⟩)) 0 0 au) 135,p3 s B D bd (N:Int) j L M,aN B m d,K,U,F]:=a.pick [13,12,8,1,2,9];exact⟨C,s,z,I,M,K,U,H,L,P,j4,by first|rfl|trivial,bY.fB 5⟩
  |true=>
   obtain⟨r,hr⟩:=ex j.last;have kI:=wG hh r hr;obtain⟨q,hq⟩:=tC kI;have gS:=hid hq;have Dx:aE (∀W,Has W (p3 s B D bd (N:Int) j L M)->aD ax 58 #[ay (ab ⟨s,0,af⟩)] W λe w'=>∃az aC,e=aA (bg #[av (recC r az aC),ak aB])/\b3 W w' (cc az aC r.data)):=hid (λW h=>by have q:=S8 s B D bd (N:Int) j L M W h PN;rw[hh,hr]at q;exact q);have y:=Dz.out;rw[if_neg (by rw[hh];simp),hr,hq]at y;have Xf:=hid y;clear y hq kI hh wG Dz PN;refine b4 ?_;refine a6 (Dx.out _ (a.has 11)) ?_;rintro e Up ⟨FN,G2,rfl,Q⟩;replace a:=a.new _ Q;refine ba ?_;refine v3 ?_;refine bx a #[J aG 0,J aG 0,J R 0,J R 0,ad af 0 0] (λC7 Uq a=>?_);refine a' a 0 (av #[J aG r.seq,J aG r.id,J R r.cur,J R r.off,ad FN r.data.length G2]) (λafB a=>?_);refine ah ?_;refine ag ?_;refine dP ?_;obtain⟨xl,uf⟩:=ex (E6 bd ms r);have y:=Xf.out;rw[uf]at y;have W':=hid uf;have P0:=hid y;clear y uf Xf;cases xl with
   |false=>
    have y:=P0.out;rw[if_neg aT]at y;subst y;refine b4 ?_;refine bq a 0 #[J aG r.seq,J aG r.id,J R r.cur,J R r.off,ad FN r.data.length G2] ?_;have HB:=(a.pk [14,2,0,1,3,4,5,6,7,8,9,10,11,12,13]).t2;refine a6 (X4 C z (bd:Int) ms K _ (dh B) (ad H ms.length I) (ay (ab ⟨s,0,af⟩)) (bd:Int) 0 (o:Int) (n:Int) 0 0 g1 g2 au r FN G2 ao _ FX P qK HB) ?_;rintro e av4 ⟨O,a⟩;clear HB;rw[W']at O;subst O;replace a:=a.bm;refine ba ?_;refine ig ?_;refine bN a [4] (λ_ _=>aY) (λ_=>λ|4=>ai fL #[J R 19,J R (q:Int)] 49|_=>emp) (λ|4=>[8]|_=>[]) (λ|1=>[2]|_=>[]) (λ_=>[]) [0,1,2,3,4,5,6,7,9,10,11,12,13,14,19] (λf=>?_);refine aK ?_;refine aL (J R (q:Int)) (λ_ _ a=>by(rw[<-gS];exact fy aa aa (a.aZ 0) aa aw)) ?_;iterate 2 refine aK ?_
    refine fY (av #[J R 19,J R (q:Int)]) ?_;refine bQ λav5 a=>?_;go_wp2_with fail;refine dn (v:=bg #[ay af,av #[J R 19,J R (q:Int)]]) (IP aa aa aa (a.aZ 14) aw aw) aa ?_;unfold DT;exact⟨by first|rfl|trivial,a.pick [9,10]⟩
   |true=>
    refine b4 ?_;refine bq a 0 #[J aG r.seq,J aG r.id,J R r.cur,J R r.off,ad FN r.data.length G2] ?_;have HB:=(a.pk [14,2,0,1,3,4,5,6,7,8,9,10,11,12,13]).t2;refine a6 (X4 C z (bd:Int) ms K _ (dh B) (ad H ms.length I) (ay (ab ⟨s,0,af⟩)) (bd:Int) 0 (o:Int) (n:Int) 0 0 g1 g2 au r FN G2 ao _ FX P qK HB) ?_;rintro e av6 ⟨O,a⟩;clear HB;rw[W']at O;subst O;replace a:=a.bm;refine ba ?_;refine ig ?_;refine bN a [7,10,13] (λ_ _=>aY) (λ_=>λ|7=>ai C (gX (dh B) (bd:Int) 0 (o:Int) (n:Int) g1 g2 (ad H ms.length I) (ay (ab ⟨z,0,af⟩)) (ay (ab ⟨s,0,af⟩)) 1 0 au) 135|10=>ai C (gX (dh B) (bd:Int) 0 (o:Int) (n:Int) g1 g2 (ad H ms.length I) (ay (ab ⟨z,0,af⟩)) (ay (ab ⟨s,0,af⟩)) 1 (q:Int) au) 135|13=>ai C (gX (dh B) (bd:Int) 0 (o:Int) (n:Int) g1 g2 (ad H ms.length I) (ay (ab ⟨z,0,af⟩)) (ay (ab ⟨s,0,af⟩)) 1 (q:Int) aB) 135|_=>emp) (λ|7=>[0]|10=>[22]|13=>[25]|_=>[]) (λ|4=>[2]|_=>[]) (λ_=>[]) [1,2,3,4,5,6,7,8,9,10,11,12,13,14,28] (λf=>?_);iterate 4 refine aK ?_
    refine aL (J R (q:Int)) (λ_ _ a=>by(rw[<-gS];exact fy aa aa (a.aZ 0) aa aw)) ?_;iterate 2 refine aK ?_
    refine fY (J R 1) ?_ (hk:=by show _+1<=_;rw[oX];decide) (hc:=KR);iterate 2 refine aK ?_
    refine fY (J R (q:Int)) ?_ (hk:=by show _+1<=_;rw[oX];decide) (hc:=X8);iterate 2 refine aK ?_
    refine fY (ak aB) ?_ (hk:=by show _+1<=_;rw[oX];decide) (hc:=X9);refine bQ λav7 a=>?_;have y:=P0.out;rw[if_pos aa]at y;clear P0;by_cases Aj:(q:Int)=(cO:Int)
    .rw[if_pos Aj]at y;subst y;have P3:=hid Aj;clear Aj;refine ct ?_;refine bN a [8] (λi _=>match i with|8=>J R (cO:Int)|_=>aY) (λ_ _=>emp) (λ_=>[]) (λ|3=>[14]|7=>[14]|8=>[0]|_=>[]) (λ_=>[]) [0,1,2,3,4,5,6,7,8,9,10,11,12,13,14,23] (λf=>?_);iterate 3 refine aK ?_
     refine dl 0 73 ?_ (hv:=fi (j:=4) aa);iterate 3 refine aK ?_
     refine dl 0 70 ?_ (hv:=fi (j:=1) aa);refine dD (λG _ a=>iB K z G P (a.at 0)) ?_;refine aL (ak aB) (λ_ _ _=>by(have h:=P3.out;go_simp;try simp[h])) ?_;refine bQ λav8 a=>?_;replace a:=a.drop 15;refine jt ?_;refine a' a 14 (J R 2) (λav9 a=>?_) (hk:=by show _+1<=_;rw[oX];decide) (hc:=KR);refine jt ?_;refine a' a 7 (av #[J R 0,J R 0]) (λawa a=>?_);refine an ?_;go_wp2_with fail;refine dn (v:=bg #[ay (ab ⟨C,0,af⟩),av #[J R 0,J R 0]]) (IP aa aa aa (a.aZ 7) aw aw) aa ?_;unfold DT;simp only;rw[x0,PL];have bY:aj _ _ _ [ai C (gX (dh B) (bd:Int) 0 (o:Int) (n:Int) g1 g2 (ad H ms.length I) (ay (ab ⟨z,0,af⟩)) (ay (ab ⟨s,0,af⟩)) 2 (q:Int) aB) 135,p3 s B D bd (N:Int) j L M,aN B m d,K,U,F]:=a.pick [14,13,9,0,3,10];exact⟨C,s,z,I,M,K,U,H,L,P,j4,by first|rfl|trivial,bY.fB 5⟩
    .rw[if_neg Aj]at y;subst y;have P3:=hid Aj;clear Aj;refine ct ?_;refine bN a [8] (λi _=>match i with|8=>J R (cO:Int)|_=>aY) (λ_ _=>emp) (λ_=>[]) (λ|3=>[14]|7=>[14]|8=>[0]|_=>[]) (λ_=>[]) [0,1,2,3,4,5,6,7,8,9,10,11,12,13,14,23] (λf=>?_);iterate 3 refine aK ?_
     refine dl 0 73 ?_ (hv:=fi (j:=4) aa);iterate 3 refine aK ?_
     refine dl 0 70 ?_ (hv:=fi (j:=1) aa);refine dD (λG _ a=>iB K z G P (a.at 0)) ?_;refine aL (ak au) (λ_ _ _=>by(have h:=P3.out;go_simp;try simp[h])) ?_;refine bQ λawb a=>?_;replace a:=a.drop 15;refine jt ?_;refine a' a 7 (av #[J R 0,J R 0]) (λawc a=>?_);refine an ?_;go_wp2_with fail;refine dn (v:=bg #[ay (ab ⟨C,0,af⟩),av #[J R 0,J R 0]]) (IP aa aa aa (a.aZ 7) aw aw) aa ?_;unfold DT;simp only;rw[x0,PL];have bY:aj _ _ _ [ai C (gX (dh B) (bd:Int) 0 (o:Int) (n:Int) g1 g2 (ad H ms.length I) (ay (ab ⟨z,0,af⟩)) (ay (ab ⟨s,0,af⟩)) 1 (q:Int) aB) 135,p3 s B D bd (N:Int) j L M,aN B m d,K,U,F]:=a.pick [14,13,9,0,3,10];exact⟨C,s,z,I,M,K,U,H,L,P,j4,by first|rfl|trivial,bY.fB 5⟩
structure wb where
 bd:Nat
 o:Nat
 n:Nat
 g1:dX
 g2:dX
 ms:List bG
structure sh (C:wb) (d:dL):Prop where
 ok:dR d
 bd:1<=C.bd/\C.bd<=65536
 sz:C.o<=1048576/\C.n<=1048576
 qb:nF C.o C.n C.ms
 lay:k6 d.size C.bd (max C.o C.n)<=d.cnt
 ek:(ew C.bd C.ms).length<=1048576
 ch:∀bD∈ew C.bd C.ms,∃t:Nat,bD.to=(t:Int)/\0<=cS bD/\cS bD<=(C.bd:Int)/\(t:Int)+cS bD<=(C.n:Int)/\(bD.k=1->0<=bD.fr/\bD.fr+bD.n<=(C.o:Int))
def wb.E(C:wb)(d:dL):pg:=⟨0,0,0,C.bd,C.o,C.n,0,0,(fg d.size 0 (max C.o C.n)).2,(mJ (jI C.o C.n C.g1 C.g2 C.ms)).toNat,C.g1,C.g2,af,C.ms⟩
structure q6 where
 st:Int
 nx:Int
 wr:Int
 bo:Int
 pos:Int
def yf(x:q6):List Value:=[J R x.st,J R x.nx,J R x.wr,J R x.bo,J R x.pos]
def E9(C:wb)(d:dL):(Int×Int)⊕ph:=GS d C.bd C.o C.n C.g1 C.g2 C.ms
def oo(C:wb)(d:dL):q6×dL:=match E9 C d with
 |.inl f=>(⟨0,0,R.wrap (d.er -d.er),f.1,f.2⟩,uC d)
 |.inr s=>(⟨s.st,s.nx,R.wrap ((qW (C.E d) s).2.d.er -d.er),(qW (C.E d) s).1,0⟩,uC (qW (C.E d) s).2.d)
theorem ae8{E E'}(h:E'.bd=E.bd/\E'.o=E.o/\E'.n=E.n/\E'.first=E.first/\E'.id=E.id/\E'.g1=E.g1/\E'.g2=E.g2/\E'.ms=E.ms)s:iY E' s=iY E s/\AR E' s=AR E s:=by obtain⟨h1,a,b,c,d,e,f,g⟩:=h;unfold iY AR zX oy;rw[h1,a,b,c,d,e,f,g];exact⟨aa,aa⟩
def auk{E E'}(h:E'.bd=E.bd/\E'.o=E.o/\E'.n=E.n/\E'.first=E.first/\E'.id=E.id/\E'.g1=E.g1/\E'.g2=E.g2/\E'.ms=E.ms)s:qW E' s=qW E s:=by
 have key:∀(k) s,vY E' k s=vY E k s:=by
  intro k;induction k with
  |zero=>intro s;rfl
  |succ k a=>grind[vY,ae8]
 unfold qW;rw[(ae8 h s).2,key,h.1,h.2.2.2.2.2.2.2]
def acU{C d E s}(h:sh C d)(u:d.down=au)(r:d.cache.length<=1000000000)(a:E9 C d=KE s)(D:E.bd=C.bd/\E.o=C.o/\E.n=C.n/\E.first=(fg d.size 0 (max C.o C.n)).2/\E.id=(mJ (jI C.o C.n C.g1 C.g2 C.ms)).toNat/\E.ms=C.ms):rC E s/\s.d=d:=by
 obtain⟨bB,b7,A,J,B,j⟩:=D;have O:kk d _ _:=⟨h.ok,h.bd.1,h.bd.2,by have:=h.lay;unfold k6 at this;exact this⟩
 have M:max C.o C.n<=d.bytes.length:=by have h1:=acq (s:=_) (N:=max C.o C.n) (e:=0) (x:=2*jZ d.size C.bd) h.ok.mj;rw[h.ok.len,Nat.mul_comm _];refine eC h1 (Nat.mul_le_mul_left _ ?_);have:=h.lay;unfold k6 at this;omega
 have H:∀bD∈ew _ _,((kG d bD).length:Int)=cS bD:=λbD f=>by
  obtain⟨t,_,y,_,z,i⟩:=h.ch bD f;unfold kG cS at*;by_cases hk:bD.k=1;·rw[if_pos hk]at*;obtain⟨eR,eY⟩:=i hk;rw[AF h.ok ae];omega
  .grind
 have m:C' E d:=by
  refine⟨by rw[bB];exact h.bd.1,by rw[bB];exact h.bd.2,by rw[b7,A,j];exact h.qb,ae,ae,by rw[bB,j];exact h.ek,?_,?_⟩;·rw[B];have h1:=Uk ⟨ib (jI C.o C.n C.g1 C.g2 C.ms),0,0,0⟩ 8;grind[mJ,k',Tv]
  .rw[bB,j];intro bD f;obtain⟨t,w,y,I,z,i⟩:=h.ch bD f;have K:=H bD f;refine⟨t,⟨w,λhk=>?_,ae,ae⟩,λhk=>by grind[cS]⟩;obtain⟨eR,eY⟩:=i hk;have sC:0<=bD.n:=by grind[cS]
   exact⟨bD.fr.toNat,bD.n.toNat,ae,ae,ae⟩
 obtain⟨b,c⟩:=ex (r2 d C.bd C.o C.n C.g1 C.g2 C.ms)
 have p:0<=b.next/\b.next<18446744073709551616:=by rw[<-c,r2,adj];exact arT _
 have F:b.has=aB->0<=b.last.cur/\0<=b.last.off:=λhh=>by rw[<-c]at hh⊢;obtain⟨bs,G⟩:=ad3 (TC (d:=d) (first:=(fg d.size 0 (max C.o C.n)).2) (bound:=C.bd) (id:=mJ (jI C.o C.n C.g1 C.g2 C.ms)) hh);have hr:=YY G;exact⟨hr.1,hr.2.2⟩
 unfold E9 GS at a;rw[c]at a;obtain⟨L,q⟩:=ex (ew C.bd C.ms);have hch:=h.ch;rw[q]at a hch;clear c;split at a;·grind
 .split at a;·have l:=akd a;subst l;exact⟨⟨m,aF,u,r,p,cQ _,λh=>aF⟩,aa⟩
  .split at a
   .rename_i v g;have v:b.has=true:=aF;have hr:=F v;have l:=akd a;unfold E6 at g;rw[q]at g;simp at g;obtain⟨P,Q,R⟩:=g;subst l;refine⟨⟨m,aF,u,r,p,?_,λ_ hst=>?_⟩,aa⟩;·grind
    .grind[stepT,b8]
   .grind
def aep{E s}(h:rC E s):kg s.d (qW E s).2.d:=by
 unfold qW;split;·exact kg.refl h.j.dev
 .grind[aeq]
def aeb{d}(a:dR d):kg d (uC d)/\(uC d).down=au/\(uC d).cache=[]:=by have h:=TP a (λ_=>au);exact⟨⟨⟨h.mj,h.vr,h.len,h.small,h.cache,h.ek,show db (-1) by(unfold db;omega)⟩,aa,aa⟩,aa,aa⟩
def sh.ys{C d cD}(h:sh C d)(e:kg d cD):sh C cD:=⟨e.ok,h.bd,h.sz,h.qb,by rw[e.size,e.cnt];exact h.lay,h.ek,h.ch⟩
def akN{C d}(h:sh C d)(g:d.down=au)(e:d.cache.length<=1000000000):kg d (oo C d).2/\(oo C d).2.down=au/\(oo C d).2.cache=[]:=by
 unfold oo;cases hn:E9 C d with
 |inl f=>exact aeb h.ok
 |inr s=>
  obtain⟨h1,c⟩:=acU (E:=C.E d) h g e hn ⟨aa,aa,aa,aa,aa,aa⟩;have a:=aep h1;rw[c]at a;have b:=aeb a.ok;exact⟨a.trans b.1,b.2⟩
def aj9(P:aO)(t:br)(pk:Int):Prop:=∀W,t.p W->aD ax 158 #[P] W λe w'=>e=aA (J R pk)/\aq W w'
def Yd(B c b dg)m d(st nx wr bo pos er)u(ao w)FX F(g:dR d)(a:aj ao FX w [ai dg #[J R st,J R nx,J R wr,J R bo,J R pos] 158,ai b #[J R er] 3,ai c #[(dh B)] 32,aN B m d,F]):
 CallsD ax 233 #[ay (ab ⟨c,0,af⟩),ay (ab ⟨b,0,af⟩),ay (ab ⟨dg,0,af⟩)] u w λe k w'=>k=u/\e=aA (bg #[])/\∃f,aj ao FX w' [ai dg #[J R st,J R nx,J R (R.wrap (d.er -er)),J R bo,J R pos] 158,ai b #[J R er] 3,ai c #[(dh B)] 32,aN B f (uC d),F]:=by
 have h:=hid g;clear g;go_enter_d func233,ntmps233;go_step;refine ct ?_;refine bN a [1,6] (λi _=>match i with|1=>av #[J R d.er,J R d.eZ,J R d.iq,J R d.hi,J R d.cW]|_=>aY) (λ_=>λ|6=>ai dg #[J R st,J R nx,J R (R.wrap (d.er -er)),J R bo,J R pos] 158|_=>emp) (λ|6=>[0]|_=>[]) (λ|0=>[2]|1=>[3]|3=>[1]|_=>[]) (λ_=>[]) [1,2,3,4,6,11] (λn=>?_);refine dl 0 0 ?_;refine dD (λl _ a=>Rp B m d l (a.has 0)) ?_;refine gB (J R d.er) ?_;refine dl 0 0 ?_;refine aL (J R (R.wrap (d.er -er))) (λ_ _ _=>by(go_simp;try rfl)) ?_;refine aK ?_;refine fY (J R (R.wrap (d.er -er))) ?_;refine bQ λw1 a=>?_;replace a:=a.drop 4;refine ag ?_;refine pl a 1 0 ?_;refine a6 (amP B m d _ (a.has 2) h) ?_;rintro e o ⟨rfl,f,j⟩;replace a:=a.eF 2 j;refine AU ?_;go_wp2_with fail;first|go_end0|refine bodyPost_ret (results_none rfl _ _ _) rfl ?_
 exact⟨aa,f,a.pick [4,0,1,2,3]⟩
def akO C(B c)A m d(ao w)FX F(h:sh C d)(N:d.down=au)(gJ:d.cache.length<=1000000000)(hl:∀W,ar FX ao W->cC W A C.ms)(a:aj ao FX w [aN B m d,F]):
 aD ax 157 #[dh B,J R (C.bd:Int),dC (C.o:Int) (C.n:Int) C.g1 C.g2 (ad A C.ms.length c)] w λe w'=>∃pk,pk<=(C.bd:Int)/\∃P,e=aA (bg #[av (yf (oo C d).1).toArray,P])/\∃t,aj9 P t pk/\∃aU,aj ao FX w' [t,aN B aU (oo C d).2,F]:=by
 have fM:=hid h.ok;have L:=hid (λW F G=>aks B m d C.bd C.o C.n c C.g1 C.g2 A C.ms ao W FX F h.ok N h.bd h.sz h.qb h.lay h.ek hl G);cases hn:GS d C.bd C.o C.n C.g1 C.g2 C.ms with
 |inl f=>
  have hat:oo C d=(⟨0,0,R.wrap (d.er -d.er),f.1,f.2⟩,uC d):=by unfold oo E9;rw[hn]
  rw[hat];obtain⟨I,K⟩:=f;simp only[yf];clear hat;have M:aE (∀W F,aj ao FX W [aN B m d,F]->aD ax 12 #[dh B,J R (C.bd:Int),dC (C.o:Int) (C.n:Int) C.g1 C.g2 (ad A C.ms.length c)] W λe w'=>e=aA (bg #[ay af,av #[J R I,J R K]])/\aj ao FX w' [aN B m d,F]):=hid (λW F G=>by have q:=L W F G;rw[hn]at q;exact q);clear hn L h N gJ hl;go_enter_defers Tryz.func157,Tryz.ntmps157;go_step;refine ag ?_;refine bM a (ay (ab ⟨B,0,af⟩)) (λu w1 a=>?_);refine bM a (av (a1 (C.o:Int) (C.n:Int) C.g1 C.g2 (ad A C.ms.length c))) (λD aR a=>?_);refine bx a #[J R 0,J R 0,J R 0,J R 0,J R 0] (λv bL a=>?_);refine dQ ?_;refine pl a 2 0 ?_;refine bA (Rp B m d _ (a.has 3)) a (λca a=>?_);refine pk (J R d.er) ?_;refine bx a #[J R 0] (λx cF a=>?_);refine a' a 0 (J R d.er) (λc6 a=>?_);refine b4 ?_;refine TI {target:=.fn (ej 233) #[ay (ab ⟨u,0,af⟩),ay (ab ⟨x,0,af⟩),ay (ab ⟨v,0,af⟩)],args:=#[]} aw ?_;refine ag ?_;refine pl a 3 0 ?_;refine ah ?_;refine bq a 2 (a1 (C.o:Int) (C.n:Int) C.g1 C.g2 (ad A C.ms.length c)) ?_ (hv:=(ee _)) (hk:=by show 0+_<=jD _;rw[kV];exact cm _) (hz:=(by rw[cN];rfl));have r:=(a.pk [4,0,1,2,3,5]).t1;refine a6 (M _ _ r) ?_;rintro e dW ⟨rfl,a⟩;clear r;replace a:=a.dc;refine ba ?_;refine v5 ?_;refine a' a 2 (av #[J R I,J R K]) (λdG a=>?_);refine b4 ?_;refine aI (ak au) (by(go_simp;try rfl)) ?_;refine ag ?_;refine bq a 2 #[J R 0,J R 0,J R 0,J R I,J R K] ?_;refine ah ?_;refine a' a 2 (av #[J R 0,J R 0,J R 0,J R I,J R K]) (λe8 a=>?_);refine bP ?_;go_wp2_with fail;have r:=(a.pk [2,1,4,0,3,5]).t4;refine Ph (f:=233) (args:=#[ay (ab ⟨u,0,af⟩),ay (ab ⟨x,0,af⟩),ay (ab ⟨v,0,af⟩)]) aT (by simp[go_sem]) ?_;refine(Yd B u x v m d 0 0 0 I K d.er _ ao _ FX _ fM r).mono ?_;clear r a;rintro e za aR ⟨rfl,rfl,S,a⟩;replace a:=a.oK;have aiI:=(a.pick (l':=[aN B S (uC d),F]) [3,5]).new emp ⟨ar.refl _ _,trivial,λ_ h=>h.elim⟩;exact⟨_,mP aa aa aa (a.aZ 0) aw aw,0,ajN _,ay af,by first|rfl|trivial,emp,λW _=>aky W,S,aiI⟩
 |inr s=>
  have RH:∀B dg dw p g b,qW (⟨B,dg,dw,C.bd,C.o,C.n,p,g,(fg d.size 0 (max C.o C.n)).2,(mJ (jI C.o C.n C.g1 C.g2 C.ms)).toNat,C.g1,C.g2,b,C.ms⟩:pg) s=qW (C.E d) s:=λB dg dw p g b=>auk (E:=C.E d) (E':=⟨B,dg,dw,C.bd,C.o,C.n,p,g,(fg d.size 0 (max C.o C.n)).2,(mJ (jI C.o C.n C.g1 C.g2 C.ms)).toNat,C.g1,C.g2,b,C.ms⟩) ⟨aa,aa,aa,aa,aa,aa,aa,aa⟩ s;have O:∀B dg dw p g b,rC (⟨B,dg,dw,C.bd,C.o,C.n,p,g,(fg d.size 0 (max C.o C.n)).2,(mJ (jI C.o C.n C.g1 C.g2 C.ms)).toNat,C.g1,C.g2,b,C.ms⟩:pg) s/\s.d=d:=λB dg dw p g b=>acU h N gJ hn ⟨aa,aa,aa,aa,aa,aa⟩;obtain⟨rc,H,Q⟩:∃rc H,qW (C.E d) s=(rc,H):=⟨_,_,aa⟩;have jl:=aep (O 0 0 0 0 0 af).1;rw[RH,Q]at jl;have hat:oo C d=(⟨s.st,s.nx,R.wrap (H.d.er -d.er),rc,0⟩,uC H.d):=by unfold oo E9;rw[hn];simp only;rw[Q]
  rw[hat];simp only[yf];have uk:=(O 0 0 0 0 0 af).2;obtain⟨st,nx,bC,j,i⟩:=s;simp only at uk⊢;obtain rfl:i=d:=uk;have rn:=hid jl.ok;have M:aE (∀W F,aj ao FX W [aN B m i,F]->aD ax 12 #[dh B,J R (C.bd:Int),dC (C.o:Int) (C.n:Int) C.g1 C.g2 (ad A C.ms.length c)] W λe w'=>∃ dg dw p g c2 l k b aJ,sw l p C.bd C.ms/\hD k b g C.ms/\e=aA (bg #[ay (ab ⟨dg,0,af⟩),av #[J R 0,J R 0]])/\aj ao FX w' [fx ⟨B,dg,dw,C.bd,C.o,C.n,p,g,(fg i.size 0 (max C.o C.n)).2,(mJ (jI C.o C.n C.g1 C.g2 C.ms)).toNat,C.g1,C.g2,b,C.ms⟩ l k 0 ⟨st,nx,bC,j,i⟩ aJ c2 m,F]):=hid (λW F G=>by have q:=L W F G;rw[hn]at q;exact q);have Xk:aE (∀dg dw p g b l k pk aJ c2 m W F,sw l p C.bd C.ms->hD k b g C.ms->aj ao FX W [fx ⟨B,dg,dw,C.bd,C.o,C.n,p,g,(fg i.size 0 (max C.o C.n)).2,(mJ (jI C.o C.n C.g1 C.g2 C.ms)).toNat,C.g1,C.g2,b,C.ms⟩ l k pk ⟨st,nx,bC,j,i⟩ aJ c2 m,F]->aD ax 13 #[ay (ab ⟨dg,0,af⟩)] W λe w'=>e=aA (av #[J R rc,J R 0])/\∃b2,gE ⟨B,dg,dw,C.bd,C.o,C.n,p,g,(fg i.size 0 (max C.o C.n)).2,(mJ (jI C.o C.n C.g1 C.g2 C.ms)).toNat,C.g1,C.g2,b,C.ms⟩ l k pk H b2/\aj ao FX w' [b2,F]):=hid (λdg dw p g b l k pk aJ c2 m W F Y X G=>by have q:=akJ _ l k pk _ aJ c2 m ao W FX F Y X (O B dg dw p g b).1 G;rw[RH,Q]at q;exact q);obtain⟨y,pU⟩:=ex ((fg i.size 0 (max C.o C.n)).2);obtain⟨z,Ez⟩:=ex ((mJ (jI C.o C.n C.g1 C.g2 C.ms)).toNat);rw[pU,Ez]at M Xk;clear hat jl O RH hn L h N gJ hl Q pU Ez;go_enter_defers Tryz.func157,Tryz.ntmps157;go_step;refine ag ?_;refine bM a (ay (ab ⟨B,0,af⟩)) (λu hR a=>?_);refine bM a (av (a1 (C.o:Int) (C.n:Int) C.g1 C.g2 (ad A C.ms.length c))) (λD iZ a=>?_);refine bx a #[J R 0,J R 0,J R 0,J R 0,J R 0] (λv ks a=>?_);refine dQ ?_;refine pl a 2 0 ?_;refine bA (Rp B m i _ (a.has 3)) a (λlf a=>?_);refine pk (J R i.er) ?_;refine bx a #[J R 0] (λx mm a=>?_);refine a' a 0 (J R i.er) (λnX a=>?_);refine b4 ?_;refine TI {target:=.fn (ej 233) #[ay (ab ⟨u,0,af⟩),ay (ab ⟨x,0,af⟩),ay (ab ⟨v,0,af⟩)],args:=#[]} aw ?_;refine ag ?_;refine pl a 3 0 ?_;refine ah ?_;refine bq a 2 (a1 (C.o:Int) (C.n:Int) C.g1 C.g2 (ad A C.ms.length c)) ?_ (hv:=(ee _)) (hk:=by show 0+_<=jD _;rw[kV];exact cm _) (hz:=(by rw[cN];rfl));have r:=(a.pk [4,0,1,2,3,5]).t1;refine a6 (M _ _ r) ?_;rintro e pd ⟨dg,dw,p,g,c2,l,k,b,aJ,Y,X,rfl,a⟩;clear r;replace a:=a.dc;refine ba ?_;refine v5 ?_;refine a' a 2 (av #[J R 0,J R 0]) (λtc a=>?_);refine b4 ?_;refine aI (ak aB) (by(go_simp;try rfl)) ?_;refine an ?_;replace a:aj _ _ _ [cq ⟨B,dg,dw,C.bd,C.o,C.n,p,g,y,z,C.g1,C.g2,b,C.ms⟩ 0 st (nx:Int) bC,cV ⟨B,dg,dw,C.bd,C.o,C.n,p,g,y,z,C.g1,C.g2,b,C.ms⟩ j aJ c2,aN B m i,l,k,ai x #[J R i.er] 3,ai v #[J R 0,J R 0,J R 0,J R 0,J R 0] 158,ai D (a1 (C.o:Int) (C.n:Int) C.g1 C.g2 (ad A C.ms.length c)) 26,ai u #[ay (ab ⟨B,0,af⟩)] 32,F]:=aj.kq (a.pick (l':=[fx ⟨B,dg,dw,C.bd,C.o,C.n,p,g,y,z,C.g1,C.g2,b,C.ms⟩ l k 0 ⟨st,nx,bC,j,i⟩ aJ c2 m,ai x #[J R i.er] 3,ai v #[J R 0,J R 0,J R 0,J R 0,J R 0] 158,ai D (a1 (C.o:Int) (C.n:Int) C.g1 C.g2 (ad A C.ms.length c)) 26,ai u #[ay (ab ⟨B,0,af⟩)] 32,F]) [0,1,2,3,4,5]);refine b4 ?_;refine bA (akK dg (dh B) (ad b C.ms.length g) (ay (ab ⟨p,0,af⟩)) (ay (ab ⟨dw,0,af⟩)) (C.bd:Int) 0 (C.o:Int) (C.n:Int) st (nx:Int) C.g1 C.g2 bC _ (a.aZ 0)) a (λtd a=>?_);refine ah ?_;refine bA (akt dg (dh B) (ad b C.ms.length g) (ay (ab ⟨p,0,af⟩)) (ay (ab ⟨dw,0,af⟩)) (C.bd:Int) 0 (C.o:Int) (C.n:Int) st (nx:Int) C.g1 C.g2 bC _ (a.aZ 0)) a (λxD a=>?_);refine ah ?_;refine a' a 6 (J R st) (λAS a=>?_);refine ah ?_;refine a' a 6 (J R (nx:Int)) (λCZ a=>?_);refine an ?_;replace a:aj _ _ _ [fx ⟨B,dg,dw,C.bd,C.o,C.n,p,g,y,z,C.g1,C.g2,b,C.ms⟩ l k 0 ⟨st,nx,bC,j,i⟩ aJ c2 m,ai x #[J R i.er] 3,ai v #[J R st,J R (nx:Int),J R 0,J R 0,J R 0] 158,ai D (a1 (C.o:Int) (C.n:Int) C.g1 C.g2 (ad A C.ms.length c)) 26,ai u #[ay (ab ⟨B,0,af⟩)] 32,F]:=(a.pick (l':=[cq ⟨B,dg,dw,C.bd,C.o,C.n,p,g,y,z,C.g1,C.g2,b,C.ms⟩ 0 st (nx:Int) bC,cV ⟨B,dg,dw,C.bd,C.o,C.n,p,g,y,z,C.g1,C.g2,b,C.ms⟩ j aJ c2,aN B m i,l,k,ai x #[J R i.er] 3,ai v #[J R st,J R (nx:Int),J R 0,J R 0,J R 0] 158,ai D (a1 (C.o:Int) (C.n:Int) C.g1 C.g2 (ad A C.ms.length c)) 26,ai u #[ay (ab ⟨B,0,af⟩)] 32,F]) [0,1,2,3,4,5,6,7,8,9]).fB 5;refine ag ?_;refine ah ?_;have r:=(a.pk [0,1,2,3,4,5]).t1;refine a6 (Xk dg dw p g b l k 0 aJ c2 m _ _ Y X r) ?_;rintro e C0 ⟨rfl,t9,hq,a⟩;clear r;replace a:=a.dc;refine ba ?_;refine ah ?_;refine a' a 2 (av #[J R rc,J R 0]) (λFG a=>?_);refine an ?_;obtain⟨pk,lF,oq,m9,hle,rfl⟩:=hq;obtain⟨V,T,U,aca,Z⟩:=H;simp only at rn⊢;replace a:aj _ _ _ [cq ⟨B,dg,dw,C.bd,C.o,C.n,p,g,y,z,C.g1,C.g2,b,C.ms⟩ pk V (T:Int) U,cV ⟨B,dg,dw,C.bd,C.o,C.n,p,g,y,z,C.g1,C.g2,b,C.ms⟩ aca lF oq,aN B m9 Z,l,k,ai x #[J R i.er] 3,ai v #[J R st,J R (nx:Int),J R 0,J R rc,J R 0] 158,ai D (a1 (C.o:Int) (C.n:Int) C.g1 C.g2 (ad A C.ms.length c)) 26,ai u #[ay (ab ⟨B,0,af⟩)] 32,F]:=aj.kq (a.pick (l':=[fx ⟨B,dg,dw,C.bd,C.o,C.n,p,g,y,z,C.g1,C.g2,b,C.ms⟩ l k pk ⟨V,T,U,aca,Z⟩ lF oq m9,ai x #[J R i.er] 3,ai v #[J R st,J R (nx:Int),J R 0,J R rc,J R 0] 158,ai D (a1 (C.o:Int) (C.n:Int) C.g1 C.g2 (ad A C.ms.length c)) 26,ai u #[ay (ab ⟨B,0,af⟩)] 32,F]) [0,1,2,3,4,5]);refine ag ?_;refine bq a 6 #[J R st,J R (nx:Int),J R 0,J R rc,J R 0] ?_;refine ah ?_;refine a' a 6 (av #[J R st,J R (nx:Int),J R 0,J R rc,J R 0]) (λI' a=>?_);refine bP ?_;go_wp2_with fail;have r:=(a.pk [6,5,8,2,0,1,3,4,7,9]).t4;refine Ph (f:=233) (args:=#[ay (ab ⟨u,0,af⟩),ay (ab ⟨x,0,af⟩),ay (ab ⟨v,0,af⟩)]) aT (by simp[go_sem]) ?_;refine(Yd B u x v m9 Z st (nx:Int) 0 rc 0 i.er _ ao _ FX _ rn r).mono ?_;clear r a;rintro e za aR ⟨rfl,rfl,S,a⟩;replace a:=a.oK;exact⟨_,mP aa aa aa (a.aZ 0) aw aw,pk,Int.le_trans hle (by show max 0 (C.bd:Int)<=_;omega),ay (ab ⟨dg,0,af⟩),by first|rfl|trivial,cq ⟨B,dg,dw,C.bd,C.o,C.n,p,g,y,z,C.g1,C.g2,b,C.ms⟩ pk V (T:Int) U,λW hp=>akz dg (dh B) (ad b C.ms.length g) (ay (ab ⟨p,0,af⟩)) (ay (ab ⟨dw,0,af⟩)) (C.bd:Int) pk (C.o:Int) (C.n:Int) V (T:Int) C.g1 C.g2 U W hp,S,a.pick [4,3,9]⟩
section
section
variable {P:eu} {ops:Array cR} {Q:Exit->Act->aM->Prop} {md:Region.Mode} {n:Nat} {r:Option Nat}
def X5 {i f d:Nat} {b:Array Bool} {a e:Act} {w:aM} {oi:cR} (v:aO) (h:F' (Fr af) n P md ops Q f (b.setIfInBounds i aB) e w) (k:ops[i]?=ab oi:=by rfl) (l:∀w,(bt a.eval oi).run P w=a7 (c8 v) w:=by(intro w;go_simp;try with_reducible rfl)) (j:oi.dst=ab d:=by rfl) (g:a.put (ab d) v=e:=by((try simp only[Act.put,List.setIfInBounds_toArray,List.set_cons_zero,List.set_cons_succ]);rfl))
 (hs:Region.noSelect ops=true:=by kernel_rfl) (hf:Region.free md ops b i=true:=by kernel_rfl) (hr:(sm md ops b).contains i=true:=by kernel_rfl) (hw:c4 oi (cY ops a.tmps)=true:=by kernel_rfl) (hab:∀w,oi.about P w a.eval=none:=by(intro _;rfl)) (Ep:∀c a w,Q (.panic c) (a.put oi.dst v) w->Q (.panic c) a w:=by(intro _ _ _ h;exact h)):F' (Fr af) n P md ops Q (f+1) b a w:=by
 rw[<-j]at g;subst g;exact wpAnyIn_take aa k hs hf hr Ep ⟨Or.inl ⟨hw,l⟩,hab⟩ h
def akv {i j x s t:Nat} {m:Array Bool} {a g:Act} {w:aM} {oi b:cR} {v u:aO} (c:aM->Prop) (p:c w)
 (h1:∀w,c w->(bt a.eval oi).run P w=a7 (c8 v) w/\(bt (a.put b.dst u).eval oi).run P w=a7 (c8 v) w)
 (l:∀w,c w->∃f args,(bt a.eval b).run P w=a7 (.enter f args) w/\(bt (a.put oi.dst v).eval b).run P w=a7 (.enter f args) w/\aD P f args w λe w'=>e=aA u/\c w')
 (h:∀w,c w->F' (Fr r) n P md ops Q x ((m.setIfInBounds i aB).setIfInBounds j aB) g w)
 (hr:sm md ops m=[i,j]:=by kernel_rfl) (hr1:sm md ops (m.setIfInBounds i aB)=[j]:=by kernel_rfl) (hr2:sm md ops (m.setIfInBounds j aB)=[i]:=by kernel_rfl)
 (LS:ops[i]?=ab oi:=by rfl) (Ck:ops[j]?=ab b:=by rfl) (rQ:oi.dst=ab s:=by rfl) (jV:b.dst=ab t:=by rfl) (ha:(a.put (ab s) v).put (ab t) u=g:=by((try simp only[Act.put,List.setIfInBounds_toArray,List.set_cons_zero,List.set_cons_succ]);rfl)) (ug:s5 oi=true:=by kernel_rfl) (p0:s5 b=true:=by kernel_rfl) (hne:i≠j:=by decide) (hd:∀d,oi.dst=ab d->b.dst≠ab d:=by(intro d h;injection h with h;subst h;decide))
 (w1:c4 oi (cY ops a.tmps)=true:=by kernel_rfl) (aR:c4 b (cY ops a.tmps)=true:=by kernel_rfl) (bL:c4 oi (cY ops (a.put b.dst u).tmps)=true:=by kernel_rfl) (ca:c4 b (cY ops (a.put oi.dst v).tmps)=true:=by kernel_rfl):
 F' (Fr r) n P md ops Q (x+2) m a w:=by
 rw[<-rQ,<-jV]at ha;subst ha
 have rd:∀(a) w K,(bt _ oi).run P w=a7 (c8 v) w->K (a.put oi.dst v) w->agt (Fr r) n P oi a w K Q:=λa w K k hk=>by refine MP (K0:=λ_ _=>False) (next0:=λg w'=>g=a.put oi.dst v/\w'=w) (λg w' ⟨h1,l⟩=>aF) ug ?_;unfold hB;rw[k];exact⟨aa,aa⟩
 have q:∀(a) w K,(∃f args,(bt a.eval b).run P w=a7 (.enter f args) w/\aD P f args w λe w'=>e=aA u/\c w')->(∀w',c w'->K (a.put b.dst u) w')->agt (Fr r) n P b a w K Q:=λa w K ⟨f,_,k,hc⟩ hk=>by refine MP (K0:=λ_ _=>False) (next0:=λg w'=>g=a.put b.dst u/\c w') (λg w' ⟨h1,l⟩=>aF) p0 ?_;unfold hB;rw[k];exact hc.mono λe w' ⟨h1,l⟩=>by grind
 refine Pn hr aT (JA LS (λK o=>?_) (JA Ck (λK o=>?_) OC));·rw[if_pos w1];refine rd _ _ _ (h1 w p).1 (o _ _ (Pn hr1 aT (JA Ck (λz y=>?_) OC)));rw[if_pos ca];obtain⟨f,args,_,k,hc⟩:=l w p;exact q _ _ _ ⟨f,_,k,hc⟩ (λw' hw'=>y _ _ (h w' hw'))
 .rw[if_pos aR];obtain⟨f,args,k,_,hc⟩:=l w p;refine q _ _ _ ⟨f,_,k,hc⟩ (λw' hw'=>o _ _ (Pn hr2 aT (JA LS (λz y=>?_) OC)));grind[Array.setIfInBounds_comm,Act.put_comm]
def Cv(n k:Nat):Array Bool:=((dF n).map (λj=>decide (j<k))).toArray
def ary{n k}:(Cv n k).setIfInBounds k aB=Cv n (k+1):=by unfold Cv;apply Array.ext aT;grind
def X6(g:(dF ops.size).all (λk=>sm md ops (Cv ops.size k)==[k])=aB\/True):∀(m k) a w l,k+m=ops.size->ops.toList.drop k=l->(∀q,k<=q->q<ops.size->sm md ops (Cv ops.size q)=[q])->sm md ops (Cv ops.size ops.size)=[]->wpListIn (Fr r) n P ops Q l a w->F' (Fr r) n P md ops Q m (Cv ops.size k) a w
 |0,k,a,w,l,hk,b,c,hz,h=>by obtain rfl:k=ops.size:=ae;rw[GK aT]at b;subst b;exact⟨hz,h⟩
 |m+1,k,a,w,l,hk,b,c,hz,h=>by
  have hlt:k<ops.toList.length:=aF;rw[DL hlt]at b;subst b;have f:ops[k]?=ab ops.toList[k]:=aT;refine Pn (c k (cm _) ae) aT (JA f (λK e=>?_) OC);unfold wpListIn at h;have key:=λa w h=>e _ _ (by rw[ary];exact X6 g m (k+1) a w _ ae aa (λq h1 d=>c q ae d) hz h);split at h;·grind[Oper.wpIn_mono]
  .grind
end
section
variable {P:eu} {ops:Array cR} {rest:List cR} {Q:Exit->Act->aM->Prop} {o:cR} {a:Act} {w ao:aM} {FX:Nat->Prop} {l:List br}
def aun w (N sz) (t ty e) i z (g:P.underlying t=ab (.slice e)) (hi:P.info? e=ab i) (hz:i.zero=ab z) (hsize:i.size=sz) (hzs:z.cells.size=sz) (hsz:0<sz)
 A n xs (hx:Cells w sz A n xs) aJ (m c2) news (hr:Cells w sz aJ m news) (h1:∀u∈news,u.oneCell'=aB) (hm:0<m)
 (h63:n+m<=maxLen) (hbytes:(n+m)*i.bytes<=140737488355328) (fk:N<=w.heap.size):
 ∃B c w',(Builtin.append_ #[t,t] ty #[ad A n n,ad aJ m c2]).run P w=a7 (ad (ab ⟨B,0,af⟩) (n+m) c) w'/\Row N w' (ab ⟨B,0,af⟩) (n+m) c e sz (xs++news)/\aq w w'/\w.heap.size<=B:=by
 have hlx:=hx.1;have f:=hr.1;obtain⟨a,rfl,hnews⟩:=hr.2 hm;have l:Src P i.size t _ m _ w:=Src.ofSlice w g a m c2 _ (by rw[hr.1,hsize]) hnews h1
 have hold:(Builtin.firstCells i.size n (ad A n n)).run P w.drew=a7 xs.toArray w.drew:=by
  rw[hsize];rcases Nat.eq_zero_or_pos n with b|b
  .subst b;obtain rfl:=jH (by rw[hlx,Nat.zero_mul]);cases A with
   |none=>exact run_firstCells_none w.drew sz 0 0 0
   |some a=>exact JY w.drew sz 0 a 0 0 [] aT (λj u o=>by simp at o)
  .obtain⟨a,rfl,hc⟩:=hx.2 b;exact JY _ sz n a n n xs hlx hc
 have hrun:=run_append_grow_src (P:=P) w t t ty e i z g hi hz A n n xs hold _ m _ l ae (by unfold maxLen at h63;omega) (growslice_fits ae hbytes);have d:=grownCap_ge w (n+m) n e;have k:=grownCap_le_maxLen w _ n e h63;have hlen:(xs++news).length=(n+m)*sz:=by rw[dv,hlx,f,Bu]
 refine⟨_,_,_,hrun,⟨hlen,b1 ⟨_,_,_,aa,fk,heap_alloc_new _ _,d,k,?_,?_⟩⟩,aq.trans (ar.drew _) (ar.alloc _ _),cm _⟩;·have h:=Nat.mul_le_mul_right sz d;simp only[Array.size_append,iQ,Builtin.zeroCells,hlx,f];simp[hzs];rw[Bu]at h;rw[Nat.sub_mul,Bu];omega
 .simp only[Array.toList_append,j5];rw[<-j5,<-hlen];exact List.take_left
def asQ {s x:Operand} {t e sz n m c2:Nat} {A aJ:Option Addr} {xs news:List aO} {c:Nat->Nat->Act} (d:aj ao FX w l) (bytes:Nat) (hx0:Cells w sz A n xs) (hr:Cells w sz aJ m news) (h1:∀u∈news,u.oneCell'=aB)
 (h:∀B b w',aj ao FX w' (bn (ab ⟨B,0,af⟩) (n+m) b e sz (xs++news)::l)->wpList P ops Q rest (c B b) w') (hm:0<m:=by decide) (hsz:0<sz:=by decide) (ho:o.op=.call {callee:=.builtin .append,args:=#[s,x],argTypes:=#[t,t]}:=by rfl) (hs:a.eval s=ad A n n:=by rfl) (hx:a.eval x=ad aJ m c2:=by rfl)
 (ht:P.underlying t=ab (.slice e):=by kernel_rfl) (kZ:(P.info? e).map (λi=>(i.zero.isSome,(i.zero.map (·.cells.size)).getD 0,i.size,i.bytes))=ab (aB,sz,sz,bytes):=by kernel_rfl) (hb0:0<bytes:=by decide) (hby:(n+m)*bytes<=140737488355328:=by omega)
 (hw:c4 o (cY ops a.tmps)=true:=by kernel_rfl) (ha:∀B b,a.put o.dst (ad (ab ⟨B,0,af⟩) (n+m) b)=c B b:=by(intro _ _;((try simp only[Act.put,List.setIfInBounds_toArray,List.set_cons_zero,List.set_cons_succ]);rfl))):wpList P ops Q (o::rest) a w:=by
 refine wpList_step λK k=>?_;rw[if_pos hw];cases hq:P.info? e with
 |none=>simp[hq]at kZ
 |some i=>
  rw[hq]at kZ;simp at kZ;obtain⟨bB,b7,f,g⟩:=kZ;obtain⟨z,hz⟩:=Option.isSome_iff_exists.1 bB;rw[hz]at b7;simp at b7;subst g;have hle:(n+m)<=(n+m)*i.bytes:=Nat.le_mul_of_pos_right _ hb0;obtain⟨B,b,w',hrun,h1,j,p⟩:=aun (P:=P) w w.heap.size sz t o.type e i z ht hq hz f b7 hsz A n xs hx0 aJ m c2 news hr h1 hm (by grind[maxLen]) hby (cm _);unfold hB bt;simp only[ho,resolve,invoke,builtin,gj,jR,ji,og,jx,kC,hs,hx,hrun];have hk:=k _ _ (h B b w' (d.k8 j h1));rw[<-ha]at hk;exact hk
end
def akF{d}(h:dR d){n a}(b:db n):dR (sB d n a):=⟨h.mj,h.vr,h.len,h.small,h.cache,h.ek,by have:db (max n (-1)):=by{unfold db at*;omega};exact this⟩
def l6(l:List (Int×Int)):List Value:=l.flatMap (λk=>[J R k.1,J aG k.2])
def al8{l j x}(hx:l[j]?=ab x):∀(i) v,([J R x.1,J aG x.2]:List aO)[i]?=ab v->(l6 l)[j*2+i]?=ab v:=by
 induction l generalizing j with
 |nil=>grind
 |cons y l a=>
  intro i v hv;have hc:l6 (y::l)=[J R y.1,J aG y.2]++l6 l:=aS;have hi:i<2:=(List.getElem?_eq_some_iff.1 hv).1;rw[hc];cases j with
  |zero=>grind
  |succ j=>grind
def gz(C:wb):List (Int×Int)->dL->List q6×dL
 |[],d=>([],d)
 |k::l,d=>if(oo C (sB d k.1 k.2)).1.bo=18 then((oo C (sB d k.1 k.2)).1::(gz C l (oo C (sB d k.1 k.2)).2).1,(gz C l (oo C (sB d k.1 k.2)).2).2)else([(oo C (sB d k.1 k.2)).1],(oo C (sB d k.1 k.2)).2)
def anh(x:q6×Int):Array Value:=#[av (yf x.1).toArray,J R x.2]
def X1(bd:Nat)(all:List q6)(pre:List (q6×Int)):Prop:=pre.map (·.1)<+:all/\∀x∈pre,x.2<=(bd:Int)
def anR(bd:Nat)(all:List q6)(pre:List (q6×Int)):Prop:=pre.map (·.1)=all/\∀x∈pre,x.2<=(bd:Int)
def akP C(B bX cB r s c cs)(A g)m d f ao FX(h:sh C d)(cZ:d.down=au)(gJ:d.cache.length<=1000000000)(hl:∀W,ar FX ao W->cC W A C.ms)(hsc:∀W,ar FX ao W->Cells W 2 g f.length (l6 f))(e5:f.length<=cs/\f.length<=1048576)(rU:∀k∈f,db k.1):
 KD ax 156 #[ay (ab ⟨bX,0,af⟩),ay (ab ⟨cB,0,af⟩),ay (ab ⟨r,0,af⟩),ay (ab ⟨s,0,af⟩)] anh ao FX (bO [ai bX #[ad g f.length cs] 65,ai cB #[(dh B)] 32,ai r #[J R (C.bd:Int)] 3,ai s (a1 (C.o:Int) (C.n:Int) C.g1 C.g2 (ad A C.ms.length c)) 26,aN B m d]) (λu=>∃aU,u=bO [ai bX #[ad g f.length cs] 65,ai cB #[(dh B)] 32,ai r #[J R (C.bd:Int)] 3,ai s (a1 (C.o:Int) (C.n:Int) C.g1 C.g2 (ad A C.ms.length c)) 26,aN B aU (gz C (f++[(-1,0)]) d).2]) (X1 C.bd (gz C (f++[(-1,0)]) d).1) (anR C.bd (gz C (f++[(-1,0)]) d).1) (λ_=>emp):=by
 intro l S gM W F t bJ h0 a;have mZ:=hid h;have ajo:=hid hsc;have Gq:=hid hl;have je:=hid e5;have ax2:=hid rU;obtain⟨L,cf⟩:=ex (f++[((-1:Int),(0:Int))]);have BV:L.length=f.length+1:=aF;have aiX:aE (∀k∈L,db k.1):=hid (λk hk=>by grind[db]);have PA:aE (l6 f++[J R (-1),J aG 0]=l6 L):=hid (by grind[l6]);rw[cf]at bJ⊢;obtain⟨all,l8,BX⟩:∃all l8,gz C L d=(all,l8):=⟨_,_,aa⟩;rw[BX]at bJ⊢;simp only at bJ⊢;have Pv:=hid BX;have PR:=hid BV;have Pv:=hid BX;have PR:=hid BV;have l1:=hid cZ;have rm:=hid gJ;clear cf BV BX cZ gJ h hl hsc rU;go_enter Tryz.func156,ntmps156;replace a:aj ao FX W [ai bX #[ad g f.length cs] 65,ai cB #[(dh B)] 32,ai r #[J R (C.bd:Int)] 3,ai s (a1 (C.o:Int) (C.n:Int) C.g1 C.g2 (ad A C.ms.length c)) 26,aN B m d,t,F]:=a.kq;go_step;refine ag ?_;refine pl a 0 0 ?_;refine pl a 0 0 ?_;refine ah ?_;refine pl a 0 0 ?_;refine ah ?_;refine aI (ad g f.length f.length) (aeR 65 105 2 (bb 10) (bb 12) (bb 14) aa Tryz.underlying65 aw g f.length cs f.length f.length aa aa aa (cm _) je.1) ?_;refine ah ?_;refine f' a #[J R (-1),J aG 0] 105 (λUZ w1 a=>?_);refine asQ (e:=105) (sz:=2) (m:=1) (xs:=l6 f) (news:=[J R (-1),J aG 0]) a 16 (ajo _ a.only) (aW.cellsOf (m:=1) (a.aZ 0) aa) (by intro u hu;simp only[gy,ga,or_false]at hu;rcases hu with rfl|rfl<;>rfl) (λN Q td a=>?_) (hby:=by omega);rw[PA]at a;refine dP ?_;have b9:=a.pk [0,2,3,4,5,6,7,8];go_wp2_with fail;go_loopw [20] (λaV wr=>∃(j:Nat) (pre:List (q6×Int)) (Y:ny) (G:dL) (t2:br),j<=L.length/\aE (pre.map (·.1)++(gz C (L.drop j) G).1=all)/\aE ((gz C (L.drop j) G).2=l8)/\sh C G/\G.down=au/\G.cache.length<=1000000000/\aE (∀x∈pre,x.2<=(C.bd:Int))/\aV=J R (j:Int)/\S pre t2/\aj ao FX wr [bn (ab ⟨N,0,af⟩) (f.length+1) Q 105 2 (l6 L),ai bX #[ad g f.length cs] 65,ai cB #[(dh B)] 32,ai r #[J R (C.bd:Int)] 3,ai s (a1 (C.o:Int) (C.n:Int) C.g1 C.g2 (ad A C.ms.length c)) 26,aN B Y G,t2,F]) (λaV wr=>L.length -(cw aV).toNat);case atStart=>exact⟨0,[],m,d,t,cQ _,hid (by rw[Qo,Pv];rfl),hid (by rw[Qo,Pv]),mZ,l1,rm,hid (λ_ h=>(ga h).elim),aa,h0,b9⟩
 case round=>
  clear a b9 h0;obtain⟨j,pre,Y,G,t2,hj,hall,R3,Z,R2,RX,o5,rfl,hS,a⟩:=hrel;by_cases hlt:j<L.length
  .have cI:(j:Int)<((f.length+1:Nat):Int):=by have:=PR.out;omega
   obtain⟨x,hx⟩:∃x,L[j]?=ab x:=⟨_,cj hlt⟩;have tA:=hid (al8 hx);have aaX:=aiX x (cL hx);have X:=hall.out;have hz:=R3.out;rw[DL hlt,show L[j]=x from by rw[cj hlt]at hx;exact KA hx]at X hz;rw[gz]at X hz;have LY:sh C (sB G x.1 x.2):=⟨akF Z.ok aaX,Z.bd,Z.sz,Z.qb,Z.lay,Z.ek,Z.ch⟩;have jl:=akN LY R2 RX;have Sy:=LY.ys jl.1;have uU:=hid (λW m F ac=>akO C B c A m (sB G x.1 x.2) ao W FX F LY R2 RX Gq ac);obtain⟨y,w,hy⟩:∃y w,oo C (sB G x.1 x.2)=(y,w):=⟨_,_,aa⟩;rw[hy]at X hz jl Sy uU;simp only at X hz jl Sy uU;obtain⟨P,O⟩:=x;have Sm:j<f.length+1:=ae;have wJ:aE (∀p,p<=(C.bd:Int)->X1 C.bd all (pre++[(y,p)])):=hid (λp hp=>⟨by rw[<-X,gx];split;exact⟨(gz C (L.drop (j+1)) w).1,aT⟩;exact⟨[],aT⟩,λz hz=>by rcases List.mem_append.1 hz with h|h;exact o5 z h;obtain rfl:=List.mem_singleton.1 h;exact hp⟩);have Gl:aE (y.bo=18->(pre.map (·.1)++[y])++(gz C (L.drop (j+1)) w).1=all/\(gz C (L.drop (j+1)) w).2=l8):=hid (λh=>aF);have Xo:aE (y.bo≠18->pre.map (·.1)++[y]=all/\w=l8):=hid (λh=>aF);obtain⟨K,H,M,E,I⟩:=y;simp only[yf]at uU;simp only at Gl Xo;have rn:=hid jl;clear hx X hz LY hy hall R3 jl R2 RX aaX;go_step;refine ag ?_;refine dQ ?_;refine aI (ay (ab ⟨N,(0+j*2),af⟩)) (cH 65 105 2 (bb 18) (bb 20) aa Tryz.underlying65 aw N 0 ((f.length+1)) Q j ((0+j*2)) aa aa Sm aa) ?_;refine aI (av #[J R P,J aG O]) (e6 105 (bb 22) aa N (0+j*2) aa ([J R P,J aG O]:List aO) (Row.range (a.atR 0) aa (λi v hi=>by rw[kV];exact tA i v hi)) underlying105 aa aw) ?_;refine bx a #[J R 0,J aG 0] (λT aR a=>?_);refine a' a 0 (av #[J R P,J aG O]) (λbL a=>?_);refine ag ?_;refine pl a 3 0 ?_;refine ah ?_;refine pl a 0 0 ?_;refine ah ?_;refine pl a 0 1 ?_;refine a6 (amz B Y G P O _ (a.has 6)) ?_;rintro e ca ⟨rfl,bF⟩;replace a:=a.eF 6 bF;refine ba ?_;refine ag ?_;refine pl a 3 0 ?_;refine pl a 4 0 ?_;refine bq a 5 (a1 (C.o:Int) (C.n:Int) C.g1 C.g2 (ad A C.ms.length c)) ?_ (hv:=(ee _)) (hk:=by omega) (hz:=(by rw[cN];rfl));have HB:=(a.pk [6,0,1,2,3,4,5,7,8]).t1;refine a6 (uU _ Y _ HB) ?_;rintro e cF ⟨pk,L3,XR,rfl,dk,aoL,D,a⟩;clear HB;replace a:=a.bm;refine ba ?_;refine v3 ?_;refine bx a #[J R 0,J R 0,J R 0,J R 0,J R 0] (λU c6 a=>?_);refine a' a 0 (av #[J R K,J R H,J R M,J R E,J R I]) (λdW a=>?_);refine ig ?_;refine(xW (n:=0)).1 (wpIn_region_any (F:=Fr af) aw ?_);skip;refine X5 (i:=0) (dJ (wi l) #[] #[]) ?_;refine X5 (i:=2) XR ?_;have WT:=a.aH (ar.drew _);refine akv (i:=1) (j:=3) (v:=av #[J R K,J R H,J R M,J R E,J R I]) (u:=J R pk) (λw'=>aj ao FX w' [ai U #[J R K,J R H,J R M,J R E,J R I] 158,dk,aN B D w,ai T #[J R P,J aG O] 105,bn (ab ⟨N,0,af⟩) (f.length+1) Q 105 2 (l6 L),ai bX #[ad g f.length cs] 65,ai cB #[(dh B)] 32,ai r #[J R (C.bd:Int)] 3,ai s (a1 (C.o:Int) (C.n:Int) C.g1 C.g2 (ad A C.ms.length c)) 26,t2,F]) WT (λw' a=>⟨?_,?_⟩) (λw' a=>⟨158,#[XR],?_,?_,(aoL w' (a.at (t:=dk) 1)).mono λe aR h=>⟨h.1,a.aH h.2⟩⟩) (λcF a=>?_);·first|exact mg (cs':=#[J R K,J R H,J R M,J R E,J R I]) aa aa (a.aZ 0) aw (of_decide_eq_true aw) aw aw|(go_simp;done)|(go_simp;rfl)
   .first|exact mg (cs':=#[J R K,J R H,J R M,J R E,J R I]) aa aa (a.aZ 0) aw (of_decide_eq_true aw) aw aw|(go_simp;done)|(go_simp;rfl)
   . (go_simp;try with_reducible rfl)
   . (go_simp;try with_reducible rfl)
   clear WT;refine X6 (b1 trivial) 8 4 _ _ _ aa aa (λq h1 h2=>?_) aw ?_;·have h3:q<12:=h2;rcases(show q=4\/q=5\/q=6\/q=7\/q=8\/q=9\/q=10\/q=11 by omega)with rfl|rfl|rfl|rfl|rfl|rfl|rfl|rfl<;>(show _=_;kernel_rfl)
   have HB:=(a.pick (l':=[t2,ai U #[J R K,J R H,J R M,J R E,J R I] 158,dk,aN B D w,ai T #[J R P,J aG O] 105,bn (ab ⟨N,0,af⟩) (f.length+1) Q 105 2 (l6 L),ai bX #[ad g f.length cs] 65,ai cB #[(dh B)] 32,ai r #[J R (C.bd:Int)] 3,ai s (a1 (C.o:Int) (C.n:Int) C.g1 C.g2 (ad A C.ms.length c)) 26,F]) [9,0,1,2,3,4,5,6,7,8,10]).G0;have rj:aj ao FX cF [t2,both emp (bO [ai U #[J R K,J R H,J R M,J R E,J R I] 158,dk,aN B D w,ai T #[J R P,J aG O] 105,bn (ab ⟨N,0,af⟩) (f.length+1) Q 105 2 (l6 L),ai bX #[ad g f.length cs] 65,ai cB #[(dh B)] 32,ai r #[J R (C.bd:Int)] 3,ai s (a1 (C.o:Int) (C.n:Int) C.g1 C.g2 (ad A C.ms.length c)) 26,F])]:=((HB.pick (l':=[bO [ai U #[J R K,J R H,J R M,J R E,J R I] 158,dk,aN B D w,ai T #[J R P,J aG O] 105,bn (ab ⟨N,0,af⟩) (f.length+1) Q 105 2 (l6 L),ai bX #[ad g f.length cs] 65,ai cB #[(dh B)] 32,ai r #[J R (C.bd:Int)] 3,ai s (a1 (C.o:Int) (C.n:Int) C.g1 C.g2 (ad A C.ms.length c)) 26,F],t2]) [1,0]).new emp ⟨ar.refl _ _,trivial,λ_ h=>h.elim⟩).star.pick [1,0];refine Jd (bJ pre (⟨K,H,M,E,I⟩,pk) _ _ _ (wJ pk L3) hS rj) (λb c6 hb=>?_) (λ_ _ he=>he.elim (λh=>⟨_,h.1⟩) (λh=>⟨_,h.1⟩)) (Hf aa aa (by simp only[og,jx,kC];rfl));clear HB rj a;rcases I4 hb with⟨rfl,V,Lv,a⟩|⟨rfl,V,Lv,a⟩
   .clear hb;replace a:aj _ _ _ [V,ai U #[J R K,J R H,J R M,J R E,J R I] 158,dk,aN B D w,ai T #[J R P,J aG O] 105,bn (ab ⟨N,0,af⟩) (f.length+1) Q 105 2 (l6 L),ai bX #[ad g f.length cs] 65,ai cB #[(dh B)] 32,ai r #[J R (C.bd:Int)] 3,ai s (a1 (C.o:Int) (C.n:Int) C.g1 C.g2 (ad A C.ms.length c)) 26,F]:=aj.xz ((a.pick (l':=[both emp (bO [ai U #[J R K,J R H,J R M,J R E,J R I] 158,dk,aN B D w,ai T #[J R P,J aG O] 105,bn (ab ⟨N,0,af⟩) (f.length+1) Q 105 2 (l6 L),ai bX #[ad g f.length cs] 65,ai cB #[(dh B)] 32,ai r #[J R (C.bd:Int)] 3,ai s (a1 (C.o:Int) (C.n:Int) C.g1 C.g2 (ad A C.ms.length c)) 26,F]),V]) [1,0]).fh.pick (l':=[V,bO [ai U #[J R K,J R H,J R M,J R E,J R I] 158,dk,aN B D w,ai T #[J R P,J aG O] 105,bn (ab ⟨N,0,af⟩) (f.length+1) Q 105 2 (l6 L),ai bX #[ad g f.length cs] 65,ai cB #[(dh B)] 32,ai r #[J R (C.bd:Int)] 3,ai s (a1 (C.o:Int) (C.n:Int) C.g1 C.g2 (ad A C.ms.length c)) 26,F]]) [2,1]);refine vS ?_;by_cases Eh:E=18
    .have Po:=hid Eh;have W1:=hid (Gl Eh);clear Eh;refine v4 ?_;refine pl a 1 3 ?_;refine dr Po (ak au) ?_;refine dQ ?_;refine pad (j:Int) 1 ((j+1:Nat):Int) ?_;refine bP ?_;go_wp2_with fail;go_roundw;case rel=>exact⟨j+1,_,D,w,V,ae,hid (by rw[gx];exact W1.1),hid W1.2,Sy,rn.2.1,by rw[rn.2.2];exact cQ _,hid (λz hz=>(wJ pk L3).2 z hz),aa,Lv,a.pick [5,6,7,8,9,3,0,10]⟩
     case measure=>simp[cw]<;>omega
    .have Po:=hid Eh;obtain⟨hg1,hg2⟩:=Xo Eh;subst hg2;have uY:=hid hg1;clear Eh hg1;refine v4 ?_;refine pl a 1 3 ?_;refine dr Po (ak aB) ?_;refine bP ?_;go_wp2_with fail;first|go_end0|refine bodyPost_ret (results_none rfl _ _ _) rfl ?_
     exact wR.all (u:=bO [ai bX #[ad g f.length cs] 65,ai cB #[(dh B)] 32,ai r #[J R (C.bd:Int)] 3,ai s (a1 (C.o:Int) (C.n:Int) C.g1 C.g2 (ad A C.ms.length c)) 26,aN B D w]) ⟨by rw[gx];exact uY,(wJ pk L3).2⟩ Lv ⟨D,aa⟩ (aj.pick (aj.bO (l:=[ai bX #[ad g f.length cs] 65,ai cB #[(dh B)] 32,ai r #[J R (C.bd:Int)] 3,ai s (a1 (C.o:Int) (C.n:Int) C.g1 C.g2 (ad A C.ms.length c)) 26,aN B D w]) (a.pick (l':=[ai bX #[ad g f.length cs] 65,ai cB #[(dh B)] 32,ai r #[J R (C.bd:Int)] 3,ai s (a1 (C.o:Int) (C.n:Int) C.g1 C.g2 (ad A C.ms.length c)) 26,aN B D w,V,F]) [6,7,8,9,3,0,10])) [1,0,2])
   .clear hb;replace a:aj _ _ _ [V,ai U #[J R K,J R H,J R M,J R E,J R I] 158,dk,aN B D w,ai T #[J R P,J aG O] 105,bn (ab ⟨N,0,af⟩) (f.length+1) Q 105 2 (l6 L),ai bX #[ad g f.length cs] 65,ai cB #[(dh B)] 32,ai r #[J R (C.bd:Int)] 3,ai s (a1 (C.o:Int) (C.n:Int) C.g1 C.g2 (ad A C.ms.length c)) 26,F]:=aj.xz ((a.pick (l':=[both emp (bO [ai U #[J R K,J R H,J R M,J R E,J R I] 158,dk,aN B D w,ai T #[J R P,J aG O] 105,bn (ab ⟨N,0,af⟩) (f.length+1) Q 105 2 (l6 L),ai bX #[ad g f.length cs] 65,ai cB #[(dh B)] 32,ai r #[J R (C.bd:Int)] 3,ai s (a1 (C.o:Int) (C.n:Int) C.g1 C.g2 (ad A C.ms.length c)) 26,F]),V]) [1,0]).fh.pick (l':=[V,bO [ai U #[J R K,J R H,J R M,J R E,J R I] 158,dk,aN B D w,ai T #[J R P,J aG O] 105,bn (ab ⟨N,0,af⟩) (f.length+1) Q 105 2 (l6 L),ai bX #[ad g f.length cs] 65,ai cB #[(dh B)] 32,ai r #[J R (C.bd:Int)] 3,ai s (a1 (C.o:Int) (C.n:Int) C.g1 C.g2 (ad A C.ms.length c)) 26,F]]) [2,1]);refine vS ?_;refine v2 ?_;iterate 4 refine ps ?_
    refine bP ?_;go_wp2_with fail;first|go_end0|refine bodyPost_ret (results_none rfl _ _ _) rfl ?_
    exact wR.cut (u:=bO [ai bX #[ad g f.length cs] 65,ai cB #[(dh B)] 32,ai r #[J R (C.bd:Int)] 3,ai s (a1 (C.o:Int) (C.n:Int) C.g1 C.g2 (ad A C.ms.length c)) 26,aN B D w]) (wJ pk L3) Lv (aj.pick (aj.bO (l:=[ai bX #[ad g f.length cs] 65,ai cB #[(dh B)] 32,ai r #[J R (C.bd:Int)] 3,ai s (a1 (C.o:Int) (C.n:Int) C.g1 C.g2 (ad A C.ms.length c)) 26,aN B D w]) (a.pick (l':=[ai bX #[ad g f.length cs] 65,ai cB #[(dh B)] 32,ai r #[J R (C.bd:Int)] 3,ai s (a1 (C.o:Int) (C.n:Int) C.g1 C.g2 (ad A C.ms.length c)) 26,aN B D w,V,F]) [6,7,8,9,3,0,10])) [1,0,2])
  .have cI:¬(j:Int)<((f.length+1:Nat):Int):=by have:=PR.out;omega
   have X:=hall.out;have hz:=R3.out;rw[GK ae]at X hz;obtain rfl:G=l8:=hz;have ha2:pre.map (·.1)=all:=by grind[gz]
   go_step;refine ag ?_;refine bP ?_;go_wp2_with fail;first|go_end0|refine bodyPost_ret (results_none rfl _ _ _) rfl ?_
   exact wR.all (u:=bO [ai bX #[ad g f.length cs] 65,ai cB #[(dh B)] 32,ai r #[J R (C.bd:Int)] 3,ai s (a1 (C.o:Int) (C.n:Int) C.g1 C.g2 (ad A C.ms.length c)) 26,aN B Y G]) ⟨ha2,o5⟩ hS ⟨Y,aa⟩ (aj.pick (aj.bO (l:=[ai bX #[ad g f.length cs] 65,ai cB #[(dh B)] 32,ai r #[J R (C.bd:Int)] 3,ai s (a1 (C.o:Int) (C.n:Int) C.g1 C.g2 (ad A C.ms.length c)) 26,aN B Y G]) (a.pick (l':=[ai bX #[ad g f.length cs] 65,ai cB #[(dh B)] 32,ai r #[J R (C.bd:Int)] 3,ai s (a1 (C.o:Int) (C.n:Int) C.g1 C.g2 (ad A C.ms.length c)) 26,aN B Y G,t2,F]) [1,2,3,4,5,6,7])) [1,0,2])
end
def akR(C:wb)(B c cs)(A b)(j:List (Int×Int))w:
 aD ax 71 #[dh B,J R (C.bd:Int),dC (C.o:Int) (C.n:Int) C.g1 C.g2 (ad A C.ms.length c),ad b j.length cs] w λe w'=>∃bX cB d f,e=aA (dJ (ej 156) #[] #[ay (ab ⟨bX,0,af⟩),ay (ab ⟨cB,0,af⟩),ay (ab ⟨d,0,af⟩),ay (ab ⟨f,0,af⟩)])/\b3 w w' (bO [ai bX #[ad b j.length cs] 65,ai cB #[(dh B)] 32,ai d #[J R (C.bd:Int)] 3,ai f (a1 (C.o:Int) (C.n:Int) C.g1 C.g2 (ad A C.ms.length c)) 26]):=by
 go_enter func71,ntmps71;have a:=bf w;go_step;refine ag ?_;refine bM a (ay _) (λg w1 a=>?_);refine bM a (J _ _) (λk l a=>?_);refine bM a (av _) (λh m a=>?_);refine bM a (ad b _ cs) (λi p a=>?_);refine ah ?_;refine ag ?_;refine dP ?_;go_wp2_with fail;go_ret;exact⟨i,g,k,h,aa,(aj.fB 4 (a.pick (l':=[ai i _ 65,ai g _ 32,ai _ _ 3,ai h _ 26]) [0,3,2,1])).fresh 0⟩
def tK(l:List q6):List Value:=l.flatMap yf
def akQ l x:tK (l++[x])=tK l++yf x:=by simp[tK]
def IB(x:q6):Bool:=decide (x.bo=0)&&decide (x.pos=0)
def tW(l:List q6):Bool:=match l.getLast? with|none=>au|some x=>IB x
def amN l x:tW (l++[x])=IB x:=by simp[tW]
def akM x:∀u∈yf x,u.oneCell'=true:=by intro u a;simp only[yf,gy,ga,or_false]at a;rcases a with rfl|rfl|rfl|rfl|rfl<;>rfl
def Ye C:∀(l) d,(gz C l d).1.length<=l.length
 |[],_=>cm _
 |k::l,d=>by
  rw[gz];split;·have:=Ye C l (oo C (sB d k.1 k.2)).2;simp only[jT];omega
  .simp
def ad7(all:List q6)(A:Option Addr)(n c:Nat)(pk:Int):List Value:=[ad A n c,ak (tW all),J R pk]
def amb C(B c cs)(A j)m d f(ao w)FX F(h:sh C d)(y:d.down=au)(V:d.cache.length<=1000000000)(Y:∀W,ar FX ao W->cC W A C.ms)(hsc:∀W,ar FX ao W->Cells W 2 j f.length (l6 f))(M:f.length<=cs/\f.length<=1048576)(X:∀k∈f,db k.1)(a:aj ao FX w [aN B m d,F]):
 aD ax 19 #[dh B,J R (C.bd:Int),dC (C.o:Int) (C.n:Int) C.g1 C.g2 (ad A C.ms.length c),ad j f.length cs] w λe w'=>∃pk,pk<=(C.bd:Int)/\∃O S,e=aA (av (ad7 (gz C (f++[(-1,0)]) d).1 O (gz C (f++[(-1,0)]) d).1.length S pk).toArray)/\∃z,aj ao FX w' [bn O (gz C (f++[(-1,0)]) d).1.length S 158 5 (tK (gz C (f++[(-1,0)]) d).1),aN B z (gz C (f++[(-1,0)]) d).2,F]:=by
 have v:=λbX cB p q=>akP C B bX cB p q c cs A j m d f ao FX h y V Y hsc M X;have H:=Ye C (f++[(-1,0)]) d;rw[dv,wO]at H;have je:=hid M;obtain⟨all,l8,U⟩:∃all l8,gz C (f++[(-1,0)]) d=(all,l8):=⟨_,_,aa⟩;rw[U]at v H⊢;simp only at v H⊢;clear h y V Y hsc M X U;refine BH func19 aa ?_;simp only[ntmps19,iQ,jT,l2,qf,qg,qv,qu,nd,pB];go_step;refine ag ?_;refine bM a (av _) (λr w1 a=>?_);refine bx a #[ad _ 0 0,ak _,J _ 0] (λs aR a=>?_);refine an ?_;go_step;refine ag ?_;refine bx a #[ad _ 0 0,ak _,J _ 0] (λi bL a=>?_);refine an ?_;replace a:=a.new (bn af 0 0 158 5 []) ⟨ar.refl _ _,Row.nil _ _ _ _,λb ⟨_,_,e⟩=>aF⟩;go_step;refine ag ?_;refine v2 ?_;refine bq a 3 (a1 (C.o:Int) (C.n:Int) C.g1 C.g2 (ad A C.ms.length c)) ?_ (hv:=(ee _)) (hk:=by omega) (hz:=(by rw[cN];rfl));refine ah ?_;refine a6 (akR C B c cs A j f _) ?_;rintro e ca ⟨bX,cB,p,q,rfl,hF⟩;replace a:=a.new _ hF;refine ba ?_;refine an ?_;replace a:aj _ _ _ [ai bX #[ad j f.length cs] 65,ai cB #[(dh B)] 32,ai p #[J R (C.bd:Int)] 3,ai q _ 26,bn af 0 0 158 5 [],ai i #[ad af 0 0,ak au,J R 0] 63,ai s #[ad af 0 0,ak au,J R 0] 63,ai r (a1 (C.o:Int) (C.n:Int) C.g1 C.g2 (ad A C.ms.length c)) 26,aN B m d,F]:=aj.kq (a.pick (l':=[bO _,bn af 0 0 158 5 [],ai i #[ad af 0 0,ak au,J R 0] 63,ai s #[ad af 0 0,ak au,J R 0] 63,ai r _ 26,aN B m d,F]) [0,1,2,3,4,5,6]);go_wp2_with fail;have Q:aj _ _ _ [bO [ai bX _ 65,ai cB _ 32,ai p _ 3,ai q _ 26,aN B m d],bO [ai i _ 63,bn af 0 0 158 5 []],bO [ai s _ 63,ai r _ 26,F]]:=aj.Ym (a.pick [0,1,2,3,8,5,4,6,7,9]);refine afM (encs:=(λx:q6×Int=>#[av #[J R x.1.st,J R x.1.nx,J R x.1.wr,J R x.1.bo,J R x.1.pos],J R x.2])) aa (ll Tryz.func156 aS aa) (λ_=>aa) (v _ _ _ _) (λpre t=>∃g c1 pk,aE (pk<=(C.bd:Int))/\t=bO [ai i #[ad g pre.length c1,ak (tW (pre.map (·.1))),J R pk] 63,bn g pre.length c1 158 5 (tK (pre.map (·.1)))]) (λ_ _ _=>False) (⟨af,0,0,hid (ajN _),aa⟩) Q ?_ ?_ ?_;all_goals clear Q a
 .rintro l rd pre ⟨⟨st,nx,wr,bo,pos⟩,adV⟩ W t F L p1 ⟨g,c1,pk,G,rfl⟩ a;have aje:aE (adV<=(C.bd:Int)):=hid (L.2 _ (List.mem_append_right _ (List.mem_singleton_self _)));have hpl:pre.length<=f.length:=by have h1:=L.1.length_le;grind
  have azN:=je.2;replace a:=a.lE;obtain⟨N,K⟩:=ex pre.length;rw[K]at a hpl;have wH:=hid K;obtain⟨tV,y⟩:=ex (tW (pre.map (·.1)));rw[y]at a;clear y L K v;repeat((fail_if_success (with_reducible refine at_region ?_));gi_step)
  refine ke ?_;refine bx a #[J _ 0,J _ 0,J _ 0,J _ 0,J _ 0] (λq8 cF a=>?_);refine a' a 0 (av _) (λc6 a=>?_);refine an ?_;repeat((fail_if_success (with_reducible refine at_region ?_));gi_step)
  refine ke ?_;refine ah ?_;refine an ?_;first|refine wpIn_skip ?_|skip
  simp only[Exit.then];refine BB a 3 p1 (λdW a=>?_);replace a:aj _ _ _ [ai _ _ 158,ai _ _ 63,bn g N c1 _ 5 _,obj l _,both _ F]:=a;repeat((fail_if_success (with_reducible refine at_region ?_));gi_step)
  refine ke ?_;refine ah ?_;refine pl a 1 0 ?_;refine bq a 0 #[J R st,J R nx,J R wr,J R bo,J R pos] ?_;refine f' a #[J R st,J R nx,J R wr,J R bo,J R pos] 158 (λaxq dG a=>?_);refine nt (m:=1) a 3 40 (aW.cellsOf (m:=1) (a.aZ 0) aa) (akM ⟨st,nx,wr,bo,_⟩) (λP T e8 a=>?_) (hby:=by omega);refine ah ?_;refine a' a 2 (ad _ _ _) (λhR a=>?_);refine an ?_;repeat((fail_if_success (with_reducible refine at_region ?_));gi_step)
  refine ke ?_;refine ah ?_;refine bq a 1 #[J R bo,J R pos] ?_;refine ah ?_;refine aI (ak (IB ⟨st,nx,wr,bo,pos⟩)) (by(unfold IB;go_simp;by_cases gh:bo=0<;>by_cases fP:pos=0<;>simp[gh,fP])) ?_;refine ah ?_;refine a' a 2 (ak _) (λiZ a=>?_);refine an ?_;repeat((fail_if_success (with_reducible refine at_region ?_));gi_step)
  refine ke ?_;refine ah ?_;refine pl a 2 2 ?_;refine ah ?_;refine aI _ (by(go_simp;try rfl)) ?_;refine ah ?_;refine a' a 2 (J _ _) (λks a=>?_);refine an ?_;repeat gi_step
  have E:=a.pk [2,3,4,5];replace E:aj _ _ _ [bO [ai i #[ad P (N+1) T,ak (IB ⟨st,nx,wr,bo,pos⟩),J R (max pk adV)] 63,bn P (N+1) T 158 5 ((tK (pre.map (·.1)))++([J R st,J R nx,J R wr,J R bo,J R pos]))],obj l (fS {rd with state:=sl}),both emp F]:=E.fB 2;refine⟨_,?_,E⟩;exact⟨_,_,_,hid (Int.max_le.2 ⟨G,aje⟩),by rw[dv,gx,List.map_singleton,amN,akQ,wH.out];rfl⟩
 .rintro D xs t u W I ⟨g,c1,pk,G,rfl⟩ hu a;replace a:=a.lE;replace a:=(a.pk [4,0,1,2,3]).lE;obtain⟨z,rfl⟩:=hu;have Z:xs.length=all.length:=by rw[<-I.1,List.length_map]
  rw[I.1,Z]at a;clear I Z v;replace a:aj _ _ _ [ai bX #[ad j f.length cs] 65,ai cB #[(dh B)] 32,ai p #[J R (C.bd:Int)] 3,ai q _ 26,aN B z l8,ai s #[ad af 0 0,ak au,J R 0] 63,ai r _ 26,F,ai i #[ad g all.length c1,ak (tW all),J R pk] 63,bn g all.length c1 158 5 (tK all),obj D (ki (ab []))]:=aj.kq (a.pick (l':=[bO _,ai s #[ad af 0 0,ak au,J R 0] 63,ai r _ 26,F,ai i #[ad g all.length c1,ak (tW all),J R pk] 63,bn g all.length c1 158 5 (tK all),obj D (ki (ab []))]) [5,0,1,2,3,4,6]);go_step;refine ag ?_;refine bq a 8 #[ad g all.length c1,ak (tW all),J R pk] ?_;refine a' a 5 (av _) (λlf a=>?_);refine an ?_;go_wp2_with fail;refine yU a 10 (λw' a=>⟨jd aa _ _ _ _ _ _ _ aa (a.aZ 5) underlying63 aa aw,pk,G,g,c1,aa,z,a.pick [9,4,7]⟩)
 .simp
end Go.Proofs.YtcmhplknoglbkaaGreat
