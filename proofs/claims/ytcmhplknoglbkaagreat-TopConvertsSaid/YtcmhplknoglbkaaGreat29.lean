/- Part 29 of the proof of TopConvertsSaid. -/
import Derived.Test.YtcmhplknoglbkaaGreat0
import Derived.Test.YtcmhplknoglbkaaGreat5
import Derived.Test.YtcmhplknoglbkaaGreat6
import Derived.Test.YtcmhplknoglbkaaGreat13
import Derived.Test.YtcmhplknoglbkaaGreat20
import Derived.Test.YtcmhplknoglbkaaGreat21
import Derived.Test.YtcmhplknoglbkaaGreat27
import Derived.Test.YtcmhplknoglbkaaGreat28
set_option linter.all false
set_option maxRecDepth 100000
set_option maxHeartbeats 4000000
open Go.Proofs.Tryz
open Array renaming getElem?_append_left->I8
open Bool renaming false->au
open Function renaming comp_def->Jf
open Go.Builtin renaming zeroCells->mT
open Go renaming Calls->aD,Program->ew,Value->aP,World->aN,callFunc->kj,cell_of_row->eC,grownCap->xG,grownCap_ge->zb,grownCap_le_maxLen->zc,heap_alloc_new->ff,maxLen->dO,run_endLoop->OW,wpList_nil->ak,wp_region_lit->ar
open Go.Ending renaming returned->aA
open Go.Fn renaming func->ek,yield->vU
open Go.IntKind renaming i64->R
open Go.LoopState renaming exhausted->FE,ready->kh
open Go.Obj renaming cells->bf,deferred->ki,loop->fT
open Go.Proofs.Any2 renaming slices_Insert_int_end_grow->afZ
open Go.Proofs.Tryz renaming func173->agd,func248->agv,ntmps173->ag4,prog->ax
open Go.Target renaming collected->C5
open Go.Value renaming agg->av,bool->aj,func->dK,int->J,pointer->ay,slice->ad
open Go.World renaming frozen?->uO,shape?->OR
open List renaming countP_cons->Gp,countP_le_length->PY,eq_nil_of_length_eq_zero->jH,filter_filter->P0,getElem?_drop->Dx,getElem?_eq_getElem->cm,getElem?_eq_some_iff->eR,getElem?_of_mem->P5,getElem?_take->su,length_cons->jT,length_drop->u4,length_filter_le->xU,length_map->gW,length_nil->l2,mem_cons->gz,mem_cons_self->sv,mem_filter->mZ,pairwise_cons->u6
open Nat renaming le_refl->cp,le_trans->eD,zero_add->kV
open Option renaming none->af,some->ab
open Or renaming inl->bJ,inr->b3
namespace Go.Proofs.YtcmhplknoglbkaaGreat
section
open Go.RowKit Go.MapKept
section
variable {P:ew} {α:Type} {encs:α->Array aP} {an:aN} {FX:Nat->Prop} {lb:Array aP} {g:Nat}
def ajr(P:ew)(l:Nat)(encs:α->Array aP)(an:aN)(FX:Nat->Prop)(S d:List α->bu->Prop)(c:List α->Prop)(L:α->bu):Prop:=
 ∀pre x W F t,c (pre++[x])->S pre t->ai an FX W [t,both (L x) F]->YieldAt (Fr af) 0 P l (encs x) W λe b=>(e=aA (aj true)/\∃a,S (pre++[x]) a/\ai an FX b [a,both (L x) F])\/(e=aA (aj au)/\∃a,d (pre++[x]) a/\ai an FX b [a,both (L x) F])
def wD(an:aN)(FX:Nat->Prop)(S d:List α->bu->Prop)(f:bu->Prop)(c Fin:List α->Prop)(F:bu)(e:Ending)(b:aN):Prop:=
 (∃v,e=aA v)/\((∃xs a u,Fin xs/\S xs a/\f u/\ai an FX b [a,u,F])\/∃pre a u,c pre/\d pre a/\ai an FX b [a,u,F])
def wD.all{S e a c Fin}{xs:List α}{F t u v b}(h:Fin xs)(f:S xs t)(g:a u)(d:ai an FX b [t,u,F]):wD an FX S e a c Fin F (aA v) b:=⟨⟨_,aa⟩,bJ ⟨_,_,_,h,f,g,d⟩⟩
theorem wD.cut{S b e a Fin}{pre:List α}{F t u v c}(g:a pre)(f:b pre t)(d:ai an FX c [t,u,F]):wD an FX S b e a Fin F (aA v) c:=⟨⟨_,aa⟩,b3 ⟨_,_,_,g,f,d⟩⟩
def Kh(P:ew)(g:Nat)(lb:Array aP)(encs:α->Array aP)(an:aN)(FX:Nat->Prop)(T:bu)(c:bu->Prop)(a Fin:List α->Prop)(L:α->bu):Prop:=
 ∀(l:Nat) (S b:List α->bu->Prop) (W:aN) (F t:bu),ajr P l encs an FX S b a L->S [] t->ai an FX W [T,t,F]->
  aD P g (#[dK (vU l) #[] #[]]++lb) W (wD an FX S b c a Fin F)
def afi {M:Operand} {ps:Array Tmp} {assign body:Code} {Q:Exit->Act->aN->Prop} {r:Array aP} {ds:List Deferred} {w:aN} {A Fin:List α->Prop} {L:α->bu} {T:bu} {J:bu->Prop} {t F:bu} {ia:α->Array aP}
 (hg:(Act.mk r ds).eval M=dK (ek g) #[] lb) (gq:∀args w,(kj g args).run P w=.ok (.enter g args) w) (nh:∀x,(encs x).size=ps.size) (hseq:Kh P g lb encs an FX T J A Fin L)
 (S:List α->bu->Prop) (gO:Code->List α->bu->Prop) (h0:S [] t) (I:ai an FX w [T,t,F])
 (Sj:∀(l:Nat) (rd:Loop) (pre:List α) (x:α) (W:aN) (t F:bu),A (pre++[x])->rd.state=kh->S pre t->ai an FX W [t,obj l (fT rd),both (L x) F]->
   assign.wpIn (Fr (ab l)) 0 P (Exit.then (λK w1=>∃z,(Instr.beginRound l).run P w1=.ok () z/\body.wpIn (Fr (ab l)) 0 P (adO an FX S gO (pre++[x]) (obj l (fT {rd with state:=.busy})) (both (L x) F)) K z) (λ_ _ _=>False))
    {tmps:=ia x,defers:=[]} W)
 (hdone:∀D xs t u W,Fin xs->S xs t->J u->ai an FX W [t,u,obj D (ki (ab [])),F]->Q .normal {tmps:=r,defers:={target:=C5 D,args:=#[]}::ds} W)
 (Sm:∀D c pre t u W,A pre->gO c pre t->ai an FX W [t,u,obj D (ki (ab [])),F]->c.wp P Q {tmps:=r,defers:={target:=C5 D,args:=#[]}::ds} W)
 (hat:∀x,(ps.zip (encs x)).foldl (λt (p,v)=>t.setIfInBounds p v) r=ia x:=by(intro _;simp only[List.zip_toArray,List.zip_cons_cons,List.zip_nil_right,List.foldl_toArray',List.size_toArray,List.foldl_cons,List.foldl_nil,List.setIfInBounds_toArray,List.set_cons_succ,List.set_cons_zero];rfl)):
 (Code.rangeFunc M ps assign body).wp P Q {tmps:=r,defers:=ds} w:=by
 refine(wpIn_wide (n:=0)).1 (wpIn_rangeFunc ?_);intro fn hfn;obtain⟨a,m⟩:∃a:LoopState->Option Code->Loop,a=λst aJ=>{state:=st,pending:=aJ,fn,tmps:=r,params:=ps,assign,body,defers:=w.heap.size}:=⟨_,aa⟩;obtain⟨D,N⟩:=ex w.heap.size;obtain⟨l,U⟩:=ex ((w.alloc (ki (ab []))).heap.size);have X:=I.newObj (ki (ab []));have C:=X.newObj (fT (a kh af));have RU:l=w.heap.size+1:=by rw[<-U];simp
 rw[U,N]at C;obtain⟨j,O⟩:=ex ((w.alloc (ki (ab []))).alloc (fT (a kh af)));rw[O]at C
 refine⟨l,[{target:=C5 D,args:=#[]}],j,{target:=.fn (ek g) lb,args:=#[dK (vU l) #[] #[]]},j,g,
  #[dK (vU l) #[] #[]]++lb,j,?_,?_,?_,?_,λh=>(by cases h),?_⟩;·rw[<-O,m,RU,<-N];exact run_enterLoop_outer _ _ _ _ _
 .simp only[resolve,hg];simp[go_sem]
 .intro _ _;trivial
 .grind[invoke]
 .refine callsIn_wide.2 ((hseq l (λpre t=>∃t2,S pre t2/\t=both t2 (obj l (fT (a kh af)))) (λpre t=>∃t2 c,gO c pre t2/\t=both t2 (obj l (fT (a .done (ab c))))) j (both (obj D (ki (ab []))) F) _ ?_ ⟨t,h0,aa⟩ ?_).mono ?_)
  .rintro pre x W H _ G ⟨t2,s,rfl⟩ hst;obtain⟨B,E⟩:=ex (both (L x) H);rw[E]at hst⊢;have h1:=hst.fi;have BX:=h1.obj 1;have V:=run_yield (P:=P) (args:=encs x) BX aG;rw[m]at V;refine⟨fn,_,assign,body,V,roundIn_of_wpIn hfn (wpIn_mono ((hat x).symm▸(E▸Sj l (a kh af) pre x W t2 H G aG s (E.symm▸h1))) ?_)⟩;rintro e K w1 R;cases e with
   |normal=>
    obtain⟨z,hb,Z⟩:=R;refine⟨z,hb,wpIn_mono Z ?_⟩
    have fin:∀(f:Option Code) (i:aN) (t3:bu),ai an FX i [t3,obj l (fT {a kh af with state:=.busy}),B]->(Instr.endRound l f).run P i=.ok (aj f.isNone) (i.putObj l (fT (a (if f.isNone then kh else .done) f)))/\
     ai an FX (i.putObj l (fT (a (if f.isNone then kh else .done) f))) [both t3 (obj l (fT (a (if f.isNone then kh else .done) f))),B]:=λf i t3 d=>by
     have hr:=run_endRound (P:=P) f (d.obj 1);have b:ai an FX _ [t3,obj l (fT (a (if f.isNone then kh else .done) f)),B]:=d.putObj 1 (fT (a (if f.isNone then kh else .done) f)) aa;refine⟨?_,b.star⟩;rw[hr,m]
    rintro e a3 i o;cases e with
    |normal=>
     obtain⟨t3,hs3,d⟩:=o;obtain⟨hr,b⟩:=fin af i t3 d;exact⟨_,_,hr,bJ ⟨aa,_,⟨t3,hs3,aa⟩,b⟩⟩
    |ret=>
     obtain⟨t3,hs3,d⟩:=o;obtain⟨hr,b⟩:=fin (ab .ret) i t3 d;exact⟨_,_,hr,b3 ⟨aa,_,⟨t3,_,hs3,aa⟩,b⟩⟩
    |exit id=>
     obtain⟨t3,hs3,d⟩:=o;obtain⟨hr,b⟩:=fin (ab (.exit id)) i t3 d;exact⟨_,_,hr,b3 ⟨aa,_,⟨t3,_,hs3,aa⟩,b⟩⟩
    |goto q=>
     obtain⟨t3,hs3,d⟩:=o;obtain⟨hr,b⟩:=fin (ab (.goto q)) i t3 d;exact⟨_,_,hr,b3 ⟨aa,_,⟨t3,_,hs3,aa⟩,b⟩⟩
    |panic ch=>exact o.elim
    |outgrown=>exact o.elim
   |_=>exact R.elim
  .have k:ai an FX j [obj l (fT (a kh af)),obj D (ki (ab [])),T,t,F]:=C;have d:ai an FX j [t,obj l (fT (a kh af)),obj D (ki (ab [])),F,T]:=k.pick [3,0,1,4,2];have b:ai an FX j [obj D (ki (ab [])),F,T,both t (obj l (fT (a kh af)))]:=d.star.pick [1,2,3,0];exact b.star.pick [1,2,0]
  .rintro e y ⟨⟨v,rfl⟩,(⟨xs,_,u,hJ,⟨t2,s,rfl⟩,Y,hst⟩|⟨pre,_,u,G,⟨t2,c,s,rfl⟩,hst⟩)⟩;·have h1:ai an FX y [t2,obj l (fT (a kh af)),u,both (obj D (ki (ab []))) F]:=hst.fi;have k:ai an FX y [obj D (ki (ab [])),F,t2,obj l (fT (a kh af)),u]:=(h1.pick (l':=[both (obj D (ki (ab []))) F,t2,obj l (fT (a kh af)),u]) [3,0,1,2]).fi;have d:=k.putObj 3 (fT {a kh af with state:=FE}) aa;refine⟨af,_,by have:=OW (P:=P) (k.obj 3) aG;rw[m]at this;exact this,?_⟩;have b:=hdone D xs t2 u _ hJ s Y ((ai.pick (l:=[obj D (ki (ab [])),F,t2,obj l (fT {a kh af with state:=FE}),u]) d [2,4,0,1]));rw[m]at b;exact b
   .have h1:ai an FX y [t2,obj l (fT (a .done (ab c))),u,both (obj D (ki (ab []))) F]:=hst.fi;have k:ai an FX y [obj D (ki (ab [])),F,t2,obj l (fT (a .done (ab c))),u]:=(h1.pick (l':=[both (obj D (ki (ab []))) F,t2,obj l (fT (a .done (ab c))),u]) [3,0,1,2]).fi;have d:=k.putObj 3 (fT {a .done (ab c)with state:=FE}) aa;refine⟨ab c,_,by have:=OW (P:=P) (k.obj 3) aG;rw[m]at this;exact this,?_⟩;have b:=Sm D c pre t2 u _ G s ((ai.pick (l:=[obj D (ki (ab [])),F,t2,obj l (fT {a .done (ab c)with state:=FE}),u]) d [2,4,0,1]));rw[m]at b;exact(wpIn_wide (n:=0)).2 b
end
end
open Go.RowKit Go.MapKept
def zK(E:List (Int×Int))(p:Int×Int->Bool):Int:=match E.findIdx? p with|some k=>(k:Int)|none=>-1
def amP E p:decide (0<=zK E p)=E.any p:=by grind[zK]
def apO A (c g:Nat) lb E p w (I:E.length<=1073741824) (t:jy w A E) (o:∀args w,(kj g args).run ax w=.ok (.enter g args) w)
 (hp:∀x W,x∈E->ao w W->aD ax g (#[av #[J R x.1,J R x.2]]++lb) W λe w'=>e=aA (aj (p x))/\ao W w'):
 aD ax 300 #[ad A E.length c,dK (ek g) #[] lb] w λe w'=>e=aA (J R (zK E p))/\ao w w':=by
 have B:=hid o;have D:=hid hp;have C:=hid t;clear t o hp;go_enter func300,ntmps300;have a:=bg w;go_upto_region 0 with fail;refine ar ?_;refine ag ?_;refine aF ?_;refine v3 ?_;refine ak ?_;go_wp2_with fail;go_loopw [8] (λl wr=>∃j:Nat,j<=E.length/\l=J R (j:Int)/\(∀(i:Nat) (x:Int×Int),i<j->E[i]?=ab x->p x=au)/\ai w (λ_=>False) wr []) (λl wr=>E.length -(intOf l).toNat);case atStart=>grind
 case round=>
  clear a;obtain⟨j,K,rfl,r,a⟩:=hrel;by_cases hlt:j<E.length
  .have G:(j:Int)<(E.length:Int):=ae;obtain⟨x,hx⟩:∃x,E[j]?=ab x:=⟨_,cm hlt⟩;obtain⟨b,d,q,s⟩:=C.out (show 0<E.length by omega);obtain⟨hc1,hc2⟩:=s j hlt;rw[hx]at hc1 hc2;obtain⟨iL,u⟩:=ex (p x);have H:=List.mem_of_getElem? hx;have F:Hid (∀W,ao w W->W.rangeAt b (d+j*2) [J R x.1,J R x.2]):=hid (λW g i v hi=>by grind[GJ]);have n:=hid hx;have f:=hid u;have m:=hid r;have z:=hid q;clear hx u r s q hc1 hc2;go_upto_region 2 with fail;refine ar ?_;refine ag ?_;refine aF ?_;refine v2 ?_;refine jt ?_;refine aJ (ay (ab ⟨b,(d+j*2),af⟩)) (cI 176 35 2 (.tmp 12) (.tmp 13) aa underlying176 aw b d (E.length) c j ((d+j*2)) (by show ad A _ _=_;rw[z.out]) aa hlt aa) ?_;refine aJ _ (by(refine e7 35 _ aa b _ aa _ (F.out _ a.only) Tryz.underlying35 aa aw)) ?_;refine bC ((by have h:=D.out x _ H a.only;rw[f.out]at h;exact h)) a (λw1 a=>?_) (hr:=by(go_simp;exact B.out _ _));refine ak ?_;cases iL with
   |true=>
    refine aF ?_;refine dQ ?_;go_wp2_with fail;go_ret;exact⟨by rw[show zK E p=(j:Int)from by unfold zK;rw[show E.findIdx? p=ab j from KW n.out f.out m.out]];rfl,a.only⟩
   |false=>
    refine aF ?_;refine pad (j:Int) 1 ((j+1:Nat):Int) ?_;refine bR ?_;go_wp2_with fail;go_roundw;case rel=>exact⟨j+1,ae,rfl,λi y hi k=>by rcases Nat.lt_succ_iff_lt_or_eq.1 hi with h|rfl;exact m.out i y h k;rw[n.out]at k;cases k;exact f.out,a⟩
    case measure=>simp[intOf]<;>omega
  .have G:¬(j:Int)<(E.length:Int):=ae;obtain rfl:j=E.length:=ae;go_upto_region 2 with fail;refine ar ?_;refine ag ?_;refine aF ?_;refine ag ?_;refine ak ?_;go_wp2_with fail;go_ret;exact⟨by rw[show zK E p=-1 from by grind[zK,KV]];rfl,a.only⟩
def ak4 A (c g:Nat) lb E p w (o:E.length<=1073741824) (j:jy w A E) (i:∀args w,(kj g args).run ax w=.ok (.enter g args) w)
 (hp:∀x W,x∈E->ao w W->aD ax g (#[av #[J R x.1,J R x.2]]++lb) W λe w'=>e=aA (aj (p x))/\ao W w'):
 aD ax 247 #[ad A E.length c,dK (ek g) #[] lb] w λe w'=>e=aA (aj (E.any p))/\ao w w':=by
 have f:=hid (λW (g2:ao w W)=>apO A c g lb E p W o (j.aI g2) i (λx m hx n=>hp x m hx (ao.trans g2 n)));have d:=amP E p;obtain⟨q,k⟩:=ex (zK E p);obtain⟨b,hb⟩:=ex (E.any p);rw[k]at f d;rw[hb]at d⊢;have l:=hid d;clear j i hp k hb d;go_enter Tryz.func247,Tryz.ntmps247;have a:=bg w;go_upto_region 0 with fail;refine ar ?_;refine ku ?_;refine bC (f.out _ a.only) a (λw1 a=>?_);refine aJ (aj b) (by(have h:=l.out;go_simp;try exact h)) ?_;refine bR ?_;go_wp2_with fail;go_ret;exact⟨aa,a.only⟩
def asT bZ(s x)w(h1:eE s)(i:eE x)(hb:aX w bZ #[J R s.1,J R s.2] 35):
 aD ax 248 #[av #[J R x.1,J R x.2],ay (ab ⟨bZ,0,af⟩)] w λe w'=>e=aA (aj (meets s x))/\ao w w':=by
 obtain⟨a,b⟩:=s;obtain⟨c,d⟩:=x;obtain⟨o,g⟩:=ex (meets (a,b) (c,d));obtain⟨⟨fb,l⟩,j⟩:∃z,kM (a,b) (c,d)=z:=⟨_,aa⟩;have h:=hid (λW=>Mw a b c d W h1 i);rw[g,j]at h;rw[g];have k:=hid hb;clear g j hb h1 i;go_enter agv,ntmps248;have f:=bg w;go_upto_region 0 with fail;refine ar ?_;refine bO f (av #[J R c,J R d]) (λm w1 f=>?_);refine dR ?_;refine aJ (av #[J R a,J R b]) (mg (cs':=#[J R a,J R b]) aa aa (aX.aI k.out f.only) aw (of_decide_eq_true aw) aw aw) ?_;refine bt f 0 #[J R c,J R d] ?_;refine bC (h.out _) f (λp f=>?_);refine v3 ?_;refine bA f #[J R 0,J R 0] (λn q f=>?_);refine ba f 0 (av #[J R fb,J R l]) (λr f=>?_);refine ag ?_;refine aF ?_;refine dQ ?_;go_wp2_with fail;go_ret;exact⟨aa,f.only⟩
def Cu(m:bI)(E:List (Int×Int)):Bool:=decide (m.k=1)&&E.any (λe=>meets (m.fr,m.n) e)
def asU(A f)(c i)m E w(hv:hY m)(F:E.length<=1048576)(p:jy w A E)(q:∀e∈E,eE e):
 aD ax 173 #[mz m f i,ad A E.length c] w λe w'=>e=aA (aj (Cu m E))/\ao w w':=by
 have v:=hid p;have z:=hid q;by_cases hk:m.k=1
 .obtain⟨mk,o,b,d,l⟩:=m;simp only at hk;subst hk;have C:eE (b,d):=by rcases hv with⟨_,_,h,_⟩|⟨h,_⟩;exact h;cases h
  have j:Hid (Cu ⟨1,o,b,d,l⟩ E=E.any (λe=>meets (b,d) e)):=hid aT;have s:Hid (∀W bZ,ao w W->aX W bZ #[J R b,J R d] 35->aD ax 247 #[ad A E.length c,dK (ek 248) #[] #[ay (ab ⟨bZ,0,af⟩)]] W λe w'=>e=aA (aj (E.any (λe=>meets (b,d) e)))/\ao W w'):=hid (λW bZ g hb=>ak4 A c 248 _ E (λe=>meets (b,d) e) W ae (v.out.aI g) (enters_of agv aw aa) (λx B hx g2=>asT bZ (b,d) x B C (z.out x hx) (aX.aI hb g2)));obtain⟨D,t⟩:=ex (E.any (λe=>meets (b,d) e));rw[t]at j s;clear t hv p q;go_enter agd,ag4;have a:=bg w;go_upto_region 0 with fail;refine ar ?_;refine bO a (av #[J R 1,J R o,J R b,J R d,ad f l.length i]) (λu w1 a=>?_);refine dR ?_;refine bt a 0 #[J R 1,J R o,J R b,J R d,ad f l.length i] ?_;refine bC (yP o b d f l.length i _) a (λG a=>?_);refine v3 ?_;refine bA a #[J R 0,J R 0] (λr H a=>?_);refine ba a 0 (av #[J R b,J R d]) (λI a=>?_);refine AF ?_;refine bC (s.out _ r a.only (a.a1 0)) a (λK a=>?_);refine pk (aj D) ?_;refine bR ?_;go_wp2_with fail;go_ret;exact⟨by rw[j.out];rfl,a.only⟩
 .have j:Hid (Cu m E=au):=hid (by grind[Cu]);have y:=hid (λW=>yQ m.k m.to m.fr m.n f m.data.length i W hk);clear hv p q hk;go_enter agd,ag4;have a:=bg w;go_upto_region 0 with fail;refine ar ?_;refine bO a (av #[J R m.k,J R m.to,J R m.fr,J R m.n,ad f m.data.length i]) (λu L a=>?_);refine dR ?_;refine bt a 0 #[J R m.k,J R m.to,J R m.fr,J R m.n,ad f m.data.length i] ?_;refine bC (y.out _) a (λM a=>?_);refine v3 ?_;refine bA a #[J R 0,J R 0] (λr N a=>?_);refine ba a 0 (av #[J R 0,J R 0]) (λO a=>?_);refine ku ?_;iterate 3 refine ps ?_
  refine pk (aj au) ?_;refine bR ?_;go_wp2_with fail;go_ret;exact⟨by rw[j.out];rfl,a.only⟩
namespace G
def Fe{t fr}g:∀(b) o (w:aN) cur,w.heap[g]?=ab (bf cur t fr)->
 ∃a,(w.setCells g o b).heap[g]?=ab (bf a t fr)/\a.size=cur.size/\∀j,a[j]?=if o<=j/\j<o+b.length/\j<cur.size then b[j -o]? else cur[j]?
 |[],o,w,cur,h=>⟨cur,h,rfl,λj=>aG⟩
 |v::r,o,w,cur,h=>by
  have h1:(w.setCell ⟨g,o,af⟩ v).heap[g]?=ab (bf (cur.setIfInBounds o v) t fr):=by grind[World.setCell]
  obtain⟨a,c,e,d⟩:=Fe g r (o+1) _ _ h1;refine⟨a,c,aG,λj=>?_⟩;rw[d j,Array.getElem?_setIfInBounds];grind[Nat.le_of_not_lt]
def _root_.Go.Proofs.YtcmhplknoglbkaaGreat.aq.setCells w(g o)a:aq (λk=>k=g) w (w.setCells g o a):=by
 induction a generalizing o w with
 |nil=>exact aq.refl _ _
 |cons v r b=>exact(aq.setCell (F:=λk=>k=g) w (p:=_) aa v).trans (b _ _) (λ_ _ h=>h)
def eY(w:aN)(base:Nat)(v:aP)(xs:List Int):Prop:=∃A c,v=ad A xs.length c/\((A=af/\xs=[]/\c=0)\/
 ∃g off cur,A=ab ⟨g,off,af⟩/\base<=g/\w.heap[g]?=ab (bf cur 3 (0,0))/\xs.length<=c/\c<=dO/\off+c<=cur.size/\∀j,j<xs.length->cur[off+j]?=ab (J R (xs[j]?.getD 0)))
theorem eY.lW{w base v n xs}(h:w.ownsRow base 3 1 v n (xs.map (J R))):eY w base v xs:=by
 have f:xs.length=n:=by simpa using h.1
 subst f;rcases h.2 with⟨rfl,a⟩|⟨g,cap,cur,rfl,hb,c,h1,b,i,k⟩;·obtain rfl:=jH a;exact⟨_,0,aa,bJ ⟨aa,aa,aa⟩⟩
 .refine⟨_,cap,aa,b3 ⟨g,0,cur,rfl,hb,c,h1,b,ae,λj d=>?_⟩⟩;have e:(cur.toList.take (xs.length*1))[j]?=ab (J R xs[j]):=aG;rw[su,if_pos ae]at e;simpa [d]using e
def eY.only{F w w' base v xs}(h:eY w base v xs)(k:aq F w w')(a:∀g,v.ownBlock=ab g->¬F g):eY w' base v xs:=by obtain⟨A,c,rfl,h⟩:=h;refine⟨A,c,aa,h.imp id ?_⟩;rintro⟨g,off,cur,rfl,h1,h2,r⟩;exact⟨g,_,_,aa,h1,k.heap h2 (a g aa),r⟩
def eY.lt{w base v xs}(h:eY w base v xs){g}(a:v.ownBlock=ab g):base<=g/\g<w.heap.size:=by
 obtain⟨A,c,rfl,⟨rfl,_⟩|⟨d,off,cur,rfl,h1,b,r⟩⟩:=h;·cases a
 .cases a;exact⟨h1,(Array.getElem?_eq_some_iff.1 b).1⟩
def eY.nR{w base c A xs}(h:eY w base (ad A xs.length c) xs):cX w A xs:=λl=>by
 obtain⟨a,b,e,⟨rfl,rfl,_⟩|⟨g,off,cur,rfl,h1,d,f,i,j,k⟩⟩:=h;·grind
 grind[eC]
def eY.form{w base v xs}(h:eY w base v xs):∃A c,v=ad A xs.length c/\xs.length<=c/\c<=maxLen:=by
 obtain⟨A,c,rfl,⟨_,rfl,rfl⟩|⟨g,off,cur,rfl,h1,a,b,d,r⟩⟩:=h;·grind
 .grind
def eY.tail{w base n c A x xs}(h:eY w base (ad A n c) (x::xs)):∃g off,A=ab ⟨g,off,af⟩/\n=xs.length+1/\xs.length+1<=c/\c<=dO/\w.cell? ⟨g,off,af⟩=ab (J R x)/\
 eY w base (ad (ab ⟨g,off+1,af⟩) xs.length (c -1)) xs/\(xs=[]->eY w base (ad (ab ⟨g,off,af⟩) xs.length (c -1)) xs):=by
 obtain⟨k,l,e,⟨rfl,m,_⟩|⟨g,off,cur,rfl,h1,a,b,f,o,d⟩⟩:=h;·grind
 .injection e with bD b9 fH;subst bD b9 fH;simp at b d;refine⟨g,off,aa,aa,b,f,?_,⟨_,_,aa,b3 ⟨g,off+1,cur,rfl,h1,a,ae,ae,ae,λj i=>?_⟩⟩,?_⟩;·rw[eC w g _ _ _ _ a];simpa using d 0 ae
  .grind
  .rintro rfl;exact⟨_,_,aa,b3 ⟨g,off,cur,aa,h1,a,Nat.zero_le _,ae,ae,λj i=>aG⟩⟩
def uj(xs:List Int)(i:Nat)(x:Int):List Int:=xs.take i++x::xs.drop i
def apG{xs i}x(hi:i<=xs.length):(uj xs i x).length=xs.length+1:=by grind[uj]
theorem LY{xs i}x(hi:i<=xs.length)j:(uj xs i x)[j]?=if j<i then xs[j]? else if j=i then ab x else xs[j -1]?:=by grind[uj]
theorem Ug n:(mT (J R 0).cells n).size=n:=by simp[mT,Value.cells]
def apJ base v xs i x d w(z:eY w base v xs)(hi:i<=xs.length)(O:w.heap[d]?=ab (bf #[J R x] 3 (0,0)))(hne:∀g,v.ownBlock=ab g->g≠d)(W:xs.length<=1048576)(hbase:base<=w.heap.size):
 aD ax 306 #[v,J R i,ad (ab ⟨d,0,af⟩) 1 1] w λe w'=>∃v',e=aA v'/\eY w' base v' (uj xs i x)/\aq (λk=>v.ownBlock=ab k) w w'/\(v'.ownBlock=v.ownBlock\/∃k,v'.ownBlock=ab k/\w.heap.size<=k):=by
 obtain⟨A,c,rfl,z⟩:=z;have hlen:=apG x hi
 have p:∀(j:Nat) (u:aP),[J R x][j]?=ab u->w.cell? ⟨d,0+j,af⟩=ab u:=λj u N=>by
  rw[eC w d _ _ _ _ O];cases j with
  |zero=>grind
  |succ j=>grind
 have l:∀u∈[J R x],u.oneCell'=true:=by simp[Value.oneCell']
 have B:(xs.map (J R)).length=xs.length:=aU;have G:=S' xs;have L:∀j,j<xs.length->(xs.map (J R))[j]?=ab (J R (xs[j]?.getD 0)):=λj b=>by grind
 have X:∀j,j<xs.length+1->∃y,(uj xs i x)[j]?=ab y:=λj b=>⟨_,cm ae⟩;rcases z with⟨rfl,rfl,rfl⟩|⟨g,off,cur,rfl,hb,C,h1,H,T,U⟩
 .obtain rfl:i=0:=aG;refine(afZ Tryz.H7 af 0 0 d 0 1 1 [] [J R x] w ae (cp _) ae ae aa aa (λ_=>aa) (λa h=>aU) p l).mono ?_;rintro e w' ⟨rfl,rfl⟩;have D:=zb w (0+1) 0 3;have m:=zc w (0+1) 0 3 (by grind[dO]);refine⟨_,aa,⟨_,_,aa,b3 ⟨w.heap.size,0,_,aa,hbase,ff w.drew _,D,m,?_,λj b=>?_⟩⟩,?_,b3 ⟨_,aa,cp _⟩⟩;·grind[Ug]
  .grind[uj]
  .exact(aq.drew w).trans (aq.alloc _ _) (λ_ _ h=>h)
 .have hcs:∀(j:Nat) (u:aP),(xs.map (J R))[j]?=ab u->w.cell? ⟨g,off+j,af⟩=ab u:=λj u N=>by grind[eC]
  have K:∀j,w.frozen? ⟨g,j,af⟩=false:=λj=>by grind[uO]
  have I:∀j,w.frozen? ⟨d,j,af⟩=false:=λj=>by grind[uO]
  have hsp:∀j,j<c->(w.cell? ⟨g,off+j,af⟩).isSome=true:=λj b=>by rw[eC w g _ _ _ _ C];simp;omega
  have M:d≠g:=λe=>hne g aa e.symm;by_cases hroom:xs.length+1<=c
  .by_cases E:i<xs.length
   .refine(Any2.slices_Insert_int_shift Tryz.H7 g off xs.length c i d 0 1 1 (xs.map (J R)) [J R x] w E ae hroom (by grind[dO]) M B aa hcs (λj b=>hsp j ae) (λj _=>K _) p G l 3 3 1 cur.size
     (by grind[OR]) (by grind[OR]) ae (I _) (I _)).mono ?_;rintro e w' ⟨rfl,rfl⟩;obtain⟨q,r,F,s⟩:=Fe g ((xs.map (J R)).drop i) (off+(i+1)) w.drew cur C;obtain⟨f,eS,eZ,sA⟩:=Fe g [J R x] (off+i) _ q r;refine⟨_,aa,⟨_,c,aG,b3 ⟨g,off,f,rfl,hb,eS,ae,H,ae,λj b=>?_⟩⟩,?_,bJ aa⟩
    .rw[hlen]at b;rw[sA,s,LY x hi];simp only[jT,l2,u4,gW];by_cases o:j<i;·grind
     .by_cases n:j=i;·subst n;rw[if_pos ae,if_neg ae,if_pos aa];simp
      .rw[if_neg ae,if_pos ae,if_neg o,if_neg n,Dx,show i+(off+j -(off+(i+1)))=j -1 by omega];exact L _ ae
    .exact((aq.drew w).trans (aq.setCells _ g _ _) (λ_ _ h=>by rw[h];rfl)).trans (aq.setCells _ g _ _) (λ_ _ h=>by rw[h];rfl)
   .obtain rfl:i=xs.length:=ae;refine(Any2.slices_Insert_int_end_room Tryz.H7 g off xs.length c d 0 1 1 [J R x] w ae hroom (by grind[dO]) aa (λj b=>aG) (λj _=>K _) p l).mono ?_;rintro e w' ⟨rfl,rfl⟩;obtain⟨f,eS,eZ,sA⟩:=Fe g [J R x] (off+xs.length) w cur C;refine⟨_,aa,⟨_,c,aG,b3 ⟨g,off,f,rfl,hb,eS,ae,H,ae,λj b=>?_⟩⟩,?_,bJ aa⟩;·grind[LY]
    .exact(aq.setCells w g _ _).mono (λ_ _ h=>by rw[h];rfl)
  .have V:c=xs.length:=ae;by_cases E:i<xs.length
   .refine(Any2.slices_Insert_int_grow Tryz.H7 g off _ c i d 0 1 1 _ _ w E ae h1 ae ae B aa hcs p G l).mono ?_;rintro e w' ⟨rfl,rfl⟩;have D:=zb w (xs.length+1) c 3;have m:=zc w (xs.length+1) c 3 (by grind[dO]);obtain⟨q,r,F,s⟩:=Fe w.heap.size [J R x] i (w.alloc (bf (((xs.map (J R)).take i).toArray++mT (J R 0).cells (xs.length+1 -i)++mT (J R 0).cells (xG w (xs.length+1) c 3 -(xs.length+1))) 3)).drew _ (ff w _);obtain⟨f,eS,eZ,sA⟩:=Fe w.heap.size ((xs.map (J R)).drop i) (i+1) (((w.alloc (bf (((xs.map (J R)).take i).toArray++mT (J R 0).cells (xs.length+1 -i)++mT (J R 0).cells (xG w (xs.length+1) c 3 -(xs.length+1))) 3)).drew.setCells w.heap.size i [J R x]).drew) q r;have hsz:q.size=xG w (xs.length+1) c 3:=by grind[Ug]
    refine⟨_,aa,⟨_,_,by rw[hlen];rfl,b3 ⟨w.heap.size,0,f,rfl,hbase,eS,ae,m,ae,λj b=>?_⟩⟩,?_,b3 ⟨_,aa,cp _⟩⟩
    .rw[hlen]at b;rw[sA,s,LY x hi,kV,<-F,hsz];simp only[jT,l2,u4,gW];by_cases o:j<i;·rw[if_neg ae,if_neg ae,if_pos o,I8 (by simp;omega),I8 (by simp;omega)];grind
     .by_cases n:j=i;·subst n;rw[if_neg ae,if_pos ae,if_neg o,if_pos aa];simp
      .rw[if_pos ae,if_neg o,if_neg n,Dx,show i+(j -(i+1))=j -1 by omega];exact L _ ae
    .have P:=(ao.trans (aq.alloc w (bf (((xs.map (J R)).take i).toArray++mT (J R 0).cells (xs.length+1 -i)++mT (J R 0).cells (xG w (xs.length+1) c 3 -(xs.length+1))) 3)) (aq.drew _));have Q:aq (λk=>k=w.heap.size) w _:=(ao.to P).trans (aq.setCells _ w.heap.size i [J R x]) (λ_ _ h=>h);have S:=(Q.trans (aq.drew _) (λ_ _ h=>h)).trans (aq.setCells _ w.heap.size (i+1) ((xs.map (J R)).drop i)) (λ_ _ h=>h);exact S.mono (λk hk e=>ae)
   .obtain rfl:i=xs.length:=ae;refine(afZ Tryz.H7 (ab ⟨g,off,af⟩) xs.length c d 0 1 1 (xs.map (J R)) [J R x] w ae h1 ae ae B aa (λh=>aG) (λa h=>by grind[nD]) p l).mono ?_;rintro e w' ⟨rfl,rfl⟩;have D:=zb w (xs.length+1) c 3;have m:=zc w (xs.length+1) c 3 (by grind[dO]);refine⟨_,aa,⟨_,_,by rw[hlen];rfl,b3 ⟨w.heap.size,0,_,aa,hbase,ff w.drew _,ae,m,?_,λj b=>?_⟩⟩,?_,b3 ⟨_,aa,cp _⟩⟩;·simp[Ug,show Tryz.abX.t 3=3 from aa];omega
    .rw[hlen]at b;rw[LY x hi,kV,I8 aG];grind
    .exact(aq.drew w).trans (aq.alloc _ _) (λ_ _ h=>h)
def MQ A c xs x w(hx:cX w A xs)(f:xs.Pairwise (·<=·))(h1:xs.length<=1048576):
 aD ax 305 #[ad A xs.length c,J R x] w λe w'=>∃r,e=aA (.tuple #[J R (xs.countP (·<x):Nat),aj r])/\∃q,w'=w.drewN q:=by
 rcases Nat.eq_zero_or_pos xs.length with a|a;·obtain rfl:=jH a;refine(Any.slices_BinarySearch_int_empty Tryz.abY A c x w).mono ?_;rintro e w' ⟨rfl,rfl⟩;exact⟨_,aa,0,aa⟩
 .obtain⟨b,off,rfl,hc⟩:=hx a;refine(Any.slices_BinarySearch_int Tryz.abY b off xs.length c xs x w (cp _) ae (λj d=>aU) aG).mono ?_;grind
def k5(a:List Int)(f:Int->Int):List (Int×aP):=a.map (λv=>(v,J R (f v)))
def dA(f:Int->Int)(x y:Int):Int->Int:=λz=>if z=x then y else f z
def aqa a f:(k5 a f).map (·.1)=a:=by simp[k5,Jf]
def Cb a f:(k5 a f).length=a.length:=by simp[k5]
theorem L1 b f x:ed (k5 b f) x=if x∈b then ab (J R (f x))else none:=by
 unfold ed k5;induction b with
 |nil=>simp
 |cons a r c=>grind
theorem abQ a f x:rW (k5 a f) x=decide (x∈a):=by grind[Ic,L1]
def SK{a f x}(h:x∈a)y:jY (k5 a f) x (J R y)=k5 a (dA f x y):=by grind[jY,abQ,k5,dA,List.map_congr_left]
def aqb{a f x}(h:x∉a):jY (k5 a f) x (J R (f x))=k5 (a++[x]) f:=by grind[Mh,abQ,k5]
def ap9 a f x:Aa (k5 a f) x=k5 (a.filter (λy=>!decide (y=x))) f:=by unfold Aa k5;rw[List.filter_map];rfl
def tQ(E:List (Int×Int))(D:List Int)(x:Int):Nat:=(mK E x).countP (λu=>decide (u∈D))
def alU E D x:tQ E D x<=E.length:=eD PY (abz E x)
def Yw{E D x}:tQ E D x=0↔∀u,(u,x)∈E->u∉D:=by grind[tQ,List.countP_eq_zero,SU]
def alg{l:List Int}(b:l.Nodup)v:l.countP (λu=>decide (u=v))=if v∈l then 1 else 0:=by
 induction l with
 |nil=>simp
 |cons a r c=>grind
def countP_split{b:Type}(p q:b->Bool):∀l:List b,l.countP p=l.countP (λx=>p x&&q x)+l.countP (λx=>p x&&!q x)
 |[]=>aa
 |a::r=>by rw[Gp,Gp,Gp,countP_split p q r];cases p a<;>cases q a<;>simp<;>omega
def Yv{E}(b:E.Nodup){D v x}(hv:v∈D):tQ E (D.filter (λy=>!decide (y=v))) x+(if x∈lY E v then 1 else 0)=tQ E D x:=by
 unfold tQ;rw[countP_split (λu=>decide (u∈D)) (λu=>decide (u=v)) _]
 have h1:(mK E x).countP (λu=>decide (u∈D)&&decide (u=v))=if x∈lY E v then 1 else 0:=by
  have a:(mK E x).Nodup:=(yO _).nodup_iff.2 (asx b x)
  have c:(mK E x).countP (λu=>decide (u=v))=if x∈lY E v then 1 else 0:=by rw[alg a v];simp only[SU,acj]
  grind
 grind
def hG(N:Nat)(s:List Int):List Int:=(du N).filter (λv=>!decide (v∈s))
theorem Me{N s x}:x∈hG N s↔(0<=x/\x<(N:Int))/\x∉s:=by simp[hG,qK]
structure qp (E:List (Int×Int)) (N:Nat) (s out D:List Int) (f:Int->Int) (gR:List Int):Prop where
 H5:kl E N s out
 rest:D=(hG N s).filter (λx=>!decide (x∈out))
 tR:∀x∈D,f x=(tQ E D x:Int)
 sorted:gR.Pairwise (·<·)
 ready:∀x,x∈gR↔x∈D/\f x=0
structure oO (E:List (Int×Int)) (N:Nat) (s out D:List Int) (v:Int) (T:List Int) (f:Int->Int) (gR:List Int):Prop where
 H5:kl E N s (out++[v])
 rest:D=(hG N s).filter (λx=>!decide (x∈out))
 M9:v∈D
 tR:∀x∈D,x≠v->f x+(if x∈T then 1 else 0)=(tQ E D x:Int)
 sorted:gR.Pairwise (·<·)
 ready:∀x,x∈gR↔(x∈D/\x≠v)/\f x=0
section
variable {E:List (Int×Int)} {N:Nat} {s out D gR T:List Int} {f:Int->Int} {v x:Int}
def qp.mem(h:qp E N s out D f gR):x∈D↔((0<=x/\x<(N:Int))/\x∉s)/\x∉out:=by rw[h.rest];simp[Me]
def qp.isReady(e:Valid N E)(h:qp E N s out D f gR):x∈gR↔va E N s out x:=by
 rw[h.ready];constructor
 .rintro⟨hx,hf⟩;have c:=h.tR x hx;rw[hf]at c;have hz:tQ E D x=0:=ae;have a:=h.mem.1 hx;refine⟨a.1.1,a.1.2,a.2,λu d=>?_⟩;have g:=Yw.1 hz u d;have hb:=e _ d;by_cases h1:u∈s;·grind
  .by_cases b:u∈out;·grind
   .exact absurd (h.mem.2 ⟨⟨hb.1,h1⟩,b⟩) g
 .rintro⟨h1,b,h3,h4⟩;have hx:x∈D:=h.mem.2 ⟨⟨h1,b⟩,h3⟩;refine⟨hx,?_⟩;rw[h.tR x hx,Yw.2 (λu d c=>?_)];·rfl
  .have a:=h.mem.1 c;grind
def qp.start f(a:∀x∈hG N s,f x=(tQ E (hG N s) x:Int))gR(hr:gR=(du N).filter (λx=>decide (x∈hG N s)&&decide (f x=0))):qp E N s [] (hG N s) f gR:=by subst hr;refine⟨.nil,(List.filter_eq_self.2 (λ_ _=>aU)).symm,a,(CG N).filter _,λx=>?_⟩;grind[qK,Me]
def qp.pop(a:Valid N E)(h:qp E N s out D f (v::gR)):oO E N s out D v [] f gR:=by
 obtain⟨g,i⟩:=u6.1 h.sorted;have hv:=(h.ready v).1 (sv ..);refine⟨.snoc h.H5 ⟨(h.isReady a).1 (sv ..),λu d=>?_⟩,h.rest,hv.1,λx hx _=>by simpa using h.tR x hx,i,λx=>?_⟩
 .rcases gz.1 ((h.isReady a).2 d)with rfl|c;·omega
  .grind
 .constructor;·intro hx;have h1:=(h.ready x).1 (List.mem_cons_of_mem _ hx);have b:=g x hx;exact⟨⟨h1.1,ae⟩,h1.2⟩
  .rintro⟨⟨h1,b⟩,h3⟩;rcases gz.1 ((h.ready x).2 ⟨h1,h3⟩)with e|c;·omega
   .omega
def oO.skip(h:oO E N s out D v T f gR)(hx:¬(x∈D/\x≠v)):oO E N s out D v (T++[x]) f gR:=
 {h with
  tR:=λy a hne=>by have:=h.tR y a hne;grind}
def oO.pos(c:E.Nodup)(h:oO E N s out D v T f gR)(hx:x∈D/\x≠v)(d:x∈lY E v)(b:x∉T):1<=f x/\f x<=E.length:=by have h1:=h.tR x hx.1 hx.2;rw[if_neg b]at h1;have a:=Yv (E:=E) (x:=x) c h.M9;rw[if_pos d]at a;have e:=alU E D x;omega
def oO.alS(h:oO E N s out D v T f gR)(hx:x∈D/\x≠v)(c:x∉T)(d:1<=f x)(b:f x -1≠0):oO E N s out D v (T++[x]) (dA f x (f x -1)) gR:=
 {h with
  tR:=λy a hne=>by have:=h.tR y a hne;grind[dA]
  ready:=λy=>by rw[h.ready];grind[dA]}
def Yi{l:List Int}(b:l.Pairwise (·<·))x:∀j,j<l.length->(j<l.countP (·<x)↔l[j]?.getD 0<x):=by
 induction l with
 |nil=>simp
 |cons a r e=>
  obtain⟨f,g⟩:=u6.1 b;intro j d;rw[Gp];by_cases c:a<x;·grind
  .grind[List.getElem_mem]
def aqS{l i x y}:y∈uj l i x↔y=x\/y∈l:=by grind[uj,List.take_append_drop]
def apH{l}(e:l.Pairwise (·<·)){x}(hx:x∉l):(uj l (l.countP (·<x)) x).Pairwise (·<·):=by
 have hc:l.countP (·<x)<=l.length:=PY
 have hlt:∀y∈l.take (l.countP (·<x)),y<x:=λy c=>by obtain⟨j,a⟩:=P5 c;have b:=(eR.1 a).1;rw[List.length_take]at b;have d:j<l.countP (·<x):=ae;rw[su,if_pos d]at a;have:=(Yi e x j ae).1 d;rwa [a]at this
 have f:∀y∈l.drop (l.countP (·<x)),x<y:=λy c=>by obtain⟨j,a⟩:=P5 c;rw[Dx]at a;have b:=(eR.1 a).1;have h1:=(Yi e x (l.countP (·<x)+j) b);grind
 grind[uj,u6]
def oO.alT(h:oO E N s out D v T f gR)(hx:x∈D/\x≠v)(e:x∉T)(d:f x -1=0):oO E N s out D v (T++[x]) (dA f x (f x -1)) (uj gR (gR.countP (·<x)) x):=by
 have b:x∉gR:=λa=>by have:=((h.ready x).1 a).2;omega
 exact{h with
  tR:=λy c hne=>by have:=h.tR y c hne;grind[dA]
  sorted:=apH h.sorted b
  ready:=λy=>by rw[aqS,h.ready];grind[dA]}
def oO.done(a:E.Nodup)(h:oO E N s out D v (lY E v) f gR):qp E N s (out++[v]) (D.filter (λy=>!decide (y=v))) f gR:=by
 refine⟨h.H5,?_,λx hx=>?_,h.sorted,λx=>?_⟩;·rw[h.rest,P0];grind
 .simp only[mZ,Bool.not_eq_true',decide_eq_false_iff_not]at hx;have h1:=h.tR x hx.1 hx.2;have b:=Yv (E:=E) (x:=x) a h.M9;grind
 .rw[h.ready];simp
def qp.final(a:Valid N E)(h:qp E N s out D f []):mx E N s out/\D=kp N s out:=by refine⟨⟨h.H5,λv hv=>by have:=(h.isReady a).2 hv;cases this⟩,?_⟩;rw[h.rest];unfold hG kp;rw[P0];refine List.filter_congr (λx _=>?_);rw[Bool.and_comm]
def qp.small(h:qp E N s out D f gR):D.length<=N/\out.length<=N/\gR.length<=N:=by refine⟨?_,h.H5.length,EJ (z' h.sorted) (λx hx=>(h.mem.1 ((h.ready x).1 hx).1).1.1)⟩;rw[h.rest];refine eD (xU _ _) (eD (xU _ _) ?_);simp[du]
def oO.small(h:oO E N s out D v T f gR):gR.length<=N:=by refine EJ (z' h.sorted) (λx hx=>?_);have a:=((h.ready x).1 hx).1.1;rw[h.rest]at a;exact(Me.1 (mZ.1 a).1).1
end
end G
end Go.Proofs.YtcmhplknoglbkaaGreat
