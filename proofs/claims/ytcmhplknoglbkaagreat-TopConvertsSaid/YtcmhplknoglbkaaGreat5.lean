/- Part 5 of the proof of TopConvertsSaid. -/
import Derived.RangeFuncWrites
import Derived.OrdersIn
import Derived.TacticsIn
import Derived.RangeFuncLeaves
import Derived.Test.YtcmhplknoglbkaaGreat0
import Derived.Test.YtcmhplknoglbkaaGreat4
set_option linter.all false
set_option maxRecDepth 100000
set_option maxHeartbeats 4000000
open Go.Proofs.Tryz
open Bool renaming false->au,true->aB
open Go renaming Act->bV,Ending->xC,Oper->cR,Program->ew,Value->aP,World->aN,bodyPostM->V9,callsIn_wide->sk,execOp->bw,run_endLoop->OW,wpIn_region_lit->ahP,wpIn_wide->xH,wpList->cH,wpListIn->tt,yielded->cY
open Go.Code renaming region->xB
open Go.Ending renaming returned->aA
open Go.Exit renaming normal->sh
open Go.Fence renaming wide->mr
open Go.Fn renaming yield->vU
open Go.Instr renaming beginRound->UK,yield->afU
open Go.LoopState renaming exhausted->FE,ready->kh
open Go.Obj renaming deferred->ki,loop->fT
open Go.Region renaming wanted->c4
open Go.Target renaming collected->C5
open Go.Value renaming bool->aj,func->dK
open List.Perm renaming swap->Dr
open List renaming perm_append_singleton->Gt,perm_middle->Xd,take_append_drop->oR
open Option renaming none->af,some->ab
namespace Go.Proofs.YtcmhplknoglbkaaGreat
section
open Go.RowKit Go.MapKept
abbrev Fr(r:Option Nat):Fence:={mr with round:=r}
def s3(o:cR):Bool:=match o.op with|.defer _=>au|_=>aB
def asp{o}(h:s3 o=aB):∀c,o.op≠.defer c:=by grind[s3]
section
variable {P:ew} {ops:Array cR} {rest:List cR} {Q:Exit->bV->aN->Prop} {K0:bV->aN->Prop} {o:cR} {a bz:bV} {w:aN} {v:aP} {r:Option Nat} {n:Nat}
def aky{f args cn}(h:Calls P f args w cn):CallsIn (Fr r) n P f args w cn:=
 have h2:CallsIn mr n P f args w cn:=sk.2 h
 h2
def atq{row args cn}(h:Rows P row args w cn):RowsIn (Fr r) n P row args w cn:=λc cs _=>by obtain⟨v,w',h1,h2⟩:=h c cs;have h3:=stepsIn_wide.2 h2;exact⟨v,w',h1,h3⟩
def zv:Exit->bV->aN->Prop:=λ_ _ _=>False
def Ms{next next0}(hn:∀a w,next0 a w->next a w)(hp:s3 o=aB)(h:o.wp P a w next0 (Exit.then K0 zv)):o.wpIn (Fr r) n P a w next Q:=by
 refine⟨λ_ _=>trivial,?_⟩;rw[Oper.semAt_eq _ _ _ (asp hp)];unfold Oper.wp at h;generalize (bw a.eval o).run P w=x at*;cases x with
 |ok nx w'=>
  cases nx with
  |value u=>exact hn _ _ h
  |skip=>exact hn _ _ h
  |defer d=>exact hn _ _ h
  |enter f args=>exact⟨λh=>(by cases h),(aky h).mono λe aS h2=>by
   cases e with
   |returned v=>grind
   |panicked c=>exact h2.elim
   |outgrown=>obtain⟨_,_,h3⟩:=h2;exact h3.elim⟩
  |row row args=>exact⟨λh=>(by cases h),(atq h).mono λv aS h2=>hn _ _ h2⟩
  |_=>exact h.elim
 |halt hh w'=>cases hh<;>exact h.elim
theorem L4{C post}(j':∀a w,C a w->tt (Fr r) n P ops Q post a w):∀(l) a w,l.all s3=aB->cH P ops (Exit.then C zv) l a w->tt (Fr r) n P ops Q (l++post) a w
 |[],_,_,_,h=>j' _ _ h
 |o::l,a,w,hp,h=>by
  simp only[List.all_cons,Bool.and_eq_true]at hp;unfold cH at h;show tt (Fr r) n P ops Q (o::(l++post)) a w;unfold tt;by_cases hw:c4 o (cY ops a.tmps)=aB
  .rw[if_pos hw]at h⊢;rcases h with h|⟨_,a2,aS,h⟩;·exact Ms (λbz w' h=>L4 j' l bz w' hp.2 h) hp.1 h
   .exact h.elim
  .rw[if_neg hw]at h⊢;exact⟨λ_ _=>trivial,L4 j' l _ _ hp.2 h⟩
def aqt(k:Nat)(h:cH P ops (Exit.then (tt (Fr r) n P ops Q (rest.drop k)) zv) (rest.take k) a w)(hp:(rest.take k).all s3=true:=by kernel_rfl):tt (Fr r) n P ops Q rest a w:=by grind[L4,oR]
def vF(h:cH P ops (Exit.then (Q sh) zv) rest a w)(hp:rest.all s3=true:=by kernel_rfl):tt (Fr r) n P ops Q rest a w:=by have h2:=L4 (r:=r) (n:=n) (Q:=Q) (post:=[]) (λ_ _ h=>wpListIn_nil h) _ a w hp h;rwa [List.append_nil]at h2
def Kt{md}(hp:ops.all s3=aB):∀(fuel) eF a w,wpAny P md ops (Exit.then (Q sh) zv) fuel eF a w->wpAnyIn (Fr r) n P md ops Q fuel eF a w
 |0,_,_,_,h=>h
 |fuel+1,eF,a,w,h=>by
  refine⟨h.1,λi hi=>?_⟩;have h2:=h.2 i hi;unfold wpOp at h2;unfold wpOpIn;cases ho:ops[i]? with
  |none=>
   rw[ho]at h2;exact Kt hp fuel _ _ _ h2
  |some o=>
   rw[ho]at h2
   have Er:s3 o=true:=by obtain⟨hi,rfl⟩:=Array.getElem?_eq_some_iff.1 ho;exact Array.all_eq_true.1 hp i hi
   simp only at h2⊢;by_cases hw:c4 o (cY ops a.tmps)=aB
   .rw[if_pos hw]at h2⊢;rcases h2 with h|⟨_,a2,aS,h⟩;·exact Ms (λbz w' h=>Kt hp fuel _ bz w' h) Er h
    .exact h.elim
   .rw[if_neg hw]at h2⊢;exact⟨λ_ _=>trivial,Kt hp fuel _ _ _ h2⟩
def ke{id:Nat}{l:List cR}{q:Nat}(h:cH P l.toArray (Exit.then (Q sh) zv) l a w)(hp:l.all s3=true:=by kernel_rfl):(xB id l.toArray au).wpIn (Fr (ab q)) n P Q a w:=
 ahP (vF h hp)
def Nc{id:Nat}{l:List cR}(k:Nat)(h:cH P l.toArray (Exit.then (tt (Fr af) 0 P l.toArray Q (l.drop k)) zv) (l.take k) a w)(hp:(l.take k).all s3=true:=by kernel_rfl):(xB id l.toArray au).wp P Q a w:=
 (xH (n:=0)).1 (ahP (F:=Fr af) (aqt k h hp))
def T6 {an:aN} {FX:Nat->Prop} {bl:List bu} {Iv q:Nat} {a0:bV} (I:ai an FX w bl) (LE:List Nat) (bU:Nat->e4->aP) (out:(Nat->e4)->Nat->bu) (ins rd look:Nat->List Nat) (fin:List Nat)
 (j':∀us,c9 P ops (Exit.then (Q sh) zv) (oo ops) LE bU an FX bl out ins rd fin (λ_ _=>False) us 0 ops.toList a0)
 (hloc:Bc look out LE:=by(repeat' (first|exact trivial|refine And.intro (λus kr h=>?_) ?_|rfl|(simp(disch:=decide) only[h];done))))
 (hm:P.follows .mixedOrders=true:=by kernel_rfl) (hk:DW ops (oo ops) (yb ops)=true:=by kernel_rfl) (hsz:((List.range ops.size).all λi=>match oo ops i with|some d=>decide (d<a0.tmps.size)|none=>LE.contains i)=true:=by kernel_rfl) (hs:Fc bl.length ops.size (yb ops) LE ins rd look fin=true:=by kernel_rfl)
 (hp:ops.all s3=true:=by kernel_rfl):
 (xB Iv ops aB).wpIn (Fr (ab q)) n P Q a0 w:=wpIn_region_any hm (Kt hp _ _ _ _ (T5 I (yb ops) (oo ops) LE bU out ins rd look fin _ hk hsz hs (λ_ _ _ _ h=>h.elim) (hloc.spec) j'))
end
def obj(l:Nat)(o:Obj):bu:=⟨λb=>b=l,λw=>w.heap[l]?=ab o,λw w' h hl hp=>(h l aa (hl l aa)).trans hp⟩
def bQ:List bu->bu
 |[]=>emp
 |t::l=>both t (bQ l)
section
variable {an w w':aN} {FX:Nat->Prop} {l l':List bu} {s t:bu}
def ai.bQ(h:ai an FX w (l++l')):ai an FX w (bQ l::l'):=by
 induction l with
 |nil=>exact h.dT
 |cons t l bY=>
  have h1:=h.perm (by simpa using(Xd (l₁:=l) (a:=t) (l₂:=l')).symm);clear bY
  have key:∀(l) l',ai an FX w (l++l')->ai an FX w (Go.Proofs.YtcmhplknoglbkaaGreat.bQ l::l'):=by
   intro l;induction l with
   |nil=>intro l' h;exact h.dT
   |cons t l bY=>
    intro l' h;have h2:=bY _ (h.perm (by simpa using(Xd (l₁:=l) (a:=t) (l₂:=l')).symm));exact(h2.perm (Dr _ _ _)).star
  exact key _ l' h
def ai.kq(h:ai an FX w (Go.Proofs.YtcmhplknoglbkaaGreat.bQ l::l')):ai an FX w (l++l'):=by
 induction l generalizing l' with
 |nil=>exact h.drop 0
 |cons t l bY=>
  have h1:=h.fi;have h2:=bY (h1.perm (Dr _ _ _));exact h2.perm aU
def ai.GG(h:ai an FX w (t::l)):ai an FX w [t,Go.Proofs.YtcmhplknoglbkaaGreat.bQ l]:=by have h1:=h.perm (by simpa using(Xd (l₁:=l) (a:=t) (l₂:=[])).symm);exact h1.bQ.perm (Dr _ _ _)
def ai.xk(h:ai an FX w [t,Go.Proofs.YtcmhplknoglbkaaGreat.bQ l]):ai an FX w (t::l):=by have h1:=(h.perm (Dr _ _ _)).kq;exact h1.perm aU
def arj{q o}o'(h:q<w.heap.size):Turned w (w.putObj q o') (obj q o) (obj q o'):=
 ⟨⟨rfl,rfl,rfl,aU,λk _ hk=>World.putObj_heap_other (λe=>hk e)⟩,World.putObj_heap_same h,λb hb=>⟨by have e:b=q:=hb;rw[e];simpa using h,.inl hb⟩⟩
def ai.putObj{q o}(h:ai an FX w l)i o'(hi:l[i]?=ab (obj q o)):ai an FX (w.putObj q o') (l.set i (obj q o')):=
 h.CC i hi (arj o' ((h.has i hi).2 q aa))
def ai.obj{q:Nat}{o:Obj}(h:ai an FX w l)(i:Nat)(hi:l[i]?=ab (obj q o):=by rfl):w.heap[q]?=ab o:=h.at i hi
def ai.newObj o(h:ai an FX w l):ai an FX (w.alloc o) (Go.Proofs.YtcmhplknoglbkaaGreat.obj w.heap.size o::l):=
 h.new _ ⟨aq.alloc _ _,World.alloc_heap_new _ _,λb hb=>⟨by have e:b=w.heap.size:=hb;omega,by have e:b=w.heap.size:=hb;rw[e,World.size_alloc];omega⟩⟩
end
section
variable {α:Type} {P:ew} {g:Nat} {lb:Array aP} {encs:α->Array aP} {an:aN} {FX:Nat->Prop}
def ajq(P:ew)(l:Nat)(encs:α->Array aP)(an:aN)(FX:Nat->Prop)(S gO:List α->bu->Prop)(xs:List α):Prop:=
 ∀pre x W F t,pre++[x]<+:xs->S pre t->ai an FX W [t,F]->YieldAt (Fr af) 0 P l (encs x) W λe cL=>(e=aA (aj aB)/\∃b4,S (pre++[x]) b4/\ai an FX cL [b4,F])\/(e=aA (aj au)/\∃b4,gO (pre++[x]) b4/\ai an FX cL [b4,F])
def vb(an:aN)(FX:Nat->Prop)(S gO:List α->bu->Prop)(kD:bu->Prop)(xs:List α)(F:bu)(e:xC)(cL:aN):Prop:=
 (∃v,e=aA v)/\((∃b4 u,S xs b4/\kD u/\ai an FX cL [b4,u,F])\/∃pre b4 u,pre<+:xs/\gO pre b4/\ai an FX cL [b4,u,F])
def vb.all{S gO kD}{xs:List α}{F t u v cL}(hS:S xs t)(bH:kD u)(I:ai an FX cL [t,u,F]):vb an FX S gO kD xs F (aA v) cL:=⟨⟨_,aa⟩,.inl ⟨_,_,hS,bH,I⟩⟩
theorem vb.cut{S gO kD}{xs pre:List α}{F t u v cL}(hp:pre<+:xs)(hS:gO pre t)(I:ai an FX cL [t,u,F]):vb an FX S gO kD xs F (aA v) cL:=⟨⟨_,aa⟩,.inr ⟨_,_,_,hp,hS,I⟩⟩
def xZ(P:ew)(g:Nat)(lb:Array aP)(encs:α->Array aP)(an:aN)(FX:Nat->Prop)(T:bu)(kD:bu->Prop)(xs:List α):Prop:=
 ∀(l:Nat) (S gO:List α->bu->Prop) (W:aN) (F t:bu),ajq P l encs an FX S gO xs->S [] t->ai an FX W [T,t,F]->
  Calls P g (#[dK (vU l) #[] #[]]++lb) W (vb an FX S gO kD xs F)
def adO(an:aN)(FX:Nat->Prop)(S:List α->bu->Prop)(gO:Code->List α->bu->Prop)(xs:List α)(b F:bu):Exit->bV->aN->Prop
 |.normal,_,W=>∃t,S xs t/\ai an FX W [t,b,F]
 |.ret,_,W=>∃t,gO .ret xs t/\ai an FX W [t,b,F]
 |.exit id,_,W=>∃t,gO (.exit id) xs t/\ai an FX W [t,b,F]
 |.goto q,_,W=>∃t,gO (.goto q) xs t/\ai an FX W [t,b,F]
 |.panic _,_,_=>False
 |.outgrown,_,_=>False
def Bk{w:aN}{L:List bu}{q:Nat}{rd:Loop}{C:aN->Prop}(I:ai an FX w L)(i:Nat)(hr:rd.state=kh)(h:∀w',ai an FX w' (L.set i (obj q (fT {rd with state:=.busy})))->C w')(hi:L[i]?=ab (obj q (fT rd)):=by rfl):∃w',(UK q).run P w=.ok () w'/\C w':=
 ⟨_,run_beginRound (I.obj i hi) hr,h _ (I.putObj i _ hi)⟩
def IT {G1:Operand} {ps:Array Tmp} {assign body:Code} {Q:Exit->bV->aN->Prop} {s9:Array aP} {ds:List Deferred} {w:aN} {xs:List α} {T:bu} {kD:bu->Prop} {t F:bu} {ia:α->Array aP}
 (hg:(Act.mk s9 ds).eval G1=dK (.func g) #[] lb) (gq:∀args w,(callFunc g args).run P w=.ok (.enter g args) w) (nh:∀x,(encs x).size=ps.size) (hseq:xZ P g lb encs an FX T kD xs)
 (S:List α->bu->Prop) (gO:Code->List α->bu->Prop) (h0:S [] t) (I:ai an FX w [T,t,F])
 (Sj:∀(l:Nat) (rd:Loop) (pre:List α) (x:α) (W:aN) (t F:bu),pre++[x]<+:xs->rd.state=kh->S pre t->ai an FX W [t,obj l (fT rd),F]->
   assign.wpIn (Fr (ab l)) 0 P (Exit.then (λgp w1=>∃aS,(UK l).run P w1=.ok () aS/\body.wpIn (Fr (ab l)) 0 P (adO an FX S gO (pre++[x]) (obj l (fT {rd with state:=.busy})) F) gp aS) (λ_ _ _=>False))
    {tmps:=ia x,defers:=[]} W)
 (hdone:∀D t u W,S xs t->kD u->ai an FX W [t,u,obj D (ki (ab [])),F]->Q sh {tmps:=s9,defers:={target:=C5 D,args:=#[]}::ds} W)
 (Sm:∀D c pre t u W,pre<+:xs->gO c pre t->ai an FX W [t,u,obj D (ki (ab [])),F]->c.wp P Q {tmps:=s9,defers:={target:=C5 D,args:=#[]}::ds} W)
 (hat:∀x,(ps.zip (encs x)).foldl (λt (p,v)=>t.setIfInBounds p v) s9=ia x:=by(intro _;simp only[List.zip_toArray,List.zip_cons_cons,List.zip_nil_right,List.foldl_toArray',List.size_toArray,List.foldl_cons,List.foldl_nil,List.setIfInBounds_toArray,List.set_cons_succ,List.set_cons_zero];rfl)):
 (Code.rangeFunc G1 ps assign body).wp P Q {tmps:=s9,defers:=ds} w:=by
 refine(xH (n:=0)).1 (wpIn_rangeFunc ?_);intro fn hfn;obtain⟨rec,ni⟩:∃rec:LoopState->Option Code->Loop,rec=λst aJ=>{state:=st,pending:=aJ,fn,tmps:=s9,params:=ps,assign,body,defers:=w.heap.size}:=⟨_,aa⟩;obtain⟨D,eU⟩:=ex w.heap.size;obtain⟨l,hl⟩:=ex ((w.alloc (ki (ab []))).heap.size);have Gg:=I.newObj (ki (ab []));have kT:=Gg.newObj (fT (rec kh af));have RU:l=w.heap.size+1:=by rw[<-hl];simp
 rw[hl,eU]at kT;obtain⟨hZ,Hc⟩:=ex ((w.alloc (ki (ab []))).alloc (fT (rec kh af)));rw[Hc]at kT
 refine⟨l,[{target:=C5 D,args:=#[]}],hZ,{target:=.fn (.func g) lb,args:=#[dK (vU l) #[] #[]]},hZ,g,
  #[dK (vU l) #[] #[]]++lb,hZ,?_,?_,?_,?_,λh=>(by cases h),?_⟩;·rw[<-Hc,ni,RU,<-eU];exact run_enterLoop_outer _ _ _ _ _
 .simp only[resolve,hg];simp[go_sem]
 .intro _ _;trivial
 .grind[invoke]
 .refine sk.2 ((hseq l (λpre t=>∃t2,S pre t2/\t=both t2 (obj l (fT (rec kh af)))) (λpre t=>∃t2 c,gO c pre t2/\t=both t2 (obj l (fT (rec .done (ab c))))) hZ (both (obj D (ki (ab []))) F) _ ?_ ⟨t,h0,aa⟩ ?_).mono ?_)
  .rintro pre x W AJ _ e5 ⟨t2,hs,rfl⟩ hst;have h1:=hst.fi;have BX:=h1.obj 1;have hy:=run_yield (P:=P) (args:=encs x) BX aG;rw[ni]at hy;refine⟨fn,_,assign,body,hy,roundIn_of_wpIn hfn (wpIn_mono ((hat x).symm▸Sj l (rec kh af) pre x W t2 AJ e5 aG hs h1) ?_)⟩;rintro e gp w1 he;cases e with
   |normal=>
    obtain⟨aS,hb,Rw⟩:=he;refine⟨aS,hb,wpIn_mono Rw ?_⟩
    have fin:∀(jump) h9 t3,ai an FX h9 [t3,obj l (fT {rec kh af with state:=.busy}),AJ]->(Instr.endRound l _).run P h9=.ok _ (h9.putObj l (fT (rec _ _)))/\
     ai an FX _ _:=λjump h9 t3 h3=>by
     have hr:=run_endRound (P:=P) jump (h3.obj 1);have h4:ai an FX _ [t3,obj l _,AJ]:=h3.putObj 1 (fT (rec (if jump.isNone then kh else .done) jump)) aa;refine⟨?_,h4.star⟩;rw[hr,ni]
    rintro e a3 h9 hp;cases e with
    |normal=>
     obtain⟨t3,hs3,h3⟩:=hp;obtain⟨hr,h4⟩:=fin af h9 t3 h3;exact⟨_,_,hr,.inl ⟨aa,_,⟨t3,hs3,aa⟩,h4⟩⟩
    |ret=>
     obtain⟨t3,hs3,h3⟩:=hp;obtain⟨hr,h4⟩:=fin (ab .ret) h9 t3 h3;exact⟨_,_,hr,.inr ⟨aa,_,⟨t3,_,hs3,aa⟩,h4⟩⟩
    |exit id=>
     obtain⟨t3,hs3,h3⟩:=hp;obtain⟨hr,h4⟩:=fin (ab (.exit id)) h9 t3 h3;exact⟨_,_,hr,.inr ⟨aa,_,⟨t3,_,hs3,aa⟩,h4⟩⟩
    |goto q=>
     obtain⟨t3,hs3,h3⟩:=hp;obtain⟨hr,h4⟩:=fin (ab (.goto q)) h9 t3 h3;exact⟨_,_,hr,.inr ⟨aa,_,⟨t3,_,hs3,aa⟩,h4⟩⟩
    |panic ch=>exact hp.elim
    |outgrown=>exact hp.elim
   |_=>exact he.elim
  .have h2:=kT;have h3:ai an FX hZ [t,obj l _,obj D _,F,T]:=h2.pick [3,0,1,4,2];have h4:ai an FX hZ [obj D _,F,T,both t _]:=h3.star.pick [1,2,3,0];exact h4.star.pick [1,2,0]
  .rintro e fw ⟨⟨v,rfl⟩,(⟨_,u,⟨t2,hs,rfl⟩,bH,hst⟩|⟨pre,_,u,e5,⟨t2,c,hs,rfl⟩,hst⟩)⟩;·have h1:=hst.fi;have h2:=(h1.pick (l':=[both _ F,t2,obj l _,u]) [3,0,1,2]).fi;have h3:=h2.putObj 3 (fT {rec kh af with state:=FE}) aa;refine⟨af,_,by have:=OW (P:=P) (h2.obj 3) aG;rw[ni]at this;exact this,?_⟩;have h4:=hdone D t2 u _ hs bH ((ai.pick (l:=_) h3 [2,4,0,1]));rw[ni]at h4;exact h4
   .have h1:=hst.fi;have h2:=(h1.pick (l':=[both _ F,t2,obj l _,u]) [3,0,1,2]).fi;have h3:=h2.putObj 3 (fT {rec .done (ab c)with state:=FE}) aa;refine⟨ab c,_,by have:=OW (P:=P) (h2.obj 3) aG;rw[ni]at this;exact this,?_⟩;have h4:=Sm D c _ t2 u _ e5 hs ((ai.pick (l:=_) h3 [2,4,0,1]));grind[xH]
def at_region{F n id ops d Q a w}(h:(xB id ops d).wpIn F n P Q a w):(xB id ops d).wpIn F n P Q a w:=h
def ai.XT{w a b c}(h:ai an FX w (a++(b++c))):ai an FX w [Go.Proofs.YtcmhplknoglbkaaGreat.bQ a,Go.Proofs.YtcmhplknoglbkaaGreat.bQ b,Go.Proofs.YtcmhplknoglbkaaGreat.bQ c]:=by
 have h1:=h.bQ.perm (by simpa using(Gt (Go.Proofs.YtcmhplknoglbkaaGreat.bQ a) (b++c)).symm)
 have h2:=h1.bQ.perm (by have:=(Gt (Go.Proofs.YtcmhplknoglbkaaGreat.bQ b) (c++[Go.Proofs.YtcmhplknoglbkaaGreat.bQ a])).symm;simpa using this);exact h2.bQ.pick [1,2,0]
def ai.DI{w t b c}(h:ai an FX w (t::(b++c))):ai an FX w [t,Go.Proofs.YtcmhplknoglbkaaGreat.bQ b,Go.Proofs.YtcmhplknoglbkaaGreat.bQ c]:=
 (ai.XT (a:=[t]) h).kq
def ai.fC{w l}k(h:ai an FX w l):ai an FX w (Go.Proofs.YtcmhplknoglbkaaGreat.bQ (l.take k)::l.drop k):=ai.bQ (by grind[oR])
def II{A B b}(h:(aA b=aA (aj aB)/\A)\/(aA b=aA (aj au)/\B)):(b=aj aB/\A)\/(b=aj au/\B):=aG
def GX{o}{a:bV}{w l x xs ty encs}(ho:o.op=.call {callee:=.value x,args:=xs,argTypes:=ty})(hx:a.eval x=dK (vU l) #[] #[])(has:xs.map a.eval=encs):(bw a.eval o).run P w=(afU l encs).run P w:=by grind[bw,resolve,Deferred.ofValue,invoke]
def IU {o:cR} {a:bV} {w:aN} {l:Nat} {encs:Array aP} {Q:Exit->bV->aN->Prop} {ops:Array cR} {rest:List cR} {cn:xC->aN->Prop} (hy:YieldAt (Fr af) 0 P l encs w cn)
 (hK:∀b w',cn (aA b) w'->tt (Fr af) 0 P ops Q rest (a.put o.dst b) w') (iU:∀e w',cn e w'->∃v,e=aA v) (hx:(bw a.eval o).run P w=(afU l encs).run P w) (hw:c4 o (cY ops a.tmps)=true:=by kernel_rfl):tt (Fr af) 0 P ops Q (o::rest) a w:=by
 obtain⟨fn,tmps,assign,body,h1,h2⟩:=hy;unfold tt;rw[if_pos hw];refine⟨λ_ _=>trivial,?_⟩;show Oper.uponIn _ _ _ _ _ _ _ ((Oper.semAt af a.eval o).run P w);rw[Oper.semAt_none,hx,h1];refine⟨λh=>(by cases h),h2.1,λc cs hr=>?_⟩;obtain⟨e,w',hr2,hs⟩:=h2.2 c cs hr;obtain⟨v,rfl⟩:=iU e w' hr2;exact⟨aA v,w',hK v w' hr2,hs⟩
def Bq {f fn c args w cn} (hf:P.funcs[f]?=ab fn) (hb:fn.body=ab c)
 (h:c.wp P (V9 (Fr af) 0 P fn cn) {tmps:=args++Array.replicate (fn.ntmps -args.size) undef,defers:=[]} w):Calls P f args w cn:=
 (sk (n:=0)).1 (callsIn_of_wp_marks hf hb trivial (xH.2 h) aa)
def yF {fn:Func} {cn:xC->aN->Prop} {a:bV} {w:aN} {L:List bu} {D:Nat} {v:aP} (I:ai an FX w L) (i:Nat) (h:∀w',ai an FX w' (L.set i (obj D (ki af)))->(results fn a.tmps).run P w'=.ok v w'/\cn (aA v) w')
 (hd:a.defers=[{target:=C5 D,args:=#[]}]:=by rfl) (hi:L[i]?=ab (obj D (ki (ab []))):=by rfl):V9 (Fr af) 0 P fn cn .ret a w:=by
 show LeavesInM _ _ _ _ _ _ a.defers _ _;rw[hd];obtain⟨h1,h2⟩:=h _ (I.putObj i (ki af) hi);exact⟨aU,.inl ⟨D,_,aa,run_takeDeferred (I.obj i hi),⟨v,h1,h2⟩⟩⟩
def aqJ{fn:Func}{cn:xC->aN->Prop}{a:bV}{w:aN}{v:aP}(h1:(results fn a.tmps).run P w=.ok v w)(h2:cn (aA v) w)(hd:a.defers=[]:=by rfl):V9 (Fr af) 0 P fn cn .ret a w:=by show LeavesInM _ _ _ _ _ _ a.defers _ _;rw[hd];exact⟨v,h1,h2⟩
end
end
end Go.Proofs.YtcmhplknoglbkaaGreat
