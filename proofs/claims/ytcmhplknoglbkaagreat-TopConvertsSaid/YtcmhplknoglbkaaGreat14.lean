/- Part 14 of the proof of TopConvertsSaid. -/
import Derived.BigQuiet
import Derived.Deep.QuietTactic
import Derived.OrdersHeld
import Derived.StillTail
import Derived.RegionTactic
import Derived.Below
import Derived.Shelf.SlSortCmp.NoneTotal
import Derived.RangeFuncNested
import Derived.RangeFuncBound
import Derived.RangeFuncCalls
import Derived.RangeFuncLeaves
import Derived.RangeFuncBox
import Derived.RangeFuncWrites
import Derived.Shelf.Abstract
import Derived.Shelf.RegionOpen
import Derived.OwnWalkIn
import Derived.TacticsInMore
import Derived.LoopNIn
import Derived.LoopIn
import Derived.Maps.AppendAt
import Derived.Test.YtcmhplknoglbkaaGreat0
import Derived.Test.YtcmhplknoglbkaaGreat6
import Derived.Test.YtcmhplknoglbkaaGreat9
import Derived.Test.YtcmhplknoglbkaaGreat13
set_option linter.all false
set_option maxRecDepth 100000
set_option maxHeartbeats 4000000
open Go.Proofs.Tryz
open Array renaming replicate_succ->qc,replicate_zero->qd
open Bool renaming false->au,true->aB
open Go renaming Calls->aD,Program->ew,Value->aP,World->aN,bodyPost_ret->dp,callsIn_of_wp->C6,callsIn_wide->sk,heap_alloc_new->ff,ready_mono->Wd,results_none->JB,wpIn_wide->xH
open Go.Departure renaming mixedOrders->Ji
open Go.Ending renaming returned->aA
open Go.Exit renaming normal->sh,panic->tk
open Go.Fence renaming wide->mr
open Go.IntKind renaming i64->R
open Go.Obj renaming cells->bf,map->iP
open Go.Proofs.AnyF renaming slices_SortFunc_none->af0
open Go.Proofs.Tryz renaming func253->agw,ntmps253->ahh,prog->ax
open Go.Region renaming Mode->OI,binds->xF,ready->sj,waitsFor->ahF
open Go.RowKit renaming Hid->aE
open Go.Value renaming agg->av,bool->aj,int->J,map->dF,ownBlock->tr,pointer->ay,slice->ad,tuple->bh
open Go.World renaming cell?->y8,ownsRow_nil->AT
open List renaming append_toArray->qq,cons_append->py,getElem?_eq_getElem->cm,getElem?_eq_some_iff->eR,length_cons->jT,length_nil->l2,mem_append->iD,mem_append_left->A',mem_filter->mZ,mem_iff_getElem->Kb,mem_iff_getElem?->oQ,mem_map->gN,mem_of_getElem?->cM,nil_append->na,pairwise_iff_getElem->l3,push_toArray->qs,size_toArray->iR,take_add_one->fv
open Nat renaming le_refl->cp,lt_or_eq_of_le->P8
open Option renaming none->af,some->ab
open Option.some renaming injEq->wC
open Or renaming inl->bJ,inr->b3
namespace Go.Proofs.YtcmhplknoglbkaaGreat
namespace G
open Go.RowKit Go.MapKept
def succ(E:List (Int×Int))(u:Int):List Int:=(E.filter (λe=>decide (e.1=u))).map (·.2)
def pred(E:List (Int×Int))(v:Int):List Int:=(E.filter (λe=>decide (e.2=v))).map (·.1)
def auE E e u:succ (E++[e]) u=if u=e.1 then succ E u++[e.2]else succ E u:=by grind[succ]
def asy E e v:pred (E++[e]) v=if v=e.2 then pred E v++[e.1]else pred E v:=by grind[pred]
theorem IE E u:(succ E u).length<=E.length:=by grind[succ]
theorem Tr E u:(pred E u).length<=E.length:=by grind[pred]
def xY(w:aN)(a:List (Int×aP))(f:Int->List Int):Prop:=
 ∀u,(∀v,ed a u=ab v->w.ownsRow 0 3 1 v (f u).length ((f u).map (J R)))/\(ed a u=af->f u=[])
def sw(p q:Int×aP):Prop:=∀g,p.2.ownBlock=ab g->q.2.ownBlock≠ab g
def sw.symm{p q}(h:sw p q):sw q p:=λg b a=>h g a b
structure kz (w:aN) (F:Nat->Prop) (b:Nat) (n:Int) (nX mq mo:List (Int×Int)) (fJ cW fA:Nat) (eQ eO:List (Int×aP)):Prop where
 blk:w.heap[b]?=ab (bf #[J R n,dF (ab fJ),dF (ab cW),dF (ab fA)] 305 (0,0))
 mB:dZ w fJ vi qN (nX.map (λe=>(e,aj aB)))
 out:dZ w cW encI db eQ
 mL:dZ w fA encI db eO
 p6:xY w eQ (succ mq)
 p4:xY w eO (pred mo)
 Mq:∀p∈eQ,∀q∈eQ,p.1≠q.1->sw p q
 Mp:∀p∈eO,∀q∈eO,p.1≠q.1->sw p q
 Cj:∀p∈eQ,∀q∈eO,sw p q
 xy:F b
 CU:F fJ
 CW:F cW
 CV:F fA
 xA:∀p∈eQ,∀g,p.2.ownBlock=ab g->F g
 xz:∀p∈eO,∀g,p.2.ownBlock=ab g->F g
 S2:fJ≠cW
 S1:fJ≠fA
 S5:cW≠fA
 lo:eQ.length<=mq.length
 li:eO.length<=mo.length
 n0:0<=n
 qL:n<=1048576
def gV(w:aN)(F:Nat->Prop)(b:Nat)(n:Int)(E:List (Int×Int)):Prop:=
 (∃fJ cW fA eQ eO,kz w F b n E E E fJ cW fA eQ eO)/\E.Nodup/\∀e∈E,(0<=e.1/\e.1<n)/\(0<=e.2/\e.2<n)/\e.1≠e.2
section
variable {w w':aN} {F G:Nat->Prop} {b:Nat} {n:Int} {E nX mq mo:List (Int×Int)} {fJ cW fA:Nat} {eQ eO:List (Int×aP)}
theorem nn{base e:Nat}{v m xs}(h:w.ownsRow base e 1 v m xs)(k:aq G w w')(a:∀g,v.ownBlock=ab g->¬G g):w'.ownsRow base e 1 v m xs:=by
 refine⟨h.1,?_⟩;rcases h.2 with h2|⟨g,cap,cur,rfl,hb,hh,r⟩;·grind
 .exact b3 ⟨g,_,_,aa,hb,k.heap hh (a g aa),r⟩
def xY.only{a f}(h:xY w a f)(k:aq G w w')(b:∀p∈a,∀g,p.2.ownBlock=ab g->¬G g):xY w' a f:=λu=>
 ⟨λv hv=>nn ((h u).1 v hv) k (b _ (rV hv)),(h u).2⟩
def kz.only(h:kz w F b n nX mq mo fJ cW fA eQ eO)(k:aq G w w')(a:∀i,F i->¬G i):kz w' F b n nX mq mo fJ cW fA eQ eO:=
 {h with
  blk:=k.heap h.blk (a _ h.xy)
  mB:=h.mB.only k (a _ h.CU)
  out:=h.out.only k (a _ h.CW)
  mL:=h.mL.only k (a _ h.CV)
  p6:=h.p6.only k (λp d g c=>a _ (h.xA p d g c))
  p4:=h.p4.only k (λp d g c=>a _ (h.xz p d g c))}
def kz.E9(h:kz w F b n nX mq mo fJ cW fA eQ eO):(∀p∈eQ,∀g,p.2.ownBlock=ab g->g<w.heap.size)/\(∀p∈eO,∀g,p.2.ownBlock=ab g->g<w.heap.size):=
 ⟨λp c g a=>(((h.p6 p.1).1 p.2 (w8 h.out.nodup c)).lt g a).2,λp c g a=>(((h.p4 p.1).1 p.2 (w8 h.mL.nodup c)).lt g a).2⟩
theorem kz.mono(h:kz w F b n nX mq mo fJ cW fA eQ eO)(a:∀i,i<w.heap.size->F i->G i):kz w G b n nX mq mo fJ cW fA eQ eO:=
 {h with
  xy:=a _ (Array.getElem?_eq_some_iff.1 h.blk).1 h.xy
  CU:=a _ h.mB.lt h.CU
  CW:=a _ h.out.lt h.CW
  CV:=a _ h.mL.lt h.CV
  xA:=λp d g c=>a _ (h.E9.1 p d g c) (h.xA p d g c)
  xz:=λp d g c=>a _ (h.E9.2 p d g c) (h.xz p d g c)}
def gV.only(h:gV w F b n E)(k:aq G w w')(a:∀i,F i->¬G i):gV w' F b n E:=by obtain⟨⟨fJ,cW,fA,eQ,eO,g⟩,r⟩:=h;exact⟨⟨fJ,cW,fA,eQ,eO,g.only k a⟩,r⟩
def gV.aI(h:gV w F b n E)(k:ao w w'):gV w' F b n E:=h.only k (λ_ _ a=>a)
theorem gV.mono(h:gV w F b n E)(a:∀i,i<w.heap.size->F i->G i):gV w G b n E:=by obtain⟨⟨fJ,cW,fA,eQ,eO,g⟩,r⟩:=h;exact⟨⟨fJ,cW,fA,eQ,eO,g.mono a⟩,r⟩
def MN{b f}(h:xY w b f){p:Int×aP}(e:ed b p.1=ab p.2){g i d c}(a:p.2.ownBlock=ab g)(hi:w.heap[i]?=ab (iP d c)):g≠i:=by
 rintro rfl;rcases((h p.1).1 p.2 e).2 with⟨hv,_⟩|⟨j,cap,cur,hv,_,hh,_⟩;·rw[hv]at a;cases a
 grind[tr]
def _root_.Go.Proofs.YtcmhplknoglbkaaGreat.dZ.t'{fe enc}{ok:fe->Prop}{b i}(h:dZ w i enc ok b):∃a c,w.heap[i]?=ab (iP a c):=by obtain⟨a,c,hb,_⟩:=h;exact⟨a,c,hb⟩
def kz.KT(h:kz w F b n nX mq mo fJ cW fA eQ eO){e}(a:w.grownBy w' (ab fJ))(j:dZ w' fJ vi qN (jY (nX.map (λe=>(e,aj aB))) e (aj aB)))(m:e∉nX):
 kz w' F b n (nX++[e]) mq mo fJ cW fA eQ eO:=by
 have k:aq (λi=>i=fJ) w w':=aq.of_grownBy a (λi e=>aG);obtain⟨l,c,d⟩:=h.mB.t';have hh:rW (nX.map (λe=>(e,aj aB))) e=false:=by grind[Ib]
 rw[Mh _ hh]at j
 exact{h with
  blk:=k.heap h.blk (by rintro rfl;rw[h.blk]at d;cases d)
  mB:=aG
  out:=h.out.only k (λe=>h.S2 e.symm)
  mL:=h.mL.only k (λe=>h.S1 e.symm)
  p6:=h.p6.only k (λp f g a=>MN h.p6 (w8 h.out.nodup f) a d)
  p4:=h.p4.only k (λp f g a=>MN h.p4 (w8 h.mL.nodup f) a d)}
def kz.Ij(h:kz w F b n nX mq mo fJ cW fA eQ eO)u:w.ownsRow 0 3 1 ((ed eQ u).getD (ad af 0 0)) (succ mq u).length ((succ mq u).map (J R)):=by
 cases hm:ed eQ u with
 |none=>rw[(h.p6 u).2 hm];exact AT _ _ _ _
 |some v=>exact(h.p6 u).1 v hm
def kz.SE(h:kz w F b n nX mq mo fJ cW fA eQ eO)u:w.ownsRow 0 3 1 ((ed eO u).getD (ad af 0 0)) (pred mo u).length ((pred mo u).map (J R)):=by
 cases hm:ed eO u with
 |none=>rw[(h.p4 u).2 hm];exact AT _ _ _ _
 |some v=>exact(h.p4 u).1 v hm
def EZ{base e:Nat}{v m xs}(h:w.ownsRow base e 1 v m xs){g t cs fr}(b:w.heap[g]?=ab (bf cs t fr))(hne:e≠t):v.ownBlock≠ab g:=by
 rcases h.2 with⟨rfl,_⟩|⟨a,cap,cur,rfl,_,hh,_⟩;·simp[tr]
 grind[tr]
theorem sY{base e:Nat}{v m xs}(h:w.ownsRow base e 1 v m xs){g a c}(d:w.heap[g]?=ab (iP a c)):v.ownBlock≠ab g:=by
 rcases h.2 with⟨rfl,_⟩|⟨b,cap,cur,rfl,_,hh,_⟩;·simp[tr]
 grind[tr]
def xY.put {a f j w1 u x v' cW e c} (h:xY w a f) (l:∀p∈a,∀q∈a,p.1≠q.1->sw p q)
 (ei:aq (λi=>((ed a u).getD (ad af 0 0)).ownBlock=ab i) w w1) (hrow:w1.ownsRow 0 3 1 v' ((f u).length+1) ((f u).map (J R)++[J R x]))
 (yv:w.heap[cW]?=ab (iP e c)) (fo:aq (λi=>i=cW) w1 w') (hf:∀y,j y=if y=u then f y++[x]else f y):xY w' (jY a u v') j:=by
 have m:((ed a u).getD (ad af 0 0)).ownBlock≠ab cW:=by
  cases hm:ed a u with
  |none=>simp[tr]
  |some v=>exact sY ((h u).1 v hm) yv
 have n:w1.heap[cW]?=ab (iP e c):=ei.heap yv m;intro y;rw[SX,hf];by_cases d:y=u;·grind[nn,sY]
 .rw[if_neg d,if_neg d];refine⟨λv hv=>?_,(h y).2⟩;have hold:=(h y).1 v hv
  have o:w1.ownsRow 0 3 1 v (f y).length ((f y).map (J R)):=by
   refine nn hold ei (λg k b=>?_);cases hm:ed a u with
   |none=>rw[hm]at b;cases b
   |some r=>
    rw[hm]at b;exact l _ (rV hv) _ (rV hm) d g k b
  grind[nn,sY]
def acG {a u v' B} (j:∀p∈a,∀q∈a,p.1≠q.1->sw p q) (hlt:∀p∈a,∀g,p.2.ownBlock=ab g->g<B)
 (hloc:v'.ownBlock=((ed a u).getD (ad af 0 0)).ownBlock\/∃g,v'.ownBlock=ab g/\B<=g):(∀p∈jY a u v',∀q∈jY a u v',p.1≠q.1->sw p q)/\
  ∀q:Int×aP,(∀g,q.2.ownBlock=ab g->g<B)->(∀p∈a,sw p q)->∀p∈jY a u v',sw p q:=by
 have key:∀q:Int×aP,(∀g,q.2.ownBlock=ab g->g<B)->(∀b,ed a u=ab b->sw (u,b) q)->sw (u,v') q:=by
  intro q d h g i k;rcases hloc with h1|⟨fI,h1,f⟩
  .cases hm:ed a u with
   |none=>
    rw[hm]at h1;have f:v'.ownBlock=none:=h1;grind
   |some b=>
    rw[hm]at h1;have f:v'.ownBlock=b.ownBlock:=h1;exact h b hm g (f▸i) k
  grind
 constructor
 .intro p c q d hne;rcases Ac c with rfl|⟨c,aoZ⟩<;>rcases Ac d with rfl|⟨d,ayV⟩;·omega
  .grind[rV]
  .exact(key p (hlt p c) (λb h=>j _ (rV h) p c (λe=>aoZ e.symm))).symm
  .grind
 .intro q d l p c;grind[Ac,rV]
def Bn{g i t:Nat}{cs fr a c}(h:w.heap[g]?=ab (bf cs t fr))(hi:w.heap[i]?=ab (iP a c)):g≠i:=aG
def kz.outs (h:kz w F b n nX mq mo fJ cW fA eQ eO) {w1 u x v'}
 (ei:aq (λi=>((ed eQ u).getD (ad af 0 0)).ownBlock=ab i) w w1) (hrow:w1.ownsRow 0 3 1 v' ((succ mq u).length+1) ((succ mq u).map (J R)++[J R x]))
 (hloc:v'.ownBlock=((ed eQ u).getD (ad af 0 0)).ownBlock\/∃g,v'.ownBlock=ab g/\w.heap.size<=g) (fo:aq (λi=>i=cW) w1 w')
 (hm:dZ w' cW encI db (jY eQ u v')) (hF:∀i,w.heap.size<=i->F i):kz w' F b n nX (mq++[(u,x)]) mo fJ cW fA (jY eQ u v') eO:=by
 obtain⟨C,z,k⟩:=h.mB.t';obtain⟨E,B,d⟩:=h.out.t';obtain⟨D,A,l⟩:=h.mL.t';have hr:=h.Ij u;have r:=EZ hr h.blk bj;have ne:=sY hr k;have t:=sY hr d;have s:=sY hr l
 have hoi:∀p∈eO,∀g,p.2.ownBlock=ab g->((ed eQ u).getD (ad af 0 0)).ownBlock≠ab g:=by
  intro p c g a hv;cases fP:ed eQ u with
  |none=>rw[fP]at hv;cases hv
  |some v=>
   rw[fP]at hv;exact h.Cj _ (rV fP) p c g hv a
 have hop:=acG h.Mq h.E9.1 hloc;have f:=h.p4.only ei (λp c g a=>hoi p c g a);have m:=ei.heap d t
 exact{h with
  blk:=fo.heap (ei.heap h.blk r) (Bn h.blk d)
  mB:=(h.mB.only ei ne).only fo h.S2
  out:=hm
  mL:=(h.mL.only ei s).only fo (λe=>h.S5 e.symm)
  p6:=h.p6.put h.Mq ei hrow d fo (λy=>auE mq _ y)
  p4:=f.only fo (λp c g a=>MN f (w8 h.mL.nodup c) a m)
  lo:=by have:=ack eQ u v';have:=h.lo;simp;omega
  Mq:=hop.1
  Cj:=λp c q j=>hop.2 q (h.E9.2 q j) (λp' o=>h.Cj p' o q j) p c
  xA:=λp c g a=>by
   rcases Ac c with rfl|⟨c,_⟩
   .rcases hloc with h1|⟨fI,h1,h2⟩
    .replace a:v'.ownBlock=ab g:=a;rw[h1]at a;cases fP:ed eQ u with
     |none=>rw[fP]at a;cases a
     |some v=>rw[fP]at a;exact h.xA _ (rV fP) g a
    grind
   .exact h.xA p c g a}
def kz.ins (h:kz w F b n nX mq mo fJ cW fA eQ eO) {w1 u x v'}
 (ei:aq (λi=>((ed eO x).getD (ad af 0 0)).ownBlock=ab i) w w1) (hrow:w1.ownsRow 0 3 1 v' ((pred mo x).length+1) ((pred mo x).map (J R)++[J R u]))
 (hloc:v'.ownBlock=((ed eO x).getD (ad af 0 0)).ownBlock\/∃g,v'.ownBlock=ab g/\w.heap.size<=g) (fo:aq (λi=>i=fA) w1 w')
 (hm:dZ w' fA encI db (jY eO x v')) (hF:∀i,w.heap.size<=i->F i):kz w' F b n nX mq (mo++[(u,x)]) fJ cW fA eQ (jY eO x v'):=by
 obtain⟨B,v,f⟩:=h.mB.t';obtain⟨D,A,k⟩:=h.out.t';obtain⟨C,z,d⟩:=h.mL.t';have hr:=h.SE x;have m:=EZ hr h.blk bj;have ne:=sY hr f;have r:=sY hr k;have o:=sY hr d
 have hoi:∀p∈eQ,∀g,p.2.ownBlock=ab g->((ed eO x).getD (ad af 0 0)).ownBlock≠ab g:=by
  intro p c g a hv;cases fP:ed eO x with
  |none=>rw[fP]at hv;cases hv
  |some t=>
   rw[fP]at hv;exact h.Cj p c _ (rV fP) g a hv
 have hop:=acG h.Mp h.E9.2 hloc;have e:=h.p6.only ei (λp c g a=>hoi p c g a);have j:=ei.heap d o
 exact{h with
  blk:=fo.heap (ei.heap h.blk m) (Bn h.blk d)
  mB:=(h.mB.only ei ne).only fo h.S1
  mL:=hm
  out:=(h.out.only ei r).only fo h.S5
  p4:=h.p4.put h.Mp ei hrow d fo (λy=>asy mo _ y)
  p6:=e.only fo (λp c g a=>MN e (w8 h.out.nodup c) a j)
  li:=by have:=ack eO x v';have:=h.li;simp;omega
  Mp:=hop.1
  Cj:=λp c q l=>(hop.2 p (h.E9.1 p c) (λs hq'=>(h.Cj p c s hq').symm) q l).symm
  xz:=λp c g a=>by
   rcases Ac c with rfl|⟨c,_⟩
   .rcases hloc with h1|⟨fI,h1,h2⟩
    .replace a:v'.ownBlock=ab g:=a;rw[h1]at a;cases fP:ed eO x with
     |none=>rw[fP]at a;cases a
     |some t=>rw[fP]at a;exact h.xz _ (rV fP) g a
    grind
   .exact h.xz p c g a}
def gV.new{n}(c:0<=n)(h1:n<=1048576)(w:aN):
 gV ((((w.alloc (iP #[] 0)).alloc (iP #[] 0)).alloc (iP #[] 0)).alloc (bf #[J R n,dF (ab w.heap.size),dF (ab (w.heap.size+1)),dF (ab (w.heap.size+2))] 305))
  (λk=>w.heap.size<=k/\k<w.heap.size+4) (w.heap.size+3) n []:=by
 have a0:=dZ.made w vi qN;have a:=dZ.made (w.alloc (iP #[] 0)) encI db;have b:=dZ.made ((w.alloc (iP #[] 0)).alloc (iP #[] 0)) encI db;simp only[World.size_alloc]at a b;refine⟨⟨w.heap.size,w.heap.size+1,w.heap.size+2,[],[],?_⟩,aU,aU⟩
 exact{
  blk:=by have:=ff (((w.alloc (iP #[] 0)).alloc (iP #[] 0)).alloc (iP #[] 0)) (bf #[J R n,dF (ab w.heap.size),dF (ab (w.heap.size+1)),dF (ab (w.heap.size+2))] 305);simpa using this
  mB:=((a0.only (aq.alloc (F:=λ_=>False) _ _) (λh=>h)).only (aq.alloc (F:=λ_=>False) _ _) (λh=>h)).only (aq.alloc (F:=λ_=>False) _ _) (λh=>h)
  out:=(a.only (aq.alloc (F:=λ_=>False) _ _) (λh=>h)).only (aq.alloc (F:=λ_=>False) _ _) (λh=>h)
  mL:=b.only (aq.alloc (F:=λ_=>False) _ _) (λh=>h)
  p6:=λu=>⟨λv hv=>by grind[ed],λ_=>aa⟩
  p4:=λu=>⟨λv hv=>by grind[ed],λ_=>aa⟩
  Mq:=aU
  Mp:=aU
  Cj:=aU
  xy:=ae
  CU:=ae
  CW:=ae
  CV:=ae
  xA:=aU
  xz:=aU
  S2:=ae
  S1:=ae
  S5:=ae
  lo:=aU
  li:=aU
  n0:=c
  qL:=h1}
end
open Go.RowKit Go.MapKept
def Uf w:(zeroValue 4).run ax w=.ok (aj au) w:=aw
def Ft w:(zeroValue 82).run ax w=.ok (ad af 0 0) w:=aw
set_option maxHeartbeats 400000 in
def acs n w(d:0<=n)(h1:n<=1048576):
 aD ax 179 #[J R n] w λe w'=>∃b,e=aA (ay (ab ⟨b,0,af⟩))/\gV w' (λk=>w.heap.size<=k/\k<w'.heap.size) b n []/\ao w w':=by
 have f:decide (n<0)=false:=aG;have g:decide (1048576<n)=false:=aG;have h:=@run_makeMap ax;have c:=hid (gV.new d h1 w);go_enter func179,ntmps179;go_wp2;go_ret;refine⟨_,aa,c.out.mono (λi _ hi=>⟨hi.1,ae⟩),?_⟩;exact(((aq.alloc w _).trans (aq.alloc _ _) (λ_ _ a=>a)).trans (aq.alloc _ _) (λ_ _ a=>a)).trans (aq.alloc _ _) (λ_ _ a=>a)
set_option maxHeartbeats 400000 in
def w6 b n w(hc:w.cell? ⟨b,0,af⟩=ab (J R n)):aD ax 303 #[ay (ab ⟨b,0,af⟩)] w λe w'=>e=aA (J R n)/\w=w':=by go_enter func303,ntmps303;go_wp2;go_ret;exact⟨aa,aa⟩
def pZ(n v:Int):Bool:=decide (0<=v/\v<n)
set_option maxHeartbeats 400000 in
def yY b(n v)w(hc:w.cell? ⟨b,0,af⟩=ab (J R n)):aD ax 253 #[ay (ab ⟨b,0,af⟩),J R v] w λe w'=>e=aA (aj (pZ n v))/\w=w':=by
 by_cases c:0<=v
 .have h1:decide (0<=v)=true:=aG;have hr:pZ n v=decide (v<n):=by grind[pZ]
  have a:=hid hr;clear hr;go_enter agw,ahh;go_wp2_with (go_at_call 303;refine(w6 _ _ _ hc).mono ?_;rintro e w' ⟨rfl,rfl⟩);go_ret;exact⟨by rw[a.out];rfl,aa⟩
 .have h1:decide (0<=v)=false:=aG;have hr:pZ n v=false:=by grind[pZ]
  have a:=hid hr;clear hr;go_enter agw,ahh;go_wp2;go_ret;exact⟨by rw[a.out];rfl,aa⟩
end G
section
section
variable {P:ew} {ops:Array Oper} {Q:Exit->Act->aN->Prop} {md:OI} {S:aN->Prop} {d:Nat}
def vN(P:ew)(md:OI)(ops:Array Oper)(Q:Exit->Act->aN->Prop)(S:aN->Prop)(d:Nat):Nat->Array Bool->Act->aN->Prop
 |0,b,a,w=>sj md ops b=[]/\Q sh a w
 |e+1,b,a,w=>
  (sj md ops b=[]->Q sh a w)/\
  ∀i∈sj md ops b,wpOp P ops Q i (λc w'=>(i≠d->S w')/\vN P md ops Q S d e (b.setIfInBounds i aB) c w') a w
def afd:∀(b) c a w,vN P md ops Q S d b c a w->wpAny P md ops Q b c a w
 |0,_,_,_,h=>h
 |b+1,_,_,_,h=>⟨h.1,λi hi=>wpOp_mono (λe w' f=>afd b _ e w' f.2) (h.2 i hi)⟩
def avy {i oi v} (hi:ops[i]?=ab oi) (u:∀(j:Nat) o cs b,ops[j]?=ab o->o.op≠.select cs b)
 (hd:ahF md ops d i=aB) (D8:∀c a w,Q (tk c) (a.put oi.dst v) w->Q (tk c) a w):
 ∀(n) f a w,
  (∀j g,ops[j]?=ab g->j≠i->f.getD j aB=au->(∀e∈g.after,xF md e=aB->e.on≠i)->oi.apart ops g=aB)->
  i∈sj md ops f->YieldsIf P ops S oi v a->S w->
  vN P md ops Q S d n (f.setIfInBounds i aB) (a.put oi.dst v) w->vN P md ops Q S d (n+1) f a w:=by
 intro n;induction n with
 |zero=>
  intro f a w _ hr r p m;refine⟨λh=>aG,λj q=>?_⟩;by_cases l:j=i;·subst l;exact r.wpOp hi p ⟨λ_=>p,m⟩
  .have:=Wd q l;rw[m.1]at this;cases this
 |succ n G=>
  intro f a w t hr r p m;refine⟨λh=>aG,λj q=>?_⟩;by_cases l:j=i;·subst l;exact r.wpOp hi p ⟨λ_=>p,m⟩
  .have h1:=m.2 j (Wd q l);obtain⟨y,g,s,hall⟩:=mem_ready.1 q;have A:∀e∈g.after,xF md e=aB->e.on≠i:=λe C hb D=>by grind[mem_ready]
   have F:j≠d:=by grind[Region.waitsFor_spec]
   have B:=wpOp_putIf s (t j g s l y A) (λcs b=>u i oi cs b hi) (λcs b=>u j g cs b s) D8 r h1
   have E:∀k ok,ops[k]?=ab ok->k≠i->(f.setIfInBounds j aB).getD k aB=au->
    (∀e∈ok.after,xF md e=aB->e.on≠i)->oi.apart ops ok=true:=λk ok hk z x hno=>by
    refine t k ok hk z ?_ hno;by_cases hjk:j=k;·grind
    .rw[getD_set_ne aB hjk]at x;exact x
   grind[wpOp_mono,Wd,Array.setIfInBounds_comm]
def nr {i oi v e b a w} (hi:ops[i]?=ab oi)
 (hs:Region.noSelect ops=aB) (hf:Region.free md ops b i=aB) (hr:(sj md ops b).contains i=aB) (hd:ahF md ops d i=aB)
 (D8:∀c a w,Q (tk c) (a.put oi.dst v) w->Q (tk c) a w) (hy:YieldsIf P ops S oi v a) (hS:S w)
 (h:vN P md ops Q S d e (b.setIfInBounds i aB) (a.put oi.dst v) w):vN P md ops Q S d (e+1) b a w:=
 avy hi (Region.noSelect_spec hs) hd D8 e b a w (Region.free_spec hi hf) aG hy hS h
def ky(P:ew)(md:OI)(ops:Array Oper)(Q:Exit->Act->aN->Prop)(S:aN->Prop)(d:Nat)(c:Nat)(e:Array Bool)(a:Act)(w:aN)(rs:List Nat):Prop:=
 ∀i∈rs,wpOp P ops Q i (λb w'=>(i≠d->S w')/\vN P md ops Q S d c (e.setIfInBounds i aB) b w') a w
theorem ky.nil{b c a w}:ky P md ops Q S d b c a w []:=λ_ h=>by grind
def ky.cons {c f a w i o rs} (m:ops[i]?=ab o) (n:Region.wanted o (yielded ops a.tmps)=aB)
 (h:∀b:Act->aN->Prop,aE (∀a w,(i≠d->S w)->vN P md ops Q S d c (f.setIfInBounds i aB) a w->b a w)->Oper.wp P o a w b Q)
 (hs:ky P md ops Q S d c f a w rs):ky P md ops Q S d c f a w (i::rs):=λj e=>by
 rcases List.mem_cons.1 e with rfl|e;·refine wpOp_step m (λb g=>?_);rw[if_pos n];exact h b (λa w k l=>g a w ⟨k,l⟩)
 .exact hs j e
def xp {rs c b a w} (hr:sj md ops b=rs) (hne:rs≠[])
 (h:ky P md ops Q S d c b a w rs):vN P md ops Q S d (c+1) b a w:=⟨λe=>absurd (hr▸e) hne,hr▸h⟩
def afc{b a w}(hr:sj md ops b=[])(h:Q sh a w):∀c,vN P md ops Q S d c b a w
 |0=>⟨hr,h⟩
 |_+1=>⟨λ_=>h,aG⟩
def afj {id a w} (c:P.follows Ji=aB) d S (b:S w.drew)
 (h:S w.drew->vN P .any ops Q S d ops.size (Array.replicate ops.size au) a w.drew):(Code.region id ops aB).wp P Q a w:=
 wp_region_any c (afd _ _ _ _ (h b))
end
end
open Go.RowKit Go.MapKept
def apD:(ax.info? 413).map (λi=>(i.zero,i.size,i.bytes))=ab (ab (av #[J R 0,J R 0,J R 0]),3,24):=aw
def anp{l:List (Int×Int)}{k e}(hk:l[k]?=ab e)(h:∀x∈l.take k,eE x/\0<x.2)(a:eE e/\0<e.2):∀x∈l.take (k+1),eE x/\0<x.2:=by grind[fv]
def acX{F w w'}{base e size:Nat}{v m xs}(h:w.ownsRow base e size v m xs)(k:aq F w w')(a:∀i,v.ownBlock=ab i->¬F i):w'.ownsRow base e size v m xs:=by
 refine⟨h.1,?_⟩;rcases h.2 with h2|⟨g,cap,cur,rfl,hb,hh,r⟩;·grind
 .exact b3 ⟨g,_,_,aa,hb,k.heap hh (a g aa),r⟩
def acW{w:aN}{base e n:Nat}{v xs}(h:w.ownsRow base e 3 v n xs):∃A c,v=ad A n c:=by
 rcases h.2 with⟨rfl,rfl⟩|⟨g,cap,cur,rfl,_⟩;·simp
 .simp
def YL:∀(t) k,(wM k t).Pairwise (λx y=>x.2<y.2)
 |[],_=>.nil
 |e::t,k=>by
  refine List.pairwise_cons.2 ⟨λy a=>?_,YL t (k+1)⟩;obtain⟨i,hi⟩:=oQ.1 a;rw[Q5]at hi;cases he:t[i]? with
  |none=>rw[he]at hi;cases hi
  |some b=>
   rw[he]at hi;simp only[Option.map_some,wC]at hi;subst hi;show(k:Int)<((k+1+i:Nat):Int);omega
def amB l:(iG l).Nodup:=(YL l 0).imp (λh e=>aG)
def acx{l}{k:Nat}{e}(hk:l[k]?=ab e)(h:¬(eE e/\0<e.2)):¬∃S,S.Perm (iG l)/\jS S:=by rintro⟨S,hp,hg⟩;have a:(e,(k:Int))∈S:=hp.mem_iff.2 (Ab.2 ⟨k,hk,aa⟩);exact h (hg.2 _ a)
def ano{S}(c:S.Pairwise (λx y=>x.1.1<=y.1.1))(hv:∀x∈S,eE x.1/\0<x.1.2)(h:∀i x y,S[i]?=ab x->S[i+1]?=ab y->x.1.1+x.1.2<=y.1.1):jS S:=by
 refine⟨l3.2 λi j hi b a=>?_,hv⟩;have h1:=h i S[i] S[i+1] (cm hi) (cm ae);rcases P8 (show i+1<=j from a)with hlt|e;·have d:=l3.1 c (i+1) j ae b hlt;omega
 .grind
def aq8{l}{c:List jQ}(d:c.Perm (iG l))(q:c.Pairwise (λx y=>x.1.1<=y.1.1)){i x y}(hx:c[i]?=ab x)(g:c[i+1]?=ab y)(hlt:y.1.1<x.1.1+x.1.2):¬∃S,S.Perm (iG l)/\jS S:=by
 rintro⟨S,hp,hg⟩;have p:c.Nodup:=d.nodup_iff.2 (amB l);obtain⟨hi,r⟩:=eR.1 hx;obtain⟨o,s⟩:=eR.1 g;have hne:x≠y:=by grind[l3]
 have hle:x.1.1<=y.1.1:=by grind[l3]
 have m:x∈S:=(d.trans hp.symm).mem_iff.1 (cM hx);have j:y∈S:=(d.trans hp.symm).mem_iff.1 (cM g);obtain⟨a,e,f⟩:=Kb.1 m;obtain⟨b,hb,k⟩:=Kb.1 j;have n:=(hg.2 y j).2;rcases Nat.lt_trichotomy a b with h|h|h;·have:=l3.1 hg.1 a b e hb h;rw[f,k]at this;omega
 .grind
 .have:=l3.1 hg.1 b a hb e h;rw[f,k]at this;omega
def aq4{w:aN}{b x y z t}(h:w.heap[b]?=ab (bf #[x,y,z] t (0,0))):∀j u,[x,y,z][j]?=ab u->w.cell? ((⟨b,0,af⟩:Addr).add j)=ab u:=by grind[Addr.add,y8]
def aut A c f w:aD ax 307 #[ad A 0 c,f] w λe w'=>e=aA (bh #[])/\w'=w:=af0 Tryz.ab0 A c f w
section
attribute [local go_sem] Oper.semAt_some
abbrev Part:=Int×(Int×Int)
def parts(e:Int×Int)(S:List jQ):List Part:=(S.filter (λx=>meets x.1 e)).map (λx=>(x.2,kM x.1 e))
def adb{e}{S:List jQ}{k x}(hx:S[k]?=ab x)(h:meets x.1 e=aB):parts e (S.take (k+1))=parts e (S.take k)++[(x.2,kM x.1 e)]:=by grind[fv,parts]
theorem ac8{e S}(h:∀x∈S,meets x.1 e=au):parts e S=[]:=by grind[parts,List.filter_eq_nil_iff]
def asf{e S k}(h:∀i x,k<=i->S[i]?=ab x->meets x.1 e=au):parts e (S.take k)=parts e S:=by
 have h1:parts e S=parts e (S.take k)++parts e (S.drop k):=by grind[parts,List.take_append_drop]
 grind[ac8,oQ]
def ase{c d S k}(h:IsCut S.length (uw S c) k):parts (c,d) (S.take k)=[]:=by
 refine ac8 (λx hx=>?_);obtain⟨i,hi⟩:=oQ.1 hx;rw[List.getElem?_take]at hi;split at hi;·rename_i hik;have:=h.before hi hik;grind[meets]
 .grind
def ac9{c d S k x}(a:jS S)(hk:c<x.1.1+x.1.2)(hx:S[k]?=ab x)(e:meets x.1 (c,d)=au):parts (c,d) (S.take k)=parts (c,d) S:=by
 refine asf (λi y hi b=>?_);have f:=(a.at hx).2;simp only[meets,decide_eq_false_iff_not]at e⊢;rcases P8 hi with h|h;·have h1:=a.lt hx b h;have g:=(a.at b).2;omega
 grind
def ac7{e}{S:List jQ}{k x}(hx:S[k]?=ab x):(parts e (S.take k)).length<S.length:=by grind[parts]
def ada e S k:parts e (S.take k)<+:parts e S:=by grind[parts]
def aeV{e:Ending}{A B}(h:(e=aA (aj aB)/\A)\/(e=aA (aj au)/\B)):∃a,e=aA (aj a)/\(a=aB->A)/\(a=au->B):=aG
def ans{w w'}(h:ao w w'):w.grownBy w' none:=⟨h.1,h.2,h.3,h.4,λk hk _=>h.5 k hk (λh=>h)⟩
set_option maxHeartbeats 4000000 in
def arO n (hn:1<=n) jd (l O C p) S (c d) (mE:eE (c,d)) (hS:jS S) (D u0:List Part->aN->Prop)
 (zN:∀pre x W,D pre W->pre.length<S.length->YieldAt mr (n -1) ax l #[J R x.1,av #[J R x.2.1,J R x.2.2]] W λe a=>(e=aA (aj aB)/\D (pre++[x]) a/\aq jd W a)\/(e=aA (aj au)/\u0 (pre++[x]) a))
 W (sL:∀pre hZ fw,D pre hZ->ao hZ fw->D pre fw)
 (gn:aE (∀a,aq jd W a->n' a p S/\a.cell? ⟨O,0,af⟩=ab (ay (ab ⟨p,0,af⟩))/\a.cell? ⟨C,0,af⟩=ab (J R c)/\a.cell? ⟨C,1,af⟩=ab (J R d))) (h0:D [] W):
 CallsIn mr n ax 309 #[.func (.yield l) #[] #[],ay (ab ⟨O,0,af⟩),ay (ab ⟨C,0,af⟩)] W λe a=>(∃v,e=aA v)/\(D (parts (c,d) S) a\/∃pre,pre<+:parts (c,d) S/\u0 pre a):=by
 have mY:=hid zN;have K:=hid sL;have T:=hid (And.intro hS mE);have re:=hid h0;have ayL:ax.follows Ji=true:=aw;obtain⟨E,z,fo,ly⟩:=gn.out W (aq.refl _ _);have hlen:=E;obtain⟨_,_,_,_,hl⟩:=hlen;have X:=hid (ajE p S c W E hS);clear E zN sL hS mE h0;refine C6 func309 aa trivial ?_ aa;simp only[ntmps309,iR,jT,l2,qc,qd,qs,qq,na,py];gi_wp2_with (first|(refine⟨trivial,?_⟩;gi_at_call 310;have f:=sk (n:=n -1).2 X.out;with_reducible refine f.mono ?_;clear f;rintro e w1 ⟨k,rfl,V,hg1⟩)|(gi_at_call 310;have f:=(callsIn_wide (n:=n -1)).2 X.out;with_reducible refine f.mono ?_;clear f;rintro e w1 ⟨k,rfl,V,hg1⟩));have P:=hid (And.intro V hg1);have aor:=V.1;clear V hg1 X z fo ly;gi_loopw [4] (λi wr=>∃z:Nat,z<=S.length/\k<=z/\i=J R z/\aE (D (parts (c,d) (S.take z)) wr/\aq jd W wr)) (λi _=>S.length -(intOf i).toNat);case atStart=>exact⟨k,aor,cp _,aa,hid ⟨by rw[ase P.out.1];exact K.out _ _ _ re.out P.out.2,P.out.2.mono (λ_ _ h=>h.elim)⟩⟩
 case round=>
  obtain⟨q,hq,aau,rfl,w⟩:=hrel;obtain⟨E,z,fo,ly⟩:=gn.out wr w.out.2;have Q:=hid E;by_cases hlt:q<S.length
  .have hb0:(q:Int)<(S.length:Int):=ae;obtain⟨x,hx⟩:∃x,S[q]?=ab x:=⟨_,cm hlt⟩;obtain⟨b,o,oW,gi,fQ,iM,p3⟩:=E.at hx;have U:=hid (And.intro hx (And.intro (P.out.1.behind hx aau) (T.out.1.at hx)));obtain⟨⟨dc,bo⟩,lg⟩:=x;simp only at fQ iM p3
   have y:aE (∀w',ao wr w'->w'.cell? ⟨O,0,af⟩=ab (ay (ab ⟨p,0,af⟩))/\w'.cell? ⟨C,0,af⟩=ab (J R c)/\w'.cell? ⟨C,1,af⟩=ab (J R d)/\w'.cell? ⟨p,0,af⟩=ab (ad (ab ⟨b,o,af⟩) S.length oW)/\w'.cell? ⟨b,o+q*3,af⟩=ab (J R dc)/\w'.cell? ⟨b,o+q*3+1,af⟩=ab (J R bo)/\w'.cell? ⟨b,o+q*3+2,af⟩=ab (J R lg)):=
    hid (λw' h=>⟨h.cell z (λh=>h),h.cell fo (λh=>h),h.cell ly (λh=>h),h.cell gi (λh=>h),h.cell fQ (λh=>h),h.cell iM (λh=>h),h.cell p3 (λh=>h)⟩)
   have M:aE (∀w1 B u v,ao wr w1->wr.heap.size<=B->ao wr ((w1.setCell ⟨B,0,af⟩ u).setCell ⟨B,1,af⟩ v)):=hid (λw1 B u v h ie=>by have q:=(h.mono (G:=λi=>i=B) (λ_ _ h=>h.elim)).trans ((aq.setCell (F:=λi=>i=B) w1 (p:=⟨B,0,af⟩) aa u).trans (aq.setCell (F:=λi=>i=B) _ (p:=⟨B,1,af⟩) aa v) (λ_ _ h=>h)) (λ_ _ h=>h);exact q.mono (λi hi h=>ae))
   have Y:aE (∀w',ao (wr.drew.alloc (bf #[J R 0,J R 0] 35)) w'->w'.frozen? ⟨wr.heap.size,0,af⟩=au/\w'.frozen? ⟨wr.heap.size,1,af⟩=au/\w'.cell? ⟨wr.heap.size,0,af⟩=ab (J R 0)/\w'.cell? ⟨wr.heap.size,1,af⟩=ab (J R 0)):=hid (λw' hw'=>by have g4:=hw'.heap (ff wr.drew (bf #[J R 0,J R 0] 35)) (λh=>h);have g5:w'.heap[wr.heap.size]?=ab (bf #[J R 0,J R 0] 35 (0,0)):=g4;grind[World.frozen?,y8]);have dv:aE (∀a,aD ax 202 #[av #[J R dc,J R bo],av #[J R c,J R d]] a λe w'=>e=aA (bh #[gJ (kM (dc,bo) (c,d)),aj (meets (dc,bo) (c,d))])/\ao a w'):=hid (λa=>Mw dc bo c d a U.out.2.2.1 T.out.2);have bK:aE (∀fb g,kM (dc,bo) (c,d)=(fb,g)->∀MF:Nat,MF=q->True):=hid (λ_ _ _ _ _=>trivial);have H:aE (S[q]?=ab ((dc,bo),lg)):=hid U.out.1;obtain⟨m,hm⟩:∃m:Bool,meets (dc,bo) (c,d)=m:=⟨_,aa⟩;obtain⟨fb,g,eo⟩:∃fb g:Int,kM (dc,bo) (c,d)=(fb,g):=⟨_,_,aa⟩;have t:=hid (And.intro hm eo)
   have Px:aE (∀a,aD ax 202 #[av #[J R dc,J R bo],av #[J R c,J R d]] a λe w'=>e=aA (bh #[av #[J R fb,J R g],aj m])/\ao a w'):=hid (λa=>by have h:=dv.out a;rw[hm,eo]at h;exact h);clear hx E hm eo dv bK gi fQ iM p3;gi_wp2_with (first|(refine⟨trivial,?_⟩;gi_at_call 311;have f:=sk (n:=n -1).2 (w6 p S wr Q.out);with_reducible refine f.mono ?_;clear f;rintro e aS ⟨rfl,rfl⟩)|(gi_at_call 311;have f:=(callsIn_wide (n:=n -1)).2 (w6 p S wr Q.out);with_reducible refine f.mono ?_;clear f;rintro e aS ⟨rfl,rfl⟩));refine xH.2 ?_
   go_region_held3 (λw'=>w'.cell? ⟨O,0,af⟩=ab (ay (ab ⟨p,0,af⟩))/\w'.cell? ⟨C,0,af⟩=ab (J R c)/\w'.cell? ⟨C,1,af⟩=ab (J R d)/\w'.cell? ⟨p,0,af⟩=ab (ad (ab ⟨b,o,af⟩) S.length oW)/\w'.cell? ⟨b,o+q*3,af⟩=ab (J R dc)/\w'.cell? ⟨b,o+q*3+1,af⟩=ab (J R bo)/\w'.cell? ⟨b,o+q*3+2,af⟩=ab (J R lg))
    (first
      |exact y.out _ (aq.drew _)
      |exact y.out _ s
      |exact y.out _ (ao.trans (aq.drew _) (aq.alloc _ _))
      |exact y.out _ (ao.trans s (aq.alloc _ _))
      |exact y.out _ (M.out _ _ _ _ s (cp _))
      |exact y.out _ (M.out _ _ _ _ (ao.trans s (aq.alloc _ _)) s.size))
    (first
      |(go_at_call 202;refine(Px.out _).mono ?_;rintro e A ⟨rfl,ha0⟩;(have s:ao wr A:=(by first|exact ao.trans (aq.drew _) ha0|exact ao.trans (ao.trans (aq.drew _) (aq.alloc _ _)) ha0));(try(have hz:=Y.out _ ha0;obtain⟨e',z2,z3,z4⟩:=hz))))
   .have N:=x5 A (J R fb) (J R g) 35;have j:=hid (ao.trans s (aq.alloc (F:=λ_=>False) A (bf #[J R fb,J R g] 35)));have I:=hid N;clear N ha0 s M Y Px;generalize A.alloc (bf #[J R fb,J R g] 35)=r at*;generalize A.heap.size=B at*;cases m with
    |false=>
     gi_wp2_with fail;refine xH.2 ?_;go_quiet (fail);gi_wp2;refine dp (JB aa _ _ _) aa ?_;refine⟨⟨_,aa⟩,bJ ?_⟩;have h:=ac9 T.out.1 U.out.2.1 H.out t.out.1;rw[<-h];exact K.out _ _ _ w.out.1 (ao.trans j.out (aq.drewN _ _))
    |true=>
     obtain⟨fn,tmps,assign,body,hy,iU⟩:=mY.out (parts (c,d) (S.take q)) (lg,(fb,g)) r.drew (K.out _ _ _ w.out.1 (ao.trans j.out (aq.drew _))) (ac7 H.out);dsimp only at hy;obtain⟨iw,br,c7,ix,oI,NH,NI⟩:=y.out _ (ao.trans j.out (aq.drew _));have CM:r.drew.cell? ⟨B,0,af⟩=ab (J R fb):=I.out.1;have NJ:r.drew.cell? ⟨B,1,af⟩=ab (J R g):=I.out.2;have L:=hid (adb H.out t.out.1);have Z:aE (aq jd W r.drew):=hid (w.out.2.trans ((ao.trans j.out (aq.drew _)).mono (λ_ _ h=>h.elim)) (λ_ _ h=>h));gi_wp2_with fail;gi_region_with_o (refine iU.mono ?_;intro e Bh hp;obtain⟨qv,rfl,Sg,LD⟩:=aeV hp)
     all_goals
      cases qv with
      |true=>
       gi_wp2;go_roundw
       case rel=>
        have h:=Sg aa;refine⟨q+1,ae,ae,aU,hid ⟨?_,Z.out.trans h.2 (λ_ _ h=>h)⟩⟩;rw[L.out,t.out.2];exact h.1
       case measure=>simp[intOf];omega
      |false=>
       gi_wp2;refine dp (JB aa _ _ _) aa ?_;refine⟨⟨_,aa⟩,b3 ⟨_,?_,LD (by first|rfl|trivial)⟩⟩;have h:=ada (c,d) S (q+1);rw[L.out,t.out.2]at h;exact h
   .have N:=TN A wr.heap.size (J R 0) (J R 0) (J R fb) (J R g) z3 z4;have j:=hid (M.out A wr.heap.size (J R fb) (J R g) s (cp _));have I:=hid N;clear N ha0 s e' z2 z3 z4 M Y Px;generalize (A.setCell ⟨wr.heap.size,0,af⟩ (J R fb)).setCell ⟨wr.heap.size,1,af⟩ (J R g)=r at*;generalize wr.heap.size=B at*;cases m with
    |false=>
     gi_wp2_with fail;refine xH.2 ?_;go_quiet (fail);gi_wp2;refine dp (JB aa _ _ _) aa ?_;refine⟨⟨_,aa⟩,bJ ?_⟩;have h:=ac9 T.out.1 U.out.2.1 H.out t.out.1;rw[<-h];exact K.out _ _ _ w.out.1 (ao.trans j.out (aq.drewN _ _))
    |true=>
     obtain⟨fn,tmps,assign,body,hy,iU⟩:=mY.out (parts (c,d) (S.take q)) (lg,(fb,g)) r.drew (K.out _ _ _ w.out.1 (ao.trans j.out (aq.drew _))) (ac7 H.out);dsimp only at hy;obtain⟨iw,br,c7,ix,oI,NH,NI⟩:=y.out _ (ao.trans j.out (aq.drew _));have CM:r.drew.cell? ⟨B,0,af⟩=ab (J R fb):=I.out.1;have NJ:r.drew.cell? ⟨B,1,af⟩=ab (J R g):=I.out.2;have L:=hid (adb H.out t.out.1);have Z:aE (aq jd W r.drew):=hid (w.out.2.trans ((ao.trans j.out (aq.drew _)).mono (λ_ _ h=>h.elim)) (λ_ _ h=>h));gi_wp2_with fail;gi_region_with_o (refine iU.mono ?_;intro e Bh hp;obtain⟨qv,rfl,Sg,LD⟩:=aeV hp)
     all_goals
      cases qv with
      |true=>
       gi_wp2;go_roundw
       case rel=>
        have h:=Sg aa;refine⟨q+1,ae,ae,aU,hid ⟨?_,Z.out.trans h.2 (λ_ _ h=>h)⟩⟩;rw[L.out,t.out.2];exact h.1
       case measure=>simp[intOf];omega
      |false=>
       gi_wp2;refine dp (JB aa _ _ _) aa ?_;refine⟨⟨_,aa⟩,b3 ⟨_,?_,LD (by first|rfl|trivial)⟩⟩;have h:=ada (c,d) S (q+1);rw[L.out,t.out.2]at h;exact h
  .obtain rfl:q=S.length:=ae;gi_wp2_with (first|(refine⟨trivial,?_⟩;gi_at_call 311;have f:=sk (n:=n -1).2 (w6 p S wr Q.out);with_reducible refine f.mono ?_;clear f;rintro e aS ⟨rfl,rfl⟩)|(gi_at_call 311;have f:=(callsIn_wide (n:=n -1)).2 (w6 p S wr Q.out);with_reducible refine f.mono ?_;clear f;rintro e aS ⟨rfl,rfl⟩));go_end0;exact⟨⟨_,aa⟩,bJ (by have h:=w.out.1;rw[List.take_length]at h;exact h)⟩
def arP n q(c d)w:
 CallsIn mr n ax 252 #[ay q,av #[J R c,J R d]] w λe w'=>e=aA (.func (.func 309) #[] #[ay (ab ⟨w.heap.size,0,af⟩),ay (ab ⟨w.heap.size+1,0,af⟩)])/\w'=(w.alloc (bf #[ay q] 295)).alloc (bf #[J R c,J R d] 35):=by
 refine C6 func252 aa trivial ?_ aa;simp only[ntmps252,iR,jT,l2,qc,qd,qs,qq,na,py];gi_wp2;go_ret;exact⟨aa,aa⟩
theorem ap6{w w' jd p S}(h:n' w p S)(k:aq jd w w')(a:∀i,i<w.heap.size->¬jd i):n' w' p S:=
 h.aI (k.mono (λi hi h=>(a i hi h).elim))
def art{jd A B C}(h:aq jd A B)(k:aq jd B C):aq jd A C:=h.trans k (λ_ _ h=>h)
def ars{jd s}(a:∀i,s<=i->jd i)W l(o o')(b:s<=l)(_:W.heap[l]?=ab o)(_:o.isCells=au)(_:o.isWalk=au):aq jd W (W.putObj l o'):=by have g:=grownBy_putObj' W l o';exact⟨g.1,g.2,g.3,g.4,λk hk c=>g.5 k hk (λe=>aG)⟩
def arS n (z:1<=n) jd (i f p) S (c d) (v:eE (c,d)) (u:jS S) w
 (gn:aE (∀a,aq jd w a->n' a p S/\a.cell? ⟨i,0,af⟩=ab (ay (ab ⟨p,0,af⟩))/\a.cell? ⟨f,0,af⟩=ab (J R c)/\a.cell? ⟨f,1,af⟩=ab (J R d))):
 SeqStopsK mr n ax 309 #[ay (ab ⟨i,0,af⟩),ay (ab ⟨f,0,af⟩)] (λx:Part=>#[J R x.1,av #[J R x.2.1,J R x.2.2]]) (aq jd) (λcq=>cq=parts (c,d) S) (λpre=>pre<+:parts (c,d) S) S.length w:=λl j m W b t _ y s=>by
 have A:ao w W:=⟨b.os,b.tape,b.output,b.size,λk hk _=>b.block k hk⟩;refine(arO n z jd l i f p S c d v u j m y W (λpre o q h g=>t pre o q af h (ans g) (λr e=>aG)) (hid (λa h=>gn.out a ((A.mono (λ_ _ h=>h.elim)).trans h (λ_ _ h=>h)))) s).mono ?_;simp
end
namespace G
def Ia{E u x}:x∈succ E u↔(u,x)∈E:=by unfold succ;simp only[gN,mZ,decide_eq_true_eq];simp
def aqT{E u x}:u∈pred E x↔(u,x)∈E:=by unfold pred;simp only[gN,mZ,decide_eq_true_eq];simp
inductive Path (E:List (Int×Int)) (v:Int):Int->Prop where
 |one {x:Int} (h:(v,x)∈E):Path E v x
 |more {x y:Int} (h:Path E v x) (e:(x,y)∈E):Path E v y
def W4(E:List (Int×Int))(v:Int)(xs:List Int):Prop:=xs.Pairwise (·<·)/\∀x,x∈xs↔Path E v x
theorem z'{xs:List Int}(h:xs.Pairwise (·<·)):xs.Nodup:=h.imp (λh=>ae)
def YO{xs cq:List Int}(hx:xs.Pairwise (·<·))(c:cq.Pairwise (·<·))(h:∀x,x∈xs↔x∈cq):xs=cq:=
 ((List.perm_ext_iff_of_nodup (z' hx) (z' c)).2 h).eq_of_pairwise (λa b _ _ h1 d=>ae) hx c
structure ti (E:List (Int×Int)) (v:Int) (seen stack:List Int):Prop where
 Ae:seen.Nodup
 path:∀x,x∈seen\/x∈stack->Path E v x
 first:∀y∈succ E v,y∈seen\/y∈stack
 closed:∀s∈seen,∀y∈succ E s,y∈seen\/y∈stack
def ti.start E v:ti E v [] (succ E v):=
 ⟨aU,λx h=>by rcases h with h|h;cases h;exact .one (Ia.1 h),λy h=>b3 h,λ_ h=>aG⟩
def ti.skip{E v x seen st}(h:ti E v seen (st++[x]))(hx:x∈seen):ti E v seen st:=by
 have key:∀y,y∈seen\/y∈st++[x]->y∈seen\/y∈st:=λy a=>by grind
 exact⟨h.Ae,λy a=>h.path y (a.imp id (λa=>A' _ a)),λy a=>key y (h.first y a),λs b y a=>key y (h.closed s b y a)⟩
def ti.visit{E v x seen st}(h:ti E v seen (st++[x]))(hx:x∉seen):ti E v (seen++[x]) (st++succ E x):=by
 have f:Path E v x:=h.path x (b3 aU);have key:∀y,y∈seen\/y∈st++[x]->y∈seen++[x]\/y∈st++succ E x:=λy c=>by grind
 refine⟨List.nodup_append.2 ⟨h.Ae,aU,λa g b hb e=>?_⟩,λy c=>?_,λy c=>key y (h.first y c),λs d y c=>?_⟩;·grind
 .rcases c with c|c
  .rcases iD.1 c with c|c;·exact h.path y (bJ c)
   .grind
  .rcases iD.1 c with c|c;·exact h.path y (b3 (A' _ c))
   .exact .more f (Ia.1 c)
 .rcases iD.1 d with d|d;·exact key y (h.closed s d y c)
  grind
def ti.done{E v seen}(h:ti E v seen [])x:x∈seen↔Path E v x:=by
 refine⟨λhx=>h.path x (bJ hx),λp=>?_⟩;induction p with
 |one e=>
  rcases h.first _ (Ia.2 e)with h|h;·omega
  .grind
 |more _ e a=>
  rcases h.closed _ a _ (Ia.2 e)with h|h;·omega
  .grind
def du(n:Nat):List Int:=(List.range n).map (λi:Nat=>(i:Int))
theorem qK{n x}:x∈du n↔0<=x/\x<n:=by
 unfold du;simp;constructor;·omega
 .rintro⟨h0,h1⟩;exact⟨x.toNat,ae,ae⟩
theorem CG n:(du n).Pairwise (·<·):=by unfold du;rw[List.pairwise_map];exact List.pairwise_lt_range.imp (λh=>ae)
def EJ{n:Nat}{xs:List Int}(a:xs.Nodup)(h:∀x∈xs,0<=x/\x<n):xs.length<=n:=by have:=a.length_le_of_subset (l₂:=du n) (λx hx=>qK.2 (h x hx));simpa [du]using this
def Aj{E n}(a:∀e∈E,(0<=e.1/\e.1<n)/\(0<=e.2/\e.2<n)/\e.1≠e.2){v x}(p:Path E v x):0<=x/\x<n:=by
 cases p with
 |one e=>grind
 |more _ e=>grind
def alY{n s t m L}(b:s<n)(a:m<=L):(n -(s+1))*(L+1)+(t+m)<(n -s)*(L+1)+(t+1):=by
 have:(n -s)*(L+1)=(n -(s+1))*(L+1)+(L+1):=by rw[<-Nat.succ_mul];congr 1;omega
 omega
end G
end Go.Proofs.YtcmhplknoglbkaaGreat
