/- Part 2 of the proof of TopMemorySaid. -/
import Derived.Deep.RegionHeld
import Derived.Laws.Rows
import Derived.Laws.Tables
import Derived.Laws.CopyRow
import Derived.Deep.MidRow
import Derived.Laws.MakeOwn
import Derived.Test.YtcmhplknoglbkaaGreatQm0
import Derived.Test.YtcmhplknoglbkaaGreatQm1
set_option linter.all false
set_option maxRecDepth 100000
set_option maxHeartbeats 4000000
open Go.Proofs.Tryz
open Array renaming getElem?_eq_getElem->Vf,getElem?_eq_none->ahy,getElem?_eq_some_iff->tA,replicate->OB
open Bool renaming and_eq_true->zB,eq_iff_iff->ahJ,false->ao,not_eq_true'->OJ,or_eq_true->ahL,true->az
open Go renaming Act->b3,Addr->bT,Exit->iI,Oper->cS,Operand->hY,PanicEntry->rV,Program->ew,Tmp->nv,TypeId->gb,Value->aP,World->aQ,asIntOf->zJ,execOp->bA,grownCap->x',heap_alloc_new->fL,loadCellsFrom->PA,mem_ready->KN,run_loadVar_row->D1,run_underlying->gN,sizeOf->mR,storeCells->BU,typeInfo->ny,undef->a7,wpList->cN,wpList_step->rW,yielded->cZ
open Go.Act renaming eval->u6,put->tC
open Go.Addr renaming add->u7
open Go.Builtin renaming append->x0,append_->pa,firstCells->rT,lenOf->wz,zeroCells->nt
open Go.Callee renaming builtin->pb
open Go.Calls renaming mono->Kp
open Go.Exit renaming normal->sI,panic->tD
open Go.Instr renaming buildSlice->Vw,loadAt->Ks,slice->OX,sliceAt->OY,sliceBound->OZ,sliceBounds->O0,sureAddr->BI
open Go.IntKind renaming i64->R
open Go.Next renaming value->dc
open Go.Obj renaming cells->bo
open Go.Op renaming alloc->VB,buildSlice->VC,load->nV,slice->BJ,store->x2
open Go.Oper renaming upon->ah5,wp->iy,wp_mono->ah7
open Go.Region.Mode renaming any->wK
open Go.Region renaming binds->x6,noSelect->Pr,noSelect_spec->Ps,wanted->c9
open Go.Result renaming andThen_ok->jE,ok->bf
open Go.Sem renaming run_bind->gx,run_pure->kh
open Go.TypeDesc renaming slice->iJ
open Go.Value renaming agg->ar,int->J,pointer->ay,slice->ae
open Go.World renaming block_lt_of_cell?->vd,cell?_of_block->DZ,freeze->W0
open Inhabited renaming default->oF
open List.Pairwise renaming cons->G',nil->Ha
open List.Perm renaming refl->Ca,swap->Cb
open List renaming all_eq_true->z7,append_assoc->kD,contains_eq_mem->alN,eq_nil_iff_forall_not_mem->Ej,eq_nil_of_length_eq_zero->j3,filter_congr->Ek,filter_eq_nil_iff->X8,filter_eq_self->z',getElem?_eq_none->Hf,getElem?_eq_none_iff->QM,map_append->fP,map_congr_left->Cc,map_cons->j5,map_nil->ln,mem_append->iX,mem_append_left->Cd,mem_cons->gy,mem_cons_of_mem->p8,mem_cons_self->sU,mem_filter->nB,mem_map->gP,mem_of_getElem?->cX,mem_range->mU,nodup_append->yu,not_mem_nil->fQ,pairwise_cons->wY,perm_ext_iff_of_nodup->QO,range->dQ
open Nat renaming add_mul->Cg,add_sub_cancel_left->tV,le_refl->b9,le_trans->dT,lt_of_lt_of_le->wZ,strongRecOn->QV,zero_le->cC
open Option renaming map_some->q6,none->af,some->ab
open Option.some renaming injEq->w2
open Or renaming inl->b1,inr->cm
namespace Go.Proofs.YtcmhplknoglbkaaGreat
section
open Go
section
variable {P:ew} {ops:Array cS} {Q:iI->b3->aQ->Prop}
def fk(dst:Nat->Option nv)(val:Nat->aP):b3->List Nat->b3
 |a,[]=>a
 |a,j::l=>fk dst val (a.put (dst j) (val j)) l
def dF{U:Type}(us:Nat->U)(i:Nat)(u:U):Nat->U:=λk=>if k=i then u else us k
def lS(d:Option nv)(a:b3):Value:=match d with
 |some t=>a.eval (.tmp t)
 |none=>a7
def oP(ops:Array cS)(j:Nat):Option Tmp:=(ops[j]?).bind (·.dst)
def ae1(a:b3)d v(t:Nat):(a.put d v).tmps[t]?=if d=ab t/\t<a.tmps.size then ab v else a.tmps[t]?:=by
 cases d with
 |none=>rfl
 |some d=>grind[tC]
def put_defers(a:b3)d v:(a.put d v).defers=a.defers:=by cases d<;>rfl
def ae2(a:b3)d v:(a.put d v).tmps.size=a.tmps.size:=by cases d<;>simp[tC]
variable {dst:Nat->Option nv} {val val':Nat->aP}
theorem DC:∀(l) a,(fk dst val a l).defers=a.defers
 |[],_=>aa
 |_::l,a=>(DC l _).trans (put_defers a _ _)
theorem rI:∀(l) a,(fk dst val a l).tmps.size=a.tmps.size
 |[],_=>aa
 |_::l,a=>(rI l _).trans (ae2 a _ _)
theorem Gb{t:Nat}:∀(l) a,(∀j∈l,dst j≠ab t)->(fk dst val a l).tmps[t]?=a.tmps[t]?
 |[],_,_=>aa
 |j::l,a,h=>by have h1:=Gb l (a.put (dst j) (val j)) (λk hk=>h k (p8 _ hk));rw[fk,h1,ae1,if_neg (λe=>h j (sU ..) e.1)]
theorem Jx{j t:Nat}(ht:dst j=ab t):∀(l) a,(∀i∈l,dst i=ab t->i=j)->j∈l->t<a.tmps.size->(fk dst val a l).tmps[t]?=ab (val j)
 |[],_,_,h,_=>by grind
 |i::l,a,hu,hm,hs=>by
  by_cases hl:j∈l;·exact Jx ht l _ (λk hk=>hu k (p8 _ hk)) hl (by rw[ae2];exact hs)
  .have hi:i=j:=by
    rcases gy.1 hm with h|h;·exact h.symm
    .exact absurd h hl
   subst hi;rw[fk,Gb l _ (λk hk e=>hl (hu k (p8 _ hk) e▸hk)),ae1,if_pos ⟨ht,hs⟩]
theorem UH i:∀(l) a,fk dst val a (l++[i])=(fk dst val a l).put (dst i) (val i)
 |[],_=>aa
 |_::l,_=>UH i l _
theorem DB:∀(l) a,(∀j∈l,val j=val' j)->fk dst val a l=fk dst val' a l
 |[],_,_=>aa
 |j::l,a,h=>by rw[fk,fk,h j (sU ..)];exact DB l _ (λk hk=>h k (p8 _ hk))
def amh{a b:b3}(h1:a.tmps=b.tmps)(h2:a.defers=b.defers):a=b:=by cases a;cases b;grind
def axU{n}(hu:∀i j,i<n->j<n->i≠j->∀t,dst i=ab t->dst j≠ab t){l l'}a(hl:∀j∈l,j<n)(h:∀j,j∈l↔j∈l'):
 fk dst val a l=fk dst val a l':=by
 refine amh ?_ (by grind[DC]);refine Array.ext_getElem? (λt=>?_);grind[Jx,Gb,rI]
def EI(ops:Array cS)(dst:Nat->Option nv)(D:List (List Nat)):Bool:=
 Pr ops&&(dQ ops.size).all λi=>
  (dst i==oP ops i)&&
  ((ops.getD i oF).after.all λe=>!x6 wK e||(D.getD i []).contains e.on)&&
  ((D.getD i []).all λk=>decide (k<i)&&((D.getD k []).all λm=>(D.getD i []).contains m)&&(ops.getD i oF).after.any λe=>x6 wK e&&(e.on==k||(D.getD e.on []).contains k))&&
  ((dQ ops.size).all λj=>(i==j||dst i==af||dst i !=dst j)&&
    (((ops.getD i oF).looksAt ops).all λt=>dst j !=ab t||i==j||(D.getD i []).contains j||(D.getD j []).contains i))
structure Kl (ops:Array cS) (dst:Nat->Option nv) (D:List (List Nat)):Prop where
 uX:Pr ops=az
 RM:∀i,i<ops.size->dst i=oP ops i
 after:∀i o,ops[i]?=ab o->∀e∈o.after,x6 wK e=az->e.on∈D.getD i []
 lt:∀i,i<ops.size->∀k∈D.getD i [],k<i
 trans:∀i,i<ops.size->∀k∈D.getD i [],∀m∈D.getD k [],m∈D.getD i []
 reach:∀i o,ops[i]?=ab o->∀k∈D.getD i [],∃e∈o.after,x6 wK e=az/\(e.on=k\/k∈D.getD e.on [])
 uniq:∀i j,i<ops.size->j<ops.size->i≠j->∀t,dst i=ab t->dst j≠ab t
 looks:∀i o,ops[i]?=ab o->∀t∈o.looksAt ops,∀j,j<ops.size->dst j=ab t->i=j\/j∈D.getD i []\/i∈D.getD j []
def ao6{D}(h:EI ops dst D=az):Kl ops dst D:=by
 unfold EI at h;rw[zB,z7]at h;obtain⟨h0,h⟩:=h
 have h2:∀i,i<ops.size->(dst i=oP ops i)/\(∀e∈(ops.getD i oF).after,x6 wK e=az->e.on∈D.getD i [])/\
  (∀k∈D.getD i [],(k<i/\∀m∈D.getD k [],m∈D.getD i [])/\∃e∈(ops.getD i oF).after,x6 wK e=az/\(e.on=k\/k∈D.getD e.on []))/\
  (∀j,j<ops.size->(i=j\/dst i=af\/dst i≠dst j)/\∀t∈(ops.getD i oF).looksAt ops,dst j=ab t->i=j\/j∈D.getD i []\/i∈D.getD j []):=by
  intro i hi;have:=h i (mU.2 hi);simp only[zB,beq_iff_eq,z7,alN,decide_eq_true_eq,ahL,bne_iff_ne,mU,Array.all_eq_true_iff_forall_mem,OJ,Array.any_eq_true']at this;grind
 have qq:∀i o,ops[i]?=ab o->i<ops.size/\ops.getD i oF=o:=λi o ho=>by obtain⟨hi,e⟩:=tA.1 ho;exact⟨hi,by simp[hi,e]⟩
 refine⟨h0,λi hi=>(h2 i hi).1,λi o ho e he hb=>?_,λi hi k hk=>((h2 i hi).2.2.1 k hk).1.1,λi hi k hk=>((h2 i hi).2.2.1 k hk).1.2,λi o ho k hk=>?_,λi j hi hj je t e=>?_,λi o ho t ht j hj e=>?_⟩;·grind
 .obtain⟨hi,cr⟩:=qq i o ho;exact cr▸((h2 i hi).2.2.1 k hk).2
 .grind
 .grind
def UO o(a b:b3)(h:∀t∈o.looksAt ops,a.tmps[t]?=b.tmps[t]?):c9 o (cZ ops a.tmps)=c9 o (cZ ops b.tmps):=by
 unfold c9;cases hg:o.guard with
 |none=>rfl
 |some aqg=>
  obtain⟨g,want⟩:=aqg
  have hy:cZ ops a.tmps g=cZ ops b.tmps g:=by
   unfold cZ;cases ht:(ops[g]?).bind (·.dst)with
   |none=>rfl
   |some t=>grind[Oper.looksAt]
  simp only[hy]
def eval_congr o(a b:b3)(hs:∀cs c,o.op≠.select cs c)(h:∀t∈o.looksAt ops,a.tmps[t]?=b.tmps[t]?):bA a.eval o=bA b.eval o:=
 execOp_congr o hs λx hx=>by
  cases x with
  |tmp t=>
   have:=h t (Cd _ (List.mem_filterMap.2 ⟨.tmp t,aH,aa⟩));simp[u6,this]
  |_=>rfl
def NB(a:b3)(d:Option nv)v(h:∀t,d=ab t->t<a.tmps.size)(hd:d=af->v=a7):lS d (a.put d v)=v:=by
 cases d with
 |none=>exact(hd aa).symm
 |some t=>simp[lS,u6,tC,h t aa]
theorem NL(a:b3)(d:Option nv)v(h:∀t,d=ab t->t<a.tmps.size):a.put d v=a.put d (lS d (a.put d v)):=by
 cases d with
 |none=>rfl
 |some t=>simp[lS,u6,tC,h t aa]
def ag1 {o a b w} {K:aP->aQ->Prop} {QZ Qa} (he:bA b.eval o=bA a.eval o) (Mw:∀d,o.dst=ab d->d<b.tmps.size) (hsz:b.tmps.size=a.tmps.size)
 (EV:∀c w,QZ (tD c) b w->Qa (tD c) a w) (cv:LetsOut QZ->LetsOut Qa)
 (h:o.wp P b w (λjA w'=>jA.defers=b.defers/\K (lS o.dst jA) w') QZ):o.wp P a w (λbu w'=>∃v,bu=a.put o.dst v/\lS o.dst bu=v/\K v w') Qa:=by
 have aqU:=λd hd=>hsz▸Mw d hd
 have hout:∀v,lS o.dst (b.put o.dst v)=lS o.dst (a.put o.dst v):=λv=>by
  cases hd:o.dst with
  |none=>rfl
  |some t=>simp[lS,u6,tC,Mw t hd,aqU t hd]
 unfold iy at*;rw[he]at h;generalize (bA a.eval o).run P w=r at*;cases r with
 |ok n w'=>
  cases n<;>simp only[ah5]at h⊢;case value u=>grind[NL]
  case skip=>grind[NL]
  case defer d=>
   have h1:=h.1;rw[put_defers]at h1;have:=congrArg List.length h1;simp at this
  case enter f args=>
   refine Kp h λe Oe he=>?_;grind[NL]
  grind[Rows.mono,NL]
 |halt x w'=>
  cases x<;>simp only[ah5]at h⊢;case panic u=>grind
variable {U:Type}
structure Lv where
 A:Option bT
 b:Nat
 c:Nat
def Dm(P:ew)(ops:Array cS)(zy:aQ)(o:cS)(a:b3):Value:=
 if c9 o (cZ ops a.tmps)=az then(match(bA a.eval o).run P zy with|.ok (dc v) _=>v|_=>a7)else a7
section
variable {D:List (List Nat)} {LE:List Nat} {bU:Nat->Lv->aP} {cz:Nat->(Nat->Lv)->aQ->Prop} {T:aQ->Prop} {E:Nat->(Nat->Lv)->aQ->aQ->Prop} {QP:List rV->aQ->Prop} {az0:Nat->aQ->Prop} {us:Nat->Lv}
end
def adT {a0 val val' D} (hk:Kl ops dst D) {i o} (ho:ops[i]?=ab o) {l l'} (hl:∀j∈l,j<ops.size/\i∉D.getD j []/\i≠j) (hl':∀j∈l',j<ops.size/\i∉D.getD j []/\i≠j)
 (er:∀j∈D.getD i [],j∈l/\j∈l'/\val j=val' j):∀t∈o.looksAt ops,(fk dst val a0 l).tmps[t]?=(fk dst val' a0 l').tmps[t]?:=λt ht=>by
 by_cases hs:t<a0.tmps.size
 .have u:∀k j,k<ops.size->j<ops.size->dst j=ab t->dst k=ab t->k=j:=λk j vN vL AM e=>by
   by_cases hkj:k=j;·omega
   .exact absurd AM (hk.uniq k j vN vL hkj t e)
  by_cases hj:∃j∈D.getD i [],dst j=ab t;·grind[Jx]
  .have hno:∀k,k<ops.size->i∉D.getD k []->i≠k->dst k≠ab t:=λk vN h1 h2 e=>by
    rcases hk.looks i o ho t ht k vN e with h|h|h;·omega
    .grind
    .grind
   grind[Gb]
 grind[rI]
end
end
section
open Go.RowKit Go.MapKept
abbrev aX(w:aQ)(B:Nat)(cs:Array aP)(t:gb):Prop:=w.heap[B]?=ab (bo cs t (0,0))
section
variable {F:Nat->Prop} {w w':aQ} {B:Nat} {cs:Array aP} {t:gb}
def aX.lt(h:aX w B cs t):B<w.heap.size:=(tA.1 h).1
theorem aX.cell(h:aX w B cs t)k{v}(hv:cs[k]?=ab v):w.cell? ⟨B,k,af⟩=ab v:=(cell_of_row w B k cs t _ h).trans hv
def aX.frozen(h:aX w B cs t)k:w.frozen? ⟨B,k,af⟩=false:=by grind[World.frozen?]
def aX.rangeAt(h:aX w B cs t)o l(hl:∀j v,l[j]?=ab v->cs[o+j]?=ab v):w.rangeAt B o l:=λj v hv=>h.cell _ (hl j v hv)
theorem av.setRow w B cs:av (λi=>i=B) w (w.setRow B cs):=
 ⟨rfl,rfl,rfl,bg,λk _ hn=>by grind[World.setRow]⟩
theorem aX.setRow(h:aX w B cs t)cs':aX (w.setRow B cs') B cs' t:=setRow_heap w B cs cs' t _ h
structure vo (F:Nat->Prop) (w w':aQ):Prop where
 only:av F w w'
 shape:∀B cs t,aX w B cs t->∃cs',aX w' B cs' t/\cs'.size=cs.size
def au.keep(h:au w w'):vo F w w':=⟨h.to,λ_ cs _ hb=>⟨cs,av.heap h hb (λh=>h),aa⟩⟩
def vo.ael{F}(h:vo (λ_=>False) w w'):vo F w w':=⟨h.only.mono (λ_ _ h=>h.elim),h.shape⟩
def vo.aek{cs'}(h:av (λi=>i=B) w w')(h1:aX w B cs t)(h2:aX w' B cs' t)(hs:cs'.size=cs.size):vo (λi=>i=B) w w':=
 ⟨h,λahD aAs cc hb=>by
   by_cases e:ahD=B;·grind
   .exact⟨_,h.heap hb e,aa⟩⟩
end
section
variable {P:ew} {o:cS} {a:b3} {w:aQ} {K:b3->aQ->Prop} {Q:iI->b3->aQ->Prop}
def Uo{t z}(hz:(P.info? t).bind (·.zero)=ab z)w:(zeroValue t).run P w=bf z w:=by
 cases hq:P.info? t with
 |none=>grind
 |some i=>
  simp only[hq,Option.bind_some]at hz;simp[zeroValue,ny,hq,hz]
def aen {t} (ho:o.op=VB t) z (hz:(P.info? t).bind (·.zero)=ab z)
 (h:∀B w',aX w' B z.cells t->au w w'->w.heap.size<=B->B<w'.heap.size->K (a.put o.dst (ay (ab ⟨B,0,af⟩))) w'):o.wp P a w K Q:=by
 have hr:(bA a.eval o).run P w=bf (dc (ay (ab ⟨w.heap.size,0,af⟩))) (w.alloc (bo z.cells t)):=by unfold bA;simp only[ho];simp only[Instr.alloc,newVar,newRow,newObj,gx,Uo hz,jE,kh];rfl
 unfold iy;rw[hr];exact h _ _ (fL w _) (av.alloc _ _) (b9 _) bg
def aep {t} x (ho:o.op=.box t x) v (hx:a.eval x=v)
 (h:∀B w',aX w' B v.cells t->au w w'->w.heap.size<=B->B<w'.heap.size->K (a.put o.dst (ay (ab ⟨B,0,af⟩))) w'):o.wp P a w K Q:=by
 have hr:(bA a.eval o).run P w=bf (dc (ay (ab ⟨w.heap.size,0,af⟩))) (w.alloc (bo v.cells t)):=by unfold bA;simp only[ho,hx];rfl
 unfold iy;rw[hr];exact h _ _ (fL w _) (av.alloc _ _) (b9 _) bg
def aeq {t n e:Nat} {parts cells} (ho:o.op=VC t n parts)
 (hr:∀w:aQ,(Vw t n (parts.map λ(i,x)=>(i,a.eval x))).run P w=bf (ae (ab ⟨w.heap.size,0,af⟩) n n) (w.alloc (bo cells e)))
 (h:∀B w',aX w' B cells e->au w w'->w.heap.size<=B->B<w'.heap.size->K (a.put o.dst (ae (ab ⟨B,0,af⟩) n n)) w'):o.wp P a w K Q:=by
 unfold iy bA;simp only[ho,gx,hr,jE,kh];exact h _ _ (fL w _) (av.alloc _ _) (b9 _) bg
theorem auc{v}(hr:(bA a.eval o).run P w=bf (dc v) w)(h:K (a.put o.dst v) w):o.wp P a w K Q:=by unfold iy;rw[hr];exact h
def ata ty x (ho:o.op=nV ty x) B (hx:a.eval x=ay (ab ⟨B,0,af⟩)) {t cs d} (hg:aX w B cs t)
 (hu:P.underlying ty=ab d) (hd:(match d with|.struct _|.array _ _=>az|_=>ao)=az) (hi:(P.info? ty).map (·.size)=ab cs.size):(bA a.eval o).run P w=bf (dc (ar cs)) w:=by
 unfold bA;simp only[ho,hx,Ks,BI,gx,kh,jE,D1 w B t ty cs _ d hg hu hd hi]
def eW ty x (ho:o.op=nV ty x) (B k) (hx:a.eval x=ay (ab ⟨B,k,af⟩)) cs {d} (hc:w.rangeAt B k cs)
 (hu:P.underlying ty=ab d) (hd:d.isRow=az) (hi:(P.info? ty).map (·.size)=ab cs.length):(bA a.eval o).run P w=bf (dc (ar cs.toArray)) w:=by grind[bA,Ks,BI,gx,kh,jE,run_loadVar_mid]
end
end
section
open Go.RowKit Go.MapKept
def Mem(N:Nat)(w:aQ)(A:Option bT)(t:gb):Prop:=∀b off sp,A=ab ⟨b,off,sp⟩->N<=b/\∃cs,aX w b cs t
section
variable {w w':aQ} {N n B c:Nat} {A:Option bT} {t cc:gb} {bs:List Int}
def Mem.none:Mem N w af t:=λ_ _ _ h=>by grind
def Mem.le(h:Mem N w A t){M}(dX:M<=N):Mem M w A t:=λb off sp e=>⟨dT dX (h b off sp e).1,(h b off sp e).2⟩
def fe(N:Nat)(w:aQ)(A:Option bT)(c:Nat)(bs:List Int):Prop:=b2 w A bs/\Mem N w A 5/\bs.length<=c
theorem fe.nil:fe N w af c []:=⟨b2.nil,Mem.none,cC _⟩
def fe.le(h:fe N w A c bs){M}(dX:M<=N):fe M w A c bs:=⟨h.1,h.2.1.le dX,h.2.2⟩
theorem fe.ot{base}(h:w.ownsRow base 5 1 (ae A bs.length c) bs.length (bs.map a6)):fe base w A c bs:=⟨b2.ot h,λb off sp e=>by
 rcases h.2 with⟨hv,_⟩|⟨g,cap,cur,hv,hb,hg,_⟩;·grind
 grind,by
 rcases h.2 with⟨hv,h0⟩|⟨g,cap,cur,hv,hb,hg,hn,_⟩;·omega
 .grind⟩
end
def fK(A:Option bT)(c i sz:Nat):Option Addr:=if c=i then A else A.map (·.add (i*sz))
section
variable {P:ew} {o:cS} {a:b3} {w:aQ}
def afZ (t e sz:Nat) (x lo hi) (ho:o.op=BJ t x (ab lo) (ab hi) af) (ht:P.underlying t=ab (iJ e)) (hs:(P.info? e).map (·.size)=ab sz) A (n c i q:Nat)
 (hx:a.eval x=ae A n c) (ks:a.eval lo=J R (i:Int)) (y0:a.eval hi=J R (q:Int)) (h1:i<=q) (h2:q<=c):
 (bA a.eval o).run P w=bf (dc (ae (fK A c i sz) (q -i) (c -i))) w:=by
 cases hq:P.info? e with
 |none=>grind
 |some tu=>
  have hsz:tu.size=sz:=aH;have h3:(q:Int)<=(c:Int):=ad;have h4:(i:Int)<=(q:Int):=ad;have h5:(0:Int)<=(q:Int):=ad;have h6:(0:Int)<=(i:Int):=ad;unfold bA;simp[ho,hx,ks,y0,OY,OX,O0,OZ,zJ,gx,gN ht,mR,ny,hq,hsz,h1,h2,fK]
def Uw (t e sz:Nat) (x lo) (ho:o.op=BJ t x (ab lo) af af) (ht:P.underlying t=ab (iJ e)) (hs:(P.info? e).map (·.size)=ab sz) A (n c i:Nat)
 (hx:a.eval x=ae A n c) (ks:a.eval lo=J R (i:Int)) (h1:i<=n) (h2:n<=c):
 (bA a.eval o).run P w=bf (dc (ae (fK A c i sz) (n -i) (c -i))) w:=by
 cases hq:P.info? e with
 |none=>grind
 |some tu=>
  have hsz:tu.size=sz:=aH;unfold bA;simp[ho,hx,ks,OY,OX,O0,OZ,zJ,gx,gN ht,mR,ny,hq,hsz,h1,fK]
def rF (t e sz:Nat) (x hi) (ho:o.op=BJ t x af (ab hi) af) (ht:P.underlying t=ab (iJ e)) (hs:(P.info? e).map (·.size)=ab sz) A (n c q:Nat)
 (hx:a.eval x=ae A n c) (y0:a.eval hi=J R (q:Int)) (h2:q<=c):
 (bA a.eval o).run P w=bf (dc (ae A q c)) w:=by
 cases hq:P.info? e with
 |none=>grind
 |some tu=>
  unfold bA;simp[ho,hx,y0,OY,OX,O0,OZ,zJ,gx,gN ht,mR,ny,hq,h2];intro _;cases A<;>simp[u7]
end
def b2.win{w A bs c i q}(h:b2 w A bs)(hc:bs.length<=c)(hq:q<=bs.length):b2 w (fK A c i 1) ((bs.drop i).take (q -i)):=λhp=>by have hl:0<q -i:=aH;obtain⟨kl,ma,rfl,hcell⟩:=h ad;grind[fK,mW]
def b2.Gf{w A bs c i}(h:b2 w A bs)(hc:bs.length<=c):b2 w (fK A c i 1) (bs.drop i):=by have:=h.win (i:=i) hc (b9 _);rwa [List.take_of_length_le bg]at this
def b2.Ge{w A bs q}(h:b2 w A bs)(hq:q<=bs.length):b2 w A (bs.take q):=λhp=>by obtain⟨kl,ma,rfl,hcell⟩:=h aH;grind
def Mem.win{w N A}{t c i sz:Nat}(h:Mem N w A t):Mem N w (fK A c i sz) t:=by
 unfold fK;split;·omega
 .intro b off sp e;cases A with
  |none=>grind
  |some eC=>
   simp at e;obtain⟨kl,ma,NV⟩:=eC;have:kl=b:=by grind[u7]
   subst this;exact h _ _ _ aa
end
section
open Go.RowKit Go.MapKept
abbrev Row(N:Nat)(w:aQ)(A:Option bT)(n c:Nat)(e:gb)(sz:Nat)(xs:List aP):Prop:=w.ownsRow N e sz (ae A n c) n xs
def eh(A:Option bT)(b:Nat):Prop:=∃off sp,A=ab ⟨b,off,sp⟩
section
variable {F:Nat->Prop} {w w':aQ} {N n c e sz B cc m:Nat} {A:Option bT} {xs:List aP}
theorem Row.nil N w(e sz:Nat):Row N w af 0 0 e sz []:=World.ownsRow_nil _ _ _ _
def Row.cases(h:Row N w A n c e sz xs):(A=af/\n=0/\c=0/\xs=[])\/∃g cur,A=ab ⟨g,0,af⟩/\N<=g/\aX w g cur e/\n<=c/\cur.size=c*sz/\cur.toList.take (n*sz)=xs:=by
 rcases h.2 with⟨hv,h0⟩|⟨g,cap,cur,hv,hb,hg,hn,hm,hs,ht⟩;·injection hv with h1 h2 h3;subst h0;exact b1 ⟨h1,aa,h3,j3 (by have:=h.1;omega)⟩
 grind
def Row.only(h:Row N w A n c e sz xs)(k:av F w w')(hn:∀b,eh A b->¬F b):Row N w' A n c e sz xs:=by
 refine⟨h.1,?_⟩;rcases h.2 with h2|⟨g,cap,cur,hv,hb,hg,r⟩;·grind
 .injection hv with h1 h2 h3;subst h1;subst h3;exact cm ⟨g,c,_,aa,hb,k.heap hg (hn g ⟨0,_,aa⟩),r⟩
def Row.aI(h:Row N w A n c e sz xs)(g:au w w'):Row N w' A n c e sz xs:=h.only g (λ_ _ h=>h)
def Row.le(h:Row N w A n c e sz xs){M}(dX:M<=N):Row M w A n c e sz xs:=by
 refine⟨h.1,?_⟩;rcases h.2 with h2|⟨g,cap,cur,hv,hb,r⟩;·grind
 .exact cm ⟨g,_,_,hv,dT dX hb,r⟩
def Row.mem(h:Row N w A n c e sz xs):Mem N w A e:=λb off sp ha=>by
 rcases h.cases with⟨h1,_⟩|⟨g,cur,h1,hb,hg,_⟩;·grind
 grind
def Row.lt(h:Row N w A n c e sz xs){b}(hb:eh A b):N<=b/\b<w.heap.size:=by obtain⟨off,sp,e⟩:=hb;obtain⟨h1,cs,h2⟩:=h.mem b off sp e;exact⟨h1,aX.lt h2⟩
def Row.len(h:Row N w A n c e sz xs):xs.length=n*sz:=h.1
theorem Row.cell(h:Row N w A n c e sz xs){j v}(hj:xs[j]?=ab v):∃g,A=ab ⟨g,0,af⟩/\w.cell? ⟨g,j,af⟩=ab v:=by
 rcases h.cases with⟨_,_,_,h4⟩|⟨g,cur,h1,_,hg,_,_,ht⟩;·grind
 grind[aX.cell]
def Row.cap(h:Row N w A n c e sz xs):n<=c:=by
 rcases h.cases with⟨_,h2,h3,_⟩|⟨_,_,_,_,_,h5,_⟩;·omega
 .omega
def Row.nk{bs}(h:Row N w A bs.length c 5 1 (bs.map a6)):fe N w A c bs:=fe.ot h
def Gp(N:Nat)(w w':aQ)(A:Option bT)(n c:Nat)(aA:Option bT)(Dh aC:Nat)(e sz:Nat)(xs bY:List aP):Prop:=
 Row N w' aA Dh aC e sz bY/\Row N w' A n c e sz xs/\vo (eh A) w w'/\(∀b,eh aA b->eh A b\/w.heap.size<=b)
end
section
variable {P:ew} (w:aQ)
def awl N (t ty e) i z (ht:P.underlying t=ab (iJ e)) (hi:P.info? e=ab i) (hz:i.zero=ab z) (hzs:z.cells.size=i.size)
 A (n c) xs (hown:Row N w A n c e i.size xs) aK (m c2) news (hr:Cells w i.size aK m news) (h1:∀u∈news,u.oneCell'=az)
 (h63:n+m<=maxLen) (hbytes:(n+m)*i.bytes<=140737488355328) (fp:N<=w.heap.size):
 ∃aA aC w',(pa #[t,t] ty #[ae A n c,ae aK m c2]).run P w=bf (ae aA (n+m) aC) w'/\Gp N w w' A n c aA (n+m) aC e i.size xs (xs++news):=by
 have hlen:(xs++news).length=(n+m)*i.size:=by rw[List.length_append,hown.1,hr.1,Cg]
 have aBK:Gp N w w A n c A n c e _ xs xs:=⟨hown,hown,au.keep (av.refl _ w),λb hb=>b1 hb⟩;rcases Nat.eq_zero_or_pos m with hm|hm
 .subst hm;have hn:=j3 (by simpa using hr.1);subst hn;refine⟨A,c,w,?_,aH⟩;have hc:=hown.cap;rcases aK with _|eC
  .rcases hown.cases with⟨rfl,rfl,rfl,_⟩|⟨g,cur,rfl,_⟩;·simp[pa,gN ht,mR,ny,hi,wz,rT]
   .simp[pa,gN ht,mR,ny,hi,wz,rT,hc,BU]
  .rcases hown.cases with⟨rfl,rfl,rfl,_⟩|⟨g,cur,rfl,_⟩;·simp[pa,gN ht,mR,ny,hi,wz,rT,loadCells,PA]
   .simp[pa,gN ht,mR,ny,hi,wz,rT,loadCells,PA,hc,BU]
 .obtain⟨eC,rfl,hnews⟩:=hr.2 hm;have aBL:n+m<=9223372036854775807:=by grind[maxLen]
  have grown:∀old,old<n+m->Gp N w (w.drew.alloc (bo (xs.toArray++news.toArray++nt z.cells (x' w (n+m) old e -(n+m))) e)) A n c (ab ⟨w.heap.size,0,af⟩) (n+m) (x' w (n+m) old e) e i.size xs (xs++news):=by
   intro old ho;have mB:=grownCap_ge w (n+m) old e;have hcm:=grownCap_le_maxLen w _ old e h63;have hg:au w (w.drew.alloc (bo (xs.toArray++news.toArray++nt z.cells (x' w (n+m) old e -(n+m))) e)):=au.trans (av.drew _) (av.alloc _ _);refine⟨⟨hlen,cm ⟨w.heap.size,_,_,aa,fp,fL w.drew _,mB,hcm,?_,?_⟩⟩,hown.aI hg,hg.keep.ael,λb ⟨_,_,ZM⟩=>aH⟩;·simp only[Array.size_append,List.size_toArray,size_zeroCells,hzs,hown.1,hr.1,<-Cg];congr 1;omega
   grind
  rcases hown.cases with⟨rfl,rfl,rfl,rfl⟩|⟨g,cur,rfl,hbg,hg,j9,hcs,aBN⟩;·grind[run_append_nil]
  .by_cases hroom:n+m<=c
   .have na:n*i.size+news.length<=cur.size:=by rw[hr.1,hcs,<-Cg];exact Nat.mul_le_mul_right _ hroom
    have hrun:=run_append_room (P:=P) w t ty e i ht hi g n c _ hg eC m c2 _ hr.1 hnews h1 hroom na;have hb2:=hg.setRow (cur.toList.take (n*i.size)++news++cur.toList.drop (n*i.size+news.length)).toArray;have hsz:(cur.toList.take (n*i.size)++news++cur.toList.drop (n*i.size+news.length)).toArray.size=cur.size:=aH
    have hcm:c<=maxLen:=by
     rcases hown.2 with⟨hv,_⟩|⟨g2,aAj,CC,hv,_,_,_,jS,_⟩;·grind
     .grind
    refine⟨_,_,_,hrun,⟨hlen,cm ⟨g,c,_,aa,hbg,hb2,hroom,hcm,ad,?_⟩⟩,⟨hown.1,cm ⟨g,c,_,aa,hbg,hb2,j9,hcm,ad,?_⟩⟩,?_,λb hb=>b1 hb⟩;·grind
    .grind
    .have k:=vo.aek (av.setRow w g _) hg hb2 hsz;exact⟨k.only.mono (λb _ e=>⟨0,af,by rw[e]⟩),k.shape⟩
   .have holds:=hown.cells (g:=g) aa;have hrun:=run_append_grow (P:=P) w t ty e i z ht hi hz _ n c xs hown.1 holds eC m c2 _ hr.1 hnews ad ad (growslice_fits ad hbytes);exact⟨_,_,_,hrun,grown c ad⟩
end
section
variable {P:ew} {o:cS} {a:b3} {w:aQ} {K:b3->aQ->Prop} {Q:iI->b3->aQ->Prop}
def aeo N (s x) (t e sz bytes:Nat) (ho:o.op=.call {callee:=pb x0,args:=#[s,x],argTypes:=#[t,t]}) (ht:P.underlying t=ab (iJ e))
 (lr:(P.info? e).map (λi=>(i.zero.isSome,(i.zero.map (·.cells.size)).getD 0,i.size,i.bytes))=ab (az,sz,sz,bytes))
 (A:Option bT) (n c:Nat) (xs:List aP) (hs:a.eval s=ae A n c) (hown:Row N w A n c e sz xs) (aK:Option bT) (m c2:Nat) (news:List aP) (hx:a.eval x=ae aK m c2) (hr:Cells w sz aK m news) (h1:∀u∈news,u.oneCell'=az)
 (hbytes:(n+m)*bytes<=140737488355328) (hb0:0<bytes) (fp:N<=w.heap.size)
 (h:∀aA aC w',Gp N w w' A n c aA (n+m) aC e sz xs (xs++news)->K (a.put o.dst (ae aA (n+m) aC)) w'):o.wp P a w K Q:=by
 cases hq:P.info? e with
 |none=>simp[hq]at lr
 |some i=>
  rw[hq]at lr;simp only[q6,w2,Prod.mk.injEq]at lr;obtain⟨bE,cr,fz,oQ⟩:=lr;obtain⟨z,hz⟩:=Option.isSome_iff_exists.1 bE;rw[hz]at cr;simp only[q6,Option.getD_some]at cr;subst fz;subst oQ;have hle:(n+m)<=(n+m)*i.bytes:=Nat.le_mul_of_pos_right _ hb0;obtain⟨aA,aC,w',hrun,hap⟩:=awl (P:=P) w N t o.type e i z ht hq hz cr A n c xs hown aK m c2 news hr h1 (by grind[maxLen]) hbytes fp;unfold iy bA;simp only[ho,resolve,invoke,builtin,gx,kh,jE,List.map_toArray,j5,ln,hs,hx,hrun];exact h aA aC w' hap
end
end
section
open Go.RowKit Go.MapKept
structure bq where
 cT:Nat->Prop
 p:aQ->Prop
 nG:∀w w':aQ,(∀b,cT b->b<w.heap.size->w'.heap[b]?=w.heap[b]?)->(∀b,cT b->b<w.heap.size)->p w->p w'
structure ak (aq:aQ) (FX:Nat->Prop) (w:aQ) (l:List bq):Prop where
 only:av FX aq w
 holds:∀t∈l,t.p w
 low:∀t∈l,∀b,t.cT b->b<w.heap.size/\(aq.heap.size<=b\/FX b)
 apart:l.Pairwise (λs t=>∀b,s.cT b->¬t.cT b)
def Has(w:aQ)(t:bq):Prop:=t.p w/\∀b,t.cT b->b<w.heap.size
def cf(w w':aQ)(t:bq):Prop:=au w w'/\t.p w'/\∀b,t.cT b->w.heap.size<=b/\b<w'.heap.size
def Turned(w w':aQ)(s t:bq):Prop:=av s.cT w w'/\t.p w'/\∀b,t.cT b->b<w'.heap.size/\(s.cT b\/w.heap.size<=b)
section
variable {aq w w':aQ} {FX F:Nat->Prop} {l l':List bq} {s t:bq}
def ak.init w FX:ak w FX w []:=⟨av.refl _ _,λ_ h=>(fQ h).elim,λ_ h=>(fQ h).elim,Ha⟩
def ak.start(h:Has w t):ak w t.cT w [t]:=⟨av.refl _ _,λx hx=>by
 obtain rfl:x=t:=aH;exact h.1,λx hx b hb=>by
 obtain rfl:x=t:=aH;exact⟨h.2 b hb,cm hb⟩,List.pairwise_singleton _ _⟩
def bq.only(t:bq)(h:t.p w)(hl:∀b,t.cT b->b<w.heap.size)(k:av F w w')(hn:∀b,t.cT b->¬F b):t.p w':=
 t.nG w w' (λb hb hlt=>k.block b hlt (hn b hb)) hl h
def ak.perm(h:ak aq FX w l)(p:l.Perm l'):ak aq FX w l':=
 ⟨h.only,λt ht=>h.holds t (p.mem_iff.2 ht),λt ht=>h.low t (p.mem_iff.2 ht),(p.pairwise_iff (λ{a b} (h1:∀c,a.cT c->¬b.cT c) c hb ha=>h1 c ha hb)).1 h.apart⟩
def ak.sub(h:ak aq FX w l)(p:l'.Sublist l):ak aq FX w l':=
 ⟨h.only,λt ht=>h.holds t (p.subset ht),λt ht=>h.low t (p.subset ht),h.apart.sublist p⟩
def ak.aI(h:ak aq FX w l)(g:au w w'):ak aq FX w' l:=
 ⟨av.trans h.only g.to (λ_ _ h=>h),λt ht=>t.only (h.holds t ht) (λb hb=>(h.low t ht b hb).1) g (λ_ _ h=>h),λt ht b hb=>⟨wZ (h.low t ht b hb).1 g.size,(h.low t ht b hb).2⟩,h.apart⟩
def ak.new(h:ak aq FX w l)t(hf:cf w w' t):ak aq FX w' (t::l):=by
 obtain⟨g,hp,hb⟩:=hf;have h2:=h.aI g;refine⟨h2.only,λx hx=>?_,λx hx b hb2=>?_,G' (λx hx b h1 h3=>?_) h2.apart⟩
 .rcases gy.1 hx with rfl|hx;·omega
  .exact h2.holds x hx
 .rcases gy.1 hx with rfl|hx;·exact⟨(hb b hb2).2,b1 (dT h.only.size (hb b hb2).1)⟩
  .exact h2.low x hx b hb2
 .have h4:=(h.low x hx b h3).1;have h5:=(hb b h1).1;omega
def ak.xK(h:ak aq FX w (s::l))(bM:Turned w w' s t):ak aq FX w' (t::l):=by
 obtain⟨k,hp,hb⟩:=bM;have ha:=wY.1 h.apart;have hs:=h.low s (sU ..);refine⟨⟨k.os.trans h.only.os,k.tape.trans h.only.tape,k.output.trans h.only.output,dT h.only.size k.size,λi hi hn=>?_⟩,λx hx=>?_,λx hx b hb2=>?_,G' (λx hx b h1 h3=>?_) ha.2⟩
 .have h1:¬s.cT i:=λh1=>by grind
  exact(k.block i (wZ hi h.only.size) h1).trans (h.only.block i hi hn)
 .rcases gy.1 hx with rfl|hx;·omega
  .exact x.only (h.holds x (p8 _ hx)) (λb hb=>(h.low x (p8 _ hx) b hb).1) k (λb h1 h2=>ha.1 x hx b h2 h1)
 .rcases gy.1 hx with rfl|hx
  .refine⟨(hb b hb2).1,?_⟩;rcases(hb b hb2).2 with h1|h1;·grind
   .exact b1 (dT h.only.size h1)
  .exact⟨wZ (h.low x (p8 _ hx) b hb2).1 k.size,(h.low x (p8 _ hx) b hb2).2⟩
 .rcases(hb b h1).2 with h2|h2;·grind
  .have:=(h.low x (p8 _ hx) b h3).1;omega
def aai{i:Nat}(hi:l[i]?=ab s):∃h,l[i]=s:=List.getElem?_eq_some_iff.1 hi
def T5:∀(l:List bq) i s,l[i]?=ab s->l.Perm (s::l.eraseIdx i)
 |[],i,s,h=>by simp at h
 |x::l,0,s,h=>by
  obtain rfl:x=s:=by simpa using h
  exact Ca _
 |x::l,i+1,s,h=>by have h1:=T5 l i s (by simpa using h);exact(h1.cons x).trans (Cb s x _)
def aeS t:∀(l:List bq) i s,l[i]?=ab s->(l.set i t).Perm (t::l.eraseIdx i)
 |[],i,s,h=>by simp at h
 |x::l,0,s,h=>Ca _
 |x::l,i+1,s,h=>by have h1:=aeS t l i s (by simpa using h);exact(h1.cons x).trans (Cb t x _)
def ak.DA(h:ak aq FX w l)i(hi:l[i]?=ab s)(bM:Turned w w' s t):ak aq FX w' (l.set i t):=by have h3:=h.perm (T5 l i s hi);exact(h3.xK bM).perm (aeS t l i s hi).symm
def ak.at(h:ak aq FX w l)(i:Nat)(hi:l[i]?=ab t:=by rfl):t.p w:=h.holds t (cX hi)
def ak.has(h:ak aq FX w l)(i:Nat)(hi:l[i]?=ab t:=by rfl):Has w t:=⟨h.at i hi,λb hb=>(h.low t (cX hi) b hb).1⟩
def ak.drop(h:ak aq FX w l)(i:Nat)(hl:l.eraseIdx i=l':=by rfl):ak aq FX w l':=hl▸h.sub (List.eraseIdx_sublist ..)
def ak.gl(h:ak w s.cT w' l)(i:Nat)(hi:l[i]?=ab t:=by rfl):Turned w w' s t:=
 ⟨h.only,h.at i hi,λb hb=>⟨(h.low t (cX hi) b hb).1,(h.low t (cX hi) b hb).2.symm⟩⟩
def ak.fresh(h:ak w (λ_=>False) w' l)(i:Nat)(hi:l[i]?=ab t:=by rfl):cf w w' t:=
 ⟨h.only,h.at i hi,λb hb=>⟨(h.low t (cX hi) b hb).2.elim id (λh=>h.elim),(h.low t (cX hi) b hb).1⟩⟩
def ak.ne(h:ak aq FX w l){i j:Nat}(hi:l[i]?=ab s)(hj:l[j]?=ab t)(je:i≠j):∀b,s.cT b->¬t.cT b:=by obtain⟨h1,rfl⟩:=aai hi;obtain⟨h2,rfl⟩:=aai hj;have hp:=List.pairwise_iff_getElem.1 h.apart;grind
theorem Turned.refl(h:Has w t):Turned w w t t:=⟨av.refl _ _,h.1,λb hb=>⟨h.2 b hb,b1 hb⟩⟩
def cf.aI{aT}(h:cf w w' t)(g:au w' aT):cf w aT t:=
 ⟨au.trans h.1 g,t.only h.2.1 (λb hb=>(h.2.2 b hb).2) g (λ_ _ h=>h),λb hb=>⟨(h.2.2 b hb).1,wZ (h.2.2 b hb).2 g.size⟩⟩
def Has.aI(h:Has w t)(g:au w w'):Has w' t:=⟨t.only h.1 h.2 g (λ_ _ h=>h),λb hb=>wZ (h.2 b hb) g.size⟩
end
def emp:bq:=⟨λ_=>False,λ_=>True,λ_ _ _ _ _=>trivial⟩
def aj(B:Nat)(cs:Array aP)(t:gb):bq:=⟨λb=>b=B,λw=>aX w B cs t,λw w' h hl hp=>(h B aa (hl B aa)).trans hp⟩
def Dl{cT:Nat->Prop}{w w':aQ}(h:∀b,cT b->b<w.heap.size->w'.heap[b]?=w.heap[b]?){b o}(hf:cT b)(hb:w.heap[b]?=ab o):w'.heap[b]?=ab o:=
 by grind
def ba(A:Option bT)(n c e sz:Nat)(xs:List aP):bq:=⟨eh A,λw=>Row 0 w A n c e sz xs,λw w' h _ hp=>by
 refine⟨hp.1,?_⟩;rcases hp.2 with h2|⟨g,cap,cur,hv,hb,hg,r⟩;·grind
 .injection hv with h1 h2 h3;subst h1;subst h3;exact cm ⟨g,c,_,aa,hb,Dl h ⟨0,_,aa⟩ hg,r⟩⟩
def cx(A:Option bT)(c:Nat)(bs:List Int):bq:=⟨eh A,λw=>fe 0 w A c bs,λw w' h _ hp=>by
 refine⟨λk5=>?_,λb off sp e=>?_,hp.2.2⟩;·obtain⟨kl,ma,rfl,hc⟩:=hp.1 k5;refine⟨kl,ma,rfl,λk hk=>?_⟩;have h1:=hc k hk;exact(DZ (w:=w) (h kl ⟨ma,_,aa⟩ (vd w _ h1))).trans h1
 .obtain⟨h1,cs,h2⟩:=hp.2.1 b off sp e;exact⟨h1,cs,Dl h ⟨_,sp,e⟩ h2⟩⟩
def both(s t:bq):bq:=⟨λb=>s.cT b\/t.cT b,λw=>s.p w/\t.p w/\∀b,s.cT b->¬t.cT b,λw w' h hl hp=>
 ⟨s.nG w w' (λb hb=>h b (b1 hb)) (λb hb=>hl b (b1 hb)) hp.1,t.nG w w' (λb hb=>h b (cm hb)) (λb hb=>hl b (cm hb)) hp.2.1,hp.2.2⟩⟩
def kc(q:Prop)(t:bq):bq:=⟨t.cT,λw=>q/\t.p w,λw w' h hl hp=>⟨hp.1,t.nG w w' h hl hp.2⟩⟩
section
variable {aq w w':aQ} {FX F:Nat->Prop} {l l':List bq} {s t:bq} {A:Option bT} {B c n e sz:Nat} {bs:List Int} {xs:List aP} {cs cs':Array aP} {ty:gb}
def ak.lR(h:ak aq FX w l)(g:au w w')(hb:fe w.heap.size w' A c bs):ak aq FX w' (cx A c bs::l):=
 h.new _ ⟨g,hb.le (cC _),λb ⟨off,sp,e⟩=>by obtain⟨h1,cs,h2⟩:=hb.2.1 b off sp e;exact⟨h1,aX.lt h2⟩⟩
def ak.lA(h:ak aq FX w l)(g:au w w')(hb:Row w.heap.size w' A n c e sz xs):ak aq FX w' (ba A n c e sz xs::l):=
 h.new _ ⟨g,hb.le (cC _),λ_ hb2=>hb.lt hb2⟩
theorem cf.TO(g:au w w')(hb:fe w.heap.size w' A c bs):cf w w' (cx A c bs):=⟨g,hb.le (cC _),λb ⟨off,sp,e⟩=>by obtain⟨h1,cs,h2⟩:=hb.2.1 b off sp e;exact⟨h1,aX.lt h2⟩⟩
def cf.aej(g:au w w')(hb:Row w.heap.size w' A n c e sz xs):cf w w' (ba A n c e sz xs):=⟨g,hb.le (cC _),λ_ hb2=>hb.lt hb2⟩
def cf.Dy(h:cf w w' (cx A c bs)):fe w.heap.size w' A c bs:=⟨h.2.1.1,λb off sp e=>⟨(h.2.2 b ⟨off,sp,e⟩).1,(h.2.1.2.1 b off sp e).2⟩,h.2.1.2.2⟩
def cf.row(h:cf w w' (ba A n c e sz xs)):Row w.heap.size w' A n c e sz xs:=by
 obtain⟨g,hp,hl⟩:=h;refine⟨hp.1,?_⟩;rcases hp.2 with h2|⟨g2,cap,cur,hv,hb,r⟩;·grind
 .injection hv with h1 h2 h3;subst h1;exact cm ⟨g2,_,_,by rw[h3],(hl g2 ⟨0,_,aa⟩).1,r⟩
def ak.star(h:ak aq FX w (s::t::l)):ak aq FX w (both s t::l):=by
 have h1:=wY.1 h.apart;have h2:=wY.1 h1.2;refine⟨h.only,λx hx=>?_,λx hx b hb=>?_,G' (λx hx b hb hx2=>?_) h2.2⟩
 .rcases gy.1 hx with rfl|hx;·exact⟨h.holds s bg,h.holds t bg,h1.1 t bg⟩
  .exact h.holds x aH
 .rcases gy.1 hx with rfl|hx;·exact hb.elim (h.low s bg b) (h.low t bg b)
  .exact h.low x aH b hb
 .exact hb.elim (λhb=>h1.1 x aH b hb hx2) (λhb=>h2.1 x hx b hb hx2)
def ak.fx(h:ak aq FX w (both s t::l)):ak aq FX w (s::t::l):=by
 have h1:=wY.1 h.apart;have hs:=h.holds _ (sU ..);have hl:=h.low _ (sU ..);refine⟨h.only,λx hx=>?_,λx hx b hb=>?_,G' (λx hx b hb hx2=>?_) (G' (λx hx b hb hx2=>?_) h1.2)⟩
 .rcases gy.1 hx with rfl|hx;·exact hs.1
  .rcases gy.1 hx with rfl|hx;·exact hs.2.1
   .exact h.holds x aH
 .rcases gy.1 hx with rfl|hx;·exact hl b (b1 hb)
  .rcases gy.1 hx with rfl|hx;·exact hl b (cm hb)
   .exact h.low x aH b hb
 .rcases gy.1 hx with rfl|hx;·exact hs.2.2 b hb hx2
  .exact h1.1 x hx b (b1 hb) hx2
 .exact h1.1 x hx b (cm hb) hx2
def ak.as(h:ak aq FX w l)i(hi:l[i]?=ab s)t(hp:s.p w->t.p w)(hf:∀b,t.cT b->s.cT b):ak aq FX w (l.set i t):=
 h.DA i hi ⟨av.refl _ _,hp (h.at i hi),λb hb=>⟨(h.has i hi).2 b (hf b hb),b1 (hf b hb)⟩⟩
end
end
section
open Go.RowKit Go.MapKept
section
variable {P:ew} {ops:Array cS} {Q:iI->b3->aQ->Prop} {dst:Nat->Option nv} {U:Type}
def BD(D:List (List Nat))(done:List Nat):Prop:=∀j∈done,∀k∈D.getD j [],k∈done
def Ym(P:ew)(ops:Array cS)(dst:Nat->Option nv)(D:List (List Nat))(val:(Nat->U)->Nat->aP)(n3:List Nat->(Nat->U)->aQ->Prop)(QP:List rV->aQ->Prop)(a0:b3)(i:Nat):Prop:=
 ∀done us w,BD D done->(∀j∈done,j<ops.size)->i∉done->(∀k∈D.getD i [],k∈done)->n3 done us w->∀K:b3->aQ->Prop,Shut (∀u jA w',lS (dst i) jA=val (dF us i u) i->jA.defers=a0.defers->n3 (done++[i]) (dF us i u) w'->K jA w')->
  match ops[i]? with
  |none=>True
  |some o=>if c9 o (cZ ops (fk dst (val us) a0 (D.getD i [])).tmps)=az then o.wp P (fk dst (val us) a0 (D.getD i [])) w K (λe _ w'=>match e with|.panic c=>QP c w'|_=>False)
   else K ((fk dst (val us) a0 (D.getD i [])).put (dst i) a7) w
def ays {D val n3 QP a0}
 (hk:Kl ops dst D) (hsz:∀i d,i<ops.size->dst i=ab d->d<a0.tmps.size)
 (HT:∀c a w,a.defers=a0.defers->QP c w->Q (tD c) a w)
 (hloc:∀j,j<ops.size->∀us kN,(∀k,k=j\/k∈D.getD j []->us k=kN k)->val us j=val kN j)
 (hop:∀i,i<ops.size->Ym P ops dst D val n3 QP a0 i)
 (hend:∀done us w',(∀j,j<ops.size->j∈done)->(∀j∈done,j<ops.size)->n3 done us w'->Q sI (fk dst (val us) a0 (dQ ops.size)) w'):
 ∀(fuel) done eO (us:Nat->U) w,((dQ ops.size).filter (λj=>decide (j∉done))).length<=fuel->
  (∀j d,eO.getD j d=if j<ops.size then decide (j∈done)else d)->eO.size=ops.size->(∀j∈done,j<ops.size)->BD D done->n3 done us w->
  wpAny P wK ops Q fuel eO (fk dst (val us) a0 done) w:=by
 have hQ:∀(done) us w,(∀j,j<ops.size->j∈done)->(∀j∈done,j<ops.size)->n3 _ us w->Q _ (fk _ _ a0 _) w:=
  λdone us w hall hlt fC=>by rw[axU (n:=_) hk.uniq a0 hlt (l':=_) (λj=>⟨λh=>mU.2 (hlt j h),λh=>hall j (mU.1 h)⟩)];exact hend _ us w hall hlt fC
 intro fuel;induction fuel with
 |zero=>
  intro done eO us w hf vP xl hlt gj fC
  have hall:∀j,j<ops.size->j∈done:=λj hj=>by have:(dQ ops.size).filter (λj=>decide (j∉done))=[]:=j3 ad;have:=X8.1 this j (mU.2 hj);simpa using this
  refine⟨?_,hQ _ us w hall hlt fC⟩;refine Ej.2 (λj hj=>?_);obtain⟨h0,o,ho,_⟩:=KN.1 hj;have hj:=(tA.1 ho).1;rw[vP j _,if_pos hj]at h0;exact absurd (hall j hj) (by simpa using h0)
 |succ fuel cn=>
  intro done eO us w hf vP xl hlt gj fC;refine⟨λhnil=>?_,λi hi=>?_⟩
  .refine hQ _ us w (λj=>?_) hlt fC;induction j using QV with
   |ind j ash=>
    intro hj;by_cases hd:j∈done;·exact hd
    .exfalso
     have:=KN.2 ⟨by rw[vP j _,if_pos hj];simpa using hd,_,Vf hj,λe he hb=>by have h1:=hk.after j _ (Vf hj) e he hb;have h2:=hk.lt j hj _ h1;rw[vP _ _,if_pos ad];simpa using ash e.on h2 ad⟩;rw[hnil]at this;cases this
  .obtain⟨h0,o,ho,aqO⟩:=KN.1 hi;have c0:=(tA.1 ho).1;have ey:i∉done:=by rw[vP i _,if_pos c0]at h0;simpa using h0
   have vK:dst i=o.dst:=by rw[hk.RM i c0];simp[oP,ho]
   have Mi:∀k∈D.getD i [],k∈done:=by
    intro k si;obtain⟨e,he,hb,h⟩:=hk.reach i o ho k si;have h1:=aqO e he hb;have hen:e.on<ops.size:=by have:=hk.lt i c0 _ (hk.after i o ho e he hb);omega
    rw[vP _ _,if_pos hen]at h1;have h2:=by simpa using h1
    rcases h with h|h;·exact h▸h2
    .exact gj _ h2 k h
   have AH:∀t∈o.looksAt _,(fk _ _ a0 _).tmps[t]?=(fk _ (val us) a0 done).tmps[t]?:=λt ht=>by
    by_cases hs:t<a0.tmps.size
    .by_cases hj:∃j∈done,dst j=ab t
     .obtain⟨j,hj,AM⟩:=hj
      have aq6:j∈D.getD i []:=by
       rcases hk.looks i o ho t ht j (hlt j hj) AM with h|h|h;·exact absurd (h▸hj) ey
       .exact h
       .exact absurd (gj j hj i h) ey
      have u:=λk vN e=>by
       by_cases hkj:k=j;·exact hkj
       .exact absurd AM (hk.uniq k j vN (hlt j hj) hkj t e)
      rw[Jx AM _ _ (λk hk e=>u k (hlt k (Mi k hk)) e) aq6 hs,Jx AM _ _ (λk hk e=>u k (hlt k hk) e) hj hs]
     .rw[Gb _ _ (λk hk e=>hj ⟨k,Mi k hk,e⟩),Gb _ _ (λk hk e=>hj ⟨k,hk,e⟩)]
    .have hs':a0.tmps.size<=t:=Nat.le_of_not_lt hs;rw[ahy (by rw[rI];exact hs'),ahy (by rw[rI];exact hs')]
   have MS:=Ps hk.uX;have kr:=eval_congr (ops:=_) o _ _ (λcs c=>MS i o cs c ho) AH;have y8:=UO (ops:=_) o _ _ AH
   have acw:∀v u w',v=val (dF us i u) i->n3 (done++[i]) (dF us i u) w'->wpAny P wK ops Q fuel (eO.setIfInBounds i az) ((fk dst (val us) a0 done).put o.dst v) w':=λv u w' hv aqr=>by
    have Fo:∀j∈done,val us j=val (dF us i u) j:=λj hj=>hloc j (hlt j hj) _ _ (λk hk=>by
     have:k≠i:=λe=>by
      subst e;rcases hk with h|h;·exact ey (h▸hj)
      .exact ey (gj j hj _ h)
     simp[dF,this])
    have bE:(fk dst (val us) a0 done).put o.dst v=fk dst (val (dF us i u)) a0 (done++[i]):=by rw[UH,<-hv,<-vK,DB done a0 Fo]
    rw[bE];refine cn _ _ _ w' ?_ ?_ (by simpa using xl) ?_ ?_ aqr
    .have ab2:((dQ ops.size).filter (λj=>decide (j∉done++[i]))).length<((dQ ops.size).filter (λj=>decide (j∉done))).length:=by
      have:(dQ ops.size).filter (λj=>decide (j∉done++[i]))=((dQ ops.size).filter (λj=>decide (j∉done))).filter (λj=>decide (j≠i)):=by rw[List.filter_filter];refine Ek (λj _=>?_);by_cases h1:j∈done<;>by_cases h2:j=i<;>simp[h1,h2]
      rw[this];exact List.length_filter_lt_length_iff_exists.2 ⟨i,nB.2 ⟨mU.2 c0,by simpa using ey⟩,bg⟩
     omega
    .intro j d;by_cases oj:i=j;·subst oj;have:i<eO.size:=ad;simp[c0,this]
     .rw[getD_set_ne d oj,vP j d];by_cases hj:j<ops.size;·have:¬j=i:=λe=>oj e.symm;simp[hj,this]
      .simp[hj]
    .intro j hj;rcases iX.1 hj with h|h;·exact hlt j h
     .obtain rfl:j=i:=by simpa using h
      exact c0
    .intro j hj k hkj;rcases iX.1 hj with h|h;·exact Cd _ (gj j h k hkj)
     .obtain rfl:j=i:=by simpa using h
      exact Cd _ (Mi k hkj)
   have acq:=hop i c0 _ us w gj hlt ey Mi fC;unfold wpOp;simp only[ho];by_cases hw:c9 o (cZ ops (fk dst (val us) a0 done).tmps)=az
   .rw[if_pos hw]
    have C7:=acq (λjA w'=>jA.defers=(fk dst (val us) a0 (D.getD i [])).defers/\(∃u,lS _ jA=val _ i/\n3 _ _ w'))
     (λu jA w' h1 h2 h3=>by rw[vK]at h1;exact⟨by rw[DC];exact h2,u,h1,h3⟩);simp only[ho]at C7;rw[y8,if_pos hw]at C7;refine b1 ?_
    have:=ag1 (a:=_) (Qa:=Q) (K:=λv w'=>∃u,v=val (dF us i u) i/\n3 _ (dF us i u) w') kr (λd hd=>by rw[rI];exact hsz i d c0 (vK.trans hd)) (by rw[rI,rI])
     (λc w h=>HT c _ w (by rw[DC]) h) (λh=>by obtain⟨_,_,h⟩:=h;exact h.elim) C7;exact ah7 (λbu w' ⟨v,e,_,u,h1,h2⟩=>by subst e;exact acw v u w' h1 h2) this
   .rw[if_neg hw]
    have C7:=acq (λjA w'=>(∃u,lS _ jA=val _ i/\n3 _ _ w'))
     (λu jA w' h1 _ h3=>by rw[vK]at h1;exact⟨u,h1,h3⟩);simp only[ho]at C7;rw[y8,if_neg hw,vK,NB _ _ _ (λd hd=>by rw[rI];exact hsz i d c0 (vK.trans hd)) (λ_=>aa)]at C7;obtain⟨u,h1,h2⟩:=C7;exact acw a7 u w h1 h2
def yO(ops:Array cS):List (List Nat):=
 ops.toList.foldl (λacc o=>acc++[o.after.foldl (λs e=>if x6 wK e then let s2:=(acc.getD e.on []).foldl (λs k=>if s.contains k then s else k::s) s;if s2.contains e.on then s2 else e.on::s2 else s) []]) []
structure QY where
 sec:Nat
 A:Option bT
 c:Nat
 bs:List Int
structure nT where
 b':Nat
 fb:Nat
 A:Option bT
 c:Nat
 L:List QY
structure ff where
 A:Option Addr:=af
 b:Nat:=0
 c:Nat:=0
 aK:Option Addr:=af
 eK:Nat:=0
 c2:Nat:=0
 pt:Nat:=0
 YL:Nat:=0
 YM:Nat:=0
 v:Value:=a7
 m:nT:=⟨0,0,af,0,[]⟩
 t:bq:=emp
def dk(bm:List bq)(out:(Nat->ff)->Nat->bq)(us:Nat->ff)(n:Nat):bq:=match bm[n]? with|some t=>t|none=>out us (n -bm.length)
def Lr(P:ew)(ops:Array cS)(dst:Nat->Option nv)(LE:List Nat)(bU:Nat->ff->aP)(aq:aQ)(FX:Nat->Prop)(bm:List bq)(out:(Nat->ff)->Nat->bq)(ins rd:Nat->List Nat)(QP:List rV->aQ->Prop)(us:Nat->ff)(i:Nat)(o:cS)(a:b3):Prop:=
 ∀w (Fr:List bq),ak aq FX w ((ins i).map (dk bm out us)++((rd i).map (dk bm out us)++Fr))->∀K:b3->aQ->Prop,Shut (∀u jA w',lS (dst i) jA=bU i u->jA.defers=a.defers->ak aq FX w' (out (dF us i u) i::((rd i).map (dk bm out us)++Fr))->K jA w')->
  if c9 o (cZ ops a.tmps)=az then o.wp P a w K (λe _ w'=>match e with|.panic c=>QP c w'|_=>False)else K (a.put (dst i) a7) w
def cL(P:ew)(ops:Array cS)(Q:iI->b3->aQ->Prop)(dst:Nat->Option nv)(LE:List Nat)(bU:Nat->ff->aP)(aq:aQ)(FX:Nat->Prop)(bm:List bq)(out:(Nat->ff)->Nat->bq)(ins rd:Nat->List Nat)(fin:List Nat)(QP:List rV->aQ->Prop)(us:Nat->ff):Nat->List cS->b3->Prop
 |_,[],a=>∀w',ak aq FX w' (fin.map (dk bm out us))->Q sI a w'
 |i,o::rest,a=>
  if i∈LE then Lr P ops dst LE bU aq FX bm out ins rd QP us i o a/\cL P ops Q dst LE bU aq FX bm out ins rd fin QP us (i+1) rest (a.put o.dst (bU i (us i)))
  else ∃v,((c9 o (cZ ops a.tmps)=az/\∀w (Fr:List bq),ak aq FX w ((rd i).map (dk bm out us)++Fr)->(bA a.eval o).run P w=bf (dc v) w)\/(c9 o (cZ ops a.tmps)=ao/\v=a7))/\
   cL P ops Q dst LE bU aq FX bm out ins rd fin QP us (i+1) rest (a.put o.dst v)
def alive(m:Nat)(LE:List Nat)(ins:Nat->List Nat)(size:Nat)(done:List Nat)(n:Nat):Bool:=
 (decide (n<m)||(LE.contains (n -m)&&done.contains (n -m)))&&(dQ size).all λc=>!(done.contains c&&(ins c).contains n)
def F5(m size:Nat)(D:List (List Nat))(LE:List Nat)(ins rd look:Nat->List Nat)(fin:List Nat):Bool:=
 LE.all (λi=>decide (i<size))&&
 ((dQ size).all λi=>
   ((ins i).all λn=>decide (n<m+size)&&LE.contains i&&(decide (n<m)||(LE.contains (n -m)&&(D.getD i []).contains (n -m)))&&(dQ size).all λc=>c==i||!(ins c).contains n)&&
   ((rd i).all λn=>decide (n<m+size)&&(decide (n<m)||(LE.contains (n -m)&&(D.getD i []).contains (n -m)))&&(dQ size).all λc=>!(ins c).contains n||(c !=i&&(D.getD c []).contains i))&&
   decide (ins i).Nodup&&decide (rd i).Nodup&&(look i).all λk=>k==i||(D.getD i []).contains k)&&
 (fin==(dQ (m+size)).filter (alive m LE ins size (dQ size)))
section
variable {LE:List Nat} {bU:Nat->ff->aP} {aq:aQ} {FX:Nat->Prop} {bm:List bq} {out:(Nat->ff)->Nat->bq} {ins rd look:Nat->List Nat} {fin:List Nat} {QP:List rV->aQ->Prop} {us:Nat->ff}
def afG {i o rest a v} (hi:decide (i∈LE)=ao) (hw:c9 o (cZ ops a.tmps)=az) (hy:∀w Fr,ak aq FX w ((rd i).map (dk bm out us)++Fr)->(bA a.eval o).run P w=bf (dc v) w)
 (h:cL P ops Q dst LE bU aq FX bm out ins rd fin QP us (i+1) rest (a.put o.dst v)):cL P ops Q dst LE bU aq FX bm out ins rd fin QP us i (o::rest) a:=by
 unfold cL;grind
def awK {i o rest a} (hi:decide (i∈LE)=ao) (hw:c9 o (cZ ops a.tmps)=ao)
 (h:cL P ops Q dst LE bU aq FX bm out ins rd fin QP us (i+1) rest (a.put o.dst a7)):cL P ops Q dst LE bU aq FX bm out ins rd fin QP us i (o::rest) a:=by
 unfold cL;grind
def awJ {i o rest a} (hi:decide (i∈LE)=az) (hl:Lr P ops dst LE bU aq FX bm out ins rd QP us i o a)
 (h:cL P ops Q dst LE bU aq FX bm out ins rd fin QP us (i+1) rest (a.put o.dst (bU i (us i)))):cL P ops Q dst LE bU aq FX bm out ins rd fin QP us i (o::rest) a:=by
 unfold cL;grind
def pN{i a}(h:∀w',ak aq FX w' (fin.map (dk bm out us))->Q sI a w'):cL P ops Q dst LE bU aq FX bm out ins rd fin QP us i [] a:=h
def Ai(P:ew)(ops:Array cS)(dst:Nat->Option nv)(LE:List Nat)(bU:Nat->ff->aP)(aq:aQ)(FX:Nat->Prop)(bm:List bq)(out:(Nat->ff)->Nat->bq)(ins rd:Nat->List Nat)(QP:List rV->aQ->Prop)(us:Nat->ff)(a0:b3)(e8:Nat->aP)(k:Nat):Prop:=
 if k∈LE then Lr P ops dst LE bU aq FX bm out ins rd QP us k (ops.getD k oF) (fk dst e8 a0 (dQ k))/\e8 k=bU k (us k)
 else(c9 (ops.getD k oF) (cZ ops (fk dst e8 a0 (dQ k)).tmps)=az/\∀w (Fr:List bq),ak aq FX w ((rd k).map (dk bm out us)++Fr)->(bA (fk dst e8 a0 (dQ k)).eval (ops.getD k oF)).run P w=bf (dc (e8 k)) w)\/
  (c9 (ops.getD k oF) (cZ ops (fk dst e8 a0 (dQ k)).tmps)=ao/\e8 k=a7)
def awL{D a0}(hk:Kl ops dst D):∀n i xN,ops.size -i=n->i<=ops.size->cL P ops Q dst LE bU aq FX bm out ins rd fin QP us i (ops.toList.drop i) (fk dst xN a0 (dQ i))->
 ∃e8,(∀k,k<i->e8 k=xN k)/\(∀k,i<=k->k<ops.size->Ai P ops dst LE bU aq FX bm out ins rd QP us a0 e8 k)/\∀w',ak aq FX w' (fin.map (dk bm out us))->Q sI (fk dst e8 a0 (dQ ops.size)) w':=by
 intro n;induction n with
 |zero=>
  intro i xN hn hi h;obtain rfl:i=ops.size:=ad;rw[List.drop_eq_nil_of_le bg]at h;exact⟨_,λ_ _=>rfl,λk h1 h2=>ad,h⟩
 |succ n cn=>
  intro i xN hn hi h;have c0:i<ops.size:=ad;have hlt:i<ops.toList.length:=ad;rw[List.drop_eq_getElem_cons hlt]at h;have qq:ops.toList[i]=ops.getD i default:=by simp[c0]
  have hd:dst i=(ops.getD i oF).dst:=by rw[hk.RM i c0];simp[oP,c0]
  rw[qq]at h
  have step:∀v,cL P _ Q dst LE bU aq FX bm out ins rd fin QP us _ _ ((fk dst xN a0 _).put _ v)->
   ∃e8,(∀k,k<i->e8 k=xN k)/\e8 i=v/\(∀k,i+1<=k->k<ops.size->Ai P ops dst LE bU aq FX bm out ins rd QP us a0 e8 k)/\∀w',ak aq FX w' _->Q _ _ w':=λv hv=>by
   have e:fk dst (dF xN i v) a0 (dQ (i+1))=(fk dst xN a0 (dQ i)).put (ops.getD i oF).dst v:=by grind[List.range_succ,UH,DB,dF]
   rw[<-e]at hv;obtain⟨e8,h1,h2,h3⟩:=cn (i+1) (dF xN i v) ad c0 hv;exact⟨e8,λk hk2=>by grind[dF],by grind[dF],h2,h3⟩
  have aAr:∀e8:Nat->aP,(∀k,k<i->e8 k=xN k)->fk _ e8 a0 _=fk dst _ a0 _:=λe8 h1=>DB _ _ (λj hj=>h1 j (mU.1 hj));unfold cL at h;by_cases qj:i∈LE;·rw[if_pos qj]at h;obtain⟨e8,h1,h2,h3,h4⟩:=step _ h.2;refine⟨e8,h1,λk rr hk2=>?_,h4⟩;grind[Ai]
  .rw[if_neg qj]at h;obtain⟨v,hv,hr⟩:=h;obtain⟨e8,h1,h2,h3,h4⟩:=step _ hr;refine⟨e8,h1,λk rr hk2=>?_,h4⟩;grind[Ai]
end
section
variable {LE:List Nat} {bU:Nat->ff->aP} {aq:aQ} {FX:Nat->Prop} {bm:List bq} {out:(Nat->ff)->Nat->bq} {ins rd look:Nat->List Nat} {fin:List Nat} {QP:List rV->aQ->Prop}
structure Q3 (m size:Nat) (D:List (List Nat)) (LE:List Nat) (ins rd look:Nat->List Nat) (fin:List Nat):Prop where
 le:∀i∈LE,i<size
 adb:∀i,i<size->∀n∈ins i,n<m+size/\i∈LE
 ada:∀i,i<size->∀n∈ins i,n<m\/(n -m∈LE/\n -m∈D.getD i [])
 ast:∀i,i<size->∀n∈ins i,∀c,c<size->n∈ins c->c=i
 avs:∀i,i<size->∀n∈rd i,n<m+size
 NO:∀i,i<size->∀n∈rd i,n<m\/(n -m∈LE/\n -m∈D.getD i [])
 ae9:∀i,i<size->∀n∈rd i,∀c,c<size->n∈ins c->c≠i/\i∈D.getD c []
 atS:∀i,i<size->(ins i).Nodup
 atT:∀i,i<size->(rd i).Nodup
 Nh:∀i,i<size->∀k∈look i,k=i\/k∈D.getD i []
 fin:fin=(dQ (m+size)).filter (alive m LE ins size (dQ size))
def awU{m size D}(h:F5 m size D LE ins rd look fin=az):Q3 m size D LE ins rd look fin:=by
 unfold F5 at h;simp only[zB,z7,decide_eq_true_eq,mU,ahL,alN,beq_iff_eq,OJ,bne_iff_ne,decide_eq_false_iff_not]at h;obtain⟨⟨h1,h2⟩,h3⟩:=h;refine⟨h1,λi hi n hn=>?_,λi hi n hn=>?_,λi hi n hn c hc j9=>?_,λi hi n hn=>?_,λi hi n hn=>?_,λi hi n hn c hc j9=>?_,λi hi=>(h2 i hi).1.1.2,λi hi=>(h2 i hi).1.2,λi hi k hk=>(h2 i hi).2 k hk,h3⟩;·exact⟨((h2 i hi).1.1.1.1 n hn).1.1.1,((h2 i hi).1.1.1.1 n hn).1.1.2⟩
 .exact((h2 i hi).1.1.1.1 n hn).1.2
 .exact(((h2 i hi).1.1.1.1 n hn).2 c hc).resolve_right (λh=>h j9)
 .exact((h2 i hi).1.1.1.2 n hn).1.1
 .exact((h2 i hi).1.1.1.2 n hn).1.2
 .exact(((h2 i hi).1.1.1.2 n hn).2 c hc).resolve_left (λh=>h j9)
theorem LG{m size done n}:alive m LE ins size done n=az↔(n<m\/(n -m∈LE/\n -m∈done))/\∀c,c<size->c∈done->n∉ins c:=by grind[alive]
def lP(m size:Nat)(LE:List Nat)(ins:Nat->List Nat)(done:List Nat):List Nat:=(dQ (m+size)).filter (alive m LE ins size done)
def Nd{m size done}:(lP m size LE ins done).Nodup:=List.nodup_range.filter _
def FL{m size done n}:n∈lP m size LE ins done↔n<m+size/\(n<m\/(n -m∈LE/\n -m∈done))/\∀c,c<size->c∈done->n∉ins c:=by grind[lP,LG]
def adQ{m size D}(h:Q3 m size D LE ins rd look fin){done}(gj:BD D done){i}(hi:i<size)(ey:i∉done)(er:∀k∈D.getD i [],k∈done):
 (lP m size LE ins done).Perm (ins i++(rd i++(lP m size LE ins done).filter (λn=>!(ins i).contains n&&!(rd i).contains n))):=by
 have abL:=λn hn=>FL.2 ⟨(h.adb i hi n hn).1,(h.ada i hi n hn).imp id (λh1=>⟨h1.1,er _ h1.2⟩),λc hc dy j9=>ey (h.ast i hi n hn c hc j9▸dy)⟩;have o1:=λn hn=>FL.2 ⟨h.avs i hi n hn,(h.NO i hi n hn).imp id (λh1=>⟨h1.1,er _ h1.2⟩),λc hc dy j9=>ey (gj c dy i (h.ae9 i hi n hn c hc j9).2)⟩;refine(QO Nd ?_).2 (λn=>?_)
 .refine yu.2 ⟨h.atS i hi,yu.2 ⟨h.atT i hi,Nd.filter _,λa ha b hb e=>?_⟩,λa ha b hb e=>?_⟩;·grind
  .subst e;rcases iX.1 hb with hb|hb;·exact(h.ae9 i hi a hb i hi ha).1 aa
   grind
 grind
def atj{m size D}(h:Q3 m size D LE ins rd look fin){done}(gj:BD D done)(hlt:∀j∈done,j<size){i}(hi:i<size)(ey:i∉done)(er:∀k∈D.getD i [],k∈done):
 (lP m size LE ins (done++[i])).Perm ((if i∈LE then[m+i]else[])++(rd i++(lP m size LE ins done).filter (λn=>!(ins i).contains n&&!(rd i).contains n))):=by
 have hs:=adQ h gj hi ey er;have ack:=(hs.nodup_iff.1 Nd);have arG:=(yu.1 ack).2.1
 have xm:∀n,n∈rd i++(lP m _ LE _ _).filter (λn=>!(ins i).contains n&&!(rd i).contains n)↔n∈lP m _ LE _ _/\n∉ins i:=λn=>by
  have h1:n∈lP m size LE ins done↔n∈ins i\/n∈rd i++(lP m size LE ins done).filter (λn=>!(ins i).contains n&&!(rd i).contains n):=by rw[hs.mem_iff,iX]
  refine⟨λh2=>⟨h1.2 (cm h2),λh3=>?_⟩,λh2=>(h1.1 h2.1).resolve_left h2.2⟩;exact(yu.1 ack).2.2 n h3 n h2 aa
 have k3:m+i∉lP m size LE ins _:=λh1=>by
  have h2:=(FL.1 h1).2.1;rcases h2 with h2|h2;·omega
  .rw[tV]at h2;exact ey h2.2
 refine(QO Nd ?_).2 (λn=>?_)
 .refine yu.2 ⟨by split<;>simp,arG,λa ha b hb e=>?_⟩;subst e;split at ha
  .obtain rfl:a=m+i:=by simpa using ha
   exact k3 ((xm _).1 hb).1
  .cases ha
 .rw[iX,xm,FL,FL];refine⟨λ⟨h1,h2,h3⟩=>?_,λhn=>?_⟩
  .by_cases arF:n=m+i
   .subst arF;left;rcases h2 with h2|h2;·omega
    .rw[tV]at h2;simp[h2.1]
   .right;refine⟨⟨h1,?_,λc hc dy=>h3 c hc (Cd _ dy)⟩,h3 i hi bg⟩;rcases h2 with h2|⟨h2,h4⟩;·exact b1 h2
    .by_cases acj:n<m;·exact b1 acj
     .refine cm ⟨h2,?_⟩;rcases iX.1 h4 with h4|h4;·exact h4
      .have:n -m=i:=by simpa using h4
       omega
  .rcases hn with hn|⟨⟨h1,h2,h3⟩,h4⟩
   .split at hn
    .rename_i qj;obtain rfl:=by simpa using hn
     refine⟨ad,cm (by rw[tV];exact⟨qj,bg⟩),λc hc dy j9=>?_⟩;have h5:=h.ada c hc _ j9;rw[tV]at h5;rcases h5 with h5|h5;·omega
     .rcases iX.1 dy with h6|h6;·exact ey (gj c h6 i h5.2)
      .obtain rfl:c=i:=by simpa using h6
       exact ey (er _ h5.2)
    .cases hn
   .refine⟨h1,h2.imp id (λh5=>⟨h5.1,Cd _ h5.2⟩),λc hc dy=>?_⟩;rcases iX.1 dy with h6|h6;·exact h3 c hc h6
    .obtain rfl:c=i:=by simpa using h6
     exact h4
def UQ {w a0} (I:ak aq FX w bm) D dst LE bU out (ins rd look) fin QP
 (hk:EI ops dst D=az) (hsz:((dQ ops.size).all λi=>match dst i with|some d=>decide (d<a0.tmps.size)|none=>LE.contains i)=az) (hs:F5 bm.length ops.size D LE ins rd look fin=az)
 (HT:∀c a w,a.defers=a0.defers->QP c w->Q (tD c) a w)
 (hloc:∀i,i∈LE->∀us kN:Nat->ff,(∀k,k∈look i->us k=kN k)->out us i=out kN i)
 (kq:∀us,cL P ops Q dst LE bU aq FX bm out ins rd fin QP us 0 ops.toList a0):
 wpAny P wK ops Q ops.size (OB ops.size ao) a0 {w with drawn:=w.drawn+1}:=by
 have hk:=ao6 hk;have hs:=awU hs
 have acI:∀i,i<ops.size->match dst i with|some d=>d<a0.tmps.size|none=>i∈LE:=λi hi=>by
  have:=z7.1 hsz i (mU.2 hi);cases hd:dst i with
  |none=>simpa [hd]using this
  |some d=>simpa [hd]using this
 have hnone:∀i,i<ops.size->i∉LE->dst i≠none:=λi hi hn hd=>by have:=acI i hi;rw[hd]at this;exact hn this
 have hsz':∀i d,i<ops.size->dst i=ab d->d<a0.tmps.size:=λi d hi hd=>by have:=acI i hi;rw[hd]at this;exact this
 have qq:∀i,i<ops.size->ops[i]?=ab (ops.getD i oF):=λi hi=>by simp[hi]
 have Mw:∀i,i<ops.size->dst i=(ops.getD i _).dst:=λi hi=>by rw[hk.RM i hi];unfold oP;rw[qq i hi];rfl
 have axK:∀i,i<ops.size->∀us kN:Nat->ff,(∀k,(k=i\/k∈D.getD i [])->us k=kN k)->∀n,n<bm.length\/(n -bm.length∈LE/\(n -bm.length∈D.getD i []\/n -bm.length=i))->dk bm _ us n=dk bm _ _ n:=λi hi us kN he n hn=>by
  unfold dk;cases hq:bm[n]? with
  |some t=>rfl
  |none=>
   have mB:=QM.1 hq;rcases hn with hn|⟨hn,vU⟩;·omega
   .refine hloc _ hn us _ (λk hk2=>he k ?_);have h1:=hs.Nh _ (hs.le _ hn) k hk2;rcases vU with vU|vU
    .rcases h1 with h1|h1;·exact cm (h1▸vU)
     .exact cm (hk.trans i hi _ vU k h1)
    .rw[vU]at h1;exact h1
 let fs (us:Nat->ff×aP):Nat->ff:=λk=>(us k).1;let sA (us:Nat->ff×aP):Nat->Value:=λk=>(us k).2;let cz (us:Nat->ff×aP) (j:Nat):Prop:=∃w1 Fr,ak aq FX w1 ((rd j).map (dk bm out (fs us))++Fr)/\(if j∈LE then sA us j=bU j (fs us j)else sA us j=Dm P ops w1 (ops.getD j oF) (fk dst (sA us) a0 (D.getD j [])))
 have Fo:∀(done) (us kN),BD D _->(∀j∈done,j<ops.size)->(∀j∈done,us j=kN j)->∀j∈done,cz us j->cz kN j:=λdone us kN gj hlt he j hj ⟨w1,Fr,h1,h2⟩=>by
  have pA:=hlt j hj
  have Sq:∀k,(k=j\/k∈D.getD j [])->fs us k=fs _ k:=λk hk2=>by show(us k).1=(kN k).1;rw[he k (hk2.elim (λe=>e▸hj) (λh=>gj j hj k h))]
  refine⟨w1,Fr,?_,?_⟩;·have:=Cc (λn hn=>axK j pA _ _ Sq n ((hs.NO j pA n hn).imp id (λh=>⟨h.1,b1 h.2⟩)));rw[<-this];exact h1
  .have hv:sA us j=sA kN j:=by show(us j).2=(kN j).2;rw[he j hj]
   have hu:fk _ (sA us) a0 _=fk dst (sA _) a0 _:=DB _ _ (λk hk2=>by show(us k).2=(kN k).2;rw[he k (gj j hj k hk2)]);rw[<-hv,<-hu,<-Sq j (b1 aa)];exact h2
 have agree:∀(done) us e8,BD D done->(∀j∈done,j<ops.size)->(∀k,k<ops.size->Ai P ops dst LE bU aq FX bm out ins rd QP (fs us) a0 e8 k)->(∀j∈done,cz us j)->∀j,j∈done->e8 j=sA us j:=by
  intro done us e8 gj hlt hcm fi j;induction j using QV with
  |ind j cn=>
   intro hj;have pA:=hlt j hj;have hc:=hcm j pA;obtain⟨w1,Fr,h1,h2⟩:=fi j hj;unfold Ai at hc;by_cases qj:j∈LE;·rw[if_pos qj]at hc h2;rw[hc.2,h2]
   .rw[if_neg qj]at hc h2
    have AH:=adT (a0:=a0) (val:=e8) (val':=_) hk (qq j pA) (l:=_) (l':=_) (λk Sy=>by
     have hkj:=mU.1 Sy;exact⟨ad,λh=>by have:=hk.lt k ad j h;omega,ad⟩) (λk si=>by
     have hkj:=hk.lt j pA k si;exact⟨ad,λh=>by have:=hk.lt k ad j h;omega,ad⟩) (λk si=>⟨mU.2 (hk.lt j pA k si),si,cn k (hk.lt j pA k si) (gj j hj k si)⟩);have kr:=eval_congr (ops:=_) _ _ _ (λcs c=>Ps hk.uX j _ cs c (qq j pA)) AH;have y8:=UO (ops:=ops) _ _ _ AH;rw[h2];unfold Dm;rcases hc with⟨h3,h4⟩|⟨h3,h4⟩;·rw[<-y8,if_pos h3,<-kr,h4 w1 Fr h1]
    .rw[<-y8,if_neg (by rw[h3];simp),h4]
 let n3 (done:List Nat) (us:Nat->ff×aP) (w:aQ):Prop:=ak aq FX w ((lP bm.length ops.size LE ins done).map (dk bm out (fs us)))/\∀j∈done,cz us j
 have aaj:∀us:Nat->ff×aP,∃e8,(∀k,k<ops.size->Ai P _ _ LE bU aq FX bm _ _ rd QP _ a0 e8 k)/\∀w',ak aq FX w' _->Q _ _ w':=λus=>by obtain⟨e8,_,h2,h3⟩:=awL (a0:=a0) (Q:=Q) hk ops.size 0 (λ_=>a7) ad (cC _) (by simpa [fk]using kq (fs us));exact⟨e8,λk hk2=>h2 k (cC _) hk2,h3⟩
 have arL:∀i,i<ops.size->Ym P ops dst D sA n3 QP a0 i:=by
  intro i hi done us w1 gj hlt ey er ⟨aqI,fi⟩ K hK;simp only[qq i hi];have vK:=Mw i hi;obtain⟨e8,hcm,_⟩:=aaj us;have Sd:=agree _ us e8 gj hlt hcm fi
  have AH:=adT (a0:=a0) (val:=e8) (val':=_) hk (qq i hi) (l:=_) (l':=_) (λk Sy=>by
   have hkj:=mU.1 Sy;exact⟨ad,λh=>by have:=hk.lt k ad i h;omega,ad⟩) (λk si=>by
   have hkj:=hk.lt i hi k si;exact⟨ad,λh=>by have:=hk.lt k ad i h;omega,ad⟩) (λk si=>⟨mU.2 (hk.lt i hi k si),si,Sd k (er k si)⟩);have kr:=eval_congr (ops:=_) _ _ _ (λcs c=>Ps hk.uX i _ cs c (qq i hi)) AH;have y8:=UO (ops:=_) _ _ _ AH;have hsp:=(aqI.perm ((adQ hs gj hi ey er).map _));rw[fP,fP]at hsp
  have ach:∀(u:ff) (v:aP) (w':aQ),(∀k,k≠i->dF us i (u,v) k=us k)->(if i∈LE then v=bU i u else v=Dm P ops w1 (ops.getD i oF) (fk dst (sA us) a0 (D.getD i [])))->
   ak aq FX w' ((if i∈LE then[out (dF (fs us) i u) i]else[])++((rd i).map (dk bm out (fs us))++((lP bm.length ops.size LE ins done).filter (λn=>!(ins i).contains n&&!(rd i).contains n)).map (dk bm out (fs us))))->n3 (done++[i]) (dF us i (u,v)) w':=by
   intro u v w' hne hv hst
   have aqZ:fs (dF us i (u,v))=dF (fs us) i u:=by
    funext k;show(dF us i (u,v) k).1=dF (fs us) i u k;unfold dF;by_cases h:k=i;·rw[if_pos h,if_pos h]
    .rw[if_neg h,if_neg h]
   refine⟨?_,λj hj=>?_⟩
   .refine ak.perm ?_ ((atj hs gj hlt hi ey er).map _).symm;rw[fP,fP]
    have bE:(rd i).map (dk bm _ (fs _))=(rd i).map (dk bm _ (fs us)):=Cc (λn hn=>by
     have h1:=hs.NO i hi n hn;unfold dk;cases hq:bm[n]? with
     |some t=>rfl
     |none=>
      have mB:=QM.1 hq;rcases h1 with h1|h1;·omega
      .refine hloc _ h1.1 _ _ (λk hk2=>?_);have h2:=hs.Nh _ (hs.le _ h1.1) k hk2;have h3:=h2.elim (λe=>e▸er _ h1.2) (λh=>gj _ (er _ h1.2) k h);have h4:k≠i:=λe=>ey (e▸h3);show(dF us i (u,v) k).1=(us k).1;rw[hne k h4])
    have cr:((lP _ _ LE ins _).filter (λn=>!(ins i).contains n&&!(rd i).contains n)).map (dk bm _ (fs _))=((lP bm.length ops.size LE _ _).filter (λn=>!(ins i).contains n&&!(rd i).contains n)).map (dk bm out (fs us)):=Cc (λn hn=>by
     have h1:=(FL.1 (nB.1 hn).1).2.1;unfold dk;cases hq:bm[n]? with
     |some t=>rfl
     |none=>
      have mB:=QM.1 hq;rcases h1 with h1|h1;·omega
      .refine hloc _ h1.1 _ _ (λk hk2=>?_);have h2:=hs.Nh _ (hs.le _ h1.1) k hk2;have h3:=h2.elim (λe=>e▸h1.2) (λh=>gj _ h1.2 k h);have h4:k≠i:=λe=>ey (e▸h3);show(dF us i (u,v) k).1=(us k).1;rw[hne k h4])
    have fz:(if i∈LE then[bm.length+i]else[]).map (dk bm out (fs (dF us i (u,v))))=(if i∈LE then[out (dF (fs us) i u) i]else[]):=by
     split;·rw[aqZ];simp only[j5,ln,dk];rw[Hf ad,tV]
     .rfl
    rw[bE,cr,fz];exact hst
   .by_cases oj:j=i
    .subst oj;refine⟨w1,((ins j).map (dk bm out (fs us))++((lP bm.length ops.size LE ins done).filter (λn=>!(ins j).contains n&&!(rd j).contains n)).map (dk bm out (fs us))),?_,?_⟩
     .have bE:(rd j).map (dk bm _ (fs _))=(rd j).map (dk bm _ (fs us)):=Cc (λn hn=>by
       have h1:=hs.NO j hi n hn;unfold dk;cases hq:bm[n]? with
       |some t=>rfl
       |none=>
        have mB:=QM.1 hq;rcases h1 with h1|h1;·omega
        .refine hloc _ h1.1 _ _ (λk hk2=>?_);have h2:=hs.Nh _ (hs.le _ h1.1) k hk2;have h3:=h2.elim (λe=>e▸er _ h1.2) (λh=>gj _ (er _ h1.2) k h);have h4:k≠j:=λe=>ey (e▸h3);show(dF us j (u,v) k).1=(us k).1;rw[hne k h4]);rw[bE];refine hsp.perm ?_;rw[<-kD,<-kD];exact List.Perm.append_right _ List.perm_append_comm
     .have qv:sA (dF us j (u,v)) j=v:=by show(dF us j (u,v) j).2=v;simp[dF]
      have hv2:fs (dF us j (u,v)) j=u:=by show(dF us j (u,v) j).1=u;simp[dF]
      have hv3:fk dst (sA (dF us j (u,v))) a0 (D.getD j [])=fk dst (sA us) a0 (D.getD j []):=DB _ _ (λk hk2=>by show(dF us j (u,v) k).2=(us k).2;rw[hne k (λe=>ey (e▸er k hk2))]);rw[qv,hv2,hv3];exact hv
    .have CU:=(iX.1 hj).resolve_right (λh=>oj (by simpa using h));exact Fo _ us _ gj hlt (λk hk2=>(hne k (λe=>ey (e▸hk2))).symm) j CU (fi j CU)
  have acg:∀(u) v,∀k,k≠i->dF us i (u,v) k=us k:=λu v k l5=>by simp[dF,l5]
  have hc:=hcm i hi;unfold Ai at hc;by_cases qj:i∈LE
  .rw[if_pos qj]at hc;have hl:=hc.1 w1 _ hsp;rw[<-y8]
   have post:∀u w',ak aq FX w' (out _ i::((rd i).map _++((lP _ _ LE ins _).filter (λn=>!(ins i).contains n&&!(rd i).contains n)).map _))->n3 _ _ w':=λu w' h=>
    ach u _ w' (acg u _) (by rw[if_pos qj]) (by rw[if_pos qj];exact h);by_cases hw:c9 (ops.getD i oF) (cZ ops (fk dst e8 a0 (dQ i)).tmps)=az
   .rw[if_pos hw]
    have hl2:=hl (λjA w'=>jA.defers=(fk _ e8 a0 _).defers/\∃u,lS _ jA=bU i u/\n3 _ _ w')
     (λu jA w' h1 h2 h3=>⟨h2,u,vK▸h1,post u w' h3⟩);rw[if_pos hw]at hl2;have arX:=λd hd=>hsz' i d hi (vK.trans hd)
    have:=ag1 (a:=_) (Qa:=λe _ w'=>match e with|.panic c=>QP c w'|_=>False) (K:=λv w'=>∃u,v=bU i u/\n3 _ (dF us i (u,bU i u)) w') kr
     (λd hd=>by rw[rI];exact arX d hd) (by rw[rI,rI]) (λc w h=>h) (λh=>h) hl2;refine ah7 (λbu w' ⟨v,e,h0,u,h1,h2⟩=>?_) this;refine hK.out _ _ w' ?_ (by rw[e,put_defers,DC]) h2;show lS (dst i) bu=(dF us i (u,bU i u) i).2;rw[vK,h0,h1];simp[dF]
   .rw[if_neg hw];have hl2:=hl (λjA w'=>∃u,lS _ jA=bU i u/\n3 _ _ w') (λu jA w' h1 _ h3=>⟨u,h1,post u w' h3⟩);rw[if_neg hw]at hl2;obtain⟨u,h1,h2⟩:=hl2;have hz:=λt ht=>hsz' i t hi ht;rw[NB _ _ _ (λt ht=>by rw[rI];exact hz t ht) (λ_=>aa)]at h1;refine hK.out _ _ w1 ?_ (by rw[put_defers,DC]) h2;rw[NB _ _ _ (λt ht=>by rw[rI];exact hz t ht) (λ_=>aa),h1];show bU i u=(dF us i (u,bU i u) i).2;simp[dF]
  .rw[if_neg qj]at hc;have abL:=Ej.2 (λn hn=>qj (hs.adb i hi n hn).2)
   have acE:ak aq FX w1 ((rd i).map (dk bm out (fs us))++((lP bm.length ops.size LE ins done).filter (λn=>!(ins i).contains n&&!(rd i).contains n)).map (dk bm out (fs us))):=by have h:=hsp;rw[abL]at h⊢;simpa using h
   have post:∀v,v=Dm P _ w1 _ _->n3 _ (dF us i ((us i).1,v)) w1:=λv hv=>
    ach _ v w1 (acg _ _) (by rw[if_neg qj];exact hv) (by rw[if_neg qj];exact acE);have hz:∀t,dst i=ab t->t<(fk dst (sA us) a0 (D.getD i [])).tmps.size:=λt ht=>by rw[rI];exact hsz' i t hi ht
   have fin:∀v',(dst i=af->v'=a7)->v'=Dm P _ w1 _ _->K ((fk _ _ a0 _).put _ v') w1:=λv' hn e=>by refine hK.out _ _ w1 ?_ (by rw[put_defers,DC]) (post v' e);rw[NB _ _ _ hz hn];show v'=(dF us i ((us i).1,v') i).2;simp[dF]
   rcases hc with⟨h3,h4⟩|⟨h3,h4⟩;·have h5:=h4 w1 _ acE;rw[kr]at h5;have h6:=h3;rw[y8]at h6;rw[if_pos h6];unfold iy;rw[h5];show K _ _;rw[<-vK];exact fin _ (λh=>absurd h (hnone i hi qj)) (by unfold Dm;rw[if_pos h6,h5])
   .have h6:=h3;rw[y8]at h6;rw[if_neg (by rw[h6];simp)];exact fin _ (λ_=>aa) (by unfold Dm;rw[if_neg (by rw[h6];simp)])
 have h:=ays (Q:=Q) (QP:=QP) (U:=ff×aP) hk hsz' HT (λj _ us kN h=>by
  show(us j).2=(kN j).2;rw[h j (b1 aa)]) arL
  (λdone us w' hall hlt ⟨h1,h2⟩=>by
    obtain⟨e8,hcm,hQ⟩:=aaj us;have gj:BD D _:=λj hj k hk2=>hall k (Nat.lt_trans (hk.lt j (hlt j hj) k hk2) (hlt j hj));have Sd:=agree _ us e8 gj hlt hcm h2;have bE:fk dst _ a0 _=fk _ e8 a0 _:=DB _ _ (λj hj=>(Sd j (hall j (mU.1 hj))).symm);rw[bE];refine hQ w' ?_
    have cr:fin=lP bm.length ops.size LE ins done:=by rw[hs.fin];unfold lP;refine Ek (λn _=>?_);rw[ahJ,LG,LG];refine and_congr (or_congr_right (and_congr_right λh=>⟨λ_=>hall _ (hs.le _ h),λ_=>mU.2 (hs.le _ h)⟩)) ⟨λh c hc _=>h c hc (mU.2 hc),λh c hc _=>h c hc (hall c hc)⟩
    rw[cr];exact h1)
  ops.size [] (OB ops.size ao) (λ_=>({},a7)) w.drew
  (by rw[z'.2 (λj _=>bg)];simp) (λj d=>by
   by_cases hj:j<ops.size;·simp[hj]
   .simp[hj]) bg bg (λ_ h=>(fQ h).elim) ⟨by
    have e:(lP bm.length ops.size LE ins []).map (dk bm out (fs (λ_=>({},a7))))=bm:=by
     have bE:lP bm.length ops.size LE ins []=dQ bm.length:=by
      unfold lP
      have h1:∀n,alive _ LE ins ops.size [] n=decide (n<bm.length):=λn=>by rw[ahJ,LG,decide_eq_true_eq];exact⟨λh=>h.1.resolve_right (λh=>by cases h.2),λh=>⟨b1 h,λ_ _ h=>by cases h⟩⟩
      rw[Ek (λn _=>h1 n),List.range_add,List.filter_append,z'.2 (λn hn=>by simpa using hn),X8.2 (λn hn=>by obtain⟨k,_,rfl⟩:=gP.1 hn;simp),List.append_nil]
     rw[bE];refine List.ext_getElem? (λn=>?_);rw[List.getElem?_map];by_cases hn:n<bm.length;·rw[List.getElem?_range hn];simp[dk,hn]
     .rw[Hf (by simpa using hn),Hf ad];rfl
    rw[e];exact I.aI (av.drew _),λ_ h=>(fQ h).elim⟩;exact h
end
end
end
section
open Go.RowKit Go.MapKept
section
variable {P:ew} {o:cS} {a:b3} {w:aQ}
theorem fH{B k t:Nat}{cs v ty x}(ho:o.op=nV ty x)(hx:a.eval x=ay (ab ⟨B,k,af⟩))(hb:aX w B cs t)(hv:cs[k]?=ab v)(hu:(P.underlying ty).map (λd=>d.isRow)=ab ao):
 (bA a.eval o).run P w=bf (dc v) w:=by
 have hc:=hb.cell k hv;cases hq:P.underlying ty with
 |none=>grind
 |some d=>
  have hd:d.isRow=false:=aH
  have hagg:(isAgg ty).run P w=bf ao w:=by unfold isAgg;rw[gx,gN hq w];cases d<;>simp_all
  unfold bA;simp[ho,hx,Ks,BI,loadVar,hagg,hc]
def mH{B k t:Nat}{cs cs' ty x}(ho:o.op=nV ty x)(hx:a.eval x=ay (ab ⟨B,k,af⟩))(hb:aX w B cs t)(hv:cs.extract k (k+cs'.size)=cs')(hk:k+cs'.size<=cs.size)(hu:(P.underlying ty).map (λd=>d.isRow)=ab az)(hi:(P.info? ty).map (·.size)=ab cs'.size):
 (bA a.eval o).run P w=bf (dc (ar cs')) w:=by
 cases hq:P.underlying ty with
 |none=>grind
 |some d=>
  have hd:d.isRow=true:=aH;have:=eW (a:=a) (w:=w) ty x ho B k hx cs'.toList (hb.rangeAt k _ (λj v hj=>aH)) hq hd ad;simpa using this
def lay(cs:Array aP)(k:Nat):List aP->Array aP
 |[]=>cs
 |v::l=>lay (cs.setIfInBounds k v) (k+1) l
def lay_size l:∀(cs) k,(lay cs k l).size=cs.size:=by
 induction l with
 |nil=>intro cs k;rfl
 |cons v l cn=>grind[lay]
def Un(B t:Nat):∀(l) w cs (k j),aX w B cs t->k+j+l.length<=cs.size->l.all (·.oneCell')=az->
 ∃w',(BU ⟨B,k,af⟩ l j).run P w=bf () w'/\aX w' B (lay cs (k+j) l) t/\av (λi=>i=B) w w'/\w'.heap.size=w.heap.size
 |[],w,cs,k,j,hb,_,_=>⟨w,bc,hb,av.refl _ _,aa⟩
 |v::l,w,cs,k,j,hb,hk,h1=>by
  simp only[List.all_cons,zB]at h1;have hlt:k+j<cs.size:=aH;have hb2:=hb.setRow (cs.setIfInBounds (k+j) v);obtain⟨w',hr,h2,h3,h4⟩:=Un B t l (w.setRow B (cs.setIfInBounds (k+j) v)) _ k (j+1) hb2 aH h1.2;refine⟨w',?_,h2,av.trans (av.setRow w B _) h3 (λ_ _ h=>h),by rw[h4];simp⟩;have og:(⟨B,k,af⟩:bT).add j=⟨B,k+j,af⟩:=Addr.add_mid _ _ _
  have hst:(store ⟨B,k+j,af⟩ v).run P w=bf () (w.setRow B (cs.setIfInBounds (k+j) v)):=by rw[run_store P w _ v _ h1.1,hb.cell (k+j) (Vf hlt)];simp[hb.frozen (k+j),setCell_eq_setRow w B (k+j) cs t (0,0) v hb]
  simp only[BU,gx,og,hst,jE,hr]
theorem NT{B k t:Nat}{cs v ty x y}(ho:o.op=x2 ty x y)(hx:a.eval x=ay (ab ⟨B,k,af⟩))(hy:a.eval y=v)(hb:aX w B cs t)(hk:k+v.cells.size<=cs.size)(hi:(P.info? ty).map (·.size)=ab v.cells.size)(h1:v.cells.all (·.oneCell')=az):
 ∃w',(bA a.eval o).run P w=bf .skip w'/\aX w' B (lay cs k v.cells.toList) t/\av (λi=>i=B) w w'/\w'.heap.size=w.heap.size:=by
 obtain⟨w',hr,h2,h3,h4⟩:=Un (P:=P) B t v.cells.toList w cs k 0 hb ad aH;refine⟨w',?_,h2,h3,h4⟩;cases hq:P.info? ty with
 |none=>grind
 |some i=>
  have hs:i.size=v.cells.size:=aH;unfold bA;simp only[ho,hx,hy,Instr.storeAt,BI,storeVar,mR,ny];simp[hq,hs,hr]
def F7 (t e sz:Nat) (x lo hi) (ho:o.op=BJ t x (ab lo) (ab hi) af) (ht:P.underlying t=ab (iJ e)) (hs:(P.info? e).map (·.size)=ab sz) A (n c i q m:Nat)
 (hx:a.eval x=ae A n c) (ks:a.eval lo=J R (i:Int)) (y0:a.eval hi=J R (q:Int)) (hm:i+m=q) (h2:q<=c):
 (bA a.eval o).run P w=bf (dc (ae (fK A c i sz) m (c -i))) w:=by
 have h:=afZ t e sz x lo hi ho ht hs A n c i q (w:=w) hx ks y0 ad h2;rwa [show q -i=m by omega]at h
def Bi (t e sz:Nat) (x lo) (ho:o.op=BJ t x (ab lo) af af) (ht:P.underlying t=ab (iJ e)) (hs:(P.info? e).map (·.size)=ab sz) A (n c i m:Nat)
 (hx:a.eval x=ae A n c) (ks:a.eval lo=J R (i:Int)) (hm:i+m=n) (h2:n<=c):
 (bA a.eval o).run P w=bf (dc (ae (fK A c i sz) m (c -i))) w:=by
 have h:=Uw t e sz x lo ho ht hs A n c i (w:=w) hx ks ad h2;rwa [show n -i=m by omega]at h
def Q0(e:Ending)(K:aP->Prop):Prop:=match e with|.returned v=>K v|_=>False
end
section
variable {aq w w':aQ} {FX:Nat->Prop} {l l':List bq} {s t:bq}
def ak.eP(h:ak aq FX w l)(i:Nat)(bM:Turned w w' s t)(hi:l[i]?=ab s:=by rfl)(hl:l.set i t=l':=by((try simp only[List.set_cons_zero,List.set_cons_succ]);rfl)):ak aq FX w' l':=hl▸h.DA i hi bM
def ak.front(h:ak aq FX w l)(i:Nat)(hi:l[i]?=ab t:=by rfl)(hl:l.eraseIdx i=l':=by((try simp only[List.eraseIdx_cons_zero,List.eraseIdx_cons_succ]);rfl)):ak aq FX w (t::l'):=hl▸h.perm (T5 l i t hi)
def ak.aW{B:Nat}{cs:Array aP}{ty:gb}(h:ak aq FX w l)(i:Nat)(hi:l[i]?=ab (aj B cs ty):=by rfl):aX w B cs ty:=h.at i hi
theorem vz{B cs cs' ty}(k:av (λi=>i=B) w w')(h:aX w' B cs' ty):Turned w w' (aj B cs ty) (aj B cs' ty):=⟨k,h,λb hb=>⟨by have h2:b=B:=hb;rw[h2];exact aX.lt h,b1 hb⟩⟩
def yE{B cs ty}(g:au w w')(h:aX w' B cs ty)(kp:w.heap.size<=B):cf w w' (aj B cs ty):=⟨g,h,λb hb=>by have h2:b=B:=hb;rw[h2];exact⟨kp,aX.lt h⟩⟩
end
def ak.pick{aq w:aQ}{FX:Nat->Prop}{l:List bq}(h:ak aq FX w l):∀{l':List bq} (idx:List Nat) (_:idx.map (λi=>l[i]?)=l'.map some:=by rfl) (_:decide idx.Nodup=true:=by kernel_rfl),ak aq FX w l'
 |[],[],_,_=>⟨h.only,λ_ h=>(fQ h).elim,λ_ h=>(fQ h).elim,Ha⟩
 |t::l',i::idx,hl,hn=>by
  simp at hl;have vU:=List.nodup_cons.1 (of_decide_eq_true hn);have cn:=h.pick (l':=l') _ hl.2 (decide_eq_true vU.2);refine⟨cn.only,λx hx=>?_,λx hx b hb=>?_,G' (λx hx b h1 h3=>?_) cn.apart⟩
  .rcases gy.1 hx with rfl|hx;·exact h.at i hl.1
   .exact cn.holds x hx
  .rcases gy.1 hx with rfl|hx;·exact h.low x (cX hl.1) b hb
   .exact cn.low x hx b hb
  .have:ab x∈idx.map (λi=>l[i]?):=aH;obtain⟨j,hj,e⟩:=gP.1 this;exact h.ne hl.1 e (λe=>vU.1 (e▸hj)) b h1 h3
def ak.dE{aq w FX l}(h:ak aq FX w l):ak aq FX w (emp::l):=h.new emp ⟨av.refl _ _,trivial,λ_ h=>h.elim⟩
def ak.lK{aq w:aQ}{FX:Nat->Prop}{l:List bq}{A:Option bT}{c:Nat}{bs:List Int}(h:ak aq FX w l)(i:Nat)(hi:l[i]?=ab (cx A c bs):=by rfl):fe 0 w A c bs:=h.at i hi
def ro(A:Option bT)(bs:List Int):bq:=⟨eh A,λw=>b2 w A bs,λw w' h _ hp k5=>by obtain⟨kl,ma,rfl,hc⟩:=hp k5;refine⟨kl,ma,rfl,λk hk=>?_⟩;have h1:=hc k hk;exact(DZ (w:=w) (h kl ⟨ma,_,aa⟩ (vd w _ h1))).trans h1⟩
section
variable {P:ew} {w:aQ}
def anp(w:aQ)(a p)n:(w.freeze a n).cell? p=w.cell? p:=by grind[W0,World.cell?]
def an2{t e B n c:Nat}{C}bs(hb:aX w B C e)(kq:C=(bs.map a6).toArray)(ht:P.underlying t=ab (iJ e))(he:P.underlying e=ab (.int .u8)):
 ∃w',(convert t t (ae (ab ⟨B,0,af⟩) n c)).run P w=bf (ae (ab ⟨B,0,af⟩) n c) w'/\Turned w w' (aj B C e) (ro (ab ⟨B,0,af⟩) bs):=by
 have ID:w.shape? B=ab (e,C.size):=by grind[World.shape?]
 have hsz:(w.freeze ⟨B,C.size,af⟩ 1).heap.size=w.heap.size:=by grind[W0]
 refine⟨w.freeze ⟨B,C.size,af⟩ 1,by simp[convert,gN ht,gN he,markStringish,ID],⟨bc,bc,bc,ad,λk _ hk=>?_⟩,λ_=>⟨B,0,rfl,λj hj=>?_⟩,λb ⟨o,sp,h⟩=>?_⟩
 .have hk2:¬B=k:=λh=>hk h.symm;grind[W0]
 .rw[anp,Nat.zero_add];refine hb.cell j ?_;subst kq;simp[hj]
 .injection h with h;injection h with h;subst h;exact⟨aH,b1 aa⟩
def FR{o}{a:b3}{t e B n c:Nat}{C x}bs(ho:o.op=.convert t t x)(hx:a.eval x=ae (ab ⟨B,0,af⟩) n c)(hb:aX w B C e)(kq:C=(bs.map a6).toArray)(ht:P.underlying t=ab (iJ e))(he:P.underlying e=ab (.int .u8)):
 ∃w',(bA a.eval o).run P w=bf (dc (ae (ab ⟨B,0,af⟩) n c)) w'/\Turned w w' (aj B C e) (ro (ab ⟨B,0,af⟩) bs):=by
 obtain⟨w',h1,h2⟩:=an2 (P:=P) (n:=n) (c:=c) bs hb kq ht he
 refine⟨w',?_,h2⟩;unfold bA;simp[ho,hx,h1]
def mh {fn p u ty} {t B:Nat} {cs tmps v} (h:fn.results=#[.cell p ty,.tmp u]) (hp:tmps.getD p a7=ay (ab ⟨B,0,af⟩)) (hv:tmps.getD u a7=v) (hb:aX w B cs t)
 (hu:(P.underlying ty).map (λd=>d.isRow)=ab az) (hi:(P.info? ty).map (·.size)=ab cs.size):(results fn tmps).run P w=bf (.tuple #[ar cs,v]) w:=by
 have oY:tmps[p]?.getD a7=ay (ab ⟨B,0,af⟩):=by simpa using hp
 cases hq:P.underlying ty with
 |none=>grind
 |some d=>grind[D1,results_cell_tmp,asAddr,kh,jE]
end
section
variable {P:ew} {ops:Array cS} {rest:List cS} {Q:iI->b3->aQ->Prop} {o:cS} {a bu:b3} {w:aQ} {v:aP} {aq:aQ} {FX:Nat->Prop} {l l':List bq}
def ag (h:cN P ops Q rest bu w) (hw:c9 o (cZ ops a.tmps)=true:=by kernel_rfl) (hr:(bA a.eval o).run P w=bf (dc v) w:=by(go_simp;try with_reducible rfl))
 (ha:a.put o.dst v=bu:=by((try simp only[Act.put,List.setIfInBounds_toArray,List.set_cons_zero,List.set_cons_succ]);rfl)):cN P ops Q (o::rest) a w:=by
 subst ha;exact rW λK hK=>by grind[auc]
def aG (v:aP) (hr:(bA a.eval o).run P w=bf (dc v) w) (h:cN P ops Q rest bu w) (hw:c9 o (cZ ops a.tmps)=true:=by kernel_rfl)
 (ha:a.put o.dst v=bu:=by((try simp only[Act.put,List.setIfInBounds_toArray,List.set_cons_zero,List.set_cons_succ]);rfl)):cN P ops Q (o::rest) a w:=ag h hw hr ha
def ps (h:cN P ops Q rest bu w) (hw:c9 o (cZ ops a.tmps)=false:=by kernel_rfl)
 (ha:a.put o.dst a7=bu:=by((try simp only[Act.put,List.setIfInBounds_toArray,List.set_cons_zero,List.set_cons_succ]);rfl)):cN P ops Q (o::rest) a w:=by
 subst ha;exact rW λK hK=>by grind
def pl {B t:Nat} {cs:Array aP} {ty:gb} {x:hY} (I:ak aq FX w l) (i k:Nat) (h:cN P ops Q rest bu w) (hi:l[i]?=ab (aj B cs t):=by rfl) (ho:o.op=nV ty x:=by rfl) (hx:a.eval x=ay (ab ⟨B,k,af⟩):=by rfl)
 (hv:cs[k]?=ab v:=by((try simp only[List.getElem?_toArray,List.getElem?_cons_succ,List.getElem?_cons_zero])<;>rfl)) (hu:(P.underlying ty).map (λd=>d.isRow)=ab false:=by kernel_rfl) (hw:c9 o (cZ ops a.tmps)=true:=by kernel_rfl)
 (ha:a.put o.dst v=bu:=by((try simp only[Act.put,List.setIfInBounds_toArray,List.set_cons_zero,List.set_cons_succ]);rfl)):cN P ops Q (o::rest) a w:=
 ag h hw (fH ho hx (I.aW i hi) hv hu) ha
def bh {B t k:Nat} {cs:Array aP} {ty:gb} {x:hY} (I:ak aq FX w l) (i:Nat) (cs':Array aP) (h:cN P ops Q rest bu w) (hi:l[i]?=ab (aj B cs t):=by rfl) (ho:o.op=nV ty x:=by rfl) (hx:a.eval x=ay (ab ⟨B,k,af⟩):=by rfl)
 (hv:cs.extract k (k+cs'.size)=cs':=by kernel_rfl) (hk:k+cs'.size<=cs.size:=by exact(of_decide_eq_true aw)) (hu:(P.underlying ty).map (λd=>d.isRow)=ab true:=by kernel_rfl) (hz:(P.info? ty).map (·.size)=ab cs'.size:=by kernel_rfl) (hw:c9 o (cZ ops a.tmps)=true:=by kernel_rfl)
 (ha:a.put o.dst (ar cs')=bu:=by((try simp only[Act.put,List.setIfInBounds_toArray,List.set_cons_zero,List.set_cons_succ]);rfl)):cN P ops Q (o::rest) a w:=
 ag h hw (mH ho hx (I.aW i hi) hv hk hu hz) ha
def bl {ty:gb} {z:aP} {bu:Nat->b3} (I:ak aq FX w l) (cs:Array aP) (h:∀B w',ak aq FX w' (aj B cs ty::l)->cN P ops Q rest (bu B) w') (ho:o.op=VB ty:=by rfl) (hz:(P.info? ty).bind (·.zero)=ab z:=by rfl) (hc:z.cells=cs:=by rfl) (hw:c9 o (cZ ops a.tmps)=true:=by kernel_rfl)
 (ha:∀B,a.put o.dst (ay (ab ⟨B,0,af⟩))=bu B:=by(intro _;(try simp only[Act.put,List.setIfInBounds_toArray,List.set_cons_zero,List.set_cons_succ]);rfl)):cN P ops Q (o::rest) a w:=by
 subst hc;exact rW λK hK=>by rw[if_pos hw];exact aen ho z hz (λB w' h1 h2 h3 _=>by rw[ha];exact hK _ _ (h B w' (I.new _ (yE h2 h1 h3))))
def bL {ty:gb} {x:hY} {cs:Array aP} {bu:Nat->b3} (I:ak aq FX w l) (v:aP) (h:∀B w',ak aq FX w' (aj B cs ty::l)->cN P ops Q rest (bu B) w') (ho:o.op=.box ty x:=by rfl) (hx:a.eval x=v:=by rfl) (hc:v.cells=cs:=by rfl) (hw:c9 o (cZ ops a.tmps)=true:=by kernel_rfl)
 (ha:∀B,a.put o.dst (ay (ab ⟨B,0,af⟩))=bu B:=by(intro _;(try simp only[Act.put,List.setIfInBounds_toArray,List.set_cons_zero,List.set_cons_succ]);rfl)):cN P ops Q (o::rest) a w:=by
 subst hc;exact rW λK hK=>by rw[if_pos hw];exact aep x ho v hx (λB w' h1 h2 h3 _=>by rw[ha];exact hK _ _ (h B w' (I.new _ (yE h2 h1 h3))))
def e7 {ty n:Nat} {parts:Array (Nat×hY)} {bu:Nat->b3} (I:ak aq FX w l) (cs:Array aP) (e:Nat) (h:∀B w',ak aq FX w' (aj B cs e::l)->cN P ops Q rest (bu B) w') (ho:o.op=VC ty n parts:=by rfl)
 (hr:∀w:aQ,(Vw ty n (parts.map λ(i,x)=>(i,a.eval x))).run P w=bf (ae (ab ⟨w.heap.size,0,af⟩) n n) (w.alloc (bo cs e)):=by(intro _;kernel_rfl)) (hw:c9 o (cZ ops a.tmps)=true:=by kernel_rfl)
 (ha:∀B,a.put o.dst (ae (ab ⟨B,0,af⟩) n n)=bu B:=by(intro _;(try simp only[Act.put,List.setIfInBounds_toArray,List.set_cons_zero,List.set_cons_succ]);rfl)):cN P ops Q (o::rest) a w:=
 rW λK hK=>by rw[if_pos hw];exact aeq ho hr (λB w' h1 h2 h3 _=>by rw[ha];exact hK _ _ (h B w' (I.new _ (yE h2 h1 h3))))
def a' {B t k:Nat} {cs cs':Array aP} {ty:gb} {x y:hY} (I:ak aq FX w l) (i:Nat) (v:aP) (h:∀w',ak aq FX w' l'->cN P ops Q rest bu w') (hi:l[i]?=ab (aj B cs t):=by rfl) (ho:o.op=x2 ty x y:=by rfl) (hx:a.eval x=ay (ab ⟨B,k,af⟩):=by rfl) (hy:a.eval y=v:=by rfl)
 (hk:k+v.cells.size<=cs.size:=by exact(of_decide_eq_true aw)) (hz:(P.info? ty).map (·.size)=ab v.cells.size:=by kernel_rfl) (h1:v.cells.all (·.oneCell')=true:=by kernel_rfl)
 (hc:lay cs k v.cells.toList=cs':=by((try simp only[lay,Value.cells,List.setIfInBounds_toArray,List.set_cons_zero,List.set_cons_succ]);rfl)) (hl:l.set i (aj B cs' t)=l':=by((try simp only[List.set_cons_zero,List.set_cons_succ]);rfl)) (hw:c9 o (cZ ops a.tmps)=true:=by kernel_rfl)
 (ha:a.put o.dst a7=bu:=by((try simp only[Act.put,List.setIfInBounds_toArray,List.set_cons_zero,List.set_cons_succ]);rfl)):cN P ops Q (o::rest) a w:=by
 obtain⟨w',hr,h2,h3,_⟩:=NT (P:=P) ho hx hy (I.aW i hi) hk hz h1;refine rW λK hK=>?_;rw[if_pos hw];unfold iy;rw[hr];show K _ _;rw[ha];exact hK _ _ (h w' (I.eP i (vz h3 (hc▸h2)) hi hl))
def YF{N n c Dh aC e sz A aA xs bY w'}(h:Gp N w w' A n c aA Dh aC e sz xs bY):Turned w w' (ba A n c e sz xs) (ba aA Dh aC e sz bY):=
 ⟨h.2.2.1.only,h.1.le (cC _),λb hb=>⟨(h.1.lt hb).2,h.2.2.2 b hb⟩⟩
def ak.atR{A:Option bT}{n c e sz:Nat}{xs:List aP}(h:ak aq FX w l)(i:Nat)(hi:l[i]?=ab (ba A n c e sz xs):=by rfl):Row 0 w A n c e sz xs:=h.at i hi
def jV {s x:hY} {t e sz n c m c2:Nat} {A aK:Option bT} {xs news:List aP} {l':Option bT->Nat->List bq} {bu:Option bT->Nat->b3} (I:ak aq FX w l) (i bytes:Nat) (hr:Cells w sz aK m news) (h1:∀u∈news,u.oneCell'=az)
 (h:∀aA aC w',ak aq FX w' (l' aA aC)->cN P ops Q rest (bu aA aC) w') (ho:o.op=.call {callee:=pb x0,args:=#[s,x],argTypes:=#[t,t]}:=by rfl) (hi:l[i]?=ab (ba A n c e sz xs):=by rfl) (hs:a.eval s=ae A n c:=by rfl) (hx:a.eval x=ae aK m c2:=by rfl)
 (ht:P.underlying t=ab (iJ e):=by kernel_rfl) (lr:(P.info? e).map (λi=>(i.zero.isSome,(i.zero.map (·.cells.size)).getD 0,i.size,i.bytes))=ab (az,sz,sz,bytes):=by kernel_rfl) (hb0:0<bytes:=by decide) (hby:(n+m)*bytes<=140737488355328:=by omega) (hl:∀aA aC,l.set i (ba aA (n+m) aC e sz (xs++news))=l' aA aC:=by(intro _ _;(try simp only[List.set_cons_zero,List.set_cons_succ]);rfl))
 (hw:c9 o (cZ ops a.tmps)=true:=by kernel_rfl) (ha:∀aA aC,a.put o.dst (ae aA (n+m) aC)=bu aA aC:=by(intro _ _;((try simp only[Act.put,List.setIfInBounds_toArray,List.set_cons_zero,List.set_cons_succ]);rfl))):cN P ops Q (o::rest) a w:=
 rW λK hK=>by rw[if_pos hw];exact aeo 0 s x t e sz _ ho ht lr A n c xs hs (I.atR i hi) aK m c2 _ hx hr h1 hby hb0 (cC _) (λaA aC w' hap=>by rw[ha];exact hK _ _ (h aA aC w' (I.eP i (YF hap) hi (hl aA aC))))
def Dr {s t:bq} (I:ak aq FX w l) (i:Nat) (hr:∃w',(bA a.eval o).run P w=bf (dc v) w'/\Turned w w' s t) (h:∀w',ak aq FX w' l'->cN P ops Q rest bu w') (hi:l[i]?=ab s:=by rfl) (hl:l.set i t=l':=by((try simp only[List.set_cons_zero,List.set_cons_succ]);rfl)) (hw:c9 o (cZ ops a.tmps)=true:=by kernel_rfl)
 (ha:a.put o.dst v=bu:=by((try simp only[Act.put,List.setIfInBounds_toArray,List.set_cons_zero,List.set_cons_succ]);rfl)):cN P ops Q (o::rest) a w:=by
 obtain⟨w',h1,h2⟩:=hr;refine rW λK hK=>?_;rw[if_pos hw];unfold iy;rw[h1];show K _ _;rw[ha];exact hK _ _ (h w' (I.eP i h2 hi hl))
def NH {agR:Nat->aP} {agk:Nat->bq} {bu:Nat->b3} (I:ak aq FX w l) (hr:∃B w',(bA a.eval o).run P w=bf (dc (agR B)) w'/\cf w w' (agk B)) (h:∀B w',ak aq FX w' (agk B::l)->cN P ops Q rest (bu B) w') (hw:c9 o (cZ ops a.tmps)=true:=by kernel_rfl)
 (ha:∀B,a.put o.dst (agR B)=bu B:=by(intro _;(try simp only[Act.put,List.setIfInBounds_toArray,List.set_cons_zero,List.set_cons_succ]);rfl)):cN P ops Q (o::rest) a w:=by
 obtain⟨B,w',h1,h2⟩:=hr;refine rW λK hK=>?_;rw[if_pos hw];unfold iy;rw[h1];show K _ _;rw[ha];exact hK _ _ (h B w' (I.new _ h2))
def NG {s t:bq} (I:ak aq FX w l) (i:Nat) (hr:∃w',(bA a.eval o).run P w=bf .skip w'/\Turned w w' s t) (h:∀w',ak aq FX w' l'->cN P ops Q rest bu w') (hi:l[i]?=ab s:=by rfl) (hl:l.set i t=l':=by((try simp only[List.set_cons_zero,List.set_cons_succ]);rfl)) (hw:c9 o (cZ ops a.tmps)=true:=by kernel_rfl)
 (ha:a.put o.dst a7=bu:=by((try simp only[Act.put,List.setIfInBounds_toArray,List.set_cons_zero,List.set_cons_succ]);rfl)):cN P ops Q (o::rest) a w:=by
 obtain⟨w',h1,h2⟩:=hr;refine rW λK hK=>?_;rw[if_pos hw];unfold iy;rw[h1];show K _ _;rw[ha];exact hK _ _ (h w' (I.eP i h2 hi hl))
def aR{f:FuncId}{args:Array aP}{cz:Ending->aQ->Prop}(hc:Calls P f args w cz)(h:∀e w',cz e w'->Q0 e λv=>cN P ops Q rest (a.put o.dst v) w')(hr:(bA a.eval o).run P w=bf (.enter f args) w:=by(go_simp;try with_reducible rfl))(hw:c9 o (cZ ops a.tmps)=true:=by kernel_rfl):
 cN P ops Q (o::rest) a w:=rW λK hK=>by
 rw[if_pos hw];unfold iy;rw[hr];refine Kp hc (λe w' he=>?_);grind[Q0]
def aU(h:cN P ops Q rest bu w)(ha:a.put o.dst v=bu:=by((try simp only[Act.put,List.setIfInBounds_toArray,List.set_cons_zero,List.set_cons_succ]);rfl)):Q0 (.returned v) λv=>cN P ops Q rest (a.put o.dst v) w:=by subst ha;exact h
end
def Cf(look:Nat->List Nat)(out:(Nat->ff)->Nat->bq):List Nat->Prop
 |[]=>True
 |i::l=>(∀us kN:Nat->ff,(∀k,k∈look i->us k=kN k)->out us i=out kN i)/\Cf look out l
def Cf.spec{look out}:∀{LE},Cf look out LE->∀i,i∈LE->∀us kN:Nat->ff,(∀k,k∈look i->us k=kN k)->out us i=out kN i
 |[],_,i,hi=>absurd hi fQ
 |_::_,h,i,hi=>by
  rcases gy.1 hi with rfl|hi;·exact h.1
  .exact Cf.spec h.2 i hi
def bR {P:ew} {ops:Array cS} {Q:iI->b3->aQ->Prop} {aq:aQ} {FX:Nat->Prop} {bm:List bq} {Jf:Nat} {w:aQ} {a0:b3} (I:ak aq FX w bm) (LE:List Nat) (bU:Nat->ff->aP) (out:(Nat->ff)->Nat->bq) (ins rd look:Nat->List Nat) (fin:List Nat)
 (kq:∀us,cL P ops Q (oP ops) LE bU aq FX bm out ins rd fin (λ_ _=>False) us 0 ops.toList a0)
 (hloc:Cf look out LE:=by(repeat' (first|exact trivial|refine And.intro (λus kN h=>?_) ?_|rfl|(simp(disch:=decide) only[h];done))))
 (hm:P.follows .mixedOrders=true:=by kernel_rfl) (hk:EI ops (oP ops) (yO ops)=true:=by kernel_rfl) (hsz:((dQ ops.size).all λi=>match oP ops i with|some d=>decide (d<a0.tmps.size)|none=>LE.contains i)=true:=by kernel_rfl) (hs:F5 bm.length ops.size (yO ops) LE ins rd look fin=true:=by kernel_rfl):
 (Code.region Jf ops az).wp P Q a0 w:=wp_region_any hm (UQ I (yO ops) (oP ops) LE bU out ins rd look fin _ hk hsz hs (λ_ _ _ _ h=>h.elim) (hloc.spec) kq)
section
variable {P:ew} {ops:Array cS} {rest:List cS} {Q:iI->b3->aQ->Prop} {o:cS} {a bu:b3} {v:aP} {aq:aQ} {FX:Nat->Prop} {dst:Nat->Option nv} {LE:List Nat} {bU:Nat->ff->aP} {bm:List bq} {out:(Nat->ff)->Nat->bq} {ins rd:Nat->List Nat} {fin:List Nat} {QP:List rV->aQ->Prop} {us:Nat->ff} {i:Nat}
def aJ (h:cL P ops Q dst LE bU aq FX bm out ins rd fin QP us (i+1) rest bu) (hi:decide (i∈LE)=false:=by kernel_rfl) (hw:c9 o (cZ ops a.tmps)=true:=by kernel_rfl) (hr:∀w,(bA a.eval o).run P w=bf (dc v) w:=by(intro _;go_simp;try with_reducible rfl))
 (ha:a.put o.dst v=bu:=by((try simp only[Act.put,List.setIfInBounds_toArray,List.set_cons_zero,List.set_cons_succ]);rfl)):cL P ops Q dst LE bU aq FX bm out ins rd fin QP us i (o::rest) a:=by
 subst ha;exact afG hi hw (λw _ _=>hr w) h
def aL (v:aP) (hr:∀w (Fr:List bq),ak aq FX w ((rd i).map (dk bm out us)++Fr)->(bA a.eval o).run P w=bf (dc v) w) (h:cL P ops Q dst LE bU aq FX bm out ins rd fin QP us (i+1) rest bu) (hi:decide (i∈LE)=false:=by kernel_rfl) (hw:c9 o (cZ ops a.tmps)=true:=by kernel_rfl)
 (ha:a.put o.dst v=bu:=by((try simp only[Act.put,List.setIfInBounds_toArray,List.set_cons_zero,List.set_cons_succ]);rfl)):cL P ops Q dst LE bU aq FX bm out ins rd fin QP us i (o::rest) a:=by
 subst ha;exact afG hi hw hr h
def ds (h:cL P ops Q dst LE bU aq FX bm out ins rd fin QP us (i+1) rest bu) (hi:decide (i∈LE)=false:=by kernel_rfl) (hw:c9 o (cZ ops a.tmps)=false:=by kernel_rfl)
 (ha:a.put o.dst a7=bu:=by((try simp only[Act.put,List.setIfInBounds_toArray,List.set_cons_zero,List.set_cons_succ]);rfl)):cL P ops Q dst LE bU aq FX bm out ins rd fin QP us i (o::rest) a:=by
 subst ha;exact awK hi hw h
def dl {B t:Nat} {cs:Array aP} {ty:gb} {x:hY} (j k:Nat) (h:cL P ops Q dst LE bU aq FX bm out ins rd fin QP us (i+1) rest bu) (ho:o.op=nV ty x:=by rfl) (hx:a.eval x=ay (ab ⟨B,k,af⟩):=by rfl) (hj:∀Fr,((rd i).map (dk bm out us)++Fr)[j]?=ab (aj B cs t):=by(intro _;rfl))
 (hv:cs[k]?=ab v:=by((try simp only[List.getElem?_toArray,List.getElem?_cons_succ,List.getElem?_cons_zero])<;>rfl)) (hu:(P.underlying ty).map (λd=>d.isRow)=ab false:=by kernel_rfl) (hi:decide (i∈LE)=false:=by kernel_rfl) (hw:c9 o (cZ ops a.tmps)=true:=by kernel_rfl)
 (ha:a.put o.dst v=bu:=by((try simp only[Act.put,List.setIfInBounds_toArray,List.set_cons_zero,List.set_cons_succ]);rfl)):cL P ops Q dst LE bU aq FX bm out ins rd fin QP us i (o::rest) a:=
 aL v (λ_ Fr I=>fH ho hx (I.aW j (hj Fr)) hv hu) h hi hw ha
def eM {B t k:Nat} {cs:Array aP} {ty:gb} {x:hY} (j:Nat) (cs':Array aP) (h:cL P ops Q dst LE bU aq FX bm out ins rd fin QP us (i+1) rest bu) (ho:o.op=nV ty x:=by rfl) (hx:a.eval x=ay (ab ⟨B,k,af⟩):=by rfl) (hj:∀Fr,((rd i).map (dk bm out us)++Fr)[j]?=ab (aj B cs t):=by(intro _;rfl))
 (hv:cs.extract k (k+cs'.size)=cs':=by kernel_rfl) (hk:k+cs'.size<=cs.size:=by exact(of_decide_eq_true aw)) (hu:(P.underlying ty).map (λd=>d.isRow)=ab true:=by kernel_rfl) (hz:(P.info? ty).map (·.size)=ab cs'.size:=by kernel_rfl) (hi:decide (i∈LE)=false:=by kernel_rfl) (hw:c9 o (cZ ops a.tmps)=true:=by kernel_rfl)
 (ha:a.put o.dst (ar cs')=bu:=by((try simp only[Act.put,List.setIfInBounds_toArray,List.set_cons_zero,List.set_cons_succ]);rfl)):cL P ops Q dst LE bU aq FX bm out ins rd fin QP us i (o::rest) a:=
 aL _ (λ_ Fr I=>mH ho hx (I.aW j (hj Fr)) hv hk hu hz) h hi hw ha
def w8(h:Lr P ops dst LE bU aq FX bm out ins rd QP us i o a)(hr:cL P ops Q dst LE bU aq FX bm out ins rd fin QP us (i+1) rest bu)(hi:decide (i∈LE)=true:=by kernel_rfl)(ha:a.put o.dst (bU i (us i))=bu:=by((try simp only[Act.put,List.setIfInBounds_toArray,List.set_cons_zero,List.set_cons_succ]);rfl)):cL P ops Q dst LE bU aq FX bm out ins rd fin QP us i (o::rest) a:=by subst ha;exact awJ hi h hr
def rh {ty:gb} {z:aP} (cs:Array aP) (h:cL P ops Q dst LE bU aq FX bm out ins rd fin QP us (i+1) rest bu) (ho:o.op=VB ty:=by rfl) (hz:(P.info? ty).bind (·.zero)=ab z:=by rfl) (hc:z.cells=cs:=by rfl) (hl:∀u,bU i u=ay (ab ⟨u.b,0,af⟩):=by(intro _;rfl)) (nc:∀u,out (dF us i u) i=aj u.b cs ty:=by(intro _;rfl)) (hn:ins i=[]:=by rfl) (hd:dst i=o.dst:=by rfl) (hlt:(match o.dst with|some d=>decide (d<a.tmps.size)|none=>ao)=true:=by kernel_rfl)
 (hi:decide (i∈LE)=true:=by kernel_rfl) (hw:c9 o (cZ ops a.tmps)=true:=by kernel_rfl) (ha:a.put o.dst (bU i (us i))=bu:=by((try simp only[Act.put,List.setIfInBounds_toArray,List.set_cons_zero,List.set_cons_succ]);rfl)):cL P ops Q dst LE bU aq FX bm out ins rd fin QP us i (o::rest) a:=by
 refine w8 (λw Fr I K hK=>?_) h hi ha;subst hc;rw[if_pos hw];rw[hn]at I;refine aen ho z hz (λB w' h1 h2 h3 _=>hK.out {b:=B} _ _ ?_ (put_defers _ _ _) ?_)
 .rw[hd,hl];cases hq:o.dst with
  |none=>grind
  |some d=>simp only[hq,decide_eq_true_eq]at hlt;simp[lS,u6,tC,hlt]
 .rw[nc];exact I.new _ (yE h2 h1 h3)
def aoy {ty:gb} {x:hY} {cs:Array aP} (v:aP) (h:cL P ops Q dst LE bU aq FX bm out ins rd fin QP us (i+1) rest bu) (ho:o.op=.box ty x:=by rfl) (hx:a.eval x=v:=by rfl) (hc:v.cells=cs:=by rfl) (hl:∀u,bU i u=ay (ab ⟨u.b,0,af⟩):=by(intro _;rfl)) (nc:∀u,out (dF us i u) i=aj u.b cs ty:=by(intro _;rfl)) (hn:ins i=[]:=by rfl) (hd:dst i=o.dst:=by rfl) (hlt:(match o.dst with|some d=>decide (d<a.tmps.size)|none=>ao)=true:=by kernel_rfl)
 (hi:decide (i∈LE)=true:=by kernel_rfl) (hw:c9 o (cZ ops a.tmps)=true:=by kernel_rfl) (ha:a.put o.dst (bU i (us i))=bu:=by((try simp only[Act.put,List.setIfInBounds_toArray,List.set_cons_zero,List.set_cons_succ]);rfl)):cL P ops Q dst LE bU aq FX bm out ins rd fin QP us i (o::rest) a:=by
 refine w8 (λw Fr I K hK=>?_) h hi ha;subst hc;rw[if_pos hw];rw[hn]at I;refine aep x ho v hx (λB w' h1 h2 h3 _=>hK.out {b:=B} _ _ ?_ (put_defers _ _ _) ?_)
 .rw[hd,hl];cases hq:o.dst with
  |none=>grind
  |some d=>simp only[hq,decide_eq_true_eq]at hlt;simp[lS,u6,tC,hlt]
 .rw[nc];exact I.new _ (yE h2 h1 h3)
def kH {ty n:Nat} {parts:Array (Nat×hY)} (cs:Array aP) (e:Nat) (h:cL P ops Q dst LE bU aq FX bm out ins rd fin QP us (i+1) rest bu) (ho:o.op=VC ty n parts:=by rfl) (hr:∀w:aQ,(Vw ty n (parts.map λ(i,x)=>(i,a.eval x))).run P w=bf (ae (ab ⟨w.heap.size,0,af⟩) n n) (w.alloc (bo cs e)):=by(intro _;kernel_rfl))
 (hl:∀u,bU i u=ae (ab ⟨u.b,0,af⟩) n n:=by(intro _;rfl)) (nc:∀u,out (dF us i u) i=aj u.b cs e:=by(intro _;rfl)) (hn:ins i=[]:=by rfl) (hd:dst i=o.dst:=by rfl) (hlt:(match o.dst with|some d=>decide (d<a.tmps.size)|none=>ao)=true:=by kernel_rfl)
 (hi:decide (i∈LE)=true:=by kernel_rfl) (hw:c9 o (cZ ops a.tmps)=true:=by kernel_rfl) (ha:a.put o.dst (bU i (us i))=bu:=by((try simp only[Act.put,List.setIfInBounds_toArray,List.set_cons_zero,List.set_cons_succ]);rfl)):cL P ops Q dst LE bU aq FX bm out ins rd fin QP us i (o::rest) a:=by
 refine w8 (λw Fr I K hK=>?_) h hi ha;rw[if_pos hw];rw[hn]at I;refine aeq ho hr (λB w' h1 h2 h3 _=>hK.out {b:=B} _ _ ?_ (put_defers _ _ _) ?_)
 .rw[hd,hl];cases hq:o.dst with
  |none=>grind
  |some d=>simp only[hq,decide_eq_true_eq]at hlt;simp[lS,u6,tC,hlt]
 .rw[nc];exact I.new _ (yE h2 h1 h3)
def fS {B t k m:Nat} {cs cs':Array aP} {ty:gb} {x y:hY} (v:aP) (h:cL P ops Q dst LE bU aq FX bm out ins rd fin QP us (i+1) rest bu) (hn:ins i=[m]:=by rfl) (hm:dk bm out us m=aj B cs t:=by rfl) (ho:o.op=x2 ty x y:=by rfl) (hx:a.eval x=ay (ab ⟨B,k,af⟩):=by rfl) (hy:a.eval y=v:=by rfl)
 (hk:k+v.cells.size<=cs.size:=by exact(of_decide_eq_true aw)) (hz:(P.info? ty).map (·.size)=ab v.cells.size:=by kernel_rfl) (h1:v.cells.all (·.oneCell')=true:=by kernel_rfl)
 (hc:lay cs k v.cells.toList=cs':=by((try simp only[lay,Value.cells,List.setIfInBounds_toArray,List.set_cons_zero,List.set_cons_succ]);rfl)) (hl:∀u,bU i u=undef:=by(intro _;rfl)) (nc:∀u,out (dF us i u) i=aj B cs' t:=by(intro _;rfl)) (hd:dst i=none:=by rfl) (jB:o.dst=none:=by rfl)
 (hi:decide (i∈LE)=true:=by kernel_rfl) (hw:c9 o (cZ ops a.tmps)=true:=by kernel_rfl) (ha:a.put o.dst (bU i (us i))=bu:=by((try simp only[Act.put,List.setIfInBounds_toArray,List.set_cons_zero,List.set_cons_succ]);rfl)):cL P ops Q dst LE bU aq FX bm out ins rd fin QP us i (o::rest) a:=by
 refine w8 (λw Fr I K hK=>?_) h hi ha;rw[if_pos hw];rw[hn]at I;have lj:ak aq FX w (aj B cs t::((rd i).map (dk bm out us)++Fr)):=aH;obtain⟨w',hr,h2,h3,_⟩:=NT (P:=P) ho hx hy (lj.aW 0 aa) hk hz h1;unfold iy;rw[hr];show K _ _;refine hK.out {} _ _ (by rw[hd,hl,jB];rfl) (put_defers _ _ _) ?_;rw[nc];exact lj.xK (vz h3 (hc▸h2))
def ri {s x:hY} {t e sz n c m c2 k:Nat} {A aK:Option bT} {xs news:List aP} (bytes:Nat) (hr:∀w (Fr:List bq),ak aq FX w ((ins i).map (dk bm out us)++((rd i).map (dk bm out us)++Fr))->Cells w sz aK m news) (h1:∀u∈news,u.oneCell'=az) (h:cL P ops Q dst LE bU aq FX bm out ins rd fin QP us (i+1) rest bu)
 (hn:ins i=[k]:=by rfl) (hk:dk bm out us k=ba A n c e sz xs:=by rfl) (ho:o.op=.call {callee:=pb x0,args:=#[s,x],argTypes:=#[t,t]}:=by rfl) (hs:a.eval s=ae A n c:=by rfl) (hx:a.eval x=ae aK m c2:=by rfl) (ht:P.underlying t=ab (iJ e):=by kernel_rfl) (lr:(P.info? e).map (λi=>(i.zero.isSome,(i.zero.map (·.cells.size)).getD 0,i.size,i.bytes))=ab (az,sz,sz,bytes):=by kernel_rfl) (hb0:0<bytes:=by decide) (hby:(n+m)*bytes<=140737488355328:=by omega)
 (hl:∀u,bU i u=ae u.A (n+m) u.c:=by(intro _;rfl)) (nc:∀u,out (dF us i u) i=ba u.A (n+m) u.c e sz (xs++news):=by(intro _;rfl)) (hd:dst i=o.dst:=by rfl) (hlt:(match o.dst with|some d=>decide (d<a.tmps.size)|none=>ao)=true:=by kernel_rfl)
 (hi:decide (i∈LE)=true:=by kernel_rfl) (hw:c9 o (cZ ops a.tmps)=true:=by kernel_rfl) (ha:a.put o.dst (bU i (us i))=bu:=by((try simp only[Act.put,List.setIfInBounds_toArray,List.set_cons_zero,List.set_cons_succ]);rfl)):cL P ops Q dst LE bU aq FX bm out ins rd fin QP us i (o::rest) a:=by
 refine w8 (λw Fr I K hK=>?_) h hi ha;rw[if_pos hw];have hr:=hr w Fr I;rw[hn]at I;have lj:ak aq FX w (ba A n c e sz xs::((rd i).map (dk bm out us)++Fr)):=aH;refine aeo 0 s x t e sz _ ho ht lr A n c xs hs (lj.atR 0 aa) aK m c2 _ hx hr h1 hby hb0 (cC _) (λaA aC w' hap=>hK.out {A:=aA,c:=aC} _ _ ?_ (put_defers _ _ _) ?_)
 .rw[hd,hl];cases hq:o.dst with
  |none=>grind
  |some d=>simp only[hq,decide_eq_true_eq]at hlt;simp[lS,u6,tC,hlt]
 .rw[nc];exact lj.xK (YF hap)
def HD {k:Nat} {s t:bq} (v:aP) (hr:∀w (Fr:List bq),ak aq FX w ((ins i).map (dk bm out us)++((rd i).map (dk bm out us)++Fr))->∃w',(bA a.eval o).run P w=bf (dc v) w'/\Turned w w' s t) (h:cL P ops Q dst LE bU aq FX bm out ins rd fin QP us (i+1) rest bu)
 (hn:ins i=[k]:=by rfl) (hk:dk bm out us k=s:=by rfl) (hl:∀u,bU i u=(if o.dst=af then a7 else v):=by(intro _;rfl)) (nc:∀u,out (dF us i u) i=t:=by(intro _;rfl)) (hd:dst i=o.dst:=by rfl) (hlt:(match o.dst with|some d=>decide (d<a.tmps.size)|none=>az)=true:=by kernel_rfl)
 (hi:decide (i∈LE)=true:=by kernel_rfl) (hw:c9 o (cZ ops a.tmps)=true:=by kernel_rfl) (ha:a.put o.dst (bU i (us i))=bu:=by((try simp only[Act.put,List.setIfInBounds_toArray,List.set_cons_zero,List.set_cons_succ]);rfl)):cL P ops Q dst LE bU aq FX bm out ins rd fin QP us i (o::rest) a:=by
 refine w8 (λw Fr I K hK=>?_) h hi ha;rw[if_pos hw];obtain⟨w',h1,h2⟩:=hr w Fr I;rw[hn]at I;have lj:ak aq FX w (s::((rd i).map (dk bm out us)++Fr)):=aH;unfold iy;rw[h1];show K _ _;refine hK.out {} _ _ ?_ (put_defers _ _ _) ?_
 .rw[hd,hl];cases hq:o.dst with
  |none=>rfl
  |some d=>simp only[hq,decide_eq_true_eq]at hlt;simp[lS,u6,tC,hlt]
 .rw[nc];exact lj.xK h2
def L3 {k:Nat} {s t:bq} (hr:∀w (Fr:List bq),ak aq FX w ((ins i).map (dk bm out us)++((rd i).map (dk bm out us)++Fr))->∃w',(bA a.eval o).run P w=bf .skip w'/\Turned w w' s t) (h:cL P ops Q dst LE bU aq FX bm out ins rd fin QP us (i+1) rest bu)
 (hn:ins i=[k]:=by rfl) (hk:dk bm out us k=s:=by rfl) (hl:∀u,bU i u=undef:=by(intro _;rfl)) (nc:∀u,out (dF us i u) i=t:=by(intro _;rfl)) (hd:dst i=o.dst:=by rfl) (hlt:(match o.dst with|some d=>decide (d<a.tmps.size)|none=>az)=true:=by kernel_rfl)
 (hi:decide (i∈LE)=true:=by kernel_rfl) (hw:c9 o (cZ ops a.tmps)=true:=by kernel_rfl) (ha:a.put o.dst (bU i (us i))=bu:=by((try simp only[Act.put,List.setIfInBounds_toArray,List.set_cons_zero,List.set_cons_succ]);rfl)):cL P ops Q dst LE bU aq FX bm out ins rd fin QP us i (o::rest) a:=by
 refine w8 (λw Fr I K hK=>?_) h hi ha;rw[if_pos hw];obtain⟨w',h1,h2⟩:=hr w Fr I;rw[hn]at I;have lj:ak aq FX w (s::((rd i).map (dk bm out us)++Fr)):=aH;unfold iy;rw[h1];show K _ _;refine hK.out {} _ _ ?_ (put_defers _ _ _) ?_
 .rw[hd,hl];cases hq:o.dst with
  |none=>rfl
  |some d=>simp only[hq,decide_eq_true_eq]at hlt;simp[lS,u6,tC]
 .rw[nc];exact lj.xK h2
def di {f:FuncId} {args:Array aP} (hc:∀w (Fr:List bq),ak aq FX w ((ins i).map (dk bm out us)++((rd i).map (dk bm out us)++Fr))->Calls P f args w λe w'=>∃u,e=.returned (bU i u)/\ak aq FX w' (out (dF us i u) i::((rd i).map (dk bm out us)++Fr))) (h:cL P ops Q dst LE bU aq FX bm out ins rd fin QP us (i+1) rest bu)
 (hr:∀w,(bA a.eval o).run P w=bf (.enter f args) w:=by(intro _;go_simp;try with_reducible rfl)) (hd:dst i=o.dst:=by rfl) (hlt:(match o.dst with|some d=>decide (d<a.tmps.size)|none=>ao)=true:=by kernel_rfl) (hi:decide (i∈LE)=true:=by kernel_rfl) (hw:c9 o (cZ ops a.tmps)=true:=by kernel_rfl) (ha:a.put o.dst (bU i (us i))=bu:=by((try simp only[Act.put,List.setIfInBounds_toArray,List.set_cons_zero,List.set_cons_succ]);rfl)):cL P ops Q dst LE bU aq FX bm out ins rd fin QP us i (o::rest) a:=by
 refine w8 (λw Fr I K hK=>?_) h hi ha;rw[if_pos hw];unfold iy;rw[hr];refine Kp (hc w Fr I) (λe w' ⟨u,he,h2⟩=>?_);subst he;refine hK.out u _ _ ?_ (put_defers _ _ _) h2;rw[hd];cases hq:o.dst with
 |none=>grind
 |some d=>simp only[hq,decide_eq_true_eq]at hlt;simp[lS,u6,tC,hlt]
end
def a8(w:World):ak w (λ_=>False) w []:=ak.init w λ_=>False
end
end Go.Proofs.YtcmhplknoglbkaaGreat
