/- Part 2 of the proof of TopConfinedSaid. -/
import Derived.Deep.RegionHeld
import Derived.Laws.Rows
import Derived.Laws.Tables
import Derived.Laws.CopyRow
import Derived.Deep.MidRow
import Derived.Laws.MakeOwn
import Derived.Test.YtcmhplknoglbkaaGreatQf0
import Derived.Test.YtcmhplknoglbkaaGreatQf1
set_option linter.all false
set_option maxRecDepth 100000
set_option maxHeartbeats 4000000
open Go.Proofs.Tryz
open Array renaming getElem?_eq_getElem->Vx,getElem?_eq_none->ahE,getElem?_eq_some_iff->tI,replicate->OM
open Bool renaming and_eq_true->x6,eq_iff_iff->ahO,false->ao,not_eq_true'->OU,or_eq_true->ahQ,true->az
open Go renaming Act->b3,Addr->bT,Exit->iD,Oper->cT,Operand->ia,PanicEntry->rX,Program->ew,Tmp->nu,TypeId->gj,Value->aO,World->aP,asIntOf->zY,execOp->bz,grownCap->ym,heap_alloc_new->fO,loadCellsFrom->PL,mem_ready->KZ,run_loadVar_row->D7,run_underlying->gO,sizeOf->mQ,storeCells->BX,typeInfo->nv,undef->a1,wpList->cQ,wpList_step->rY,yielded->c3
open Go.Act renaming eval->u9,put->tL
open Go.Addr renaming add->u'
open Go.Builtin renaming append->yc,append_->pa,firstCells->rV,lenOf->wx,zeroCells->ns
open Go.Callee renaming builtin->pb
open Go.Calls renaming mono->KB
open Go.Exit renaming normal->sU,panic->tM
open Go.Instr renaming buildSlice->VN,loadAt->KE,slice->O9,sliceAt->O',sliceBound->Pb,sliceBounds->Pc,sureAddr->BM
open Go.IntKind renaming i64->R
open Go.Next renaming value->da
open Go.Obj renaming cells->bp
open Go.Op renaming alloc->VS,buildSlice->VT,load->nZ,slice->BN,store->ye
open Go.Oper renaming upon->aia,wp->iy,wp_mono->aic
open Go.Region.Mode renaming any->wI
open Go.Region renaming binds->yi,noSelect->PD,noSelect_spec->PE,wanted->c7
open Go.Result renaming andThen_ok->jI,ok->bf
open Go.Sem renaming run_bind->gC,run_pure->kg
open Go.TypeDesc renaming slice->iE
open Go.Value renaming agg->ar,int->J,pointer->ay,slice->ae
open Go.World renaming block_lt_of_cell?->vf,cell?_of_block->D5,freeze->Xg
open Inhabited renaming default->oF
open List.Pairwise renaming cons->Hi,nil->Hj
open List.Perm renaming refl->Cc,swap->Cd
open List renaming all_eq_true->Ce,append_assoc->kQ,contains_eq_mem->alU,eq_nil_iff_forall_not_mem->Eu,eq_nil_of_length_eq_zero->j8,filter_congr->Ev,filter_eq_nil_iff->Yr,filter_eq_self->Aj,getElem?_eq_none->Ew,getElem?_eq_none_iff->Q1,map_append->fR,map_congr_left->Cf,map_cons->kj,map_nil->lJ,mem_append->iX,mem_append_left->Cg,mem_cons->gD,mem_cons_of_mem->p5,mem_cons_self->s',mem_filter->nz,mem_map->gQ,mem_of_getElem?->cW,mem_range->mU,nodup_append->yI,not_mem_nil->fS,pairwise_cons->wX,perm_ext_iff_of_nodup->Q3,range->dU
open Nat renaming add_mul->vx,add_sub_cancel_left->uc,le_refl->b7,le_trans->eb,lt_of_lt_of_le->wY,strongRecOn->Ra,zero_le->cB
open Option renaming map_some->q6,none->af,some->ab
open Option.some renaming injEq->wZ
open Or renaming inl->bZ,inr->cc
namespace Go.Proofs.YtcmhplknoglbkaaGreat
section
open Go
section
variable {P:ew} {ops:Array cT} {Q:iD->b3->aP->Prop}
def fl(dst:Nat->Option nu)(val:Nat->aO):b3->List Nat->b3
 |a,[]=>a
 |a,j::l=>fl dst val (a.put (dst j) (val j)) l
def dI{U:Type}(us:Nat->U)(i:Nat)(u:U):Nat->U:=λk=>if k=i then u else us k
def lT(d:Option nu)(a:b3):Value:=match d with
 |some t=>a.eval (.tmp t)
 |none=>a1
def oR(ops:Array cT)(j:Nat):Option Tmp:=(ops[j]?).bind (·.dst)
def afk(a:b3)d v(t:Nat):(a.put d v).tmps[t]?=if d=ab t/\t<a.tmps.size then ab v else a.tmps[t]?:=by
 cases d with
 |none=>rfl
 |some d=>grind[tL]
def put_defers(a:b3)d v:(a.put d v).defers=a.defers:=by cases d<;>rfl
def afl(a:b3)d v:(a.put d v).tmps.size=a.tmps.size:=by cases d<;>simp[tL]
variable {dst:Nat->Option nu} {val val':Nat->aO}
theorem DJ:∀(l) a,(fl dst val a l).defers=a.defers
 |[],_=>aa
 |_::l,a=>(DJ l _).trans (put_defers a _ _)
theorem rI:∀(l) a,(fl dst val a l).tmps.size=a.tmps.size
 |[],_=>aa
 |_::l,a=>(rI l _).trans (afl a _ _)
theorem Gi{t:Nat}:∀(l) a,(∀j∈l,dst j≠ab t)->(fl dst val a l).tmps[t]?=a.tmps[t]?
 |[],_,_=>aa
 |j::l,a,h=>by have h1:=Gi l (a.put (dst j) (val j)) (λk hk=>h k (p5 _ hk));rw[fl,h1,afk,if_neg (λe=>h j (s' ..) e.1)]
theorem JJ{j t:Nat}(ht:dst j=ab t):∀(l) a,(∀i∈l,dst i=ab t->i=j)->j∈l->t<a.tmps.size->(fl dst val a l).tmps[t]?=ab (val j)
 |[],_,_,h,_=>by grind
 |i::l,a,hu,hm,hs=>by
  by_cases hl:j∈l;·exact JJ ht l _ (λk hk=>hu k (p5 _ hk)) hl (by rw[afl];exact hs)
  .have hi:i=j:=by
    rcases gD.1 hm with h|h;·exact h.symm
    .exact absurd h hl
   subst hi;rw[fl,Gi l _ (λk hk e=>hl (hu k (p5 _ hk) e▸hk)),afk,if_pos ⟨ht,hs⟩]
theorem UX i:∀(l) a,fl dst val a (l++[i])=(fl dst val a l).put (dst i) (val i)
 |[],_=>aa
 |_::l,_=>UX i l _
theorem DI:∀(l) a,(∀j∈l,val j=val' j)->fl dst val a l=fl dst val' a l
 |[],_,_=>aa
 |j::l,a,h=>by rw[fl,fl,h j (s' ..)];exact DI l _ (λk hk=>h k (p5 _ hk))
def amo{a b:b3}(h1:a.tmps=b.tmps)(h2:a.defers=b.defers):a=b:=by cases a;cases b;grind
def ax1{n}(hu:∀i j,i<n->j<n->i≠j->∀t,dst i=ab t->dst j≠ab t){l l'}a(hl:∀j∈l,j<n)(h:∀j,j∈l↔j∈l'):
 fl dst val a l=fl dst val a l':=by
 refine amo ?_ (by grind[DJ]);refine Array.ext_getElem? (λt=>?_);grind[JJ,Gi,rI]
def EW(ops:Array cT)(dst:Nat->Option nu)(D:List (List Nat)):Bool:=
 PD ops&&(dU ops.size).all λi=>
  (dst i==oR ops i)&&
  ((ops.getD i oF).after.all λe=>!yi wI e||(D.getD i []).contains e.on)&&
  ((D.getD i []).all λk=>decide (k<i)&&((D.getD k []).all λm=>(D.getD i []).contains m)&&(ops.getD i oF).after.any λe=>yi wI e&&(e.on==k||(D.getD e.on []).contains k))&&
  ((dU ops.size).all λj=>(i==j||dst i==af||dst i !=dst j)&&
    (((ops.getD i oF).looksAt ops).all λt=>dst j !=ab t||i==j||(D.getD i []).contains j||(D.getD j []).contains i))
structure Kx (ops:Array cT) (dst:Nat->Option nu) (D:List (List Nat)):Prop where
 uY:PD ops=az
 R1:∀i,i<ops.size->dst i=oR ops i
 after:∀i o,ops[i]?=ab o->∀e∈o.after,yi wI e=az->e.on∈D.getD i []
 lt:∀i,i<ops.size->∀k∈D.getD i [],k<i
 trans:∀i,i<ops.size->∀k∈D.getD i [],∀m∈D.getD k [],m∈D.getD i []
 reach:∀i o,ops[i]?=ab o->∀k∈D.getD i [],∃e∈o.after,yi wI e=az/\(e.on=k\/k∈D.getD e.on [])
 uniq:∀i j,i<ops.size->j<ops.size->i≠j->∀t,dst i=ab t->dst j≠ab t
 looks:∀i o,ops[i]?=ab o->∀t∈o.looksAt ops,∀j,j<ops.size->dst j=ab t->i=j\/j∈D.getD i []\/i∈D.getD j []
def apa{D}(h:EW ops dst D=az):Kx ops dst D:=by
 unfold EW at h;rw[x6,Ce]at h;obtain⟨h0,h⟩:=h
 have h2:∀i,i<ops.size->(dst i=oR ops i)/\(∀e∈(ops.getD i oF).after,yi wI e=az->e.on∈D.getD i [])/\
  (∀k∈D.getD i [],(k<i/\∀m∈D.getD k [],m∈D.getD i [])/\∃e∈(ops.getD i oF).after,yi wI e=az/\(e.on=k\/k∈D.getD e.on []))/\
  (∀j,j<ops.size->(i=j\/dst i=af\/dst i≠dst j)/\∀t∈(ops.getD i oF).looksAt ops,dst j=ab t->i=j\/j∈D.getD i []\/i∈D.getD j []):=by
  intro i hi;have:=h i (mU.2 hi);simp only[x6,beq_iff_eq,Ce,alU,decide_eq_true_eq,ahQ,bne_iff_ne,mU,Array.all_eq_true_iff_forall_mem,OU,Array.any_eq_true']at this;grind
 have qm:∀i o,ops[i]?=ab o->i<ops.size/\ops.getD i oF=o:=λi o ho=>by obtain⟨hi,e⟩:=tI.1 ho;exact⟨hi,by simp[hi,e]⟩
 refine⟨h0,λi hi=>(h2 i hi).1,λi o ho e he hb=>?_,λi hi k hk=>((h2 i hi).2.2.1 k hk).1.1,λi hi k hk=>((h2 i hi).2.2.1 k hk).1.2,λi o ho k hk=>?_,λi j hi hj jd t e=>?_,λi o ho t ht j hj e=>?_⟩;·grind
 .obtain⟨hi,cq⟩:=qm i o ho;exact cq▸((h2 i hi).2.2.1 k hk).2
 .grind
 .grind
def U4 o(a b:b3)(h:∀t∈o.looksAt ops,a.tmps[t]?=b.tmps[t]?):c7 o (c3 ops a.tmps)=c7 o (c3 ops b.tmps):=by
 unfold c7;cases hg:o.guard with
 |none=>rfl
 |some aqk=>
  obtain⟨g,want⟩:=aqk
  have hy:c3 ops a.tmps g=c3 ops b.tmps g:=by
   unfold c3;cases ht:(ops[g]?).bind (·.dst)with
   |none=>rfl
   |some t=>grind[Oper.looksAt]
  simp only[hy]
def eval_congr o(a b:b3)(hs:∀cs c,o.op≠.select cs c)(h:∀t∈o.looksAt ops,a.tmps[t]?=b.tmps[t]?):bz a.eval o=bz b.eval o:=
 execOp_congr o hs λx hx=>by
  cases x with
  |tmp t=>
   have:=h t (Cg _ (List.mem_filterMap.2 ⟨.tmp t,aG,aa⟩));simp[u9,this]
  |_=>rfl
def NO(a:b3)(d:Option nu)v(h:∀t,d=ab t->t<a.tmps.size)(hd:d=af->v=a1):lT d (a.put d v)=v:=by
 cases d with
 |none=>exact(hd aa).symm
 |some t=>simp[lT,u9,tL,h t aa]
theorem NX(a:b3)(d:Option nu)v(h:∀t,d=ab t->t<a.tmps.size):a.put d v=a.put d (lT d (a.put d v)):=by
 cases d with
 |none=>rfl
 |some t=>simp[lT,u9,tL,h t aa]
def ag7 {o a b w} {K:aO->aP->Prop} {Rf Qa} (he:bz b.eval o=bz a.eval o) (MH:∀d,o.dst=ab d->d<b.tmps.size) (hsz:b.tmps.size=a.tmps.size)
 (E7:∀c w,Rf (tM c) b w->Qa (tM c) a w) (cd:LetsOut Rf->LetsOut Qa)
 (h:o.wp P b w (λjC w'=>jC.defers=b.defers/\K (lT o.dst jC) w') Rf):o.wp P a w (λbC w'=>∃v,bC=a.put o.dst v/\lT o.dst bC=v/\K v w') Qa:=by
 have aqV:=λd hd=>hsz▸MH d hd
 have hout:∀v,lT o.dst (b.put o.dst v)=lT o.dst (a.put o.dst v):=λv=>by
  cases hd:o.dst with
  |none=>rfl
  |some t=>simp[lT,u9,tL,MH t hd,aqV t hd]
 unfold iy at*;rw[he]at h;generalize (bz a.eval o).run P w=r at*;cases r with
 |ok n w'=>
  cases n<;>simp only[aia]at h⊢;case value u=>grind[NX]
  case skip=>grind[NX]
  case defer d=>
   have h1:=h.1;rw[put_defers]at h1;have:=congrArg List.length h1;simp at this
  case enter f args=>
   refine KB h λe Ou he=>?_;grind[NX]
  grind[Rows.mono,NX]
 |halt x w'=>
  cases x<;>simp only[aia]at h⊢;case panic u=>grind
variable {U:Type}
structure LF where
 A:Option bT
 b:Nat
 c:Nat
def Dv(P:ew)(ops:Array cT)(zO:aP)(o:cT)(a:b3):Value:=
 if c7 o (c3 ops a.tmps)=az then(match(bz a.eval o).run P zO with|.ok (da v) _=>v|_=>a1)else a1
section
variable {D:List (List Nat)} {LE:List Nat} {bS:Nat->LF->aO} {cC:Nat->(Nat->LF)->aP->Prop} {T:aP->Prop} {E:Nat->(Nat->LF)->aP->aP->Prop} {QP:List rX->aP->Prop} {az8:Nat->aP->Prop} {us:Nat->LF}
end
def aeb {a0 val val' D} (hk:Kx ops dst D) {i o} (ho:ops[i]?=ab o) {l l'} (hl:∀j∈l,j<ops.size/\i∉D.getD j []/\i≠j) (hl':∀j∈l',j<ops.size/\i∉D.getD j []/\i≠j)
 (ec:∀j∈D.getD i [],j∈l/\j∈l'/\val j=val' j):∀t∈o.looksAt ops,(fl dst val a0 l).tmps[t]?=(fl dst val' a0 l').tmps[t]?:=λt ht=>by
 by_cases hs:t<a0.tmps.size
 .have u:∀k j,k<ops.size->j<ops.size->dst j=ab t->dst k=ab t->k=j:=λk j vQ vO AT e=>by
   by_cases hkj:k=j;·omega
   .exact absurd AT (hk.uniq k j vQ vO hkj t e)
  by_cases hj:∃j∈D.getD i [],dst j=ab t;·grind[JJ]
  .have hno:∀k,k<ops.size->i∉D.getD k []->i≠k->dst k≠ab t:=λk vQ h1 h2 e=>by
    rcases hk.looks i o ho t ht k vQ e with h|h|h;·omega
    .grind
    .grind
   grind[Gi]
 grind[rI]
end
end
section
open Go.RowKit Go.MapKept
abbrev aX(w:aP)(B:Nat)(cs:Array aO)(t:gj):Prop:=w.heap[B]?=ab (bp cs t (0,0))
section
variable {F:Nat->Prop} {w w':aP} {B:Nat} {cs:Array aO} {t:gj}
def aX.lt(h:aX w B cs t):B<w.heap.size:=(tI.1 h).1
theorem aX.cell(h:aX w B cs t)k{v}(hv:cs[k]?=ab v):w.cell? ⟨B,k,af⟩=ab v:=(cell_of_row w B k cs t _ h).trans hv
def aX.frozen(h:aX w B cs t)k:w.frozen? ⟨B,k,af⟩=false:=by grind[World.frozen?]
def aX.rangeAt(h:aX w B cs t)o l(hl:∀j v,l[j]?=ab v->cs[o+j]?=ab v):w.rangeAt B o l:=λj v hv=>h.cell _ (hl j v hv)
theorem av.setRow w B cs:av (λi=>i=B) w (w.setRow B cs):=
 ⟨rfl,rfl,rfl,bc,λk _ hn=>by grind[World.setRow]⟩
theorem aX.setRow(h:aX w B cs t)cs':aX (w.setRow B cs') B cs' t:=setRow_heap w B cs cs' t _ h
structure vs (F:Nat->Prop) (w w':aP):Prop where
 only:av F w w'
 shape:∀B cs t,aX w B cs t->∃cs',aX w' B cs' t/\cs'.size=cs.size
def au.keep(h:au w w'):vs F w w':=⟨h.to,λ_ cs _ hb=>⟨cs,av.heap h hb (λh=>h),aa⟩⟩
def vs.aeC{F}(h:vs (λ_=>False) w w'):vs F w w':=⟨h.only.mono (λ_ _ h=>h.elim),h.shape⟩
def vs.aeB{cs'}(h:av (λi=>i=B) w w')(h1:aX w B cs t)(h2:aX w' B cs' t)(hs:cs'.size=cs.size):vs (λi=>i=B) w w':=
 ⟨h,λahJ aAC b8 hb=>by
   by_cases e:ahJ=B;·grind
   .exact⟨_,h.heap hb e,aa⟩⟩
end
section
variable {P:ew} {o:cT} {a:b3} {w:aP} {K:b3->aP->Prop} {Q:iD->b3->aP->Prop}
def UC{t z}(hz:(P.info? t).bind (·.zero)=ab z)w:(zeroValue t).run P w=bf z w:=by
 cases hq:P.info? t with
 |none=>grind
 |some i=>
  simp only[hq,Option.bind_some]at hz;simp[zeroValue,nv,hq,hz]
def aeE {t} (ho:o.op=VS t) z (hz:(P.info? t).bind (·.zero)=ab z)
 (h:∀B w',aX w' B z.cells t->au w w'->w.heap.size<=B->B<w'.heap.size->K (a.put o.dst (ay (ab ⟨B,0,af⟩))) w'):o.wp P a w K Q:=by
 have hr:(bz a.eval o).run P w=bf (da (ay (ab ⟨w.heap.size,0,af⟩))) (w.alloc (bp z.cells t)):=by unfold bz;simp only[ho];simp only[Instr.alloc,newVar,newRow,newObj,gC,UC hz,jI,kg];rfl
 unfold iy;rw[hr];exact h _ _ (fO w _) (av.alloc _ _) (b7 _) bc
def aeG {t} x (ho:o.op=.box t x) v (hx:a.eval x=v)
 (h:∀B w',aX w' B v.cells t->au w w'->w.heap.size<=B->B<w'.heap.size->K (a.put o.dst (ay (ab ⟨B,0,af⟩))) w'):o.wp P a w K Q:=by
 have hr:(bz a.eval o).run P w=bf (da (ay (ab ⟨w.heap.size,0,af⟩))) (w.alloc (bp v.cells t)):=by unfold bz;simp only[ho,hx];rfl
 unfold iy;rw[hr];exact h _ _ (fO w _) (av.alloc _ _) (b7 _) bc
def aeH {t n e:Nat} {parts cells} (ho:o.op=VT t n parts)
 (hr:∀w:aP,(VN t n (parts.map λ(i,x)=>(i,a.eval x))).run P w=bf (ae (ab ⟨w.heap.size,0,af⟩) n n) (w.alloc (bp cells e)))
 (h:∀B w',aX w' B cells e->au w w'->w.heap.size<=B->B<w'.heap.size->K (a.put o.dst (ae (ab ⟨B,0,af⟩) n n)) w'):o.wp P a w K Q:=by
 unfold iy bz;simp only[ho,gC,hr,jI,kg];exact h _ _ (fO w _) (av.alloc _ _) (b7 _) bc
theorem aug{v}(hr:(bz a.eval o).run P w=bf (da v) w)(h:K (a.put o.dst v) w):o.wp P a w K Q:=by unfold iy;rw[hr];exact h
def atc ty x (ho:o.op=nZ ty x) B (hx:a.eval x=ay (ab ⟨B,0,af⟩)) {t cs d} (hg:aX w B cs t)
 (hu:P.underlying ty=ab d) (hd:(match d with|.struct _|.array _ _=>az|_=>ao)=az) (hi:(P.info? ty).map (·.size)=ab cs.size):(bz a.eval o).run P w=bf (da (ar cs)) w:=by
 unfold bz;simp only[ho,hx,KE,BM,gC,kg,jI,D7 w B t ty cs _ d hg hu hd hi]
def e5 ty x (ho:o.op=nZ ty x) (B k) (hx:a.eval x=ay (ab ⟨B,k,af⟩)) cs {d} (hc:w.rangeAt B k cs)
 (hu:P.underlying ty=ab d) (hd:d.isRow=az) (hi:(P.info? ty).map (·.size)=ab cs.length):(bz a.eval o).run P w=bf (da (ar cs.toArray)) w:=by grind[bz,KE,BM,gC,kg,jI,run_loadVar_mid]
end
end
section
open Go.RowKit Go.MapKept
def Mem(N:Nat)(w:aP)(A:Option bT)(t:gj):Prop:=∀b off sp,A=ab ⟨b,off,sp⟩->N<=b/\∃cs,aX w b cs t
section
variable {w w':aP} {N n B c:Nat} {A:Option bT} {t b8:gj} {bs:List Int}
def Mem.none:Mem N w af t:=λ_ _ _ h=>by grind
def Mem.le(h:Mem N w A t){M}(dZ:M<=N):Mem M w A t:=λb off sp e=>⟨eb dZ (h b off sp e).1,(h b off sp e).2⟩
def eU(N:Nat)(w:aP)(A:Option bT)(c:Nat)(bs:List Int):Prop:=bX w A bs/\Mem N w A 5/\bs.length<=c
theorem eU.nil:eU N w af c []:=⟨bX.nil,Mem.none,cB _⟩
def eU.le(h:eU N w A c bs){M}(dZ:M<=N):eU M w A c bs:=⟨h.1,h.2.1.le dZ,h.2.2⟩
theorem eU.ow{base}(h:w.ownsRow base 5 1 (ae A bs.length c) bs.length (bs.map a6)):eU base w A c bs:=⟨bX.ow h,λb off sp e=>by
 rcases h.2 with⟨hv,_⟩|⟨g,cap,cur,hv,hb,hg,_⟩;·grind
 grind,by
 rcases h.2 with⟨hv,h0⟩|⟨g,cap,cur,hv,hb,hg,hn,_⟩;·omega
 .grind⟩
end
def fm(A:Option bT)(c i sz:Nat):Option Addr:=if c=i then A else A.map (·.add (i*sz))
section
variable {P:ew} {o:cT} {a:b3} {w:aP}
def agj (t e sz:Nat) (x lo hi) (ho:o.op=BN t x (ab lo) (ab hi) af) (ht:P.underlying t=ab (iE e)) (hs:(P.info? e).map (·.size)=ab sz) A (n c i q:Nat)
 (hx:a.eval x=ae A n c) (kp:a.eval lo=J R (i:Int)) (zc:a.eval hi=J R (q:Int)) (h1:i<=q) (h2:q<=c):
 (bz a.eval o).run P w=bf (da (ae (fm A c i sz) (q -i) (c -i))) w:=by
 cases hq:P.info? e with
 |none=>grind
 |some tE=>
  have hsz:tE.size=sz:=aG;have h3:(q:Int)<=(c:Int):=ad;have h4:(i:Int)<=(q:Int):=ad;have h5:(0:Int)<=(q:Int):=ad;have h6:(0:Int)<=(i:Int):=ad;unfold bz;simp[ho,hx,kp,zc,O',O9,Pc,Pb,zY,gC,gO ht,mQ,nv,hq,hsz,h1,h2,fm]
def UK (t e sz:Nat) (x lo) (ho:o.op=BN t x (ab lo) af af) (ht:P.underlying t=ab (iE e)) (hs:(P.info? e).map (·.size)=ab sz) A (n c i:Nat)
 (hx:a.eval x=ae A n c) (kp:a.eval lo=J R (i:Int)) (h1:i<=n) (h2:n<=c):
 (bz a.eval o).run P w=bf (da (ae (fm A c i sz) (n -i) (c -i))) w:=by
 cases hq:P.info? e with
 |none=>grind
 |some tE=>
  have hsz:tE.size=sz:=aG;unfold bz;simp[ho,hx,kp,O',O9,Pc,Pb,zY,gC,gO ht,mQ,nv,hq,hsz,h1,fm]
def rF (t e sz:Nat) (x hi) (ho:o.op=BN t x af (ab hi) af) (ht:P.underlying t=ab (iE e)) (hs:(P.info? e).map (·.size)=ab sz) A (n c q:Nat)
 (hx:a.eval x=ae A n c) (zc:a.eval hi=J R (q:Int)) (h2:q<=c):
 (bz a.eval o).run P w=bf (da (ae A q c)) w:=by
 cases hq:P.info? e with
 |none=>grind
 |some tE=>
  unfold bz;simp[ho,hx,zc,O',O9,Pc,Pb,zY,gC,gO ht,mQ,nv,hq,h2];intro _;cases A<;>simp[u']
end
def bX.win{w A bs c i q}(h:bX w A bs)(hc:bs.length<=c)(hq:q<=bs.length):bX w (fm A c i 1) ((bs.drop i).take (q -i)):=λhp=>by have hl:0<q -i:=aG;obtain⟨kk,me,rfl,hcell⟩:=h ad;grind[fm,mW]
def bX.By{w A bs c i}(h:bX w A bs)(hc:bs.length<=c):bX w (fm A c i 1) (bs.drop i):=by have:=h.win (i:=i) hc (b7 _);rwa [List.take_of_length_le bc]at this
def bX.Gl{w A bs q}(h:bX w A bs)(hq:q<=bs.length):bX w A (bs.take q):=λhp=>by obtain⟨kk,me,rfl,hcell⟩:=h aG;grind
def Mem.win{w N A}{t c i sz:Nat}(h:Mem N w A t):Mem N w (fm A c i sz) t:=by
 unfold fm;split;·omega
 .intro b off sp e;cases A with
  |none=>grind
  |some eH=>
   simp at e;obtain⟨kk,me,N9⟩:=eH;have:kk=b:=by grind[u']
   subst this;exact h _ _ _ aa
end
section
open Go.RowKit Go.MapKept
abbrev Row(N:Nat)(w:aP)(A:Option bT)(n c:Nat)(e:gj)(sz:Nat)(xs:List aO):Prop:=w.ownsRow N e sz (ae A n c) n xs
def ej(A:Option bT)(b:Nat):Prop:=∃off sp,A=ab ⟨b,off,sp⟩
section
variable {F:Nat->Prop} {w w':aP} {N n c e sz B b8 m:Nat} {A:Option bT} {xs:List aO}
theorem Row.nil N w(e sz:Nat):Row N w af 0 0 e sz []:=World.ownsRow_nil _ _ _ _
def Row.cases(h:Row N w A n c e sz xs):(A=af/\n=0/\c=0/\xs=[])\/∃g cur,A=ab ⟨g,0,af⟩/\N<=g/\aX w g cur e/\n<=c/\cur.size=c*sz/\cur.toList.take (n*sz)=xs:=by
 rcases h.2 with⟨hv,h0⟩|⟨g,cap,cur,hv,hb,hg,hn,hm,hs,ht⟩;·injection hv with h1 h2 h3;subst h0;exact bZ ⟨h1,aa,h3,j8 (by have:=h.1;omega)⟩
 grind
def Row.only(h:Row N w A n c e sz xs)(k:av F w w')(hn:∀b,ej A b->¬F b):Row N w' A n c e sz xs:=by
 refine⟨h.1,?_⟩;rcases h.2 with h2|⟨g,cap,cur,hv,hb,hg,r⟩;·grind
 .injection hv with h1 h2 h3;subst h1;subst h3;exact cc ⟨g,c,_,aa,hb,k.heap hg (hn g ⟨0,_,aa⟩),r⟩
def Row.aH(h:Row N w A n c e sz xs)(g:au w w'):Row N w' A n c e sz xs:=h.only g (λ_ _ h=>h)
def Row.le(h:Row N w A n c e sz xs){M}(dZ:M<=N):Row M w A n c e sz xs:=by
 refine⟨h.1,?_⟩;rcases h.2 with h2|⟨g,cap,cur,hv,hb,r⟩;·grind
 .exact cc ⟨g,_,_,hv,eb dZ hb,r⟩
def Row.mem(h:Row N w A n c e sz xs):Mem N w A e:=λb off sp ha=>by
 rcases h.cases with⟨h1,_⟩|⟨g,cur,h1,hb,hg,_⟩;·grind
 grind
def Row.lt(h:Row N w A n c e sz xs){b}(hb:ej A b):N<=b/\b<w.heap.size:=by obtain⟨off,sp,e⟩:=hb;obtain⟨h1,cs,h2⟩:=h.mem b off sp e;exact⟨h1,aX.lt h2⟩
def Row.len(h:Row N w A n c e sz xs):xs.length=n*sz:=h.1
theorem Row.cell(h:Row N w A n c e sz xs){j v}(hj:xs[j]?=ab v):∃g,A=ab ⟨g,0,af⟩/\w.cell? ⟨g,j,af⟩=ab v:=by
 rcases h.cases with⟨_,_,_,h4⟩|⟨g,cur,h1,_,hg,_,_,ht⟩;·grind
 grind[aX.cell]
def Row.cap(h:Row N w A n c e sz xs):n<=c:=by
 rcases h.cases with⟨_,h2,h3,_⟩|⟨_,_,_,_,_,h5,_⟩;·omega
 .omega
def Row.nj{bs}(h:Row N w A bs.length c 5 1 (bs.map a6)):eU N w A c bs:=eU.ow h
def Gv(N:Nat)(w w':aP)(A:Option bT)(n c:Nat)(aA:Option bT)(Dq aD:Nat)(e sz:Nat)(xs bV:List aO):Prop:=
 Row N w' aA Dq aD e sz bV/\Row N w' A n c e sz xs/\vs (ej A) w w'/\(∀b,ej aA b->ej A b\/w.heap.size<=b)
end
section
variable {P:ew} (w:aP)
def awp N (t ty e) i z (ht:P.underlying t=ab (iE e)) (hi:P.info? e=ab i) (hz:i.zero=ab z) (hzs:z.cells.size=i.size)
 A (n c) xs (hown:Row N w A n c e i.size xs) aL (m c2) news (hr:Cells w i.size aL m news) (h1:∀u∈news,u.oneCell'=az)
 (h63:n+m<=maxLen) (hbytes:(n+m)*i.bytes<=140737488355328) (d':N<=w.heap.size):
 ∃aA aD w',(pa #[t,t] ty #[ae A n c,ae aL m c2]).run P w=bf (ae aA (n+m) aD) w'/\Gv N w w' A n c aA (n+m) aD e i.size xs (xs++news):=by
 have hlen:(xs++news).length=(n+m)*i.size:=by rw[List.length_append,hown.1,hr.1,vx]
 have aBS:Gv N w w A n c A n c e _ xs xs:=⟨hown,hown,au.keep (av.refl _ w),λb hb=>bZ hb⟩;rcases Nat.eq_zero_or_pos m with hm|hm
 .subst hm;have hn:=j8 (by simpa using hr.1);subst hn;refine⟨A,c,w,?_,aG⟩;have hc:=hown.cap;rcases aL with _|eH
  .rcases hown.cases with⟨rfl,rfl,rfl,_⟩|⟨g,cur,rfl,_⟩;·simp[pa,gO ht,mQ,nv,hi,wx,rV]
   .simp[pa,gO ht,mQ,nv,hi,wx,rV,hc,BX]
  .rcases hown.cases with⟨rfl,rfl,rfl,_⟩|⟨g,cur,rfl,_⟩;·simp[pa,gO ht,mQ,nv,hi,wx,rV,loadCells,PL]
   .simp[pa,gO ht,mQ,nv,hi,wx,rV,loadCells,PL,hc,BX]
 .obtain⟨eH,rfl,hnews⟩:=hr.2 hm;have aBT:n+m<=9223372036854775807:=by grind[maxLen]
  have grown:∀old,old<n+m->Gv N w (w.drew.alloc (bp (xs.toArray++news.toArray++ns z.cells (ym w (n+m) old e -(n+m))) e)) A n c (ab ⟨w.heap.size,0,af⟩) (n+m) (ym w (n+m) old e) e i.size xs (xs++news):=by
   intro old ho;have mB:=grownCap_ge w (n+m) old e;have hcm:=grownCap_le_maxLen w _ old e h63;have hg:au w (w.drew.alloc (bp (xs.toArray++news.toArray++ns z.cells (ym w (n+m) old e -(n+m))) e)):=au.trans (av.drew _) (av.alloc _ _);refine⟨⟨hlen,cc ⟨w.heap.size,_,_,aa,d',fO w.drew _,mB,hcm,?_,?_⟩⟩,hown.aH hg,hg.keep.aeC,λb ⟨_,_,Z8⟩=>aG⟩;·simp only[Array.size_append,List.size_toArray,size_zeroCells,hzs,hown.1,hr.1,<-vx];congr 1;omega
   grind
  rcases hown.cases with⟨rfl,rfl,rfl,rfl⟩|⟨g,cur,rfl,hbg,hg,ka,hcs,aBV⟩;·grind[run_append_nil]
  .by_cases hroom:n+m<=c
   .have nc:n*i.size+news.length<=cur.size:=by rw[hr.1,hcs,<-vx];exact Nat.mul_le_mul_right _ hroom
    have hrun:=run_append_room (P:=P) w t ty e i ht hi g n c _ hg eH m c2 _ hr.1 hnews h1 hroom nc;have hb2:=hg.setRow (cur.toList.take (n*i.size)++news++cur.toList.drop (n*i.size+news.length)).toArray;have hsz:(cur.toList.take (n*i.size)++news++cur.toList.drop (n*i.size+news.length)).toArray.size=cur.size:=aG
    have hcm:c<=maxLen:=by
     rcases hown.2 with⟨hv,_⟩|⟨g2,aAt,CF,hv,_,_,_,jX,_⟩;·grind
     .grind
    refine⟨_,_,_,hrun,⟨hlen,cc ⟨g,c,_,aa,hbg,hb2,hroom,hcm,ad,?_⟩⟩,⟨hown.1,cc ⟨g,c,_,aa,hbg,hb2,ka,hcm,ad,?_⟩⟩,?_,λb hb=>bZ hb⟩;·grind
    .grind
    .have k:=vs.aeB (av.setRow w g _) hg hb2 hsz;exact⟨k.only.mono (λb _ e=>⟨0,af,by rw[e]⟩),k.shape⟩
   .have holds:=hown.cells (g:=g) aa;have hrun:=run_append_grow (P:=P) w t ty e i z ht hi hz _ n c xs hown.1 holds eH m c2 _ hr.1 hnews ad ad (growslice_fits ad hbytes);exact⟨_,_,_,hrun,grown c ad⟩
end
section
variable {P:ew} {o:cT} {a:b3} {w:aP} {K:b3->aP->Prop} {Q:iD->b3->aP->Prop}
def aeF N (s x) (t e sz bytes:Nat) (ho:o.op=.call {callee:=pb yc,args:=#[s,x],argTypes:=#[t,t]}) (ht:P.underlying t=ab (iE e))
 (lq:(P.info? e).map (λi=>(i.zero.isSome,(i.zero.map (·.cells.size)).getD 0,i.size,i.bytes))=ab (az,sz,sz,bytes))
 (A:Option bT) (n c:Nat) (xs:List aO) (hs:a.eval s=ae A n c) (hown:Row N w A n c e sz xs) (aL:Option bT) (m c2:Nat) (news:List aO) (hx:a.eval x=ae aL m c2) (hr:Cells w sz aL m news) (h1:∀u∈news,u.oneCell'=az)
 (hbytes:(n+m)*bytes<=140737488355328) (hb0:0<bytes) (d':N<=w.heap.size)
 (h:∀aA aD w',Gv N w w' A n c aA (n+m) aD e sz xs (xs++news)->K (a.put o.dst (ae aA (n+m) aD)) w'):o.wp P a w K Q:=by
 cases hq:P.info? e with
 |none=>simp[hq]at lq
 |some i=>
  rw[hq]at lq;simp only[q6,wZ,Prod.mk.injEq]at lq;obtain⟨bF,cq,fC,oT⟩:=lq;obtain⟨z,hz⟩:=Option.isSome_iff_exists.1 bF;rw[hz]at cq;simp only[q6,Option.getD_some]at cq;subst fC;subst oT;have hle:(n+m)<=(n+m)*i.bytes:=Nat.le_mul_of_pos_right _ hb0;obtain⟨aA,aD,w',hrun,hap⟩:=awp (P:=P) w N t o.type e i z ht hq hz cq A n c xs hown aL m c2 news hr h1 (by grind[maxLen]) hbytes d';unfold iy bz;simp only[ho,resolve,invoke,builtin,gC,kg,jI,List.map_toArray,kj,lJ,hs,hx,hrun];exact h aA aD w' hap
end
end
section
open Go.RowKit Go.MapKept
structure bu where
 cU:Nat->Prop
 p:aP->Prop
 nG:∀w w':aP,(∀b,cU b->b<w.heap.size->w'.heap[b]?=w.heap[b]?)->(∀b,cU b->b<w.heap.size)->p w->p w'
structure ak (aq:aP) (FX:Nat->Prop) (w:aP) (l:List bu):Prop where
 only:av FX aq w
 holds:∀t∈l,t.p w
 low:∀t∈l,∀b,t.cU b->b<w.heap.size/\(aq.heap.size<=b\/FX b)
 apart:l.Pairwise (λs t=>∀b,s.cU b->¬t.cU b)
def Has(w:aP)(t:bu):Prop:=t.p w/\∀b,t.cU b->b<w.heap.size
def cj(w w':aP)(t:bu):Prop:=au w w'/\t.p w'/\∀b,t.cU b->w.heap.size<=b/\b<w'.heap.size
def Turned(w w':aP)(s t:bu):Prop:=av s.cU w w'/\t.p w'/\∀b,t.cU b->b<w'.heap.size/\(s.cU b\/w.heap.size<=b)
section
variable {aq w w':aP} {FX F:Nat->Prop} {l l':List bu} {s t:bu}
def ak.init w FX:ak w FX w []:=⟨av.refl _ _,λ_ h=>(fS h).elim,λ_ h=>(fS h).elim,Hj⟩
def ak.start(h:Has w t):ak w t.cU w [t]:=⟨av.refl _ _,λx hx=>by
 obtain rfl:x=t:=aG;exact h.1,λx hx b hb=>by
 obtain rfl:x=t:=aG;exact⟨h.2 b hb,cc hb⟩,List.pairwise_singleton _ _⟩
def bu.only(t:bu)(h:t.p w)(hl:∀b,t.cU b->b<w.heap.size)(k:av F w w')(hn:∀b,t.cU b->¬F b):t.p w':=
 t.nG w w' (λb hb hlt=>k.block b hlt (hn b hb)) hl h
def ak.perm(h:ak aq FX w l)(p:l.Perm l'):ak aq FX w l':=
 ⟨h.only,λt ht=>h.holds t (p.mem_iff.2 ht),λt ht=>h.low t (p.mem_iff.2 ht),(p.pairwise_iff (λ{a b} (h1:∀c,a.cU c->¬b.cU c) c hb ha=>h1 c ha hb)).1 h.apart⟩
def ak.sub(h:ak aq FX w l)(p:l'.Sublist l):ak aq FX w l':=
 ⟨h.only,λt ht=>h.holds t (p.subset ht),λt ht=>h.low t (p.subset ht),h.apart.sublist p⟩
def ak.aH(h:ak aq FX w l)(g:au w w'):ak aq FX w' l:=
 ⟨av.trans h.only g.to (λ_ _ h=>h),λt ht=>t.only (h.holds t ht) (λb hb=>(h.low t ht b hb).1) g (λ_ _ h=>h),λt ht b hb=>⟨wY (h.low t ht b hb).1 g.size,(h.low t ht b hb).2⟩,h.apart⟩
def ak.new(h:ak aq FX w l)t(hf:cj w w' t):ak aq FX w' (t::l):=by
 obtain⟨g,hp,hb⟩:=hf;have h2:=h.aH g;refine⟨h2.only,λx hx=>?_,λx hx b hb2=>?_,Hi (λx hx b h1 h3=>?_) h2.apart⟩
 .rcases gD.1 hx with rfl|hx;·omega
  .exact h2.holds x hx
 .rcases gD.1 hx with rfl|hx;·exact⟨(hb b hb2).2,bZ (eb h.only.size (hb b hb2).1)⟩
  .exact h2.low x hx b hb2
 .have h4:=(h.low x hx b h3).1;have h5:=(hb b h1).1;omega
def ak.xV(h:ak aq FX w (s::l))(bP:Turned w w' s t):ak aq FX w' (t::l):=by
 obtain⟨k,hp,hb⟩:=bP;have ha:=wX.1 h.apart;have hs:=h.low s (s' ..);refine⟨⟨k.os.trans h.only.os,k.tape.trans h.only.tape,k.output.trans h.only.output,eb h.only.size k.size,λi hi hn=>?_⟩,λx hx=>?_,λx hx b hb2=>?_,Hi (λx hx b h1 h3=>?_) ha.2⟩
 .have h1:¬s.cU i:=λh1=>by grind
  exact(k.block i (wY hi h.only.size) h1).trans (h.only.block i hi hn)
 .rcases gD.1 hx with rfl|hx;·omega
  .exact x.only (h.holds x (p5 _ hx)) (λb hb=>(h.low x (p5 _ hx) b hb).1) k (λb h1 h2=>ha.1 x hx b h2 h1)
 .rcases gD.1 hx with rfl|hx
  .refine⟨(hb b hb2).1,?_⟩;rcases(hb b hb2).2 with h1|h1;·grind
   .exact bZ (eb h.only.size h1)
  .exact⟨wY (h.low x (p5 _ hx) b hb2).1 k.size,(h.low x (p5 _ hx) b hb2).2⟩
 .rcases(hb b h1).2 with h2|h2;·grind
  .have:=(h.low x (p5 _ hx) b h3).1;omega
def aaE{i:Nat}(hi:l[i]?=ab s):∃h,l[i]=s:=List.getElem?_eq_some_iff.1 hi
def Ug:∀(l:List bu) i s,l[i]?=ab s->l.Perm (s::l.eraseIdx i)
 |[],i,s,h=>by simp at h
 |x::l,0,s,h=>by
  obtain rfl:x=s:=by simpa using h
  exact Cc _
 |x::l,i+1,s,h=>by have h1:=Ug l i s (by simpa using h);exact(h1.cons x).trans (Cd s x _)
def afb t:∀(l:List bu) i s,l[i]?=ab s->(l.set i t).Perm (t::l.eraseIdx i)
 |[],i,s,h=>by simp at h
 |x::l,0,s,h=>Cc _
 |x::l,i+1,s,h=>by have h1:=afb t l i s (by simpa using h);exact(h1.cons x).trans (Cd t x _)
def ak.DH(h:ak aq FX w l)i(hi:l[i]?=ab s)(bP:Turned w w' s t):ak aq FX w' (l.set i t):=by have h3:=h.perm (Ug l i s hi);exact(h3.xV bP).perm (afb t l i s hi).symm
def ak.at(h:ak aq FX w l)(i:Nat)(hi:l[i]?=ab t:=by rfl):t.p w:=h.holds t (cW hi)
def ak.has(h:ak aq FX w l)(i:Nat)(hi:l[i]?=ab t:=by rfl):Has w t:=⟨h.at i hi,λb hb=>(h.low t (cW hi) b hb).1⟩
def ak.drop(h:ak aq FX w l)(i:Nat)(hl:l.eraseIdx i=l':=by rfl):ak aq FX w l':=hl▸h.sub (List.eraseIdx_sublist ..)
def ak.gu(h:ak w s.cU w' l)(i:Nat)(hi:l[i]?=ab t:=by rfl):Turned w w' s t:=
 ⟨h.only,h.at i hi,λb hb=>⟨(h.low t (cW hi) b hb).1,(h.low t (cW hi) b hb).2.symm⟩⟩
def ak.fresh(h:ak w (λ_=>False) w' l)(i:Nat)(hi:l[i]?=ab t:=by rfl):cj w w' t:=
 ⟨h.only,h.at i hi,λb hb=>⟨(h.low t (cW hi) b hb).2.elim id (λh=>h.elim),(h.low t (cW hi) b hb).1⟩⟩
def ak.ne(h:ak aq FX w l){i j:Nat}(hi:l[i]?=ab s)(hj:l[j]?=ab t)(jd:i≠j):∀b,s.cU b->¬t.cU b:=by obtain⟨h1,rfl⟩:=aaE hi;obtain⟨h2,rfl⟩:=aaE hj;have hp:=List.pairwise_iff_getElem.1 h.apart;grind
theorem Turned.refl(h:Has w t):Turned w w t t:=⟨av.refl _ _,h.1,λb hb=>⟨h.2 b hb,bZ hb⟩⟩
def cj.aH{aU}(h:cj w w' t)(g:au w' aU):cj w aU t:=
 ⟨au.trans h.1 g,t.only h.2.1 (λb hb=>(h.2.2 b hb).2) g (λ_ _ h=>h),λb hb=>⟨(h.2.2 b hb).1,wY (h.2.2 b hb).2 g.size⟩⟩
def Has.aH(h:Has w t)(g:au w w'):Has w' t:=⟨t.only h.1 h.2 g (λ_ _ h=>h),λb hb=>wY (h.2 b hb) g.size⟩
end
def emp:bu:=⟨λ_=>False,λ_=>True,λ_ _ _ _ _=>trivial⟩
def aj(B:Nat)(cs:Array aO)(t:gj):bu:=⟨λb=>b=B,λw=>aX w B cs t,λw w' h hl hp=>(h B aa (hl B aa)).trans hp⟩
def Du{cU:Nat->Prop}{w w':aP}(h:∀b,cU b->b<w.heap.size->w'.heap[b]?=w.heap[b]?){b o}(hf:cU b)(hb:w.heap[b]?=ab o):w'.heap[b]?=ab o:=
 by grind
def bg(A:Option bT)(n c e sz:Nat)(xs:List aO):bu:=⟨ej A,λw=>Row 0 w A n c e sz xs,λw w' h _ hp=>by
 refine⟨hp.1,?_⟩;rcases hp.2 with h2|⟨g,cap,cur,hv,hb,hg,r⟩;·grind
 .injection hv with h1 h2 h3;subst h1;subst h3;exact cc ⟨g,c,_,aa,hb,Du h ⟨0,_,aa⟩ hg,r⟩⟩
def cz(A:Option bT)(c:Nat)(bs:List Int):bu:=⟨ej A,λw=>eU 0 w A c bs,λw w' h _ hp=>by
 refine⟨λk2=>?_,λb off sp e=>?_,hp.2.2⟩;·obtain⟨kk,me,rfl,hc⟩:=hp.1 k2;refine⟨kk,me,rfl,λk hk=>?_⟩;have h1:=hc k hk;exact(D5 (w:=w) (h kk ⟨me,_,aa⟩ (vf w _ h1))).trans h1
 .obtain⟨h1,cs,h2⟩:=hp.2.1 b off sp e;exact⟨h1,cs,Du h ⟨_,sp,e⟩ h2⟩⟩
def both(s t:bu):bu:=⟨λb=>s.cU b\/t.cU b,λw=>s.p w/\t.p w/\∀b,s.cU b->¬t.cU b,λw w' h hl hp=>
 ⟨s.nG w w' (λb hb=>h b (bZ hb)) (λb hb=>hl b (bZ hb)) hp.1,t.nG w w' (λb hb=>h b (cc hb)) (λb hb=>hl b (cc hb)) hp.2.1,hp.2.2⟩⟩
def k6(q:Prop)(t:bu):bu:=⟨t.cU,λw=>q/\t.p w,λw w' h hl hp=>⟨hp.1,t.nG w w' h hl hp.2⟩⟩
section
variable {aq w w':aP} {FX F:Nat->Prop} {l l':List bu} {s t:bu} {A:Option bT} {B c n e sz:Nat} {bs:List Int} {xs:List aO} {cs cs':Array aO} {ty:gj}
def ak.lS(h:ak aq FX w l)(g:au w w')(hb:eU w.heap.size w' A c bs):ak aq FX w' (cz A c bs::l):=
 h.new _ ⟨g,hb.le (cB _),λb ⟨off,sp,e⟩=>by obtain⟨h1,cs,h2⟩:=hb.2.1 b off sp e;exact⟨h1,aX.lt h2⟩⟩
def ak.lz(h:ak aq FX w l)(g:au w w')(hb:Row w.heap.size w' A n c e sz xs):ak aq FX w' (bg A n c e sz xs::l):=
 h.new _ ⟨g,hb.le (cB _),λ_ hb2=>hb.lt hb2⟩
theorem cj.T2(g:au w w')(hb:eU w.heap.size w' A c bs):cj w w' (cz A c bs):=⟨g,hb.le (cB _),λb ⟨off,sp,e⟩=>by obtain⟨h1,cs,h2⟩:=hb.2.1 b off sp e;exact⟨h1,aX.lt h2⟩⟩
def cj.aeA(g:au w w')(hb:Row w.heap.size w' A n c e sz xs):cj w w' (bg A n c e sz xs):=⟨g,hb.le (cB _),λ_ hb2=>hb.lt hb2⟩
def cj.DF(h:cj w w' (cz A c bs)):eU w.heap.size w' A c bs:=⟨h.2.1.1,λb off sp e=>⟨(h.2.2 b ⟨off,sp,e⟩).1,(h.2.1.2.1 b off sp e).2⟩,h.2.1.2.2⟩
def cj.row(h:cj w w' (bg A n c e sz xs)):Row w.heap.size w' A n c e sz xs:=by
 obtain⟨g,hp,hl⟩:=h;refine⟨hp.1,?_⟩;rcases hp.2 with h2|⟨g2,cap,cur,hv,hb,r⟩;·grind
 .injection hv with h1 h2 h3;subst h1;exact cc ⟨g2,_,_,by rw[h3],(hl g2 ⟨0,_,aa⟩).1,r⟩
def ak.star(h:ak aq FX w (s::t::l)):ak aq FX w (both s t::l):=by
 have h1:=wX.1 h.apart;have h2:=wX.1 h1.2;refine⟨h.only,λx hx=>?_,λx hx b hb=>?_,Hi (λx hx b hb hx2=>?_) h2.2⟩
 .rcases gD.1 hx with rfl|hx;·exact⟨h.holds s bc,h.holds t bc,h1.1 t bc⟩
  .exact h.holds x aG
 .rcases gD.1 hx with rfl|hx;·exact hb.elim (h.low s bc b) (h.low t bc b)
  .exact h.low x aG b hb
 .exact hb.elim (λhb=>h1.1 x aG b hb hx2) (λhb=>h2.1 x hx b hb hx2)
def ak.fw(h:ak aq FX w (both s t::l)):ak aq FX w (s::t::l):=by
 have h1:=wX.1 h.apart;have hs:=h.holds _ (s' ..);have hl:=h.low _ (s' ..);refine⟨h.only,λx hx=>?_,λx hx b hb=>?_,Hi (λx hx b hb hx2=>?_) (Hi (λx hx b hb hx2=>?_) h1.2)⟩
 .rcases gD.1 hx with rfl|hx;·exact hs.1
  .rcases gD.1 hx with rfl|hx;·exact hs.2.1
   .exact h.holds x aG
 .rcases gD.1 hx with rfl|hx;·exact hl b (bZ hb)
  .rcases gD.1 hx with rfl|hx;·exact hl b (cc hb)
   .exact h.low x aG b hb
 .rcases gD.1 hx with rfl|hx;·exact hs.2.2 b hb hx2
  .exact h1.1 x hx b (bZ hb) hx2
 .exact h1.1 x hx b (cc hb) hx2
def ak.as(h:ak aq FX w l)i(hi:l[i]?=ab s)t(hp:s.p w->t.p w)(hf:∀b,t.cU b->s.cU b):ak aq FX w (l.set i t):=
 h.DH i hi ⟨av.refl _ _,hp (h.at i hi),λb hb=>⟨(h.has i hi).2 b (hf b hb),bZ (hf b hb)⟩⟩
end
end
section
open Go.RowKit Go.MapKept
section
variable {P:ew} {ops:Array cT} {Q:iD->b3->aP->Prop} {dst:Nat->Option nu} {U:Type}
def BG(D:List (List Nat))(done:List Nat):Prop:=∀j∈done,∀k∈D.getD j [],k∈done
def YE(P:ew)(ops:Array cT)(dst:Nat->Option nu)(D:List (List Nat))(val:(Nat->U)->Nat->aO)(ob:List Nat->(Nat->U)->aP->Prop)(QP:List rX->aP->Prop)(a0:b3)(i:Nat):Prop:=
 ∀done us w,BG D done->(∀j∈done,j<ops.size)->i∉done->(∀k∈D.getD i [],k∈done)->ob done us w->∀K:b3->aP->Prop,Shut (∀u jC w',lT (dst i) jC=val (dI us i u) i->jC.defers=a0.defers->ob (done++[i]) (dI us i u) w'->K jC w')->
  match ops[i]? with
  |none=>True
  |some o=>if c7 o (c3 ops (fl dst (val us) a0 (D.getD i [])).tmps)=az then o.wp P (fl dst (val us) a0 (D.getD i [])) w K (λe _ w'=>match e with|.panic c=>QP c w'|_=>False)
   else K ((fl dst (val us) a0 (D.getD i [])).put (dst i) a1) w
def ayy {D val ob QP a0}
 (hk:Kx ops dst D) (hsz:∀i d,i<ops.size->dst i=ab d->d<a0.tmps.size)
 (H4:∀c a w,a.defers=a0.defers->QP c w->Q (tM c) a w)
 (hloc:∀j,j<ops.size->∀us kJ,(∀k,k=j\/k∈D.getD j []->us k=kJ k)->val us j=val kJ j)
 (hop:∀i,i<ops.size->YE P ops dst D val ob QP a0 i)
 (hend:∀done us w',(∀j,j<ops.size->j∈done)->(∀j∈done,j<ops.size)->ob done us w'->Q sU (fl dst (val us) a0 (dU ops.size)) w'):
 ∀(fuel) done eP (us:Nat->U) w,((dU ops.size).filter (λj=>decide (j∉done))).length<=fuel->
  (∀j d,eP.getD j d=if j<ops.size then decide (j∈done)else d)->eP.size=ops.size->(∀j∈done,j<ops.size)->BG D done->ob done us w->
  wpAny P wI ops Q fuel eP (fl dst (val us) a0 done) w:=by
 have iM:∀(done) us w,(∀j,j<ops.size->j∈done)->(∀j∈done,j<ops.size)->ob _ us w->Q _ (fl _ _ a0 _) w:=
  λdone us w hall hlt fF=>by rw[ax1 (n:=_) hk.uniq a0 hlt (l':=_) (λj=>⟨λh=>mU.2 (hlt j h),λh=>hall j (mU.1 h)⟩)];exact hend _ us w hall hlt fF
 intro fuel;induction fuel with
 |zero=>
  intro done eP us w hf vS xo hlt gp fF
  have hall:∀j,j<ops.size->j∈done:=λj hj=>by have:(dU ops.size).filter (λj=>decide (j∉done))=[]:=j8 ad;have:=Yr.1 this j (mU.2 hj);simpa using this
  refine⟨?_,iM _ us w hall hlt fF⟩;refine Eu.2 (λj hj=>?_);obtain⟨h0,o,ho,_⟩:=KZ.1 hj;have hj:=(tI.1 ho).1;rw[vS j _,if_pos hj]at h0;exact absurd (hall j hj) (by simpa using h0)
 |succ fuel ck=>
  intro done eP us w hf vS xo hlt gp fF;refine⟨λhnil=>?_,λi hi=>?_⟩
  .refine iM _ us w (λj=>?_) hlt fF;induction j using Ra with
   |ind j asg=>
    intro hj;by_cases hd:j∈done;·exact hd
    .exfalso
     have:=KZ.2 ⟨by rw[vS j _,if_pos hj];simpa using hd,_,Vx hj,λe he hb=>by have h1:=hk.after j _ (Vx hj) e he hb;have h2:=hk.lt j hj _ h1;rw[vS _ _,if_pos ad];simpa using asg e.on h2 ad⟩;rw[hnil]at this;cases this
  .obtain⟨h0,o,ho,aqP⟩:=KZ.1 hi;have c4:=(tI.1 ho).1;have eB:i∉done:=by rw[vS i _,if_pos c4]at h0;simpa using h0
   have vN:dst i=o.dst:=by rw[hk.R1 i c4];simp[oR,ho]
   have Mr:∀k∈D.getD i [],k∈done:=by
    intro k sm;obtain⟨e,he,hb,h⟩:=hk.reach i o ho k sm;have h1:=aqP e he hb;have hen:e.on<ops.size:=by have:=hk.lt i c4 _ (hk.after i o ho e he hb);omega
    rw[vS _ _,if_pos hen]at h1;have h2:=by simpa using h1
    rcases h with h|h;·exact h▸h2
    .exact gp _ h2 k h
   have AO:∀t∈o.looksAt _,(fl _ _ a0 _).tmps[t]?=(fl _ (val us) a0 done).tmps[t]?:=λt ht=>by
    by_cases hs:t<a0.tmps.size
    .by_cases hj:∃j∈done,dst j=ab t
     .obtain⟨j,hj,AT⟩:=hj
      have aq7:j∈D.getD i []:=by
       rcases hk.looks i o ho t ht j (hlt j hj) AT with h|h|h;·exact absurd (h▸hj) eB
       .exact h
       .exact absurd (gp j hj i h) eB
      have u:=λk vQ e=>by
       by_cases hkj:k=j;·exact hkj
       .exact absurd AT (hk.uniq k j vQ (hlt j hj) hkj t e)
      rw[JJ AT _ _ (λk hk e=>u k (hlt k (Mr k hk)) e) aq7 hs,JJ AT _ _ (λk hk e=>u k (hlt k hk) e) hj hs]
     .rw[Gi _ _ (λk hk e=>hj ⟨k,Mr k hk,e⟩),Gi _ _ (λk hk e=>hj ⟨k,hk,e⟩)]
    .have hs':a0.tmps.size<=t:=Nat.le_of_not_lt hs;rw[ahE (by rw[rI];exact hs'),ahE (by rw[rI];exact hs')]
   have M3:=PE hk.uY;have iL:=eval_congr (ops:=_) o _ _ (λcs c=>M3 i o cs c ho) AO;have zl:=U4 (ops:=_) o _ _ AO
   have acS:∀v u w',v=val (dI us i u) i->ob (done++[i]) (dI us i u) w'->wpAny P wI ops Q fuel (eP.setIfInBounds i az) ((fl dst (val us) a0 done).put o.dst v) w':=λv u w' hv aqv=>by
    have FA:∀j∈done,val us j=val (dI us i u) j:=λj hj=>hloc j (hlt j hj) _ _ (λk hk=>by
     have:k≠i:=λe=>by
      subst e;rcases hk with h|h;·exact eB (h▸hj)
      .exact eB (gp j hj _ h)
     simp[dI,this])
    have bF:(fl dst (val us) a0 done).put o.dst v=fl dst (val (dI us i u)) a0 (done++[i]):=by rw[UX,<-hv,<-vN,DI done a0 FA]
    rw[bF];refine ck _ _ _ w' ?_ ?_ (by simpa using xo) ?_ ?_ aqv
    .have acq:((dU ops.size).filter (λj=>decide (j∉done++[i]))).length<((dU ops.size).filter (λj=>decide (j∉done))).length:=by
      have:(dU ops.size).filter (λj=>decide (j∉done++[i]))=((dU ops.size).filter (λj=>decide (j∉done))).filter (λj=>decide (j≠i)):=by rw[List.filter_filter];refine Ev (λj _=>?_);by_cases h1:j∈done<;>by_cases h2:j=i<;>simp[h1,h2]
      rw[this];exact List.length_filter_lt_length_iff_exists.2 ⟨i,nz.2 ⟨mU.2 c4,by simpa using eB⟩,bc⟩
     omega
    .intro j d;by_cases om:i=j;·subst om;have:i<eP.size:=ad;simp[c4,this]
     .rw[getD_set_ne d om,vS j d];by_cases hj:j<ops.size;·have:¬j=i:=λe=>om e.symm;simp[hj,this]
      .simp[hj]
    .intro j hj;rcases iX.1 hj with h|h;·exact hlt j h
     .obtain rfl:j=i:=by simpa using h
      exact c4
    .intro j hj k hkj;rcases iX.1 hj with h|h;·exact Cg _ (gp j h k hkj)
     .obtain rfl:j=i:=by simpa using h
      exact Cg _ (Mr k hkj)
   have acO:=hop i c4 _ us w gp hlt eB Mr fF;unfold wpOp;simp only[ho];by_cases hw:c7 o (c3 ops (fl dst (val us) a0 done).tmps)=az
   .rw[if_pos hw]
    have Db:=acO (λjC w'=>jC.defers=(fl dst (val us) a0 (D.getD i [])).defers/\(∃u,lT _ jC=val _ i/\ob _ _ w'))
     (λu jC w' h1 h2 h3=>by rw[vN]at h1;exact⟨by rw[DJ];exact h2,u,h1,h3⟩);simp only[ho]at Db;rw[zl,if_pos hw]at Db;refine bZ ?_
    have:=ag7 (a:=_) (Qa:=Q) (K:=λv w'=>∃u,v=val (dI us i u) i/\ob _ (dI us i u) w') iL (λd hd=>by rw[rI];exact hsz i d c4 (vN.trans hd)) (by rw[rI,rI])
     (λc w h=>H4 c _ w (by rw[DJ]) h) (λh=>by obtain⟨_,_,h⟩:=h;exact h.elim) Db;exact aic (λbC w' ⟨v,e,_,u,h1,h2⟩=>by subst e;exact acS v u w' h1 h2) this
   .rw[if_neg hw]
    have Db:=acO (λjC w'=>(∃u,lT _ jC=val _ i/\ob _ _ w'))
     (λu jC w' h1 _ h3=>by rw[vN]at h1;exact⟨u,h1,h3⟩);simp only[ho]at Db;rw[zl,if_neg hw,vN,NO _ _ _ (λd hd=>by rw[rI];exact hsz i d c4 (vN.trans hd)) (λ_=>aa)]at Db;obtain⟨u,h1,h2⟩:=Db;exact acS a1 u w h1 h2
def y1(ops:Array cT):List (List Nat):=
 ops.toList.foldl (λacc o=>acc++[o.after.foldl (λs e=>if yi wI e then let s2:=(acc.getD e.on []).foldl (λs k=>if s.contains k then s else k::s) s;if s2.contains e.on then s2 else e.on::s2 else s) []]) []
structure Re where
 sec:Nat
 A:Option bT
 c:Nat
 bs:List Int
structure nX where
 cG:Nat
 fc:Nat
 A:Option bT
 c:Nat
 L:List Re
structure fg where
 A:Option Addr:=af
 b:Nat:=0
 c:Nat:=0
 aL:Option Addr:=af
 dY:Nat:=0
 c2:Nat:=0
 pr:Nat:=0
 Y7:Nat:=0
 Y8:Nat:=0
 v:Value:=a1
 m:nX:=⟨0,0,af,0,[]⟩
 t:bu:=emp
def dk(bm:List bu)(out:(Nat->fg)->Nat->bu)(us:Nat->fg)(n:Nat):bu:=match bm[n]? with|some t=>t|none=>out us (n -bm.length)
def LA(P:ew)(ops:Array cT)(dst:Nat->Option nu)(LE:List Nat)(bS:Nat->fg->aO)(aq:aP)(FX:Nat->Prop)(bm:List bu)(out:(Nat->fg)->Nat->bu)(ins rd:Nat->List Nat)(QP:List rX->aP->Prop)(us:Nat->fg)(i:Nat)(o:cT)(a:b3):Prop:=
 ∀w (Fr:List bu),ak aq FX w ((ins i).map (dk bm out us)++((rd i).map (dk bm out us)++Fr))->∀K:b3->aP->Prop,Shut (∀u jC w',lT (dst i) jC=bS i u->jC.defers=a.defers->ak aq FX w' (out (dI us i u) i::((rd i).map (dk bm out us)++Fr))->K jC w')->
  if c7 o (c3 ops a.tmps)=az then o.wp P a w K (λe _ w'=>match e with|.panic c=>QP c w'|_=>False)else K (a.put (dst i) a1) w
def cM(P:ew)(ops:Array cT)(Q:iD->b3->aP->Prop)(dst:Nat->Option nu)(LE:List Nat)(bS:Nat->fg->aO)(aq:aP)(FX:Nat->Prop)(bm:List bu)(out:(Nat->fg)->Nat->bu)(ins rd:Nat->List Nat)(fin:List Nat)(QP:List rX->aP->Prop)(us:Nat->fg):Nat->List cT->b3->Prop
 |_,[],a=>∀w',ak aq FX w' (fin.map (dk bm out us))->Q sU a w'
 |i,o::rest,a=>
  if i∈LE then LA P ops dst LE bS aq FX bm out ins rd QP us i o a/\cM P ops Q dst LE bS aq FX bm out ins rd fin QP us (i+1) rest (a.put o.dst (bS i (us i)))
  else ∃v,((c7 o (c3 ops a.tmps)=az/\∀w (Fr:List bu),ak aq FX w ((rd i).map (dk bm out us)++Fr)->(bz a.eval o).run P w=bf (da v) w)\/(c7 o (c3 ops a.tmps)=ao/\v=a1))/\
   cM P ops Q dst LE bS aq FX bm out ins rd fin QP us (i+1) rest (a.put o.dst v)
def alive(m:Nat)(LE:List Nat)(ins:Nat->List Nat)(size:Nat)(done:List Nat)(n:Nat):Bool:=
 (decide (n<m)||(LE.contains (n -m)&&done.contains (n -m)))&&(dU size).all λc=>!(done.contains c&&(ins c).contains n)
def Gd(m size:Nat)(D:List (List Nat))(LE:List Nat)(ins rd look:Nat->List Nat)(fin:List Nat):Bool:=
 LE.all (λi=>decide (i<size))&&
 ((dU size).all λi=>
   ((ins i).all λn=>decide (n<m+size)&&LE.contains i&&(decide (n<m)||(LE.contains (n -m)&&(D.getD i []).contains (n -m)))&&(dU size).all λc=>c==i||!(ins c).contains n)&&
   ((rd i).all λn=>decide (n<m+size)&&(decide (n<m)||(LE.contains (n -m)&&(D.getD i []).contains (n -m)))&&(dU size).all λc=>!(ins c).contains n||(c !=i&&(D.getD c []).contains i))&&
   decide (ins i).Nodup&&decide (rd i).Nodup&&(look i).all λk=>k==i||(D.getD i []).contains k)&&
 (fin==(dU (m+size)).filter (alive m LE ins size (dU size)))
section
variable {LE:List Nat} {bS:Nat->fg->aO} {aq:aP} {FX:Nat->Prop} {bm:List bu} {out:(Nat->fg)->Nat->bu} {ins rd look:Nat->List Nat} {fin:List Nat} {QP:List rX->aP->Prop} {us:Nat->fg}
def afY {i o rest a v} (hi:decide (i∈LE)=ao) (hw:c7 o (c3 ops a.tmps)=az) (hy:∀w Fr,ak aq FX w ((rd i).map (dk bm out us)++Fr)->(bz a.eval o).run P w=bf (da v) w)
 (h:cM P ops Q dst LE bS aq FX bm out ins rd fin QP us (i+1) rest (a.put o.dst v)):cM P ops Q dst LE bS aq FX bm out ins rd fin QP us i (o::rest) a:=by
 unfold cM;grind
def awP {i o rest a} (hi:decide (i∈LE)=ao) (hw:c7 o (c3 ops a.tmps)=ao)
 (h:cM P ops Q dst LE bS aq FX bm out ins rd fin QP us (i+1) rest (a.put o.dst a1)):cM P ops Q dst LE bS aq FX bm out ins rd fin QP us i (o::rest) a:=by
 unfold cM;grind
def awO {i o rest a} (hi:decide (i∈LE)=az) (hl:LA P ops dst LE bS aq FX bm out ins rd QP us i o a)
 (h:cM P ops Q dst LE bS aq FX bm out ins rd fin QP us (i+1) rest (a.put o.dst (bS i (us i)))):cM P ops Q dst LE bS aq FX bm out ins rd fin QP us i (o::rest) a:=by
 unfold cM;grind
def pN{i a}(h:∀w',ak aq FX w' (fin.map (dk bm out us))->Q sU a w'):cM P ops Q dst LE bS aq FX bm out ins rd fin QP us i [] a:=h
def Au(P:ew)(ops:Array cT)(dst:Nat->Option nu)(LE:List Nat)(bS:Nat->fg->aO)(aq:aP)(FX:Nat->Prop)(bm:List bu)(out:(Nat->fg)->Nat->bu)(ins rd:Nat->List Nat)(QP:List rX->aP->Prop)(us:Nat->fg)(a0:b3)(e6:Nat->aO)(k:Nat):Prop:=
 if k∈LE then LA P ops dst LE bS aq FX bm out ins rd QP us k (ops.getD k oF) (fl dst e6 a0 (dU k))/\e6 k=bS k (us k)
 else(c7 (ops.getD k oF) (c3 ops (fl dst e6 a0 (dU k)).tmps)=az/\∀w (Fr:List bu),ak aq FX w ((rd k).map (dk bm out us)++Fr)->(bz (fl dst e6 a0 (dU k)).eval (ops.getD k oF)).run P w=bf (da (e6 k)) w)\/
  (c7 (ops.getD k oF) (c3 ops (fl dst e6 a0 (dU k)).tmps)=ao/\e6 k=a1)
def awQ{D a0}(hk:Kx ops dst D):∀n i xZ,ops.size -i=n->i<=ops.size->cM P ops Q dst LE bS aq FX bm out ins rd fin QP us i (ops.toList.drop i) (fl dst xZ a0 (dU i))->
 ∃e6,(∀k,k<i->e6 k=xZ k)/\(∀k,i<=k->k<ops.size->Au P ops dst LE bS aq FX bm out ins rd QP us a0 e6 k)/\∀w',ak aq FX w' (fin.map (dk bm out us))->Q sU (fl dst e6 a0 (dU ops.size)) w':=by
 intro n;induction n with
 |zero=>
  intro i xZ hn hi h;obtain rfl:i=ops.size:=ad;rw[List.drop_eq_nil_of_le bc]at h;exact⟨_,λ_ _=>rfl,λk h1 h2=>ad,h⟩
 |succ n ck=>
  intro i xZ hn hi h;have c4:i<ops.size:=ad;have hlt:i<ops.toList.length:=ad;rw[List.drop_eq_getElem_cons hlt]at h;have qm:ops.toList[i]=ops.getD i default:=by simp[c4]
  have hd:dst i=(ops.getD i oF).dst:=by rw[hk.R1 i c4];simp[oR,c4]
  rw[qm]at h
  have step:∀v,cM P _ Q dst LE bS aq FX bm out ins rd fin QP us _ _ ((fl dst xZ a0 _).put _ v)->
   ∃e6,(∀k,k<i->e6 k=xZ k)/\e6 i=v/\(∀k,i+1<=k->k<ops.size->Au P ops dst LE bS aq FX bm out ins rd QP us a0 e6 k)/\∀w',ak aq FX w' _->Q _ _ w':=λv hv=>by
   have e:fl dst (dI xZ i v) a0 (dU (i+1))=(fl dst xZ a0 (dU i)).put (ops.getD i oF).dst v:=by grind[List.range_succ,UX,DI,dI]
   rw[<-e]at hv;obtain⟨e6,h1,h2,h3⟩:=ck (i+1) (dI xZ i v) ad c4 hv;exact⟨e6,λk hk2=>by grind[dI],by grind[dI],h2,h3⟩
  have aAB:∀e6:Nat->aO,(∀k,k<i->e6 k=xZ k)->fl _ e6 a0 _=fl dst _ a0 _:=λe6 h1=>DI _ _ (λj hj=>h1 j (mU.1 hj));unfold cM at h;by_cases nH:i∈LE;·rw[if_pos nH]at h;obtain⟨e6,h1,h2,h3,h4⟩:=step _ h.2;refine⟨e6,h1,λk ru hk2=>?_,h4⟩;grind[Au]
  .rw[if_neg nH]at h;obtain⟨v,hv,hr⟩:=h;obtain⟨e6,h1,h2,h3,h4⟩:=step _ hr;refine⟨e6,h1,λk ru hk2=>?_,h4⟩;grind[Au]
end
section
variable {LE:List Nat} {bS:Nat->fg->aO} {aq:aP} {FX:Nat->Prop} {bm:List bu} {out:(Nat->fg)->Nat->bu} {ins rd look:Nat->List Nat} {fin:List Nat} {QP:List rX->aP->Prop}
structure Rj (m size:Nat) (D:List (List Nat)) (LE:List Nat) (ins rd look:Nat->List Nat) (fin:List Nat):Prop where
 le:∀i∈LE,i<size
 adz:∀i,i<size->∀n∈ins i,n<m+size/\i∈LE
 ady:∀i,i<size->∀n∈ins i,n<m\/(n -m∈LE/\n -m∈D.getD i [])
 ass:∀i,i<size->∀n∈ins i,∀c,c<size->n∈ins c->c=i
 avw:∀i,i<size->∀n∈rd i,n<m+size
 N0:∀i,i<size->∀n∈rd i,n<m\/(n -m∈LE/\n -m∈D.getD i [])
 afs:∀i,i<size->∀n∈rd i,∀c,c<size->n∈ins c->c≠i/\i∈D.getD c []
 atV:∀i,i<size->(ins i).Nodup
 atW:∀i,i<size->(rd i).Nodup
 Ns:∀i,i<size->∀k∈look i,k=i\/k∈D.getD i []
 fin:fin=(dU (m+size)).filter (alive m LE ins size (dU size))
def aw0{m size D}(h:Gd m size D LE ins rd look fin=az):Rj m size D LE ins rd look fin:=by
 unfold Gd at h;simp only[x6,Ce,decide_eq_true_eq,mU,ahQ,alU,beq_iff_eq,OU,bne_iff_ne,decide_eq_false_iff_not]at h;obtain⟨⟨h1,h2⟩,h3⟩:=h;refine⟨h1,λi hi n hn=>?_,λi hi n hn=>?_,λi hi n hn c hc ka=>?_,λi hi n hn=>?_,λi hi n hn=>?_,λi hi n hn c hc ka=>?_,λi hi=>(h2 i hi).1.1.2,λi hi=>(h2 i hi).1.2,λi hi k hk=>(h2 i hi).2 k hk,h3⟩;·exact⟨((h2 i hi).1.1.1.1 n hn).1.1.1,((h2 i hi).1.1.1.1 n hn).1.1.2⟩
 .exact((h2 i hi).1.1.1.1 n hn).1.2
 .exact(((h2 i hi).1.1.1.1 n hn).2 c hc).resolve_right (λh=>h ka)
 .exact((h2 i hi).1.1.1.2 n hn).1.1
 .exact((h2 i hi).1.1.1.2 n hn).1.2
 .exact(((h2 i hi).1.1.1.2 n hn).2 c hc).resolve_left (λh=>h ka)
theorem LO{m size done n}:alive m LE ins size done n=az↔(n<m\/(n -m∈LE/\n -m∈done))/\∀c,c<size->c∈done->n∉ins c:=by grind[alive]
def lQ(m size:Nat)(LE:List Nat)(ins:Nat->List Nat)(done:List Nat):List Nat:=(dU (m+size)).filter (alive m LE ins size done)
def Np{m size done}:(lQ m size LE ins done).Nodup:=List.nodup_range.filter _
def FV{m size done n}:n∈lQ m size LE ins done↔n<m+size/\(n<m\/(n -m∈LE/\n -m∈done))/\∀c,c<size->c∈done->n∉ins c:=by grind[lQ,LO]
def ad8{m size D}(h:Rj m size D LE ins rd look fin){done}(gp:BG D done){i}(hi:i<size)(eB:i∉done)(ec:∀k∈D.getD i [],k∈done):
 (lQ m size LE ins done).Perm (ins i++(rd i++(lQ m size LE ins done).filter (λn=>!(ins i).contains n&&!(rd i).contains n))):=by
 have ab7:=λn hn=>FV.2 ⟨(h.adz i hi n hn).1,(h.ady i hi n hn).imp id (λh1=>⟨h1.1,ec _ h1.2⟩),λc hc dx ka=>eB (h.ass i hi n hn c hc ka▸dx)⟩;have qq:=λn hn=>FV.2 ⟨h.avw i hi n hn,(h.N0 i hi n hn).imp id (λh1=>⟨h1.1,ec _ h1.2⟩),λc hc dx ka=>eB (gp c dx i (h.afs i hi n hn c hc ka).2)⟩;refine(Q3 Np ?_).2 (λn=>?_)
 .refine yI.2 ⟨h.atV i hi,yI.2 ⟨h.atW i hi,Np.filter _,λa ha b hb e=>?_⟩,λa ha b hb e=>?_⟩;·grind
  .subst e;rcases iX.1 hb with hb|hb;·exact(h.afs i hi a hb i hi ha).1 aa
   grind
 grind
def atl{m size D}(h:Rj m size D LE ins rd look fin){done}(gp:BG D done)(hlt:∀j∈done,j<size){i}(hi:i<size)(eB:i∉done)(ec:∀k∈D.getD i [],k∈done):
 (lQ m size LE ins (done++[i])).Perm ((if i∈LE then[m+i]else[])++(rd i++(lQ m size LE ins done).filter (λn=>!(ins i).contains n&&!(rd i).contains n))):=by
 have hs:=ad8 h gp hi eB ec;have acJ:=(hs.nodup_iff.1 Np);have arG:=(yI.1 acJ).2.1
 have xp:∀n,n∈rd i++(lQ m _ LE _ _).filter (λn=>!(ins i).contains n&&!(rd i).contains n)↔n∈lQ m _ LE _ _/\n∉ins i:=λn=>by
  have h1:n∈lQ m size LE ins done↔n∈ins i\/n∈rd i++(lQ m size LE ins done).filter (λn=>!(ins i).contains n&&!(rd i).contains n):=by rw[hs.mem_iff,iX]
  refine⟨λh2=>⟨h1.2 (cc h2),λh3=>?_⟩,λh2=>(h1.1 h2.1).resolve_left h2.2⟩;exact(yI.1 acJ).2.2 n h3 n h2 aa
 have k1:m+i∉lQ m size LE ins _:=λh1=>by
  have h2:=(FV.1 h1).2.1;rcases h2 with h2|h2;·omega
  .rw[uc]at h2;exact eB h2.2
 refine(Q3 Np ?_).2 (λn=>?_)
 .refine yI.2 ⟨by split<;>simp,arG,λa ha b hb e=>?_⟩;subst e;split at ha
  .obtain rfl:a=m+i:=by simpa using ha
   exact k1 ((xp _).1 hb).1
  .cases ha
 .rw[iX,xp,FV,FV];refine⟨λ⟨h1,h2,h3⟩=>?_,λhn=>?_⟩
  .by_cases arF:n=m+i
   .subst arF;left;rcases h2 with h2|h2;·omega
    .rw[uc]at h2;simp[h2.1]
   .right;refine⟨⟨h1,?_,λc hc dx=>h3 c hc (Cg _ dx)⟩,h3 i hi bc⟩;rcases h2 with h2|⟨h2,h4⟩;·exact bZ h2
    .by_cases acI:n<m;·exact bZ acI
     .refine cc ⟨h2,?_⟩;rcases iX.1 h4 with h4|h4;·exact h4
      .have:n -m=i:=by simpa using h4
       omega
  .rcases hn with hn|⟨⟨h1,h2,h3⟩,h4⟩
   .split at hn
    .rename_i nH;obtain rfl:=by simpa using hn
     refine⟨ad,cc (by rw[uc];exact⟨nH,bc⟩),λc hc dx ka=>?_⟩;have h5:=h.ady c hc _ ka;rw[uc]at h5;rcases h5 with h5|h5;·omega
     .rcases iX.1 dx with h6|h6;·exact eB (gp c h6 i h5.2)
      .obtain rfl:c=i:=by simpa using h6
       exact eB (ec _ h5.2)
    .cases hn
   .refine⟨h1,h2.imp id (λh5=>⟨h5.1,Cg _ h5.2⟩),λc hc dx=>?_⟩;rcases iX.1 dx with h6|h6;·exact h3 c hc h6
    .obtain rfl:c=i:=by simpa using h6
     exact h4
def U6 {w a0} (I:ak aq FX w bm) D dst LE bS out (ins rd look) fin QP
 (hk:EW ops dst D=az) (hsz:((dU ops.size).all λi=>match dst i with|some d=>decide (d<a0.tmps.size)|none=>LE.contains i)=az) (hs:Gd bm.length ops.size D LE ins rd look fin=az)
 (H4:∀c a w,a.defers=a0.defers->QP c w->Q (tM c) a w)
 (hloc:∀i,i∈LE->∀us kJ:Nat->fg,(∀k,k∈look i->us k=kJ k)->out us i=out kJ i)
 (ko:∀us,cM P ops Q dst LE bS aq FX bm out ins rd fin QP us 0 ops.toList a0):
 wpAny P wI ops Q ops.size (OM ops.size ao) a0 {w with drawn:=w.drawn+1}:=by
 have hk:=apa hk;have hs:=aw0 hs
 have ac4:∀i,i<ops.size->match dst i with|some d=>d<a0.tmps.size|none=>i∈LE:=λi hi=>by
  have:=Ce.1 hsz i (mU.2 hi);cases hd:dst i with
  |none=>simpa [hd]using this
  |some d=>simpa [hd]using this
 have hnone:∀i,i<ops.size->i∉LE->dst i≠none:=λi hi hn hd=>by have:=ac4 i hi;rw[hd]at this;exact hn this
 have hsz':∀i d,i<ops.size->dst i=ab d->d<a0.tmps.size:=λi d hi hd=>by have:=ac4 i hi;rw[hd]at this;exact this
 have qm:∀i,i<ops.size->ops[i]?=ab (ops.getD i oF):=λi hi=>by simp[hi]
 have MH:∀i,i<ops.size->dst i=(ops.getD i _).dst:=λi hi=>by rw[hk.R1 i hi];unfold oR;rw[qm i hi];rfl
 have axT:∀i,i<ops.size->∀us kJ:Nat->fg,(∀k,(k=i\/k∈D.getD i [])->us k=kJ k)->∀n,n<bm.length\/(n -bm.length∈LE/\(n -bm.length∈D.getD i []\/n -bm.length=i))->dk bm _ us n=dk bm _ _ n:=λi hi us kJ he n hn=>by
  unfold dk;cases hq:bm[n]? with
  |some t=>rfl
  |none=>
   have mB:=Q1.1 hq;rcases hn with hn|⟨hn,so⟩;·omega
   .refine hloc _ hn us _ (λk hk2=>he k ?_);have h1:=hs.Ns _ (hs.le _ hn) k hk2;rcases so with so|so
    .rcases h1 with h1|h1;·exact cc (h1▸so)
     .exact cc (hk.trans i hi _ so k h1)
    .rw[so]at h1;exact h1
 let fs (us:Nat->fg×aO):Nat->fg:=λk=>(us k).1;let sK (us:Nat->fg×aO):Nat->Value:=λk=>(us k).2;let cC (us:Nat->fg×aO) (j:Nat):Prop:=∃w1 Fr,ak aq FX w1 ((rd j).map (dk bm out (fs us))++Fr)/\(if j∈LE then sK us j=bS j (fs us j)else sK us j=Dv P ops w1 (ops.getD j oF) (fl dst (sK us) a0 (D.getD j [])))
 have FA:∀(done) (us kJ),BG D _->(∀j∈done,j<ops.size)->(∀j∈done,us j=kJ j)->∀j∈done,cC us j->cC kJ j:=λdone us kJ gp hlt he j hj ⟨w1,Fr,h1,h2⟩=>by
  have pz:=hlt j hj
  have CV:∀k,(k=j\/k∈D.getD j [])->fs us k=fs _ k:=λk hk2=>by show(us k).1=(kJ k).1;rw[he k (hk2.elim (λe=>e▸hj) (λh=>gp j hj k h))]
  refine⟨w1,Fr,?_,?_⟩;·have:=Cf (λn hn=>axT j pz _ _ CV n ((hs.N0 j pz n hn).imp id (λh=>⟨h.1,bZ h.2⟩)));rw[<-this];exact h1
  .have hv:sK us j=sK kJ j:=by show(us j).2=(kJ j).2;rw[he j hj]
   have hu:fl _ (sK us) a0 _=fl dst (sK _) a0 _:=DI _ _ (λk hk2=>by show(us k).2=(kJ k).2;rw[he k (gp j hj k hk2)]);rw[<-hv,<-hu,<-CV j (bZ aa)];exact h2
 have agree:∀(done) us e6,BG D done->(∀j∈done,j<ops.size)->(∀k,k<ops.size->Au P ops dst LE bS aq FX bm out ins rd QP (fs us) a0 e6 k)->(∀j∈done,cC us j)->∀j,j∈done->e6 j=sK us j:=by
  intro done us e6 gp hlt hcm fj j;induction j using Ra with
  |ind j ck=>
   intro hj;have pz:=hlt j hj;have hc:=hcm j pz;obtain⟨w1,Fr,h1,h2⟩:=fj j hj;unfold Au at hc;by_cases nH:j∈LE;·rw[if_pos nH]at hc h2;rw[hc.2,h2]
   .rw[if_neg nH]at hc h2
    have AO:=aeb (a0:=a0) (val:=e6) (val':=_) hk (qm j pz) (l:=_) (l':=_) (λk SL=>by
     have hkj:=mU.1 SL;exact⟨ad,λh=>by have:=hk.lt k ad j h;omega,ad⟩) (λk sm=>by
     have hkj:=hk.lt j pz k sm;exact⟨ad,λh=>by have:=hk.lt k ad j h;omega,ad⟩) (λk sm=>⟨mU.2 (hk.lt j pz k sm),sm,ck k (hk.lt j pz k sm) (gp j hj k sm)⟩);have iL:=eval_congr (ops:=_) _ _ _ (λcs c=>PE hk.uY j _ cs c (qm j pz)) AO;have zl:=U4 (ops:=ops) _ _ _ AO;rw[h2];unfold Dv;rcases hc with⟨h3,h4⟩|⟨h3,h4⟩;·rw[<-zl,if_pos h3,<-iL,h4 w1 Fr h1]
    .rw[<-zl,if_neg (by rw[h3];simp),h4]
 let ob (done:List Nat) (us:Nat->fg×aO) (w:aP):Prop:=ak aq FX w ((lQ bm.length ops.size LE ins done).map (dk bm out (fs us)))/\∀j∈done,cC us j
 have aaF:∀us:Nat->fg×aO,∃e6,(∀k,k<ops.size->Au P _ _ LE bS aq FX bm _ _ rd QP _ a0 e6 k)/\∀w',ak aq FX w' _->Q _ _ w':=λus=>by obtain⟨e6,_,h2,h3⟩:=awQ (a0:=a0) (Q:=Q) hk ops.size 0 (λ_=>a1) ad (cB _) (by simpa [fl]using ko (fs us));exact⟨e6,λk hk2=>h2 k (cB _) hk2,h3⟩
 have arL:∀i,i<ops.size->YE P ops dst D sK ob QP a0 i:=by
  intro i hi done us w1 gp hlt eB ec ⟨aqK,fj⟩ K hK;simp only[qm i hi];have vN:=MH i hi;obtain⟨e6,hcm,_⟩:=aaF us;have Ss:=agree _ us e6 gp hlt hcm fj
  have AO:=aeb (a0:=a0) (val:=e6) (val':=_) hk (qm i hi) (l:=_) (l':=_) (λk SL=>by
   have hkj:=mU.1 SL;exact⟨ad,λh=>by have:=hk.lt k ad i h;omega,ad⟩) (λk sm=>by
   have hkj:=hk.lt i hi k sm;exact⟨ad,λh=>by have:=hk.lt k ad i h;omega,ad⟩) (λk sm=>⟨mU.2 (hk.lt i hi k sm),sm,Ss k (ec k sm)⟩);have iL:=eval_congr (ops:=_) _ _ _ (λcs c=>PE hk.uY i _ cs c (qm i hi)) AO;have zl:=U4 (ops:=_) _ _ _ AO;have hsp:=(aqK.perm ((ad8 hs gp hi eB ec).map _));rw[fR,fR]at hsp
  have acG:∀(u:fg) (v:aO) (w':aP),(∀k,k≠i->dI us i (u,v) k=us k)->(if i∈LE then v=bS i u else v=Dv P ops w1 (ops.getD i oF) (fl dst (sK us) a0 (D.getD i [])))->
   ak aq FX w' ((if i∈LE then[out (dI (fs us) i u) i]else[])++((rd i).map (dk bm out (fs us))++((lQ bm.length ops.size LE ins done).filter (λn=>!(ins i).contains n&&!(rd i).contains n)).map (dk bm out (fs us))))->ob (done++[i]) (dI us i (u,v)) w':=by
   intro u v w' hne hv hst
   have aq0:fs (dI us i (u,v))=dI (fs us) i u:=by
    funext k;show(dI us i (u,v) k).1=dI (fs us) i u k;unfold dI;by_cases h:k=i;·rw[if_pos h,if_pos h]
    .rw[if_neg h,if_neg h]
   refine⟨?_,λj hj=>?_⟩
   .refine ak.perm ?_ ((atl hs gp hlt hi eB ec).map _).symm;rw[fR,fR]
    have bF:(rd i).map (dk bm _ (fs _))=(rd i).map (dk bm _ (fs us)):=Cf (λn hn=>by
     have h1:=hs.N0 i hi n hn;unfold dk;cases hq:bm[n]? with
     |some t=>rfl
     |none=>
      have mB:=Q1.1 hq;rcases h1 with h1|h1;·omega
      .refine hloc _ h1.1 _ _ (λk hk2=>?_);have h2:=hs.Ns _ (hs.le _ h1.1) k hk2;have h3:=h2.elim (λe=>e▸ec _ h1.2) (λh=>gp _ (ec _ h1.2) k h);have h4:k≠i:=λe=>eB (e▸h3);show(dI us i (u,v) k).1=(us k).1;rw[hne k h4])
    have cq:((lQ _ _ LE ins _).filter (λn=>!(ins i).contains n&&!(rd i).contains n)).map (dk bm _ (fs _))=((lQ bm.length ops.size LE _ _).filter (λn=>!(ins i).contains n&&!(rd i).contains n)).map (dk bm out (fs us)):=Cf (λn hn=>by
     have h1:=(FV.1 (nz.1 hn).1).2.1;unfold dk;cases hq:bm[n]? with
     |some t=>rfl
     |none=>
      have mB:=Q1.1 hq;rcases h1 with h1|h1;·omega
      .refine hloc _ h1.1 _ _ (λk hk2=>?_);have h2:=hs.Ns _ (hs.le _ h1.1) k hk2;have h3:=h2.elim (λe=>e▸h1.2) (λh=>gp _ h1.2 k h);have h4:k≠i:=λe=>eB (e▸h3);show(dI us i (u,v) k).1=(us k).1;rw[hne k h4])
    have fC:(if i∈LE then[bm.length+i]else[]).map (dk bm out (fs (dI us i (u,v))))=(if i∈LE then[out (dI (fs us) i u) i]else[]):=by
     split;·rw[aq0];simp only[kj,lJ,dk];rw[Ew ad,uc]
     .rfl
    rw[bF,cq,fC];exact hst
   .by_cases om:j=i
    .subst om;refine⟨w1,((ins j).map (dk bm out (fs us))++((lQ bm.length ops.size LE ins done).filter (λn=>!(ins j).contains n&&!(rd j).contains n)).map (dk bm out (fs us))),?_,?_⟩
     .have bF:(rd j).map (dk bm _ (fs _))=(rd j).map (dk bm _ (fs us)):=Cf (λn hn=>by
       have h1:=hs.N0 j hi n hn;unfold dk;cases hq:bm[n]? with
       |some t=>rfl
       |none=>
        have mB:=Q1.1 hq;rcases h1 with h1|h1;·omega
        .refine hloc _ h1.1 _ _ (λk hk2=>?_);have h2:=hs.Ns _ (hs.le _ h1.1) k hk2;have h3:=h2.elim (λe=>e▸ec _ h1.2) (λh=>gp _ (ec _ h1.2) k h);have h4:k≠j:=λe=>eB (e▸h3);show(dI us j (u,v) k).1=(us k).1;rw[hne k h4]);rw[bF];refine hsp.perm ?_;rw[<-kQ,<-kQ];exact List.Perm.append_right _ List.perm_append_comm
     .have qs:sK (dI us j (u,v)) j=v:=by show(dI us j (u,v) j).2=v;simp[dI]
      have hv2:fs (dI us j (u,v)) j=u:=by show(dI us j (u,v) j).1=u;simp[dI]
      have hv3:fl dst (sK (dI us j (u,v))) a0 (D.getD j [])=fl dst (sK us) a0 (D.getD j []):=DI _ _ (λk hk2=>by show(dI us j (u,v) k).2=(us k).2;rw[hne k (λe=>eB (e▸ec k hk2))]);rw[qs,hv2,hv3];exact hv
    .have CY:=(iX.1 hj).resolve_right (λh=>om (by simpa using h));exact FA _ us _ gp hlt (λk hk2=>(hne k (λe=>eB (e▸hk2))).symm) j CY (fj j CY)
  have acF:∀(u) v,∀k,k≠i->dI us i (u,v) k=us k:=λu v k lP=>by simp[dI,lP]
  have hc:=hcm i hi;unfold Au at hc;by_cases nH:i∈LE
  .rw[if_pos nH]at hc;have hl:=hc.1 w1 _ hsp;rw[<-zl]
   have post:∀u w',ak aq FX w' (out _ i::((rd i).map _++((lQ _ _ LE ins _).filter (λn=>!(ins i).contains n&&!(rd i).contains n)).map _))->ob _ _ w':=λu w' h=>
    acG u _ w' (acF u _) (by rw[if_pos nH]) (by rw[if_pos nH];exact h);by_cases hw:c7 (ops.getD i oF) (c3 ops (fl dst e6 a0 (dU i)).tmps)=az
   .rw[if_pos hw]
    have hl2:=hl (λjC w'=>jC.defers=(fl _ e6 a0 _).defers/\∃u,lT _ jC=bS i u/\ob _ _ w')
     (λu jC w' h1 h2 h3=>⟨h2,u,vN▸h1,post u w' h3⟩);rw[if_pos hw]at hl2;have arW:=λd hd=>hsz' i d hi (vN.trans hd)
    have:=ag7 (a:=_) (Qa:=λe _ w'=>match e with|.panic c=>QP c w'|_=>False) (K:=λv w'=>∃u,v=bS i u/\ob _ (dI us i (u,bS i u)) w') iL
     (λd hd=>by rw[rI];exact arW d hd) (by rw[rI,rI]) (λc w h=>h) (λh=>h) hl2;refine aic (λbC w' ⟨v,e,h0,u,h1,h2⟩=>?_) this;refine hK.out _ _ w' ?_ (by rw[e,put_defers,DJ]) h2;show lT (dst i) bC=(dI us i (u,bS i u) i).2;rw[vN,h0,h1];simp[dI]
   .rw[if_neg hw];have hl2:=hl (λjC w'=>∃u,lT _ jC=bS i u/\ob _ _ w') (λu jC w' h1 _ h3=>⟨u,h1,post u w' h3⟩);rw[if_neg hw]at hl2;obtain⟨u,h1,h2⟩:=hl2;have hz:=λt ht=>hsz' i t hi ht;rw[NO _ _ _ (λt ht=>by rw[rI];exact hz t ht) (λ_=>aa)]at h1;refine hK.out _ _ w1 ?_ (by rw[put_defers,DJ]) h2;rw[NO _ _ _ (λt ht=>by rw[rI];exact hz t ht) (λ_=>aa),h1];show bS i u=(dI us i (u,bS i u) i).2;simp[dI]
  .rw[if_neg nH]at hc;have ab7:=Eu.2 (λn hn=>nH (hs.adz i hi n hn).2)
   have ac0:ak aq FX w1 ((rd i).map (dk bm out (fs us))++((lQ bm.length ops.size LE ins done).filter (λn=>!(ins i).contains n&&!(rd i).contains n)).map (dk bm out (fs us))):=by have h:=hsp;rw[ab7]at h⊢;simpa using h
   have post:∀v,v=Dv P _ w1 _ _->ob _ (dI us i ((us i).1,v)) w1:=λv hv=>
    acG _ v w1 (acF _ _) (by rw[if_neg nH];exact hv) (by rw[if_neg nH];exact ac0);have hz:∀t,dst i=ab t->t<(fl dst (sK us) a0 (D.getD i [])).tmps.size:=λt ht=>by rw[rI];exact hsz' i t hi ht
   have fin:∀v',(dst i=af->v'=a1)->v'=Dv P _ w1 _ _->K ((fl _ _ a0 _).put _ v') w1:=λv' hn e=>by refine hK.out _ _ w1 ?_ (by rw[put_defers,DJ]) (post v' e);rw[NO _ _ _ hz hn];show v'=(dI us i ((us i).1,v') i).2;simp[dI]
   rcases hc with⟨h3,h4⟩|⟨h3,h4⟩;·have h5:=h4 w1 _ ac0;rw[iL]at h5;have h6:=h3;rw[zl]at h6;rw[if_pos h6];unfold iy;rw[h5];show K _ _;rw[<-vN];exact fin _ (λh=>absurd h (hnone i hi nH)) (by unfold Dv;rw[if_pos h6,h5])
   .have h6:=h3;rw[zl]at h6;rw[if_neg (by rw[h6];simp)];exact fin _ (λ_=>aa) (by unfold Dv;rw[if_neg (by rw[h6];simp)])
 have h:=ayy (Q:=Q) (QP:=QP) (U:=fg×aO) hk hsz' H4 (λj _ us kJ h=>by
  show(us j).2=(kJ j).2;rw[h j (bZ aa)]) arL
  (λdone us w' hall hlt ⟨h1,h2⟩=>by
    obtain⟨e6,hcm,iM⟩:=aaF us;have gp:BG D _:=λj hj k hk2=>hall k (Nat.lt_trans (hk.lt j (hlt j hj) k hk2) (hlt j hj));have Ss:=agree _ us e6 gp hlt hcm h2;have bF:fl dst _ a0 _=fl _ e6 a0 _:=DI _ _ (λj hj=>(Ss j (hall j (mU.1 hj))).symm);rw[bF];refine iM w' ?_
    have cq:fin=lQ bm.length ops.size LE ins done:=by rw[hs.fin];unfold lQ;refine Ev (λn _=>?_);rw[ahO,LO,LO];refine and_congr (or_congr_right (and_congr_right λh=>⟨λ_=>hall _ (hs.le _ h),λ_=>mU.2 (hs.le _ h)⟩)) ⟨λh c hc _=>h c hc (mU.2 hc),λh c hc _=>h c hc (hall c hc)⟩
    rw[cq];exact h1)
  ops.size [] (OM ops.size ao) (λ_=>({},a1)) w.drew
  (by rw[Aj.2 (λj _=>bc)];simp) (λj d=>by
   by_cases hj:j<ops.size;·simp[hj]
   .simp[hj]) bc bc (λ_ h=>(fS h).elim) ⟨by
    have e:(lQ bm.length ops.size LE ins []).map (dk bm out (fs (λ_=>({},a1))))=bm:=by
     have bF:lQ bm.length ops.size LE ins []=dU bm.length:=by
      unfold lQ
      have h1:∀n,alive _ LE ins ops.size [] n=decide (n<bm.length):=λn=>by rw[ahO,LO,decide_eq_true_eq];exact⟨λh=>h.1.resolve_right (λh=>by cases h.2),λh=>⟨bZ h,λ_ _ h=>by cases h⟩⟩
      rw[Ev (λn _=>h1 n),List.range_add,List.filter_append,Aj.2 (λn hn=>by simpa using hn),Yr.2 (λn hn=>by obtain⟨k,_,rfl⟩:=gQ.1 hn;simp),List.append_nil]
     rw[bF];refine List.ext_getElem? (λn=>?_);rw[List.getElem?_map];by_cases hn:n<bm.length;·rw[List.getElem?_range hn];simp[dk,hn]
     .rw[Ew (by simpa using hn),Ew ad];rfl
    rw[e];exact I.aH (av.drew _),λ_ h=>(fS h).elim⟩;exact h
end
end
end
section
open Go.RowKit Go.MapKept
section
variable {P:ew} {o:cT} {a:b3} {w:aP}
theorem fM{B k t:Nat}{cs v ty x}(ho:o.op=nZ ty x)(hx:a.eval x=ay (ab ⟨B,k,af⟩))(hb:aX w B cs t)(hv:cs[k]?=ab v)(hu:(P.underlying ty).map (λd=>d.isRow)=ab ao):
 (bz a.eval o).run P w=bf (da v) w:=by
 have hc:=hb.cell k hv;cases hq:P.underlying ty with
 |none=>grind
 |some d=>
  have hd:d.isRow=false:=aG
  have hagg:(isAgg ty).run P w=bf ao w:=by unfold isAgg;rw[gC,gO hq w];cases d<;>simp_all
  unfold bz;simp[ho,hx,KE,BM,loadVar,hagg,hc]
def mG{B k t:Nat}{cs cs' ty x}(ho:o.op=nZ ty x)(hx:a.eval x=ay (ab ⟨B,k,af⟩))(hb:aX w B cs t)(hv:cs.extract k (k+cs'.size)=cs')(hk:k+cs'.size<=cs.size)(hu:(P.underlying ty).map (λd=>d.isRow)=ab az)(hi:(P.info? ty).map (·.size)=ab cs'.size):
 (bz a.eval o).run P w=bf (da (ar cs')) w:=by
 cases hq:P.underlying ty with
 |none=>grind
 |some d=>
  have hd:d.isRow=true:=aG;have:=e5 (a:=a) (w:=w) ty x ho B k hx cs'.toList (hb.rangeAt k _ (λj v hj=>aG)) hq hd ad;simpa using this
def lay(cs:Array aO)(k:Nat):List aO->Array aO
 |[]=>cs
 |v::l=>lay (cs.setIfInBounds k v) (k+1) l
def lay_size l:∀(cs) k,(lay cs k l).size=cs.size:=by
 induction l with
 |nil=>intro cs k;rfl
 |cons v l ck=>grind[lay]
def UB(B t:Nat):∀(l) w cs (k j),aX w B cs t->k+j+l.length<=cs.size->l.all (·.oneCell')=az->
 ∃w',(BX ⟨B,k,af⟩ l j).run P w=bf () w'/\aX w' B (lay cs (k+j) l) t/\av (λi=>i=B) w w'/\w'.heap.size=w.heap.size
 |[],w,cs,k,j,hb,_,_=>⟨w,ba,hb,av.refl _ _,aa⟩
 |v::l,w,cs,k,j,hb,hk,h1=>by
  simp only[List.all_cons,x6]at h1;have hlt:k+j<cs.size:=aG;have hb2:=hb.setRow (cs.setIfInBounds (k+j) v);obtain⟨w',hr,h2,h3,h4⟩:=UB B t l (w.setRow B (cs.setIfInBounds (k+j) v)) _ k (j+1) hb2 aG h1.2;refine⟨w',?_,h2,av.trans (av.setRow w B _) h3 (λ_ _ h=>h),by rw[h4];simp⟩;have oj:(⟨B,k,af⟩:bT).add j=⟨B,k+j,af⟩:=Addr.add_mid _ _ _
  have hst:(store ⟨B,k+j,af⟩ v).run P w=bf () (w.setRow B (cs.setIfInBounds (k+j) v)):=by rw[run_store P w _ v _ h1.1,hb.cell (k+j) (Vx hlt)];simp[hb.frozen (k+j),setCell_eq_setRow w B (k+j) cs t (0,0) v hb]
  simp only[BX,gC,oj,hst,jI,hr]
theorem N7{B k t:Nat}{cs v ty x y}(ho:o.op=ye ty x y)(hx:a.eval x=ay (ab ⟨B,k,af⟩))(hy:a.eval y=v)(hb:aX w B cs t)(hk:k+v.cells.size<=cs.size)(hi:(P.info? ty).map (·.size)=ab v.cells.size)(h1:v.cells.all (·.oneCell')=az):
 ∃w',(bz a.eval o).run P w=bf .skip w'/\aX w' B (lay cs k v.cells.toList) t/\av (λi=>i=B) w w'/\w'.heap.size=w.heap.size:=by
 obtain⟨w',hr,h2,h3,h4⟩:=UB (P:=P) B t v.cells.toList w cs k 0 hb ad aG;refine⟨w',?_,h2,h3,h4⟩;cases hq:P.info? ty with
 |none=>grind
 |some i=>
  have hs:i.size=v.cells.size:=aG;unfold bz;simp only[ho,hx,hy,Instr.storeAt,BM,storeVar,mQ,nv];simp[hq,hs,hr]
def Bl (t e sz:Nat) (x lo hi) (ho:o.op=BN t x (ab lo) (ab hi) af) (ht:P.underlying t=ab (iE e)) (hs:(P.info? e).map (·.size)=ab sz) A (n c i q m:Nat)
 (hx:a.eval x=ae A n c) (kp:a.eval lo=J R (i:Int)) (zc:a.eval hi=J R (q:Int)) (hm:i+m=q) (h2:q<=c):
 (bz a.eval o).run P w=bf (da (ae (fm A c i sz) m (c -i))) w:=by
 have h:=agj t e sz x lo hi ho ht hs A n c i q (w:=w) hx kp zc ad h2;rwa [show q -i=m by omega]at h
def xS (t e sz:Nat) (x lo) (ho:o.op=BN t x (ab lo) af af) (ht:P.underlying t=ab (iE e)) (hs:(P.info? e).map (·.size)=ab sz) A (n c i m:Nat)
 (hx:a.eval x=ae A n c) (kp:a.eval lo=J R (i:Int)) (hm:i+m=n) (h2:n<=c):
 (bz a.eval o).run P w=bf (da (ae (fm A c i sz) m (c -i))) w:=by
 have h:=UK t e sz x lo ho ht hs A n c i (w:=w) hx kp ad h2;rwa [show n -i=m by omega]at h
def Rg(e:Ending)(K:aO->Prop):Prop:=match e with|.returned v=>K v|_=>False
end
section
variable {aq w w':aP} {FX:Nat->Prop} {l l':List bu} {s t:bu}
def ak.eQ(h:ak aq FX w l)(i:Nat)(bP:Turned w w' s t)(hi:l[i]?=ab s:=by rfl)(hl:l.set i t=l':=by((try simp only[List.set_cons_zero,List.set_cons_succ]);rfl)):ak aq FX w' l':=hl▸h.DH i hi bP
def ak.front(h:ak aq FX w l)(i:Nat)(hi:l[i]?=ab t:=by rfl)(hl:l.eraseIdx i=l':=by((try simp only[List.eraseIdx_cons_zero,List.eraseIdx_cons_succ]);rfl)):ak aq FX w (t::l'):=hl▸h.perm (Ug l i t hi)
def ak.aV{B:Nat}{cs:Array aO}{ty:gj}(h:ak aq FX w l)(i:Nat)(hi:l[i]?=ab (aj B cs ty):=by rfl):aX w B cs ty:=h.at i hi
theorem vE{B cs cs' ty}(k:av (λi=>i=B) w w')(h:aX w' B cs' ty):Turned w w' (aj B cs ty) (aj B cs' ty):=⟨k,h,λb hb=>⟨by have h2:b=B:=hb;rw[h2];exact aX.lt h,bZ hb⟩⟩
def yS{B cs ty}(g:au w w')(h:aX w' B cs ty)(kn:w.heap.size<=B):cj w w' (aj B cs ty):=⟨g,h,λb hb=>by have h2:b=B:=hb;rw[h2];exact⟨kn,aX.lt h⟩⟩
end
def ak.pick{aq w:aP}{FX:Nat->Prop}{l:List bu}(h:ak aq FX w l):∀{l':List bu} (idx:List Nat) (_:idx.map (λi=>l[i]?)=l'.map some:=by rfl) (_:decide idx.Nodup=true:=by kernel_rfl),ak aq FX w l'
 |[],[],_,_=>⟨h.only,λ_ h=>(fS h).elim,λ_ h=>(fS h).elim,Hj⟩
 |t::l',i::idx,hl,hn=>by
  simp at hl;have so:=List.nodup_cons.1 (of_decide_eq_true hn);have ck:=h.pick (l':=l') _ hl.2 (decide_eq_true so.2);refine⟨ck.only,λx hx=>?_,λx hx b hb=>?_,Hi (λx hx b h1 h3=>?_) ck.apart⟩
  .rcases gD.1 hx with rfl|hx;·exact h.at i hl.1
   .exact ck.holds x hx
  .rcases gD.1 hx with rfl|hx;·exact h.low x (cW hl.1) b hb
   .exact ck.low x hx b hb
  .have:ab x∈idx.map (λi=>l[i]?):=aG;obtain⟨j,hj,e⟩:=gQ.1 this;exact h.ne hl.1 e (λe=>so.1 (e▸hj)) b h1 h3
def ak.dM{aq w FX l}(h:ak aq FX w l):ak aq FX w (emp::l):=h.new emp ⟨av.refl _ _,trivial,λ_ h=>h.elim⟩
def ak.jW{aq w:aP}{FX:Nat->Prop}{l:List bu}{A:Option bT}{c:Nat}{bs:List Int}(h:ak aq FX w l)(i:Nat)(hi:l[i]?=ab (cz A c bs):=by rfl):eU 0 w A c bs:=h.at i hi
def ro(A:Option bT)(bs:List Int):bu:=⟨ej A,λw=>bX w A bs,λw w' h _ hp k2=>by obtain⟨kk,me,rfl,hc⟩:=hp k2;refine⟨kk,me,rfl,λk hk=>?_⟩;have h1:=hc k hk;exact(D5 (w:=w) (h kk ⟨me,_,aa⟩ (vf w _ h1))).trans h1⟩
section
variable {P:ew} {w:aP}
def anw(w:aP)(a p)n:(w.freeze a n).cell? p=w.cell? p:=by grind[Xg,World.cell?]
def an7{t e B n c:Nat}{C}bs(hb:aX w B C e)(ko:C=(bs.map a6).toArray)(ht:P.underlying t=ab (iE e))(he:P.underlying e=ab (.int .u8)):
 ∃w',(convert t t (ae (ab ⟨B,0,af⟩) n c)).run P w=bf (ae (ab ⟨B,0,af⟩) n c) w'/\Turned w w' (aj B C e) (ro (ab ⟨B,0,af⟩) bs):=by
 have IP:w.shape? B=ab (e,C.size):=by grind[World.shape?]
 have hsz:(w.freeze ⟨B,C.size,af⟩ 1).heap.size=w.heap.size:=by grind[Xg]
 refine⟨w.freeze ⟨B,C.size,af⟩ 1,by simp[convert,gO ht,gO he,markStringish,IP],⟨ba,ba,ba,ad,λk _ hk=>?_⟩,λ_=>⟨B,0,rfl,λj hj=>?_⟩,λb ⟨o,sp,h⟩=>?_⟩
 .have hk2:¬B=k:=λh=>hk h.symm;grind[Xg]
 .rw[anw,Nat.zero_add];refine hb.cell j ?_;subst ko;simp[hj]
 .injection h with h;injection h with h;subst h;exact⟨aG,bZ aa⟩
def F0{o}{a:b3}{t e B n c:Nat}{C x}bs(ho:o.op=.convert t t x)(hx:a.eval x=ae (ab ⟨B,0,af⟩) n c)(hb:aX w B C e)(ko:C=(bs.map a6).toArray)(ht:P.underlying t=ab (iE e))(he:P.underlying e=ab (.int .u8)):
 ∃w',(bz a.eval o).run P w=bf (da (ae (ab ⟨B,0,af⟩) n c)) w'/\Turned w w' (aj B C e) (ro (ab ⟨B,0,af⟩) bs):=by
 obtain⟨w',h1,h2⟩:=an7 (P:=P) (n:=n) (c:=c) bs hb ko ht he
 refine⟨w',?_,h2⟩;unfold bz;simp[ho,hx,h1]
def ml {fn p u ty} {t B:Nat} {cs tmps v} (h:fn.results=#[.cell p ty,.tmp u]) (hp:tmps.getD p a1=ay (ab ⟨B,0,af⟩)) (hv:tmps.getD u a1=v) (hb:aX w B cs t)
 (hu:(P.underlying ty).map (λd=>d.isRow)=ab az) (hi:(P.info? ty).map (·.size)=ab cs.size):(results fn tmps).run P w=bf (.tuple #[ar cs,v]) w:=by
 have oZ:tmps[p]?.getD a1=ay (ab ⟨B,0,af⟩):=by simpa using hp
 cases hq:P.underlying ty with
 |none=>grind
 |some d=>grind[D7,results_cell_tmp,asAddr,kg,jI]
end
section
variable {P:ew} {ops:Array cT} {rest:List cT} {Q:iD->b3->aP->Prop} {o:cT} {a bC:b3} {w:aP} {v:aO} {aq:aP} {FX:Nat->Prop} {l l':List bu}
def ag (h:cQ P ops Q rest bC w) (hw:c7 o (c3 ops a.tmps)=true:=by kernel_rfl) (hr:(bz a.eval o).run P w=bf (da v) w:=by(go_simp;try with_reducible rfl))
 (ha:a.put o.dst v=bC:=by((try simp only[Act.put,List.setIfInBounds_toArray,List.set_cons_zero,List.set_cons_succ]);rfl)):cQ P ops Q (o::rest) a w:=by
 subst ha;exact rY λK hK=>by grind[aug]
def aI (v:aO) (hr:(bz a.eval o).run P w=bf (da v) w) (h:cQ P ops Q rest bC w) (hw:c7 o (c3 ops a.tmps)=true:=by kernel_rfl)
 (ha:a.put o.dst v=bC:=by((try simp only[Act.put,List.setIfInBounds_toArray,List.set_cons_zero,List.set_cons_succ]);rfl)):cQ P ops Q (o::rest) a w:=ag h hw hr ha
def ps (h:cQ P ops Q rest bC w) (hw:c7 o (c3 ops a.tmps)=false:=by kernel_rfl)
 (ha:a.put o.dst a1=bC:=by((try simp only[Act.put,List.setIfInBounds_toArray,List.set_cons_zero,List.set_cons_succ]);rfl)):cQ P ops Q (o::rest) a w:=by
 subst ha;exact rY λK hK=>by grind
def pl {B t:Nat} {cs:Array aO} {ty:gj} {x:ia} (I:ak aq FX w l) (i k:Nat) (h:cQ P ops Q rest bC w) (hi:l[i]?=ab (aj B cs t):=by rfl) (ho:o.op=nZ ty x:=by rfl) (hx:a.eval x=ay (ab ⟨B,k,af⟩):=by rfl)
 (hv:cs[k]?=ab v:=by((try simp only[List.getElem?_toArray,List.getElem?_cons_succ,List.getElem?_cons_zero])<;>rfl)) (hu:(P.underlying ty).map (λd=>d.isRow)=ab false:=by kernel_rfl) (hw:c7 o (c3 ops a.tmps)=true:=by kernel_rfl)
 (ha:a.put o.dst v=bC:=by((try simp only[Act.put,List.setIfInBounds_toArray,List.set_cons_zero,List.set_cons_succ]);rfl)):cQ P ops Q (o::rest) a w:=
 ag h hw (fM ho hx (I.aV i hi) hv hu) ha
def bh {B t k:Nat} {cs:Array aO} {ty:gj} {x:ia} (I:ak aq FX w l) (i:Nat) (cs':Array aO) (h:cQ P ops Q rest bC w) (hi:l[i]?=ab (aj B cs t):=by rfl) (ho:o.op=nZ ty x:=by rfl) (hx:a.eval x=ay (ab ⟨B,k,af⟩):=by rfl)
 (hv:cs.extract k (k+cs'.size)=cs':=by kernel_rfl) (hk:k+cs'.size<=cs.size:=by exact(of_decide_eq_true aw)) (hu:(P.underlying ty).map (λd=>d.isRow)=ab true:=by kernel_rfl) (hz:(P.info? ty).map (·.size)=ab cs'.size:=by kernel_rfl) (hw:c7 o (c3 ops a.tmps)=true:=by kernel_rfl)
 (ha:a.put o.dst (ar cs')=bC:=by((try simp only[Act.put,List.setIfInBounds_toArray,List.set_cons_zero,List.set_cons_succ]);rfl)):cQ P ops Q (o::rest) a w:=
 ag h hw (mG ho hx (I.aV i hi) hv hk hu hz) ha
def bn {ty:gj} {z:aO} {bC:Nat->b3} (I:ak aq FX w l) (cs:Array aO) (h:∀B w',ak aq FX w' (aj B cs ty::l)->cQ P ops Q rest (bC B) w') (ho:o.op=VS ty:=by rfl) (hz:(P.info? ty).bind (·.zero)=ab z:=by rfl) (hc:z.cells=cs:=by rfl) (hw:c7 o (c3 ops a.tmps)=true:=by kernel_rfl)
 (ha:∀B,a.put o.dst (ay (ab ⟨B,0,af⟩))=bC B:=by(intro _;(try simp only[Act.put,List.setIfInBounds_toArray,List.set_cons_zero,List.set_cons_succ]);rfl)):cQ P ops Q (o::rest) a w:=by
 subst hc;exact rY λK hK=>by rw[if_pos hw];exact aeE ho z hz (λB w' h1 h2 h3 _=>by rw[ha];exact hK _ _ (h B w' (I.new _ (yS h2 h1 h3))))
def bL {ty:gj} {x:ia} {cs:Array aO} {bC:Nat->b3} (I:ak aq FX w l) (v:aO) (h:∀B w',ak aq FX w' (aj B cs ty::l)->cQ P ops Q rest (bC B) w') (ho:o.op=.box ty x:=by rfl) (hx:a.eval x=v:=by rfl) (hc:v.cells=cs:=by rfl) (hw:c7 o (c3 ops a.tmps)=true:=by kernel_rfl)
 (ha:∀B,a.put o.dst (ay (ab ⟨B,0,af⟩))=bC B:=by(intro _;(try simp only[Act.put,List.setIfInBounds_toArray,List.set_cons_zero,List.set_cons_succ]);rfl)):cQ P ops Q (o::rest) a w:=by
 subst hc;exact rY λK hK=>by rw[if_pos hw];exact aeG x ho v hx (λB w' h1 h2 h3 _=>by rw[ha];exact hK _ _ (h B w' (I.new _ (yS h2 h1 h3))))
def e' {ty n:Nat} {parts:Array (Nat×ia)} {bC:Nat->b3} (I:ak aq FX w l) (cs:Array aO) (e:Nat) (h:∀B w',ak aq FX w' (aj B cs e::l)->cQ P ops Q rest (bC B) w') (ho:o.op=VT ty n parts:=by rfl)
 (hr:∀w:aP,(VN ty n (parts.map λ(i,x)=>(i,a.eval x))).run P w=bf (ae (ab ⟨w.heap.size,0,af⟩) n n) (w.alloc (bp cs e)):=by(intro _;kernel_rfl)) (hw:c7 o (c3 ops a.tmps)=true:=by kernel_rfl)
 (ha:∀B,a.put o.dst (ae (ab ⟨B,0,af⟩) n n)=bC B:=by(intro _;(try simp only[Act.put,List.setIfInBounds_toArray,List.set_cons_zero,List.set_cons_succ]);rfl)):cQ P ops Q (o::rest) a w:=
 rY λK hK=>by rw[if_pos hw];exact aeH ho hr (λB w' h1 h2 h3 _=>by rw[ha];exact hK _ _ (h B w' (I.new _ (yS h2 h1 h3))))
def bb {B t k:Nat} {cs cs':Array aO} {ty:gj} {x y:ia} (I:ak aq FX w l) (i:Nat) (v:aO) (h:∀w',ak aq FX w' l'->cQ P ops Q rest bC w') (hi:l[i]?=ab (aj B cs t):=by rfl) (ho:o.op=ye ty x y:=by rfl) (hx:a.eval x=ay (ab ⟨B,k,af⟩):=by rfl) (hy:a.eval y=v:=by rfl)
 (hk:k+v.cells.size<=cs.size:=by exact(of_decide_eq_true aw)) (hz:(P.info? ty).map (·.size)=ab v.cells.size:=by kernel_rfl) (h1:v.cells.all (·.oneCell')=true:=by kernel_rfl)
 (hc:lay cs k v.cells.toList=cs':=by((try simp only[lay,Value.cells,List.setIfInBounds_toArray,List.set_cons_zero,List.set_cons_succ]);rfl)) (hl:l.set i (aj B cs' t)=l':=by((try simp only[List.set_cons_zero,List.set_cons_succ]);rfl)) (hw:c7 o (c3 ops a.tmps)=true:=by kernel_rfl)
 (ha:a.put o.dst a1=bC:=by((try simp only[Act.put,List.setIfInBounds_toArray,List.set_cons_zero,List.set_cons_succ]);rfl)):cQ P ops Q (o::rest) a w:=by
 obtain⟨w',hr,h2,h3,_⟩:=N7 (P:=P) ho hx hy (I.aV i hi) hk hz h1;refine rY λK hK=>?_;rw[if_pos hw];unfold iy;rw[hr];show K _ _;rw[ha];exact hK _ _ (h w' (I.eQ i (vE h3 (hc▸h2)) hi hl))
def YY{N n c Dq aD e sz A aA xs bV w'}(h:Gv N w w' A n c aA Dq aD e sz xs bV):Turned w w' (bg A n c e sz xs) (bg aA Dq aD e sz bV):=
 ⟨h.2.2.1.only,h.1.le (cB _),λb hb=>⟨(h.1.lt hb).2,h.2.2.2 b hb⟩⟩
def ak.atR{A:Option bT}{n c e sz:Nat}{xs:List aO}(h:ak aq FX w l)(i:Nat)(hi:l[i]?=ab (bg A n c e sz xs):=by rfl):Row 0 w A n c e sz xs:=h.at i hi
def kd {s x:ia} {t e sz n c m c2:Nat} {A aL:Option bT} {xs news:List aO} {l':Option bT->Nat->List bu} {bC:Option bT->Nat->b3} (I:ak aq FX w l) (i bytes:Nat) (hr:Cells w sz aL m news) (h1:∀u∈news,u.oneCell'=az)
 (h:∀aA aD w',ak aq FX w' (l' aA aD)->cQ P ops Q rest (bC aA aD) w') (ho:o.op=.call {callee:=pb yc,args:=#[s,x],argTypes:=#[t,t]}:=by rfl) (hi:l[i]?=ab (bg A n c e sz xs):=by rfl) (hs:a.eval s=ae A n c:=by rfl) (hx:a.eval x=ae aL m c2:=by rfl)
 (ht:P.underlying t=ab (iE e):=by kernel_rfl) (lq:(P.info? e).map (λi=>(i.zero.isSome,(i.zero.map (·.cells.size)).getD 0,i.size,i.bytes))=ab (az,sz,sz,bytes):=by kernel_rfl) (hb0:0<bytes:=by decide) (hby:(n+m)*bytes<=140737488355328:=by omega) (hl:∀aA aD,l.set i (bg aA (n+m) aD e sz (xs++news))=l' aA aD:=by(intro _ _;(try simp only[List.set_cons_zero,List.set_cons_succ]);rfl))
 (hw:c7 o (c3 ops a.tmps)=true:=by kernel_rfl) (ha:∀aA aD,a.put o.dst (ae aA (n+m) aD)=bC aA aD:=by(intro _ _;((try simp only[Act.put,List.setIfInBounds_toArray,List.set_cons_zero,List.set_cons_succ]);rfl))):cQ P ops Q (o::rest) a w:=
 rY λK hK=>by rw[if_pos hw];exact aeF 0 s x t e sz _ ho ht lq A n c xs hs (I.atR i hi) aL m c2 _ hx hr h1 hby hb0 (cB _) (λaA aD w' hap=>by rw[ha];exact hK _ _ (h aA aD w' (I.eQ i (YY hap) hi (hl aA aD))))
def Dy {s t:bu} (I:ak aq FX w l) (i:Nat) (hr:∃w',(bz a.eval o).run P w=bf (da v) w'/\Turned w w' s t) (h:∀w',ak aq FX w' l'->cQ P ops Q rest bC w') (hi:l[i]?=ab s:=by rfl) (hl:l.set i t=l':=by((try simp only[List.set_cons_zero,List.set_cons_succ]);rfl)) (hw:c7 o (c3 ops a.tmps)=true:=by kernel_rfl)
 (ha:a.put o.dst v=bC:=by((try simp only[Act.put,List.setIfInBounds_toArray,List.set_cons_zero,List.set_cons_succ]);rfl)):cQ P ops Q (o::rest) a w:=by
 obtain⟨w',h1,h2⟩:=hr;refine rY λK hK=>?_;rw[if_pos hw];unfold iy;rw[h1];show K _ _;rw[ha];exact hK _ _ (h w' (I.eQ i h2 hi hl))
def NT {agX:Nat->aO} {agD:Nat->bu} {bC:Nat->b3} (I:ak aq FX w l) (hr:∃B w',(bz a.eval o).run P w=bf (da (agX B)) w'/\cj w w' (agD B)) (h:∀B w',ak aq FX w' (agD B::l)->cQ P ops Q rest (bC B) w') (hw:c7 o (c3 ops a.tmps)=true:=by kernel_rfl)
 (ha:∀B,a.put o.dst (agX B)=bC B:=by(intro _;(try simp only[Act.put,List.setIfInBounds_toArray,List.set_cons_zero,List.set_cons_succ]);rfl)):cQ P ops Q (o::rest) a w:=by
 obtain⟨B,w',h1,h2⟩:=hr;refine rY λK hK=>?_;rw[if_pos hw];unfold iy;rw[h1];show K _ _;rw[ha];exact hK _ _ (h B w' (I.new _ h2))
def NS {s t:bu} (I:ak aq FX w l) (i:Nat) (hr:∃w',(bz a.eval o).run P w=bf .skip w'/\Turned w w' s t) (h:∀w',ak aq FX w' l'->cQ P ops Q rest bC w') (hi:l[i]?=ab s:=by rfl) (hl:l.set i t=l':=by((try simp only[List.set_cons_zero,List.set_cons_succ]);rfl)) (hw:c7 o (c3 ops a.tmps)=true:=by kernel_rfl)
 (ha:a.put o.dst a1=bC:=by((try simp only[Act.put,List.setIfInBounds_toArray,List.set_cons_zero,List.set_cons_succ]);rfl)):cQ P ops Q (o::rest) a w:=by
 obtain⟨w',h1,h2⟩:=hr;refine rY λK hK=>?_;rw[if_pos hw];unfold iy;rw[h1];show K _ _;rw[ha];exact hK _ _ (h w' (I.eQ i h2 hi hl))
def aR{f:FuncId}{args:Array aO}{cC:Ending->aP->Prop}(hc:Calls P f args w cC)(h:∀e w',cC e w'->Rg e λv=>cQ P ops Q rest (a.put o.dst v) w')(hr:(bz a.eval o).run P w=bf (.enter f args) w:=by(go_simp;try with_reducible rfl))(hw:c7 o (c3 ops a.tmps)=true:=by kernel_rfl):
 cQ P ops Q (o::rest) a w:=rY λK hK=>by
 rw[if_pos hw];unfold iy;rw[hr];refine KB hc (λe w' he=>?_);grind[Rg]
def aT(h:cQ P ops Q rest bC w)(ha:a.put o.dst v=bC:=by((try simp only[Act.put,List.setIfInBounds_toArray,List.set_cons_zero,List.set_cons_succ]);rfl)):Rg (.returned v) λv=>cQ P ops Q rest (a.put o.dst v) w:=by subst ha;exact h
end
def Ci(look:Nat->List Nat)(out:(Nat->fg)->Nat->bu):List Nat->Prop
 |[]=>True
 |i::l=>(∀us kJ:Nat->fg,(∀k,k∈look i->us k=kJ k)->out us i=out kJ i)/\Ci look out l
def Ci.spec{look out}:∀{LE},Ci look out LE->∀i,i∈LE->∀us kJ:Nat->fg,(∀k,k∈look i->us k=kJ k)->out us i=out kJ i
 |[],_,i,hi=>absurd hi fS
 |_::_,h,i,hi=>by
  rcases gD.1 hi with rfl|hi;·exact h.1
  .exact Ci.spec h.2 i hi
def bN {P:ew} {ops:Array cT} {Q:iD->b3->aP->Prop} {aq:aP} {FX:Nat->Prop} {bm:List bu} {Jr:Nat} {w:aP} {a0:b3} (I:ak aq FX w bm) (LE:List Nat) (bS:Nat->fg->aO) (out:(Nat->fg)->Nat->bu) (ins rd look:Nat->List Nat) (fin:List Nat)
 (ko:∀us,cM P ops Q (oR ops) LE bS aq FX bm out ins rd fin (λ_ _=>False) us 0 ops.toList a0)
 (hloc:Ci look out LE:=by(repeat' (first|exact trivial|refine And.intro (λus kJ h=>?_) ?_|rfl|(simp(disch:=decide) only[h];done))))
 (hm:P.follows .mixedOrders=true:=by kernel_rfl) (hk:EW ops (oR ops) (y1 ops)=true:=by kernel_rfl) (hsz:((dU ops.size).all λi=>match oR ops i with|some d=>decide (d<a0.tmps.size)|none=>LE.contains i)=true:=by kernel_rfl) (hs:Gd bm.length ops.size (y1 ops) LE ins rd look fin=true:=by kernel_rfl):
 (Code.region Jr ops az).wp P Q a0 w:=wp_region_any hm (U6 I (y1 ops) (oR ops) LE bS out ins rd look fin _ hk hsz hs (λ_ _ _ _ h=>h.elim) (hloc.spec) ko)
section
variable {P:ew} {ops:Array cT} {rest:List cT} {Q:iD->b3->aP->Prop} {o:cT} {a bC:b3} {v:aO} {aq:aP} {FX:Nat->Prop} {dst:Nat->Option nu} {LE:List Nat} {bS:Nat->fg->aO} {bm:List bu} {out:(Nat->fg)->Nat->bu} {ins rd:Nat->List Nat} {fin:List Nat} {QP:List rX->aP->Prop} {us:Nat->fg} {i:Nat}
def aJ (h:cM P ops Q dst LE bS aq FX bm out ins rd fin QP us (i+1) rest bC) (hi:decide (i∈LE)=false:=by kernel_rfl) (hw:c7 o (c3 ops a.tmps)=true:=by kernel_rfl) (hr:∀w,(bz a.eval o).run P w=bf (da v) w:=by(intro _;go_simp;try with_reducible rfl))
 (ha:a.put o.dst v=bC:=by((try simp only[Act.put,List.setIfInBounds_toArray,List.set_cons_zero,List.set_cons_succ]);rfl)):cM P ops Q dst LE bS aq FX bm out ins rd fin QP us i (o::rest) a:=by
 subst ha;exact afY hi hw (λw _ _=>hr w) h
def aK (v:aO) (hr:∀w (Fr:List bu),ak aq FX w ((rd i).map (dk bm out us)++Fr)->(bz a.eval o).run P w=bf (da v) w) (h:cM P ops Q dst LE bS aq FX bm out ins rd fin QP us (i+1) rest bC) (hi:decide (i∈LE)=false:=by kernel_rfl) (hw:c7 o (c3 ops a.tmps)=true:=by kernel_rfl)
 (ha:a.put o.dst v=bC:=by((try simp only[Act.put,List.setIfInBounds_toArray,List.set_cons_zero,List.set_cons_succ]);rfl)):cM P ops Q dst LE bS aq FX bm out ins rd fin QP us i (o::rest) a:=by
 subst ha;exact afY hi hw hr h
def ds (h:cM P ops Q dst LE bS aq FX bm out ins rd fin QP us (i+1) rest bC) (hi:decide (i∈LE)=false:=by kernel_rfl) (hw:c7 o (c3 ops a.tmps)=false:=by kernel_rfl)
 (ha:a.put o.dst a1=bC:=by((try simp only[Act.put,List.setIfInBounds_toArray,List.set_cons_zero,List.set_cons_succ]);rfl)):cM P ops Q dst LE bS aq FX bm out ins rd fin QP us i (o::rest) a:=by
 subst ha;exact awP hi hw h
def dl {B t:Nat} {cs:Array aO} {ty:gj} {x:ia} (j k:Nat) (h:cM P ops Q dst LE bS aq FX bm out ins rd fin QP us (i+1) rest bC) (ho:o.op=nZ ty x:=by rfl) (hx:a.eval x=ay (ab ⟨B,k,af⟩):=by rfl) (hj:∀Fr,((rd i).map (dk bm out us)++Fr)[j]?=ab (aj B cs t):=by(intro _;rfl))
 (hv:cs[k]?=ab v:=by((try simp only[List.getElem?_toArray,List.getElem?_cons_succ,List.getElem?_cons_zero])<;>rfl)) (hu:(P.underlying ty).map (λd=>d.isRow)=ab false:=by kernel_rfl) (hi:decide (i∈LE)=false:=by kernel_rfl) (hw:c7 o (c3 ops a.tmps)=true:=by kernel_rfl)
 (ha:a.put o.dst v=bC:=by((try simp only[Act.put,List.setIfInBounds_toArray,List.set_cons_zero,List.set_cons_succ]);rfl)):cM P ops Q dst LE bS aq FX bm out ins rd fin QP us i (o::rest) a:=
 aK v (λ_ Fr I=>fM ho hx (I.aV j (hj Fr)) hv hu) h hi hw ha
def eO {B t k:Nat} {cs:Array aO} {ty:gj} {x:ia} (j:Nat) (cs':Array aO) (h:cM P ops Q dst LE bS aq FX bm out ins rd fin QP us (i+1) rest bC) (ho:o.op=nZ ty x:=by rfl) (hx:a.eval x=ay (ab ⟨B,k,af⟩):=by rfl) (hj:∀Fr,((rd i).map (dk bm out us)++Fr)[j]?=ab (aj B cs t):=by(intro _;rfl))
 (hv:cs.extract k (k+cs'.size)=cs':=by kernel_rfl) (hk:k+cs'.size<=cs.size:=by exact(of_decide_eq_true aw)) (hu:(P.underlying ty).map (λd=>d.isRow)=ab true:=by kernel_rfl) (hz:(P.info? ty).map (·.size)=ab cs'.size:=by kernel_rfl) (hi:decide (i∈LE)=false:=by kernel_rfl) (hw:c7 o (c3 ops a.tmps)=true:=by kernel_rfl)
 (ha:a.put o.dst (ar cs')=bC:=by((try simp only[Act.put,List.setIfInBounds_toArray,List.set_cons_zero,List.set_cons_succ]);rfl)):cM P ops Q dst LE bS aq FX bm out ins rd fin QP us i (o::rest) a:=
 aK _ (λ_ Fr I=>mG ho hx (I.aV j (hj Fr)) hv hk hu hz) h hi hw ha
def w9(h:LA P ops dst LE bS aq FX bm out ins rd QP us i o a)(hr:cM P ops Q dst LE bS aq FX bm out ins rd fin QP us (i+1) rest bC)(hi:decide (i∈LE)=true:=by kernel_rfl)(ha:a.put o.dst (bS i (us i))=bC:=by((try simp only[Act.put,List.setIfInBounds_toArray,List.set_cons_zero,List.set_cons_succ]);rfl)):cM P ops Q dst LE bS aq FX bm out ins rd fin QP us i (o::rest) a:=by subst ha;exact awO hi h hr
def se {ty:gj} {z:aO} (cs:Array aO) (h:cM P ops Q dst LE bS aq FX bm out ins rd fin QP us (i+1) rest bC) (ho:o.op=VS ty:=by rfl) (hz:(P.info? ty).bind (·.zero)=ab z:=by rfl) (hc:z.cells=cs:=by rfl) (hl:∀u,bS i u=ay (ab ⟨u.b,0,af⟩):=by(intro _;rfl)) (nd:∀u,out (dI us i u) i=aj u.b cs ty:=by(intro _;rfl)) (hn:ins i=[]:=by rfl) (hd:dst i=o.dst:=by rfl) (hlt:(match o.dst with|some d=>decide (d<a.tmps.size)|none=>ao)=true:=by kernel_rfl)
 (hi:decide (i∈LE)=true:=by kernel_rfl) (hw:c7 o (c3 ops a.tmps)=true:=by kernel_rfl) (ha:a.put o.dst (bS i (us i))=bC:=by((try simp only[Act.put,List.setIfInBounds_toArray,List.set_cons_zero,List.set_cons_succ]);rfl)):cM P ops Q dst LE bS aq FX bm out ins rd fin QP us i (o::rest) a:=by
 refine w9 (λw Fr I K hK=>?_) h hi ha;subst hc;rw[if_pos hw];rw[hn]at I;refine aeE ho z hz (λB w' h1 h2 h3 _=>hK.out {b:=B} _ _ ?_ (put_defers _ _ _) ?_)
 .rw[hd,hl];cases hq:o.dst with
  |none=>grind
  |some d=>simp only[hq,decide_eq_true_eq]at hlt;simp[lT,u9,tL,hlt]
 .rw[nd];exact I.new _ (yS h2 h1 h3)
def aoC {ty:gj} {x:ia} {cs:Array aO} (v:aO) (h:cM P ops Q dst LE bS aq FX bm out ins rd fin QP us (i+1) rest bC) (ho:o.op=.box ty x:=by rfl) (hx:a.eval x=v:=by rfl) (hc:v.cells=cs:=by rfl) (hl:∀u,bS i u=ay (ab ⟨u.b,0,af⟩):=by(intro _;rfl)) (nd:∀u,out (dI us i u) i=aj u.b cs ty:=by(intro _;rfl)) (hn:ins i=[]:=by rfl) (hd:dst i=o.dst:=by rfl) (hlt:(match o.dst with|some d=>decide (d<a.tmps.size)|none=>ao)=true:=by kernel_rfl)
 (hi:decide (i∈LE)=true:=by kernel_rfl) (hw:c7 o (c3 ops a.tmps)=true:=by kernel_rfl) (ha:a.put o.dst (bS i (us i))=bC:=by((try simp only[Act.put,List.setIfInBounds_toArray,List.set_cons_zero,List.set_cons_succ]);rfl)):cM P ops Q dst LE bS aq FX bm out ins rd fin QP us i (o::rest) a:=by
 refine w9 (λw Fr I K hK=>?_) h hi ha;subst hc;rw[if_pos hw];rw[hn]at I;refine aeG x ho v hx (λB w' h1 h2 h3 _=>hK.out {b:=B} _ _ ?_ (put_defers _ _ _) ?_)
 .rw[hd,hl];cases hq:o.dst with
  |none=>grind
  |some d=>simp only[hq,decide_eq_true_eq]at hlt;simp[lT,u9,tL,hlt]
 .rw[nd];exact I.new _ (yS h2 h1 h3)
def kD {ty n:Nat} {parts:Array (Nat×ia)} (cs:Array aO) (e:Nat) (h:cM P ops Q dst LE bS aq FX bm out ins rd fin QP us (i+1) rest bC) (ho:o.op=VT ty n parts:=by rfl) (hr:∀w:aP,(VN ty n (parts.map λ(i,x)=>(i,a.eval x))).run P w=bf (ae (ab ⟨w.heap.size,0,af⟩) n n) (w.alloc (bp cs e)):=by(intro _;kernel_rfl))
 (hl:∀u,bS i u=ae (ab ⟨u.b,0,af⟩) n n:=by(intro _;rfl)) (nd:∀u,out (dI us i u) i=aj u.b cs e:=by(intro _;rfl)) (hn:ins i=[]:=by rfl) (hd:dst i=o.dst:=by rfl) (hlt:(match o.dst with|some d=>decide (d<a.tmps.size)|none=>ao)=true:=by kernel_rfl)
 (hi:decide (i∈LE)=true:=by kernel_rfl) (hw:c7 o (c3 ops a.tmps)=true:=by kernel_rfl) (ha:a.put o.dst (bS i (us i))=bC:=by((try simp only[Act.put,List.setIfInBounds_toArray,List.set_cons_zero,List.set_cons_succ]);rfl)):cM P ops Q dst LE bS aq FX bm out ins rd fin QP us i (o::rest) a:=by
 refine w9 (λw Fr I K hK=>?_) h hi ha;rw[if_pos hw];rw[hn]at I;refine aeH ho hr (λB w' h1 h2 h3 _=>hK.out {b:=B} _ _ ?_ (put_defers _ _ _) ?_)
 .rw[hd,hl];cases hq:o.dst with
  |none=>grind
  |some d=>simp only[hq,decide_eq_true_eq]at hlt;simp[lT,u9,tL,hlt]
 .rw[nd];exact I.new _ (yS h2 h1 h3)
def fY {B t k m:Nat} {cs cs':Array aO} {ty:gj} {x y:ia} (v:aO) (h:cM P ops Q dst LE bS aq FX bm out ins rd fin QP us (i+1) rest bC) (hn:ins i=[m]:=by rfl) (hm:dk bm out us m=aj B cs t:=by rfl) (ho:o.op=ye ty x y:=by rfl) (hx:a.eval x=ay (ab ⟨B,k,af⟩):=by rfl) (hy:a.eval y=v:=by rfl)
 (hk:k+v.cells.size<=cs.size:=by exact(of_decide_eq_true aw)) (hz:(P.info? ty).map (·.size)=ab v.cells.size:=by kernel_rfl) (h1:v.cells.all (·.oneCell')=true:=by kernel_rfl)
 (hc:lay cs k v.cells.toList=cs':=by((try simp only[lay,Value.cells,List.setIfInBounds_toArray,List.set_cons_zero,List.set_cons_succ]);rfl)) (hl:∀u,bS i u=undef:=by(intro _;rfl)) (nd:∀u,out (dI us i u) i=aj B cs' t:=by(intro _;rfl)) (hd:dst i=none:=by rfl) (jE:o.dst=none:=by rfl)
 (hi:decide (i∈LE)=true:=by kernel_rfl) (hw:c7 o (c3 ops a.tmps)=true:=by kernel_rfl) (ha:a.put o.dst (bS i (us i))=bC:=by((try simp only[Act.put,List.setIfInBounds_toArray,List.set_cons_zero,List.set_cons_succ]);rfl)):cM P ops Q dst LE bS aq FX bm out ins rd fin QP us i (o::rest) a:=by
 refine w9 (λw Fr I K hK=>?_) h hi ha;rw[if_pos hw];rw[hn]at I;have lh:ak aq FX w (aj B cs t::((rd i).map (dk bm out us)++Fr)):=aG;obtain⟨w',hr,h2,h3,_⟩:=N7 (P:=P) ho hx hy (lh.aV 0 aa) hk hz h1;unfold iy;rw[hr];show K _ _;refine hK.out {} _ _ (by rw[hd,hl,jE];rfl) (put_defers _ _ _) ?_;rw[nd];exact lh.xV (vE h3 (hc▸h2))
def rh {s x:ia} {t e sz n c m c2 k:Nat} {A aL:Option bT} {xs news:List aO} (bytes:Nat) (hr:∀w (Fr:List bu),ak aq FX w ((ins i).map (dk bm out us)++((rd i).map (dk bm out us)++Fr))->Cells w sz aL m news) (h1:∀u∈news,u.oneCell'=az) (h:cM P ops Q dst LE bS aq FX bm out ins rd fin QP us (i+1) rest bC)
 (hn:ins i=[k]:=by rfl) (hk:dk bm out us k=bg A n c e sz xs:=by rfl) (ho:o.op=.call {callee:=pb yc,args:=#[s,x],argTypes:=#[t,t]}:=by rfl) (hs:a.eval s=ae A n c:=by rfl) (hx:a.eval x=ae aL m c2:=by rfl) (ht:P.underlying t=ab (iE e):=by kernel_rfl) (lq:(P.info? e).map (λi=>(i.zero.isSome,(i.zero.map (·.cells.size)).getD 0,i.size,i.bytes))=ab (az,sz,sz,bytes):=by kernel_rfl) (hb0:0<bytes:=by decide) (hby:(n+m)*bytes<=140737488355328:=by omega)
 (hl:∀u,bS i u=ae u.A (n+m) u.c:=by(intro _;rfl)) (nd:∀u,out (dI us i u) i=bg u.A (n+m) u.c e sz (xs++news):=by(intro _;rfl)) (hd:dst i=o.dst:=by rfl) (hlt:(match o.dst with|some d=>decide (d<a.tmps.size)|none=>ao)=true:=by kernel_rfl)
 (hi:decide (i∈LE)=true:=by kernel_rfl) (hw:c7 o (c3 ops a.tmps)=true:=by kernel_rfl) (ha:a.put o.dst (bS i (us i))=bC:=by((try simp only[Act.put,List.setIfInBounds_toArray,List.set_cons_zero,List.set_cons_succ]);rfl)):cM P ops Q dst LE bS aq FX bm out ins rd fin QP us i (o::rest) a:=by
 refine w9 (λw Fr I K hK=>?_) h hi ha;rw[if_pos hw];have hr:=hr w Fr I;rw[hn]at I;have lh:ak aq FX w (bg A n c e sz xs::((rd i).map (dk bm out us)++Fr)):=aG;refine aeF 0 s x t e sz _ ho ht lq A n c xs hs (lh.atR 0 aa) aL m c2 _ hx hr h1 hby hb0 (cB _) (λaA aD w' hap=>hK.out {A:=aA,c:=aD} _ _ ?_ (put_defers _ _ _) ?_)
 .rw[hd,hl];cases hq:o.dst with
  |none=>grind
  |some d=>simp only[hq,decide_eq_true_eq]at hlt;simp[lT,u9,tL,hlt]
 .rw[nd];exact lh.xV (YY hap)
def HL {k:Nat} {s t:bu} (v:aO) (hr:∀w (Fr:List bu),ak aq FX w ((ins i).map (dk bm out us)++((rd i).map (dk bm out us)++Fr))->∃w',(bz a.eval o).run P w=bf (da v) w'/\Turned w w' s t) (h:cM P ops Q dst LE bS aq FX bm out ins rd fin QP us (i+1) rest bC)
 (hn:ins i=[k]:=by rfl) (hk:dk bm out us k=s:=by rfl) (hl:∀u,bS i u=(if o.dst=af then a1 else v):=by(intro _;rfl)) (nd:∀u,out (dI us i u) i=t:=by(intro _;rfl)) (hd:dst i=o.dst:=by rfl) (hlt:(match o.dst with|some d=>decide (d<a.tmps.size)|none=>az)=true:=by kernel_rfl)
 (hi:decide (i∈LE)=true:=by kernel_rfl) (hw:c7 o (c3 ops a.tmps)=true:=by kernel_rfl) (ha:a.put o.dst (bS i (us i))=bC:=by((try simp only[Act.put,List.setIfInBounds_toArray,List.set_cons_zero,List.set_cons_succ]);rfl)):cM P ops Q dst LE bS aq FX bm out ins rd fin QP us i (o::rest) a:=by
 refine w9 (λw Fr I K hK=>?_) h hi ha;rw[if_pos hw];obtain⟨w',h1,h2⟩:=hr w Fr I;rw[hn]at I;have lh:ak aq FX w (s::((rd i).map (dk bm out us)++Fr)):=aG;unfold iy;rw[h1];show K _ _;refine hK.out {} _ _ ?_ (put_defers _ _ _) ?_
 .rw[hd,hl];cases hq:o.dst with
  |none=>rfl
  |some d=>simp only[hq,decide_eq_true_eq]at hlt;simp[lT,u9,tL,hlt]
 .rw[nd];exact lh.xV h2
def L9 {k:Nat} {s t:bu} (hr:∀w (Fr:List bu),ak aq FX w ((ins i).map (dk bm out us)++((rd i).map (dk bm out us)++Fr))->∃w',(bz a.eval o).run P w=bf .skip w'/\Turned w w' s t) (h:cM P ops Q dst LE bS aq FX bm out ins rd fin QP us (i+1) rest bC)
 (hn:ins i=[k]:=by rfl) (hk:dk bm out us k=s:=by rfl) (hl:∀u,bS i u=undef:=by(intro _;rfl)) (nd:∀u,out (dI us i u) i=t:=by(intro _;rfl)) (hd:dst i=o.dst:=by rfl) (hlt:(match o.dst with|some d=>decide (d<a.tmps.size)|none=>az)=true:=by kernel_rfl)
 (hi:decide (i∈LE)=true:=by kernel_rfl) (hw:c7 o (c3 ops a.tmps)=true:=by kernel_rfl) (ha:a.put o.dst (bS i (us i))=bC:=by((try simp only[Act.put,List.setIfInBounds_toArray,List.set_cons_zero,List.set_cons_succ]);rfl)):cM P ops Q dst LE bS aq FX bm out ins rd fin QP us i (o::rest) a:=by
 refine w9 (λw Fr I K hK=>?_) h hi ha;rw[if_pos hw];obtain⟨w',h1,h2⟩:=hr w Fr I;rw[hn]at I;have lh:ak aq FX w (s::((rd i).map (dk bm out us)++Fr)):=aG;unfold iy;rw[h1];show K _ _;refine hK.out {} _ _ ?_ (put_defers _ _ _) ?_
 .rw[hd,hl];cases hq:o.dst with
  |none=>rfl
  |some d=>simp only[hq,decide_eq_true_eq]at hlt;simp[lT,u9,tL]
 .rw[nd];exact lh.xV h2
def dh {f:FuncId} {args:Array aO} (hc:∀w (Fr:List bu),ak aq FX w ((ins i).map (dk bm out us)++((rd i).map (dk bm out us)++Fr))->Calls P f args w λe w'=>∃u,e=.returned (bS i u)/\ak aq FX w' (out (dI us i u) i::((rd i).map (dk bm out us)++Fr))) (h:cM P ops Q dst LE bS aq FX bm out ins rd fin QP us (i+1) rest bC)
 (hr:∀w,(bz a.eval o).run P w=bf (.enter f args) w:=by(intro _;go_simp;try with_reducible rfl)) (hd:dst i=o.dst:=by rfl) (hlt:(match o.dst with|some d=>decide (d<a.tmps.size)|none=>ao)=true:=by kernel_rfl) (hi:decide (i∈LE)=true:=by kernel_rfl) (hw:c7 o (c3 ops a.tmps)=true:=by kernel_rfl) (ha:a.put o.dst (bS i (us i))=bC:=by((try simp only[Act.put,List.setIfInBounds_toArray,List.set_cons_zero,List.set_cons_succ]);rfl)):cM P ops Q dst LE bS aq FX bm out ins rd fin QP us i (o::rest) a:=by
 refine w9 (λw Fr I K hK=>?_) h hi ha;rw[if_pos hw];unfold iy;rw[hr];refine KB (hc w Fr I) (λe w' ⟨u,he,h2⟩=>?_);subst he;refine hK.out u _ _ ?_ (put_defers _ _ _) h2;rw[hd];cases hq:o.dst with
 |none=>grind
 |some d=>simp only[hq,decide_eq_true_eq]at hlt;simp[lT,u9,tL,hlt]
end
def a8(w:World):ak w (λ_=>False) w []:=ak.init w λ_=>False
end
end Go.Proofs.YtcmhplknoglbkaaGreat
