/- Part 2 of the proof of TopConvertsSaid. -/
import Derived.Deep.RegionHeld
import Derived.Laws.Rows
import Derived.Laws.Tables
import Derived.Laws.CopyRow
import Derived.Deep.MidRow
import Derived.Laws.MakeOwn
import Derived.Test.YtcmhplknoglbkaaGreatQc0
import Derived.Test.YtcmhplknoglbkaaGreatQc1
set_option linter.all false
set_option maxRecDepth 100000
set_option maxHeartbeats 4000000
open Go.Proofs.Tryz
open Array renaming getElem?_eq_getElem->UW,getElem?_eq_none->afW,getElem?_eq_some_iff->pj,replicate->Of
open Bool renaming and_eq_true->v8,eq_iff_iff->af5,false->au,not_eq_true'->Oo,or_eq_true->af7,true->aB
open Go renaming Act->bT,Addr->bU,Exit->iy,Oper->cR,Operand->iz,PanicEntry->re,Program->eu,Tmp->mV,TypeId->gl,Value->aO,World->aM,asIntOf->zo,execOp->bt,grownCap->xV,heap_alloc_new->fe,loadCellsFrom->Pj,mem_ready->JV,run_loadVar_row->Dp,run_underlying->gF,sizeOf->mu,storeCells->Bb,typeInfo->mY,undef->aY,wpList->cG,wpList_step->rh,yielded->cY
open Go.Act renaming eval->uM,put->tl
open Go.Addr renaming add->we
open Go.Builtin renaming append->wg,append_->oN,firstCells->ra,lenOf->wh,zeroCells->mT
open Go.Callee renaming builtin->n2
open Go.Calls renaming mono->JB
open Go.Exit renaming normal->sk,panic->tm
open Go.Instr renaming buildSlice->Vb,loadAt->JE,slice->OE,sliceAt->OF,sliceBound->OG,sliceBounds->OH,sureAddr->A2
open Go.IntKind renaming i64->R
open Go.Next renaming value->c8
open Go.Obj renaming cells->bc
open Go.Op renaming alloc->Vg,buildSlice->Vh,load->n3,slice->A3,store->zk
open Go.Oper renaming upon->ags,wp->hB,wp_mono->agu
open Go.Region.Mode renaming any->wy
open Go.Region renaming binds->xT,noSelect->O7,noSelect_spec->O8,wanted->c4
open Go.Result renaming andThen_ok->ji,ok->a7
open Go.Sem renaming run_bind->gj,run_pure->jR
open Go.TypeDesc renaming slice->hT
open Go.Value renaming agg->av,int->J,pointer->ay,slice->ad
open Go.World renaming block_lt_of_cell?->uQ,cell?_of_block->Dm,freeze->Wy
open Inhabited renaming default->ob
open List.Pairwise renaming cons->GH,nil->GI
open List.Perm renaming refl->Bp,swap->DJ
open List renaming all_eq_true->DK,append_assoc->j5,contains_eq_mem->ajU,eq_nil_iff_forall_not_mem->DM,eq_nil_of_length_eq_zero->jH,filter_congr->DN,filter_eq_nil_iff->XA,filter_eq_self->zE,getElem?_eq_none->GL,getElem?_eq_none_iff->Qt,map_append->gx,map_congr_left->DS,map_cons->jx,map_nil->kC,mem_append->jf,mem_append_left->Bq,mem_cons->gy,mem_cons_of_mem->pD,mem_cons_self->sx,mem_filter->nb,mem_map->gV,mem_of_getElem?->cL,mem_range->nc,nodup_append->x',not_mem_nil->ga,pairwise_cons->vj,perm_ext_iff_of_nodup->Qw,range->dF
open Nat renaming add_mul->Bu,add_sub_cancel_left->tG,le_refl->cm,le_trans->eC,lt_of_lt_of_le->vl,strongRecOn->Qy,zero_le->cQ
open Option renaming map_some->oW,none->af,some->ab
open Option.some renaming injEq->wQ
open Or renaming inl->bH,inr->b1
namespace Go.Proofs.YtcmhplknoglbkaaGreat
section
open Go
section
variable {P:eu} {ops:Array cR} {Q:iy->bT->aM->Prop}
def e7(dst:Nat->Option mV)(val:Nat->aO):bT->List Nat->bT
 |a,[]=>a
 |a,j::l=>e7 dst val (a.put (dst j) (val j)) l
def dz{U:Type}(us:Nat->U)(i:Nat)(u:U):Nat->U:=λk=>if k=i then u else us k
def lC(d:Option mV)(a:bT):Value:=match d with
 |some t=>a.eval (.tmp t)
 |none=>aY
def ou(ops:Array cR)(j:Nat):Option Tmp:=(ops[j]?).bind (·.dst)
def adT(a:bT)d v(t:Nat):(a.put d v).tmps[t]?=if d=ab t/\t<a.tmps.size then ab v else a.tmps[t]?:=by
 cases d with
 |none=>rfl
 |some d=>grind[tl]
def put_defers(a:bT)d v:(a.put d v).defers=a.defers:=by cases d<;>rfl
def adU(a:bT)d v:(a.put d v).tmps.size=a.tmps.size:=by cases d<;>simp[tl]
variable {dst:Nat->Option mV} {val val':Nat->aO}
theorem CV:∀(l) a,(e7 dst val a l).defers=a.defers
 |[],_=>aa
 |_::l,a=>(CV l _).trans (put_defers a _ _)
theorem q0:∀(l) a,(e7 dst val a l).tmps.size=a.tmps.size
 |[],_=>aa
 |_::l,a=>(q0 l _).trans (adU a _ _)
theorem FE{t:Nat}:∀(l) a,(∀j∈l,dst j≠ab t)->(e7 dst val a l).tmps[t]?=a.tmps[t]?
 |[],_,_=>aa
 |j::l,a,h=>by have h1:=FE l (a.put (dst j) (val j)) (λk hk=>h k (pD _ hk));rw[e7,h1,adT,if_neg (λe=>h j (sx ..) e.1)]
theorem I8{j t:Nat}(ht:dst j=ab t):∀(l) a,(∀i∈l,dst i=ab t->i=j)->j∈l->t<a.tmps.size->(e7 dst val a l).tmps[t]?=ab (val j)
 |[],_,_,h,_=>by grind
 |i::l,a,hu,hm,hs=>by
  by_cases hl:j∈l;·exact I8 ht l _ (λk hk=>hu k (pD _ hk)) hl (by rw[adU];exact hs)
  .have hi:i=j:=by
    rcases gy.1 hm with h|h;·exact h.symm
    .exact absurd h hl
   subst hi;rw[e7,FE l _ (λk hk e=>hl (hu k (pD _ hk) e▸hk)),adT,if_pos ⟨ht,hs⟩]
theorem Ul i:∀(l) a,e7 dst val a (l++[i])=(e7 dst val a l).put (dst i) (val i)
 |[],_=>aa
 |_::l,_=>Ul i l _
theorem CU:∀(l) a,(∀j∈l,val j=val' j)->e7 dst val a l=e7 dst val' a l
 |[],_,_=>aa
 |j::l,a,h=>by rw[e7,e7,h j (sx ..)];exact CU l _ (λk hk=>h k (pD _ hk))
def akk{a b:bT}(h1:a.tmps=b.tmps)(h2:a.defers=b.defers):a=b:=by cases a;cases b;grind
def avO{n}(hu:∀i j,i<n->j<n->i≠j->∀t,dst i=ab t->dst j≠ab t){l l'}a(hl:∀j∈l,j<n)(h:∀j,j∈l↔j∈l'):
 e7 dst val a l=e7 dst val a l':=by
 refine akk ?_ (by grind[CV]);refine Array.ext_getElem? (λt=>?_);grind[I8,FE,q0]
def Ed(ops:Array cR)(dst:Nat->Option mV)(D:List (List Nat)):Bool:=
 O7 ops&&(dF ops.size).all λi=>
  (dst i==ou ops i)&&
  ((ops.getD i ob).after.all λe=>!xT wy e||(D.getD i []).contains e.on)&&
  ((D.getD i []).all λk=>decide (k<i)&&((D.getD k []).all λm=>(D.getD i []).contains m)&&(ops.getD i ob).after.any λe=>xT wy e&&(e.on==k||(D.getD e.on []).contains k))&&
  ((dF ops.size).all λj=>(i==j||dst i==af||dst i !=dst j)&&
    (((ops.getD i ob).looksAt ops).all λt=>dst j !=ab t||i==j||(D.getD i []).contains j||(D.getD j []).contains i))
structure Jx (ops:Array cR) (dst:Nat->Option mV) (D:List (List Nat)):Prop where
 uD:O7 ops=aB
 Rq:∀i,i<ops.size->dst i=ou ops i
 after:∀i o,ops[i]?=ab o->∀e∈o.after,xT wy e=aB->e.on∈D.getD i []
 lt:∀i,i<ops.size->∀k∈D.getD i [],k<i
 trans:∀i,i<ops.size->∀k∈D.getD i [],∀m∈D.getD k [],m∈D.getD i []
 reach:∀i o,ops[i]?=ab o->∀k∈D.getD i [],∃e∈o.after,xT wy e=aB/\(e.on=k\/k∈D.getD e.on [])
 uniq:∀i j,i<ops.size->j<ops.size->i≠j->∀t,dst i=ab t->dst j≠ab t
 looks:∀i o,ops[i]?=ab o->∀t∈o.looksAt ops,∀j,j<ops.size->dst j=ab t->i=j\/j∈D.getD i []\/i∈D.getD j []
def am0{D}(h:Ed ops dst D=aB):Jx ops dst D:=by
 unfold Ed at h;rw[v8,DK]at h;obtain⟨h0,h⟩:=h
 have h2:∀i,i<ops.size->(dst i=ou ops i)/\(∀e∈(ops.getD i ob).after,xT wy e=aB->e.on∈D.getD i [])/\
  (∀k∈D.getD i [],(k<i/\∀m∈D.getD k [],m∈D.getD i [])/\∃e∈(ops.getD i ob).after,xT wy e=aB/\(e.on=k\/k∈D.getD e.on []))/\
  (∀j,j<ops.size->(i=j\/dst i=af\/dst i≠dst j)/\∀t∈(ops.getD i ob).looksAt ops,dst j=ab t->i=j\/j∈D.getD i []\/i∈D.getD j []):=by
  intro i hi;have:=h i (nc.2 hi);simp only[v8,beq_iff_eq,DK,ajU,decide_eq_true_eq,af7,bne_iff_ne,nc,Array.all_eq_true_iff_forall_mem,Oo,Array.any_eq_true']at this;grind
 have pX:∀i o,ops[i]?=ab o->i<ops.size/\ops.getD i ob=o:=λi o ho=>by obtain⟨hi,e⟩:=pj.1 ho;exact⟨hi,by simp[hi,e]⟩
 refine⟨h0,λi hi=>(h2 i hi).1,λi o ho e he hb=>?_,λi hi k hk=>((h2 i hi).2.2.1 k hk).1.1,λi hi k hk=>((h2 i hi).2.2.1 k hk).1.2,λi o ho k hk=>?_,λi j hi hj hJ t e=>?_,λi o ho t ht j hj e=>?_⟩;·grind
 .obtain⟨hi,b7⟩:=pX i o ho;exact b7▸((h2 i hi).2.2.1 k hk).2
 .grind
 .grind
def Ur o(a b:bT)(h:∀t∈o.looksAt ops,a.tmps[t]?=b.tmps[t]?):c4 o (cY ops a.tmps)=c4 o (cY ops b.tmps):=by
 unfold c4;cases hg:o.guard with
 |none=>rfl
 |some aom=>
  obtain⟨g,want⟩:=aom
  have hy:cY ops a.tmps g=cY ops b.tmps g:=by
   unfold cY;cases ht:(ops[g]?).bind (·.dst)with
   |none=>rfl
   |some t=>grind[Oper.looksAt]
  simp only[hy]
def eval_congr o(a b:bT)(hs:∀cs c,o.op≠.select cs c)(h:∀t∈o.looksAt ops,a.tmps[t]?=b.tmps[t]?):bt a.eval o=bt b.eval o:=
 execOp_congr o hs λx hx=>by
  cases x with
  |tmp t=>
   have:=h t (Bq _ (List.mem_filterMap.2 ⟨.tmp t,aF,aa⟩));simp[uM,this]
  |_=>rfl
def MR(a:bT)(d:Option mV)v(h:∀t,d=ab t->t<a.tmps.size)(hd:d=af->v=aY):lC d (a.put d v)=v:=by
 cases d with
 |none=>exact(hd aa).symm
 |some t=>simp[lC,uM,tl,h t aa]
theorem M0(a:bT)(d:Option mV)v(h:∀t,d=ab t->t<a.tmps.size):a.put d v=a.put d (lC d (a.put d v)):=by
 cases d with
 |none=>rfl
 |some t=>simp[lC,uM,tl,h t aa]
def afL {o a b w} {K:aO->aM->Prop} {QB Qa} (he:bt b.eval o=bt a.eval o) (LJ:∀d,o.dst=ab d->d<b.tmps.size) (hsz:b.tmps.size=a.tmps.size)
 (Ep:∀c w,QB (tm c) b w->Qa (tm c) a w) (cf:LetsOut QB->LetsOut Qa)
 (h:o.wp P b w (λiD w'=>iD.defers=b.defers/\K (lC o.dst iD) w') QB):o.wp P a w (λbw w'=>∃v,bw=a.put o.dst v/\lC o.dst bw=v/\K v w') Qa:=by
 have aoY:=λd hd=>hsz▸LJ d hd
 have hout:∀v,lC o.dst (b.put o.dst v)=lC o.dst (a.put o.dst v):=λv=>by
  cases hd:o.dst with
  |none=>rfl
  |some t=>simp[lC,uM,tl,LJ t hd,aoY t hd]
 unfold hB at*;rw[he]at h;generalize (bt a.eval o).run P w=r at*;cases r with
 |ok n w'=>
  cases n<;>simp only[ags]at h⊢;case value u=>grind[M0]
  case skip=>grind[M0]
  case defer d=>
   have h1:=h.1;rw[put_defers]at h1;have:=congrArg List.length h1;simp at this
  case enter f args=>
   refine JB h λe Ny he=>?_;grind[M0]
  grind[Rows.mono,M0]
 |halt x w'=>
  cases x<;>simp only[ags]at h⊢;case panic u=>grind
variable {U:Type}
structure KH where
 A:Option bU
 b:Nat
 c:Nat
def CD(P:eu)(ops:Array cR)(CY:aM)(o:cR)(a:bT):Value:=
 if c4 o (cY ops a.tmps)=aB then(match(bt a.eval o).run P CY with|.ok (c8 v) _=>v|_=>aY)else aY
section
variable {D:List (List Nat)} {LE:List Nat} {bS:Nat->KH->aO} {ck:Nat->(Nat->KH)->aM->Prop} {T:aM->Prop} {E:Nat->(Nat->KH)->aM->aM->Prop} {QP:List re->aM->Prop} {ax8:Nat->aM->Prop} {us:Nat->KH}
end
def acJ {a0 val val' D} (hk:Jx ops dst D) {i o} (ho:ops[i]?=ab o) {l l'} (hl:∀j∈l,j<ops.size/\i∉D.getD j []/\i≠j) (hl':∀j∈l',j<ops.size/\i∉D.getD j []/\i≠j)
 (eT:∀j∈D.getD i [],j∈l/\j∈l'/\val j=val' j):∀t∈o.looksAt ops,(e7 dst val a0 l).tmps[t]?=(e7 dst val' a0 l').tmps[t]?:=λt ht=>by
 by_cases hs:t<a0.tmps.size
 .have u:∀k j,k<ops.size->j<ops.size->dst j=ab t->dst k=ab t->k=j:=λk j yG vB Ae e=>by
   by_cases hkj:k=j;·omega
   .exact absurd Ae (hk.uniq k j yG vB hkj t e)
  by_cases hj:∃j∈D.getD i [],dst j=ab t;·grind[I8]
  .have hno:∀k,k<ops.size->i∉D.getD k []->i≠k->dst k≠ab t:=λk yG h1 h2 e=>by
    rcases hk.looks i o ho t ht k yG e with h|h|h;·omega
    .grind
    .grind
   grind[FE]
 grind[q0]
end
end
section
open Go.RowKit Go.MapKept
abbrev aW(w:aM)(B:Nat)(cs:Array aO)(t:gl):Prop:=w.heap[B]?=ab (bc cs t (0,0))
section
variable {F:Nat->Prop} {w w':aM} {B:Nat} {cs:Array aO} {t:gl}
def aW.lt(h:aW w B cs t):B<w.heap.size:=(pj.1 h).1
theorem aW.cell(h:aW w B cs t)k{v}(hv:cs[k]?=ab v):w.cell? ⟨B,k,af⟩=ab v:=(cell_of_row w B k cs t _ h).trans hv
def aW.frozen(h:aW w B cs t)k:w.frozen? ⟨B,k,af⟩=false:=by grind[World.frozen?]
def aW.rangeAt(h:aW w B cs t)o l(hl:∀j v,l[j]?=ab v->cs[o+j]?=ab v):w.rangeAt B o l:=λj v hv=>h.cell _ (hl j v hv)
theorem ar.setRow w B cs:ar (λi=>i=B) w (w.setRow B cs):=
 ⟨rfl,rfl,rfl,aT,λk _ hn=>by grind[World.setRow]⟩
theorem aW.setRow(h:aW w B cs t)cs':aW (w.setRow B cs') B cs' t:=setRow_heap w B cs cs' t _ h
structure ve (F:Nat->Prop) (w w':aM):Prop where
 only:ar F w w'
 shape:∀B cs t,aW w B cs t->∃cs',aW w' B cs' t/\cs'.size=cs.size
def aq.keep(h:aq w w'):ve F w w':=⟨h.to,λ_ cs _ hb=>⟨cs,ar.heap h hb (λh=>h),aa⟩⟩
def ve.ac9{F}(h:ve (λ_=>False) w w'):ve F w w':=⟨h.only.mono (λ_ _ h=>h.elim),h.shape⟩
def ve.ac8{cs'}(h:ar (λi=>i=B) w w')(h1:aW w B cs t)(h2:aW w' B cs' t)(hs:cs'.size=cs.size):ve (λi=>i=B) w w':=
 ⟨h,λOh ayy b2 hb=>by
   by_cases e:Oh=B;·grind
   .exact⟨_,h.heap hb e,aa⟩⟩
end
section
variable {P:eu} {o:cR} {a:bT} {w:aM} {K:bT->aM->Prop} {Q:iy->bT->aM->Prop}
def T9{t z}(hz:(P.info? t).bind (·.zero)=ab z)w:(zeroValue t).run P w=a7 z w:=by
 cases hq:P.info? t with
 |none=>grind
 |some i=>
  simp only[hq,Option.bind_some]at hz;simp[zeroValue,mY,hq,hz]
def adb {t} (ho:o.op=Vg t) z (hz:(P.info? t).bind (·.zero)=ab z)
 (h:∀B w',aW w' B z.cells t->aq w w'->w.heap.size<=B->B<w'.heap.size->K (a.put o.dst (ay (ab ⟨B,0,af⟩))) w'):o.wp P a w K Q:=by
 have hr:(bt a.eval o).run P w=a7 (c8 (ay (ab ⟨w.heap.size,0,af⟩))) (w.alloc (bc z.cells t)):=by unfold bt;simp only[ho];simp only[Instr.alloc,newVar,newRow,newObj,gj,T9 hz,ji,jR];rfl
 unfold hB;rw[hr];exact h _ _ (fe w _) (ar.alloc _ _) (cm _) aT
def adf {t} x (ho:o.op=.box t x) v (hx:a.eval x=v)
 (h:∀B w',aW w' B v.cells t->aq w w'->w.heap.size<=B->B<w'.heap.size->K (a.put o.dst (ay (ab ⟨B,0,af⟩))) w'):o.wp P a w K Q:=by
 have hr:(bt a.eval o).run P w=a7 (c8 (ay (ab ⟨w.heap.size,0,af⟩))) (w.alloc (bc v.cells t)):=by unfold bt;simp only[ho,hx];rfl
 unfold hB;rw[hr];exact h _ _ (fe w _) (ar.alloc _ _) (cm _) aT
def adg {t n e:Nat} {parts cells} (ho:o.op=Vh t n parts)
 (hr:∀w:aM,(Vb t n (parts.map λ(i,x)=>(i,a.eval x))).run P w=a7 (ad (ab ⟨w.heap.size,0,af⟩) n n) (w.alloc (bc cells e)))
 (h:∀B w',aW w' B cells e->aq w w'->w.heap.size<=B->B<w'.heap.size->K (a.put o.dst (ad (ab ⟨B,0,af⟩) n n)) w'):o.wp P a w K Q:=by
 unfold hB bt;simp only[ho,gj,hr,ji,jR];exact h _ _ (fe w _) (ar.alloc _ _) (cm _) aT
theorem asi{v}(hr:(bt a.eval o).run P w=a7 (c8 v) w)(h:K (a.put o.dst v) w):o.wp P a w K Q:=by unfold hB;rw[hr];exact h
def arb ty x (ho:o.op=n3 ty x) B (hx:a.eval x=ay (ab ⟨B,0,af⟩)) {t cs d} (hg:aW w B cs t)
 (hu:P.underlying ty=ab d) (hd:(match d with|.struct _|.array _ _=>aB|_=>au)=aB) (hi:(P.info? ty).map (·.size)=ab cs.size):(bt a.eval o).run P w=a7 (c8 (av cs)) w:=by
 unfold bt;simp only[ho,hx,JE,A2,gj,jR,ji,Dp w B t ty cs _ d hg hu hd hi]
def e6 ty x (ho:o.op=n3 ty x) (B k) (hx:a.eval x=ay (ab ⟨B,k,af⟩)) cs {d} (hc:w.rangeAt B k cs)
 (hu:P.underlying ty=ab d) (hd:d.isRow=aB) (hi:(P.info? ty).map (·.size)=ab cs.length):(bt a.eval o).run P w=a7 (c8 (av cs.toArray)) w:=by grind[bt,JE,A2,gj,jR,ji,run_loadVar_mid]
end
end
section
open Go.RowKit Go.MapKept
def Mem(N:Nat)(w:aM)(A:Option bU)(t:gl):Prop:=∀b off sp,A=ab ⟨b,off,sp⟩->N<=b/\∃cs,aW w b cs t
section
variable {w w':aM} {N n B c:Nat} {A:Option bU} {t b2:gl} {bs:List Int}
def Mem.none:Mem N w af t:=λ_ _ _ h=>by grind
def Mem.le(h:Mem N w A t){M}(eb:M<=N):Mem M w A t:=λb off sp e=>⟨eC eb (h b off sp e).1,(h b off sp e).2⟩
def e2(N:Nat)(w:aM)(A:Option bU)(c:Nat)(bs:List Int):Prop:=bR w A bs/\Mem N w A 5/\bs.length<=c
theorem e2.nil:e2 N w af c []:=⟨bR.nil,Mem.none,cQ _⟩
def e2.le(h:e2 N w A c bs){M}(eb:M<=N):e2 M w A c bs:=⟨h.1,h.2.1.le eb,h.2.2⟩
theorem e2.lW{base}(h:w.ownsRow base 5 1 (ad A bs.length c) bs.length (bs.map a8)):e2 base w A c bs:=⟨bR.lW h,λb off sp e=>by
 rcases h.2 with⟨hv,_⟩|⟨g,cap,cur,hv,hb,hg,_⟩;·grind
 grind,by
 rcases h.2 with⟨hv,h0⟩|⟨g,cap,cur,hv,hb,hg,hn,_⟩;·omega
 .grind⟩
end
def fE(A:Option bU)(c i sz:Nat):Option Addr:=if c=i then A else A.map (·.add (i*sz))
section
variable {P:eu} {o:cR} {a:bT} {w:aM}
def aeQ (t e sz:Nat) (x lo hi) (ho:o.op=A3 t x (ab lo) (ab hi) af) (ht:P.underlying t=ab (hT e)) (hs:(P.info? e).map (·.size)=ab sz) A (n c i q:Nat)
 (hx:a.eval x=ad A n c) (ka:a.eval lo=J R (i:Int)) (yE:a.eval hi=J R (q:Int)) (h1:i<=q) (h2:q<=c):
 (bt a.eval o).run P w=a7 (c8 (ad (fE A c i sz) (q -i) (c -i))) w:=by
 cases hq:P.info? e with
 |none=>grind
 |some s'=>
  have hsz:s'.size=sz:=aF;have h3:(q:Int)<=(c:Int):=ae;have h4:(i:Int)<=(q:Int):=ae;have h5:(0:Int)<=(q:Int):=ae;have h6:(0:Int)<=(i:Int):=ae;unfold bt;simp[ho,hx,ka,yE,OF,OE,OH,OG,zo,gj,gF ht,mu,mY,hq,hsz,h1,h2,fE]
def Ud (t e sz:Nat) (x lo) (ho:o.op=A3 t x (ab lo) af af) (ht:P.underlying t=ab (hT e)) (hs:(P.info? e).map (·.size)=ab sz) A (n c i:Nat)
 (hx:a.eval x=ad A n c) (ka:a.eval lo=J R (i:Int)) (h1:i<=n) (h2:n<=c):
 (bt a.eval o).run P w=a7 (c8 (ad (fE A c i sz) (n -i) (c -i))) w:=by
 cases hq:P.info? e with
 |none=>grind
 |some s'=>
  have hsz:s'.size=sz:=aF;unfold bt;simp[ho,hx,ka,OF,OE,OH,OG,zo,gj,gF ht,mu,mY,hq,hsz,h1,fE]
def qY (t e sz:Nat) (x hi) (ho:o.op=A3 t x af (ab hi) af) (ht:P.underlying t=ab (hT e)) (hs:(P.info? e).map (·.size)=ab sz) A (n c q:Nat)
 (hx:a.eval x=ad A n c) (yE:a.eval hi=J R (q:Int)) (h2:q<=c):
 (bt a.eval o).run P w=a7 (c8 (ad A q c)) w:=by
 cases hq:P.info? e with
 |none=>grind
 |some s'=>
  unfold bt;simp[ho,hx,yE,OF,OE,OH,OG,zo,gj,gF ht,mu,mY,hq,h2];intro _;cases A<;>simp[we]
end
def bR.win{w A bs c i q}(h:bR w A bs)(hc:bs.length<=c)(hq:q<=bs.length):bR w (fE A c i 1) ((bs.drop i).take (q -i)):=λhp=>by have hl:0<q -i:=aF;obtain⟨kW,lV,rfl,hcell⟩:=h ae;grind[fE,nG]
def bR.FI{w A bs c i}(h:bR w A bs)(hc:bs.length<=c):bR w (fE A c i 1) (bs.drop i):=by have:=h.win (i:=i) hc (cm _);rwa [List.take_of_length_le aT]at this
def bR.FH{w A bs q}(h:bR w A bs)(hq:q<=bs.length):bR w A (bs.take q):=λhp=>by obtain⟨kW,lV,rfl,hcell⟩:=h aF;grind
def Mem.win{w N A}{t c i sz:Nat}(h:Mem N w A t):Mem N w (fE A c i sz) t:=by
 unfold fE;split;·omega
 .intro b off sp e;cases A with
  |none=>grind
  |some fw=>
   simp at e;obtain⟨kW,lV,auE⟩:=fw;have:kW=b:=by grind[we]
   subst this;exact h _ _ _ aa
end
section
open Go.RowKit Go.MapKept
abbrev Row(N:Nat)(w:aM)(A:Option bU)(n c:Nat)(e:gl)(sz:Nat)(xs:List aO):Prop:=w.ownsRow N e sz (ad A n c) n xs
def dU(A:Option bU)(b:Nat):Prop:=∃off sp,A=ab ⟨b,off,sp⟩
section
variable {F:Nat->Prop} {w w':aM} {N n c e sz B b2 m:Nat} {A:Option bU} {xs:List aO}
theorem Row.nil N w(e sz:Nat):Row N w af 0 0 e sz []:=World.ownsRow_nil _ _ _ _
def Row.cases(h:Row N w A n c e sz xs):(A=af/\n=0/\c=0/\xs=[])\/∃g cur,A=ab ⟨g,0,af⟩/\N<=g/\aW w g cur e/\n<=c/\cur.size=c*sz/\cur.toList.take (n*sz)=xs:=by
 rcases h.2 with⟨hv,h0⟩|⟨g,cap,cur,hv,hb,hg,hn,hm,hs,ht⟩;·injection hv with h1 h2 h3;subst h0;exact bH ⟨h1,aa,h3,jH (by have:=h.1;omega)⟩
 grind
def Row.only(h:Row N w A n c e sz xs)(k:ar F w w')(hn:∀b,dU A b->¬F b):Row N w' A n c e sz xs:=by
 refine⟨h.1,?_⟩;rcases h.2 with h2|⟨g,cap,cur,hv,hb,hg,r⟩;·grind
 .injection hv with h1 h2 h3;subst h1;subst h3;exact b1 ⟨g,c,_,aa,hb,k.heap hg (hn g ⟨0,_,aa⟩),r⟩
def Row.aH(h:Row N w A n c e sz xs)(g:aq w w'):Row N w' A n c e sz xs:=h.only g (λ_ _ h=>h)
def Row.le(h:Row N w A n c e sz xs){M}(eb:M<=N):Row M w A n c e sz xs:=by
 refine⟨h.1,?_⟩;rcases h.2 with h2|⟨g,cap,cur,hv,hb,r⟩;·grind
 .exact b1 ⟨g,_,_,hv,eC eb hb,r⟩
def Row.mem(h:Row N w A n c e sz xs):Mem N w A e:=λb off sp ha=>by
 rcases h.cases with⟨h1,_⟩|⟨g,cur,h1,hb,hg,_⟩;·grind
 grind
def Row.lt(h:Row N w A n c e sz xs){b}(hb:dU A b):N<=b/\b<w.heap.size:=by obtain⟨off,sp,e⟩:=hb;obtain⟨h1,cs,h2⟩:=h.mem b off sp e;exact⟨h1,aW.lt h2⟩
def Row.len(h:Row N w A n c e sz xs):xs.length=n*sz:=h.1
theorem Row.cell(h:Row N w A n c e sz xs){j v}(hj:xs[j]?=ab v):∃g,A=ab ⟨g,0,af⟩/\w.cell? ⟨g,j,af⟩=ab v:=by
 rcases h.cases with⟨_,_,_,h4⟩|⟨g,cur,h1,_,hg,_,_,ht⟩;·grind
 grind[aW.cell]
def Row.cap(h:Row N w A n c e sz xs):n<=c:=by
 rcases h.cases with⟨_,h2,h3,_⟩|⟨_,_,_,_,_,h5,_⟩;·omega
 .omega
def Row.nV{bs}(h:Row N w A bs.length c 5 1 (bs.map a8)):e2 N w A c bs:=e2.lW h
def FP(N:Nat)(w w':aM)(A:Option bU)(n c:Nat)(az:Option bU)(uv aC:Nat)(e sz:Nat)(xs cn:List aO):Prop:=
 Row N w' az uv aC e sz cn/\Row N w' A n c e sz xs/\ve (dU A) w w'/\(∀b,dU az b->dU A b\/w.heap.size<=b)
end
section
variable {P:eu} (w:aM)
def aul N (t ty e) i z (ht:P.underlying t=ab (hT e)) (hi:P.info? e=ab i) (hz:i.zero=ab z) (hzs:z.cells.size=i.size)
 A (n c) xs (hown:Row N w A n c e i.size xs) aJ (m c2) news (hr:Cells w i.size aJ m news) (h1:∀u∈news,u.oneCell'=aB)
 (h63:n+m<=maxLen) (hbytes:(n+m)*i.bytes<=140737488355328) (fk:N<=w.heap.size):
 ∃az aC w',(oN #[t,t] ty #[ad A n c,ad aJ m c2]).run P w=a7 (ad az (n+m) aC) w'/\FP N w w' A n c az (n+m) aC e i.size xs (xs++news):=by
 have hlen:(xs++news).length=(n+m)*i.size:=by rw[List.length_append,hown.1,hr.1,Bu]
 have azO:FP N w w A n c A n c e _ xs xs:=⟨hown,hown,aq.keep (ar.refl _ w),λb hb=>bH hb⟩;rcases Nat.eq_zero_or_pos m with hm|hm
 .subst hm;have hn:=jH (by simpa using hr.1);subst hn;refine⟨A,c,w,?_,aF⟩;have hc:=hown.cap;rcases aJ with _|fw
  .rcases hown.cases with⟨rfl,rfl,rfl,_⟩|⟨g,cur,rfl,_⟩;·simp[oN,gF ht,mu,mY,hi,wh,ra]
   .simp[oN,gF ht,mu,mY,hi,wh,ra,hc,Bb]
  .rcases hown.cases with⟨rfl,rfl,rfl,_⟩|⟨g,cur,rfl,_⟩;·simp[oN,gF ht,mu,mY,hi,wh,ra,loadCells,Pj]
   .simp[oN,gF ht,mu,mY,hi,wh,ra,loadCells,Pj,hc,Bb]
 .obtain⟨fw,rfl,hnews⟩:=hr.2 hm;have azP:n+m<=9223372036854775807:=by grind[maxLen]
  have grown:∀old,old<n+m->FP N w (w.drew.alloc (bc (xs.toArray++news.toArray++mT z.cells (xV w (n+m) old e -(n+m))) e)) A n c (ab ⟨w.heap.size,0,af⟩) (n+m) (xV w (n+m) old e) e i.size xs (xs++news):=by
   intro old ho;have mc:=grownCap_ge w (n+m) old e;have hcm:=grownCap_le_maxLen w _ old e h63;have hg:aq w (w.drew.alloc (bc (xs.toArray++news.toArray++mT z.cells (xV w (n+m) old e -(n+m))) e)):=aq.trans (ar.drew _) (ar.alloc _ _);refine⟨⟨hlen,b1 ⟨w.heap.size,_,_,aa,fk,fe w.drew _,mc,hcm,?_,?_⟩⟩,hown.aH hg,hg.keep.ac9,λb ⟨_,_,Y'⟩=>aF⟩;·simp only[Array.size_append,List.size_toArray,size_zeroCells,hzs,hown.1,hr.1,<-Bu];congr 1;omega
   grind
  rcases hown.cases with⟨rfl,rfl,rfl,rfl⟩|⟨g,cur,rfl,hbg,hg,iH,hcs,azQ⟩;·grind[run_append_nil]
  .by_cases hroom:n+m<=c
   .have o3:n*i.size+news.length<=cur.size:=by rw[hr.1,hcs,<-Bu];exact Nat.mul_le_mul_right _ hroom
    have hrun:=run_append_room (P:=P) w t ty e i ht hi g n c _ hg fw m c2 _ hr.1 hnews h1 hroom o3;have hb2:=hg.setRow (cur.toList.take (n*i.size)++news++cur.toList.drop (n*i.size+news.length)).toArray;have hsz:(cur.toList.take (n*i.size)++news++cur.toList.drop (n*i.size+news.length)).toArray.size=cur.size:=aF
    have hcm:c<=maxLen:=by
     rcases hown.2 with⟨hv,_⟩|⟨g2,D3,BN,hv,_,_,_,jo,_⟩;·grind
     .grind
    refine⟨_,_,_,hrun,⟨hlen,b1 ⟨g,c,_,aa,hbg,hb2,hroom,hcm,ae,?_⟩⟩,⟨hown.1,b1 ⟨g,c,_,aa,hbg,hb2,iH,hcm,ae,?_⟩⟩,?_,λb hb=>bH hb⟩;·grind
    .grind
    .have k:=ve.ac8 (ar.setRow w g _) hg hb2 hsz;exact⟨k.only.mono (λb _ e=>⟨0,af,by rw[e]⟩),k.shape⟩
   .have holds:=hown.cells (g:=g) aa;have hrun:=run_append_grow (P:=P) w t ty e i z ht hi hz _ n c xs hown.1 holds fw m c2 _ hr.1 hnews ae ae (growslice_fits ae hbytes);exact⟨_,_,_,hrun,grown c ae⟩
end
section
variable {P:eu} {o:cR} {a:bT} {w:aM} {K:bT->aM->Prop} {Q:iy->bT->aM->Prop}
def ade N (s x) (t e sz bytes:Nat) (ho:o.op=.call {callee:=n2 wg,args:=#[s,x],argTypes:=#[t,t]}) (ht:P.underlying t=ab (hT e))
 (kZ:(P.info? e).map (λi=>(i.zero.isSome,(i.zero.map (·.cells.size)).getD 0,i.size,i.bytes))=ab (aB,sz,sz,bytes))
 (A:Option bU) (n c:Nat) (xs:List aO) (hs:a.eval s=ad A n c) (hown:Row N w A n c e sz xs) (aJ:Option bU) (m c2:Nat) (news:List aO) (hx:a.eval x=ad aJ m c2) (hr:Cells w sz aJ m news) (h1:∀u∈news,u.oneCell'=aB)
 (hbytes:(n+m)*bytes<=140737488355328) (hb0:0<bytes) (fk:N<=w.heap.size)
 (h:∀az aC w',FP N w w' A n c az (n+m) aC e sz xs (xs++news)->K (a.put o.dst (ad az (n+m) aC)) w'):o.wp P a w K Q:=by
 cases hq:P.info? e with
 |none=>simp[hq]at kZ
 |some i=>
  rw[hq]at kZ;simp only[oW,wQ,Prod.mk.injEq]at kZ;obtain⟨bB,b7,fG,pQ⟩:=kZ;obtain⟨z,hz⟩:=Option.isSome_iff_exists.1 bB;rw[hz]at b7;simp only[oW,Option.getD_some]at b7;subst fG;subst pQ;have hle:(n+m)<=(n+m)*i.bytes:=Nat.le_mul_of_pos_right _ hb0;obtain⟨az,aC,w',hrun,hap⟩:=aul (P:=P) w N t o.type e i z ht hq hz b7 A n c xs hown aJ m c2 news hr h1 (by grind[maxLen]) hbytes fk;unfold hB bt;simp only[ho,resolve,invoke,builtin,gj,jR,ji,List.map_toArray,jx,kC,hs,hx,hrun];exact h az aC w' hap
end
end
section
open Go.RowKit Go.MapKept
structure br where
 c5:Nat->Prop
 p:aM->Prop
 oA:∀w w':aM,(∀b,c5 b->b<w.heap.size->w'.heap[b]?=w.heap[b]?)->(∀b,c5 b->b<w.heap.size)->p w->p w'
structure aj (ao:aM) (FX:Nat->Prop) (w:aM) (l:List br):Prop where
 only:ar FX ao w
 holds:∀t∈l,t.p w
 low:∀t∈l,∀b,t.c5 b->b<w.heap.size/\(ao.heap.size<=b\/FX b)
 apart:l.Pairwise (λs t=>∀b,s.c5 b->¬t.c5 b)
def Has(w:aM)(t:br):Prop:=t.p w/\∀b,t.c5 b->b<w.heap.size
def b3(w w':aM)(t:br):Prop:=aq w w'/\t.p w'/\∀b,t.c5 b->w.heap.size<=b/\b<w'.heap.size
def Turned(w w':aM)(s t:br):Prop:=ar s.c5 w w'/\t.p w'/\∀b,t.c5 b->b<w'.heap.size/\(s.c5 b\/w.heap.size<=b)
section
variable {ao w w':aM} {FX F:Nat->Prop} {l l':List br} {s t:br}
def aj.init w FX:aj w FX w []:=⟨ar.refl _ _,λ_ h=>(ga h).elim,λ_ h=>(ga h).elim,GI⟩
def aj.start(h:Has w t):aj w t.c5 w [t]:=⟨ar.refl _ _,λx hx=>by
 obtain rfl:x=t:=aF;exact h.1,λx hx b hb=>by
 obtain rfl:x=t:=aF;exact⟨h.2 b hb,b1 hb⟩,List.pairwise_singleton _ _⟩
def br.only(t:br)(h:t.p w)(hl:∀b,t.c5 b->b<w.heap.size)(k:ar F w w')(hn:∀b,t.c5 b->¬F b):t.p w':=
 t.oA w w' (λb hb hlt=>k.block b hlt (hn b hb)) hl h
def aj.perm(h:aj ao FX w l)(p:l.Perm l'):aj ao FX w l':=
 ⟨h.only,λt ht=>h.holds t (p.mem_iff.2 ht),λt ht=>h.low t (p.mem_iff.2 ht),(p.pairwise_iff (λ{a b} (h1:∀c,a.c5 c->¬b.c5 c) c hb ha=>h1 c ha hb)).1 h.apart⟩
def aj.sub(h:aj ao FX w l)(p:l'.Sublist l):aj ao FX w l':=
 ⟨h.only,λt ht=>h.holds t (p.subset ht),λt ht=>h.low t (p.subset ht),h.apart.sublist p⟩
def aj.aH(h:aj ao FX w l)(g:aq w w'):aj ao FX w' l:=
 ⟨ar.trans h.only g.to (λ_ _ h=>h),λt ht=>t.only (h.holds t ht) (λb hb=>(h.low t ht b hb).1) g (λ_ _ h=>h),λt ht b hb=>⟨vl (h.low t ht b hb).1 g.size,(h.low t ht b hb).2⟩,h.apart⟩
def aj.new(h:aj ao FX w l)t(hf:b3 w w' t):aj ao FX w' (t::l):=by
 obtain⟨g,hp,hb⟩:=hf;have h2:=h.aH g;refine⟨h2.only,λx hx=>?_,λx hx b hb2=>?_,GH (λx hx b h1 h3=>?_) h2.apart⟩
 .rcases gy.1 hx with rfl|hx;·omega
  .exact h2.holds x hx
 .rcases gy.1 hx with rfl|hx;·exact⟨(hb b hb2).2,bH (eC h.only.size (hb b hb2).1)⟩
  .exact h2.low x hx b hb2
 .have h4:=(h.low x hx b h3).1;have h5:=(hb b h1).1;omega
def aj.y'(h:aj ao FX w (s::l))(bF:Turned w w' s t):aj ao FX w' (t::l):=by
 obtain⟨k,hp,hb⟩:=bF;have ha:=vj.1 h.apart;have hs:=h.low s (sx ..);refine⟨⟨k.os.trans h.only.os,k.tape.trans h.only.tape,k.output.trans h.only.output,eC h.only.size k.size,λi hi hn=>?_⟩,λx hx=>?_,λx hx b hb2=>?_,GH (λx hx b h1 h3=>?_) ha.2⟩
 .have h1:¬s.c5 i:=λh1=>by grind
  exact(k.block i (vl hi h.only.size) h1).trans (h.only.block i hi hn)
 .rcases gy.1 hx with rfl|hx;·omega
  .exact x.only (h.holds x (pD _ hx)) (λb hb=>(h.low x (pD _ hx) b hb).1) k (λb h1 h2=>ha.1 x hx b h2 h1)
 .rcases gy.1 hx with rfl|hx
  .refine⟨(hb b hb2).1,?_⟩;rcases(hb b hb2).2 with h1|h1;·grind
   .exact bH (eC h.only.size h1)
  .exact⟨vl (h.low x (pD _ hx) b hb2).1 k.size,(h.low x (pD _ hx) b hb2).2⟩
 .rcases(hb b h1).2 with h2|h2;·grind
  .have:=(h.low x (pD _ hx) b h3).1;omega
def ZE{i:Nat}(hi:l[i]?=ab s):∃h,l[i]=s:=List.getElem?_eq_some_iff.1 hi
def TO:∀(l:List br) i s,l[i]?=ab s->l.Perm (s::l.eraseIdx i)
 |[],i,s,h=>by simp at h
 |x::l,0,s,h=>by
  obtain rfl:x=s:=by simpa using h
  exact Bp _
 |x::l,i+1,s,h=>by have h1:=TO l i s (by simpa using h);exact(h1.cons x).trans (DJ s x _)
def adJ t:∀(l:List br) i s,l[i]?=ab s->(l.set i t).Perm (t::l.eraseIdx i)
 |[],i,s,h=>by simp at h
 |x::l,0,s,h=>Bp _
 |x::l,i+1,s,h=>by have h1:=adJ t l i s (by simpa using h);exact(h1.cons x).trans (DJ t x _)
def aj.CT(h:aj ao FX w l)i(hi:l[i]?=ab s)(bF:Turned w w' s t):aj ao FX w' (l.set i t):=by have h3:=h.perm (TO l i s hi);exact(h3.y' bF).perm (adJ t l i s hi).symm
def aj.at(h:aj ao FX w l)(i:Nat)(hi:l[i]?=ab t:=by rfl):t.p w:=h.holds t (cL hi)
def aj.has(h:aj ao FX w l)(i:Nat)(hi:l[i]?=ab t:=by rfl):Has w t:=⟨h.at i hi,λb hb=>(h.low t (cL hi) b hb).1⟩
def aj.drop(h:aj ao FX w l)(i:Nat)(hl:l.eraseIdx i=l':=by rfl):aj ao FX w l':=hl▸h.sub (List.eraseIdx_sublist ..)
def aj.gi(h:aj w s.c5 w' l)(i:Nat)(hi:l[i]?=ab t:=by rfl):Turned w w' s t:=
 ⟨h.only,h.at i hi,λb hb=>⟨(h.low t (cL hi) b hb).1,(h.low t (cL hi) b hb).2.symm⟩⟩
def aj.fresh(h:aj w (λ_=>False) w' l)(i:Nat)(hi:l[i]?=ab t:=by rfl):b3 w w' t:=
 ⟨h.only,h.at i hi,λb hb=>⟨(h.low t (cL hi) b hb).2.elim id (λh=>h.elim),(h.low t (cL hi) b hb).1⟩⟩
def aj.ne(h:aj ao FX w l){i j:Nat}(hi:l[i]?=ab s)(hj:l[j]?=ab t)(hJ:i≠j):∀b,s.c5 b->¬t.c5 b:=by obtain⟨h1,rfl⟩:=ZE hi;obtain⟨h2,rfl⟩:=ZE hj;have hp:=List.pairwise_iff_getElem.1 h.apart;grind
theorem Turned.refl(h:Has w t):Turned w w t t:=⟨ar.refl _ _,h.1,λb hb=>⟨h.2 b hb,bH hb⟩⟩
def b3.aH{aR}(h:b3 w w' t)(g:aq w' aR):b3 w aR t:=
 ⟨aq.trans h.1 g,t.only h.2.1 (λb hb=>(h.2.2 b hb).2) g (λ_ _ h=>h),λb hb=>⟨(h.2.2 b hb).1,vl (h.2.2 b hb).2 g.size⟩⟩
def Has.aH(h:Has w t)(g:aq w w'):Has w' t:=⟨t.only h.1 h.2 g (λ_ _ h=>h),λb hb=>vl (h.2 b hb) g.size⟩
end
def emp:br:=⟨λ_=>False,λ_=>True,λ_ _ _ _ _=>trivial⟩
def ai(B:Nat)(cs:Array aO)(t:gl):br:=⟨λb=>b=B,λw=>aW w B cs t,λw w' h hl hp=>(h B aa (hl B aa)).trans hp⟩
def CB{c5:Nat->Prop}{w w':aM}(h:∀b,c5 b->b<w.heap.size->w'.heap[b]?=w.heap[b]?){b o}(hf:c5 b)(hb:w.heap[b]?=ab o):w'.heap[b]?=ab o:=
 by grind
def bn(A:Option bU)(n c e sz:Nat)(xs:List aO):br:=⟨dU A,λw=>Row 0 w A n c e sz xs,λw w' h _ hp=>by
 refine⟨hp.1,?_⟩;rcases hp.2 with h2|⟨g,cap,cur,hv,hb,hg,r⟩;·grind
 .injection hv with h1 h2 h3;subst h1;subst h3;exact b1 ⟨g,c,_,aa,hb,CB h ⟨0,_,aa⟩ hg,r⟩⟩
def cc(A:Option bU)(c:Nat)(bs:List Int):br:=⟨dU A,λw=>e2 0 w A c bs,λw w' h _ hp=>by
 refine⟨λmH=>?_,λb off sp e=>?_,hp.2.2⟩;·obtain⟨kW,lV,rfl,hc⟩:=hp.1 mH;refine⟨kW,lV,rfl,λk hk=>?_⟩;have h1:=hc k hk;exact(Dm (w:=w) (h kW ⟨lV,_,aa⟩ (uQ w _ h1))).trans h1
 .obtain⟨h1,cs,h2⟩:=hp.2.1 b off sp e;exact⟨h1,cs,CB h ⟨_,sp,e⟩ h2⟩⟩
def both(s t:br):br:=⟨λb=>s.c5 b\/t.c5 b,λw=>s.p w/\t.p w/\∀b,s.c5 b->¬t.c5 b,λw w' h hl hp=>
 ⟨s.oA w w' (λb hb=>h b (bH hb)) (λb hb=>hl b (bH hb)) hp.1,t.oA w w' (λb hb=>h b (b1 hb)) (λb hb=>hl b (b1 hb)) hp.2.1,hp.2.2⟩⟩
def kN(q:Prop)(t:br):br:=⟨t.c5,λw=>q/\t.p w,λw w' h hl hp=>⟨hp.1,t.oA w w' h hl hp.2⟩⟩
section
variable {ao w w':aM} {FX F:Nat->Prop} {l l':List br} {s t:br} {A:Option bU} {B c n e sz:Nat} {bs:List Int} {xs:List aO} {cs cs':Array aO} {ty:gl}
theorem aj.js(h:aj ao FX w l)(g:aq w w')(hb:e2 w.heap.size w' A c bs):aj ao FX w' (cc A c bs::l):=
 h.new _ ⟨g,hb.le (cQ _),λb ⟨off,sp,e⟩=>by obtain⟨h1,cs,h2⟩:=hb.2.1 b off sp e;exact⟨h1,aW.lt h2⟩⟩
def aj.k8(h:aj ao FX w l)(g:aq w w')(hb:Row w.heap.size w' A n c e sz xs):aj ao FX w' (bn A n c e sz xs::l):=
 h.new _ ⟨g,hb.le (cQ _),λ_ hb2=>hb.lt hb2⟩
theorem b3.Tw(g:aq w w')(hb:e2 w.heap.size w' A c bs):b3 w w' (cc A c bs):=⟨g,hb.le (cQ _),λb ⟨off,sp,e⟩=>by obtain⟨h1,cs,h2⟩:=hb.2.1 b off sp e;exact⟨h1,aW.lt h2⟩⟩
def b3.ac7(g:aq w w')(hb:Row w.heap.size w' A n c e sz xs):b3 w w' (bn A n c e sz xs):=⟨g,hb.le (cQ _),λ_ hb2=>hb.lt hb2⟩
def b3.CO(h:b3 w w' (cc A c bs)):e2 w.heap.size w' A c bs:=⟨h.2.1.1,λb off sp e=>⟨(h.2.2 b ⟨off,sp,e⟩).1,(h.2.1.2.1 b off sp e).2⟩,h.2.1.2.2⟩
def b3.row(h:b3 w w' (bn A n c e sz xs)):Row w.heap.size w' A n c e sz xs:=by
 obtain⟨g,hp,hl⟩:=h;refine⟨hp.1,?_⟩;rcases hp.2 with h2|⟨g2,cap,cur,hv,hb,r⟩;·grind
 .injection hv with h1 h2 h3;subst h1;exact b1 ⟨g2,_,_,by rw[h3],(hl g2 ⟨0,_,aa⟩).1,r⟩
def aj.star(h:aj ao FX w (s::t::l)):aj ao FX w (both s t::l):=by
 have h1:=vj.1 h.apart;have h2:=vj.1 h1.2;refine⟨h.only,λx hx=>?_,λx hx b hb=>?_,GH (λx hx b hb hx2=>?_) h2.2⟩
 .rcases gy.1 hx with rfl|hx;·exact⟨h.holds s aT,h.holds t aT,h1.1 t aT⟩
  .exact h.holds x aF
 .rcases gy.1 hx with rfl|hx;·exact hb.elim (h.low s aT b) (h.low t aT b)
  .exact h.low x aF b hb
 .exact hb.elim (λhb=>h1.1 x aF b hb hx2) (λhb=>h2.1 x hx b hb hx2)
def aj.fh(h:aj ao FX w (both s t::l)):aj ao FX w (s::t::l):=by
 have h1:=vj.1 h.apart;have hs:=h.holds _ (sx ..);have hl:=h.low _ (sx ..);refine⟨h.only,λx hx=>?_,λx hx b hb=>?_,GH (λx hx b hb hx2=>?_) (GH (λx hx b hb hx2=>?_) h1.2)⟩
 .rcases gy.1 hx with rfl|hx;·exact hs.1
  .rcases gy.1 hx with rfl|hx;·exact hs.2.1
   .exact h.holds x aF
 .rcases gy.1 hx with rfl|hx;·exact hl b (bH hb)
  .rcases gy.1 hx with rfl|hx;·exact hl b (b1 hb)
   .exact h.low x aF b hb
 .rcases gy.1 hx with rfl|hx;·exact hs.2.2 b hb hx2
  .exact h1.1 x hx b (bH hb) hx2
 .exact h1.1 x hx b (b1 hb) hx2
def aj.as(h:aj ao FX w l)i(hi:l[i]?=ab s)t(hp:s.p w->t.p w)(hf:∀b,t.c5 b->s.c5 b):aj ao FX w (l.set i t):=
 h.CT i hi ⟨ar.refl _ _,hp (h.at i hi),λb hb=>⟨(h.has i hi).2 b (hf b hb),bH (hf b hb)⟩⟩
end
end
section
open Go.RowKit Go.MapKept
section
variable {P:eu} {ops:Array cR} {Q:iy->bT->aM->Prop} {dst:Nat->Option mV} {U:Type}
def AX(D:List (List Nat))(done:List Nat):Prop:=∀j∈done,∀k∈D.getD j [],k∈done
def XP(P:eu)(ops:Array cR)(dst:Nat->Option mV)(D:List (List Nat))(val:(Nat->U)->Nat->aO)(nD:List Nat->(Nat->U)->aM->Prop)(QP:List re->aM->Prop)(a0:bT)(i:Nat):Prop:=
 ∀done us w,AX D done->(∀j∈done,j<ops.size)->i∉done->(∀k∈D.getD i [],k∈done)->nD done us w->∀K:bT->aM->Prop,Shut (∀u iD w',lC (dst i) iD=val (dz us i u) i->iD.defers=a0.defers->nD (done++[i]) (dz us i u) w'->K iD w')->
  match ops[i]? with
  |none=>True
  |some o=>if c4 o (cY ops (e7 dst (val us) a0 (D.getD i [])).tmps)=aB then o.wp P (e7 dst (val us) a0 (D.getD i [])) w K (λe _ w'=>match e with|.panic c=>QP c w'|_=>False)
   else K ((e7 dst (val us) a0 (D.getD i [])).put (dst i) aY) w
def awk {D val nD QP a0}
 (hk:Jx ops dst D) (hsz:∀i d,i<ops.size->dst i=ab d->d<a0.tmps.size)
 (Hu:∀c a w,a.defers=a0.defers->QP c w->Q (tm c) a w)
 (hloc:∀j,j<ops.size->∀us kr,(∀k,k=j\/k∈D.getD j []->us k=kr k)->val us j=val kr j)
 (hop:∀i,i<ops.size->XP P ops dst D val nD QP a0 i)
 (hend:∀done us w',(∀j,j<ops.size->j∈done)->(∀j∈done,j<ops.size)->nD done us w'->Q sk (e7 dst (val us) a0 (dF ops.size)) w'):
 ∀(fuel) done eE (us:Nat->U) w,((dF ops.size).filter (λj=>decide (j∉done))).length<=fuel->
  (∀j d,eE.getD j d=if j<ops.size then decide (j∈done)else d)->eE.size=ops.size->(∀j∈done,j<ops.size)->AX D done->nD done us w->
  wpAny P wy ops Q fuel eE (e7 dst (val us) a0 done) w:=by
 have hI:∀(done) us w,(∀j,j<ops.size->j∈done)->(∀j∈done,j<ops.size)->nD _ us w->Q _ (e7 _ _ a0 _) w:=
  λdone us w hall hlt fZ=>by rw[avO (n:=_) hk.uniq a0 hlt (l':=_) (λj=>⟨λh=>nc.2 (hlt j h),λh=>hall j (nc.1 h)⟩)];exact hend _ us w hall hlt fZ
 intro fuel;induction fuel with
 |zero=>
  intro done eE us w hf Cb xa hlt fC fZ
  have hall:∀j,j<ops.size->j∈done:=λj hj=>by have:(dF ops.size).filter (λj=>decide (j∉done))=[]:=jH ae;have:=XA.1 this j (nc.2 hj);simpa using this
  refine⟨?_,hI _ us w hall hlt fZ⟩;refine DM.2 (λj hj=>?_);obtain⟨h0,o,ho,_⟩:=JV.1 hj;have hj:=(pj.1 ho).1;rw[Cb j _,if_pos hj]at h0;exact absurd (hall j hj) (by simpa using h0)
 |succ fuel bW=>
  intro done eE us w hf Cb xa hlt fC fZ;refine⟨λhnil=>?_,λi hi=>?_⟩
  .refine hI _ us w (λj=>?_) hlt fZ;induction j using Qy with
   |ind j aqf=>
    intro hj;by_cases hd:j∈done;·exact hd
    .exfalso
     have:=JV.2 ⟨by rw[Cb j _,if_pos hj];simpa using hd,_,UW hj,λe he hb=>by have h1:=hk.after j _ (UW hj) e he hb;have h2:=hk.lt j hj _ h1;rw[Cb _ _,if_pos ae];simpa using aqf e.on h2 ae⟩;rw[hnil]at this;cases this
  .obtain⟨h0,o,ho,aoR⟩:=JV.1 hi;have cT:=(pj.1 ho).1;have eg:i∉done:=by rw[Cb i _,if_pos cT]at h0;simpa using h0
   have vz:dst i=o.dst:=by rw[hk.Rq i cT];simp[ou,ho]
   have Lr:∀k∈D.getD i [],k∈done:=by
    intro k rT;obtain⟨e,he,hb,h⟩:=hk.reach i o ho k rT;have h1:=aoR e he hb;have hen:e.on<ops.size:=by have:=hk.lt i cT _ (hk.after i o ho e he hb);omega
    rw[Cb _ _,if_pos hen]at h1;have h2:=by simpa using h1
    rcases h with h|h;·exact h▸h2
    .exact fC _ h2 k h
   have z':∀t∈o.looksAt _,(e7 _ _ a0 _).tmps[t]?=(e7 _ (val us) a0 done).tmps[t]?:=λt ht=>by
    by_cases hs:t<a0.tmps.size
    .by_cases hj:∃j∈done,dst j=ab t
     .obtain⟨j,hj,Ae⟩:=hj
      have ao9:j∈D.getD i []:=by
       rcases hk.looks i o ho t ht j (hlt j hj) Ae with h|h|h;·exact absurd (h▸hj) eg
       .exact h
       .exact absurd (fC j hj i h) eg
      have u:=λk yG e=>by
       by_cases hkj:k=j;·exact hkj
       .exact absurd Ae (hk.uniq k j yG (hlt j hj) hkj t e)
      rw[I8 Ae _ _ (λk hk e=>u k (hlt k (Lr k hk)) e) ao9 hs,I8 Ae _ _ (λk hk e=>u k (hlt k hk) e) hj hs]
     .rw[FE _ _ (λk hk e=>hj ⟨k,Lr k hk,e⟩),FE _ _ (λk hk e=>hj ⟨k,hk,e⟩)]
    .have hs':a0.tmps.size<=t:=Nat.le_of_not_lt hs;rw[afW (by rw[q0];exact hs'),afW (by rw[q0];exact hs')]
   have L6:=O8 hk.uD;have jl:=eval_congr (ops:=_) o _ _ (λcs c=>L6 i o cs c ho) z';have yQ:=Ur (ops:=_) o _ _ z'
   have H':∀v u w',v=val (dz us i u) i->nD (done++[i]) (dz us i u) w'->wpAny P wy ops Q fuel (eE.setIfInBounds i aB) ((e7 dst (val us) a0 done).put o.dst v) w':=λv u w' hv aox=>by
    have EM:∀j∈done,val us j=val (dz us i u) j:=λj hj=>hloc j (hlt j hj) _ _ (λk hk=>by
     have:k≠i:=λe=>by
      subst e;rcases hk with h|h;·exact eg (h▸hj)
      .exact eg (fC j hj _ h)
     simp[dz,this])
    have bB:(e7 dst (val us) a0 done).put o.dst v=e7 dst (val (dz us i u)) a0 (done++[i]):=by rw[Ul,<-hv,<-vz,CU done a0 EM]
    rw[bB];refine bW _ _ _ w' ?_ ?_ (by simpa using xa) ?_ ?_ aox
    .have Sm:((dF ops.size).filter (λj=>decide (j∉done++[i]))).length<((dF ops.size).filter (λj=>decide (j∉done))).length:=by
      have:(dF ops.size).filter (λj=>decide (j∉done++[i]))=((dF ops.size).filter (λj=>decide (j∉done))).filter (λj=>decide (j≠i)):=by rw[List.filter_filter];refine DN (λj _=>?_);by_cases h1:j∈done<;>by_cases h2:j=i<;>simp[h1,h2]
      rw[this];exact List.length_filter_lt_length_iff_exists.2 ⟨i,nb.2 ⟨nc.2 cT,by simpa using eg⟩,aT⟩
     omega
    .intro j d;by_cases mF:i=j;·subst mF;have:i<eE.size:=ae;simp[cT,this]
     .rw[getD_set_ne d mF,Cb j d];by_cases hj:j<ops.size;·have:¬j=i:=λe=>mF e.symm;simp[hj,this]
      .simp[hj]
    .intro j hj;rcases jf.1 hj with h|h;·exact hlt j h
     .obtain rfl:j=i:=by simpa using h
      exact cT
    .intro j hj k hkj;rcases jf.1 hj with h|h;·exact Bq _ (fC j h k hkj)
     .obtain rfl:j=i:=by simpa using h
      exact Bq _ (Lr k hkj)
   have abo:=hop i cT _ us w fC hlt eg Lr fZ;unfold wpOp;simp only[ho];by_cases hw:c4 o (cY ops (e7 dst (val us) a0 done).tmps)=aB
   .rw[if_pos hw]
    have Cm:=abo (λiD w'=>iD.defers=(e7 dst (val us) a0 (D.getD i [])).defers/\(∃u,lC _ iD=val _ i/\nD _ _ w'))
     (λu iD w' h1 h2 h3=>by rw[vz]at h1;exact⟨by rw[CV];exact h2,u,h1,h3⟩);simp only[ho]at Cm;rw[yQ,if_pos hw]at Cm;refine bH ?_
    have:=afL (a:=_) (Qa:=Q) (K:=λv w'=>∃u,v=val (dz us i u) i/\nD _ (dz us i u) w') jl (λd hd=>by rw[q0];exact hsz i d cT (vz.trans hd)) (by rw[q0,q0])
     (λc w h=>Hu c _ w (by rw[CV]) h) (λh=>by obtain⟨_,_,h⟩:=h;exact h.elim) Cm;exact agu (λbw w' ⟨v,e,_,u,h1,h2⟩=>by subst e;exact H' v u w' h1 h2) this
   .rw[if_neg hw]
    have Cm:=abo (λiD w'=>(∃u,lC _ iD=val _ i/\nD _ _ w'))
     (λu iD w' h1 _ h3=>by rw[vz]at h1;exact⟨u,h1,h3⟩);simp only[ho]at Cm;rw[yQ,if_neg hw,vz,MR _ _ _ (λd hd=>by rw[q0];exact hsz i d cT (vz.trans hd)) (λ_=>aa)]at Cm;obtain⟨u,h1,h2⟩:=Cm;exact H' aY u w h1 h2
def yq(ops:Array cR):List (List Nat):=
 ops.toList.foldl (λacc o=>acc++[o.after.foldl (λs e=>if xT wy e then let s2:=(acc.getD e.on []).foldl (λs k=>if s.contains k then s else k::s) s;if s2.contains e.on then s2 else e.on::s2 else s) []]) []
structure QA where
 sec:Nat
 A:Option bU
 c:Nat
 bs:List Int
structure ny where
 cB:Nat
 e1:Nat
 A:Option bU
 c:Nat
 L:List QA
structure e3 where
 A:Option Addr:=af
 b:Nat:=0
 c:Nat:=0
 aJ:Option Addr:=af
 eY:Nat:=0
 c2:Nat:=0
 sC:Nat:=0
 Yf:Nat:=0
 Yg:Nat:=0
 v:Value:=aY
 m:ny:=⟨0,0,af,0,[]⟩
 t:br:=emp
def dk(bk:List br)(out:(Nat->e3)->Nat->br)(us:Nat->e3)(n:Nat):br:=match bk[n]? with|some t=>t|none=>out us (n -bk.length)
def KC(P:eu)(ops:Array cR)(dst:Nat->Option mV)(LE:List Nat)(bS:Nat->e3->aO)(ao:aM)(FX:Nat->Prop)(bk:List br)(out:(Nat->e3)->Nat->br)(ins rd:Nat->List Nat)(QP:List re->aM->Prop)(us:Nat->e3)(i:Nat)(o:cR)(a:bT):Prop:=
 ∀w (Fr:List br),aj ao FX w ((ins i).map (dk bk out us)++((rd i).map (dk bk out us)++Fr))->∀K:bT->aM->Prop,Shut (∀u iD w',lC (dst i) iD=bS i u->iD.defers=a.defers->aj ao FX w' (out (dz us i u) i::((rd i).map (dk bk out us)++Fr))->K iD w')->
  if c4 o (cY ops a.tmps)=aB then o.wp P a w K (λe _ w'=>match e with|.panic c=>QP c w'|_=>False)else K (a.put (dst i) aY) w
def c9(P:eu)(ops:Array cR)(Q:iy->bT->aM->Prop)(dst:Nat->Option mV)(LE:List Nat)(bS:Nat->e3->aO)(ao:aM)(FX:Nat->Prop)(bk:List br)(out:(Nat->e3)->Nat->br)(ins rd:Nat->List Nat)(fin:List Nat)(QP:List re->aM->Prop)(us:Nat->e3):Nat->List cR->bT->Prop
 |_,[],a=>∀w',aj ao FX w' (fin.map (dk bk out us))->Q sk a w'
 |i,o::rest,a=>
  if i∈LE then KC P ops dst LE bS ao FX bk out ins rd QP us i o a/\c9 P ops Q dst LE bS ao FX bk out ins rd fin QP us (i+1) rest (a.put o.dst (bS i (us i)))
  else ∃v,((c4 o (cY ops a.tmps)=aB/\∀w (Fr:List br),aj ao FX w ((rd i).map (dk bk out us)++Fr)->(bt a.eval o).run P w=a7 (c8 v) w)\/(c4 o (cY ops a.tmps)=au/\v=aY))/\
   c9 P ops Q dst LE bS ao FX bk out ins rd fin QP us (i+1) rest (a.put o.dst v)
def alive(m:Nat)(LE:List Nat)(ins:Nat->List Nat)(size:Nat)(done:List Nat)(n:Nat):Bool:=
 (decide (n<m)||(LE.contains (n -m)&&done.contains (n -m)))&&(dF size).all λc=>!(done.contains c&&(ins c).contains n)
def Fx(m size:Nat)(D:List (List Nat))(LE:List Nat)(ins rd look:Nat->List Nat)(fin:List Nat):Bool:=
 LE.all (λi=>decide (i<size))&&
 ((dF size).all λi=>
   ((ins i).all λn=>decide (n<m+size)&&LE.contains i&&(decide (n<m)||(LE.contains (n -m)&&(D.getD i []).contains (n -m)))&&(dF size).all λc=>c==i||!(ins c).contains n)&&
   ((rd i).all λn=>decide (n<m+size)&&(decide (n<m)||(LE.contains (n -m)&&(D.getD i []).contains (n -m)))&&(dF size).all λc=>!(ins c).contains n||(c !=i&&(D.getD c []).contains i))&&
   decide (ins i).Nodup&&decide (rd i).Nodup&&(look i).all λk=>k==i||(D.getD i []).contains k)&&
 (fin==(dF (m+size)).filter (alive m LE ins size (dF size)))
section
variable {LE:List Nat} {bS:Nat->e3->aO} {ao:aM} {FX:Nat->Prop} {bk:List br} {out:(Nat->e3)->Nat->br} {ins rd look:Nat->List Nat} {fin:List Nat} {QP:List re->aM->Prop} {us:Nat->e3}
def aey {i o rest a v} (hi:decide (i∈LE)=au) (hw:c4 o (cY ops a.tmps)=aB) (hy:∀w Fr,aj ao FX w ((rd i).map (dk bk out us)++Fr)->(bt a.eval o).run P w=a7 (c8 v) w)
 (h:c9 P ops Q dst LE bS ao FX bk out ins rd fin QP us (i+1) rest (a.put o.dst v)):c9 P ops Q dst LE bS ao FX bk out ins rd fin QP us i (o::rest) a:=by
 unfold c9;grind
def auJ {i o rest a} (hi:decide (i∈LE)=au) (hw:c4 o (cY ops a.tmps)=au)
 (h:c9 P ops Q dst LE bS ao FX bk out ins rd fin QP us (i+1) rest (a.put o.dst aY)):c9 P ops Q dst LE bS ao FX bk out ins rd fin QP us i (o::rest) a:=by
 unfold c9;grind
def auI {i o rest a} (hi:decide (i∈LE)=aB) (hl:KC P ops dst LE bS ao FX bk out ins rd QP us i o a)
 (h:c9 P ops Q dst LE bS ao FX bk out ins rd fin QP us (i+1) rest (a.put o.dst (bS i (us i)))):c9 P ops Q dst LE bS ao FX bk out ins rd fin QP us i (o::rest) a:=by
 unfold c9;grind
def pc{i a}(h:∀w',aj ao FX w' (fin.map (dk bk out us))->Q sk a w'):c9 P ops Q dst LE bS ao FX bk out ins rd fin QP us i [] a:=h
def zN(P:eu)(ops:Array cR)(dst:Nat->Option mV)(LE:List Nat)(bS:Nat->e3->aO)(ao:aM)(FX:Nat->Prop)(bk:List br)(out:(Nat->e3)->Nat->br)(ins rd:Nat->List Nat)(QP:List re->aM->Prop)(us:Nat->e3)(a0:bT)(eV:Nat->aO)(k:Nat):Prop:=
 if k∈LE then KC P ops dst LE bS ao FX bk out ins rd QP us k (ops.getD k ob) (e7 dst eV a0 (dF k))/\eV k=bS k (us k)
 else(c4 (ops.getD k ob) (cY ops (e7 dst eV a0 (dF k)).tmps)=aB/\∀w (Fr:List br),aj ao FX w ((rd k).map (dk bk out us)++Fr)->(bt (e7 dst eV a0 (dF k)).eval (ops.getD k ob)).run P w=a7 (c8 (eV k)) w)\/
  (c4 (ops.getD k ob) (cY ops (e7 dst eV a0 (dF k)).tmps)=au/\eV k=aY)
def auK{D a0}(hk:Jx ops dst D):∀n i xC,ops.size -i=n->i<=ops.size->c9 P ops Q dst LE bS ao FX bk out ins rd fin QP us i (ops.toList.drop i) (e7 dst xC a0 (dF i))->
 ∃eV,(∀k,k<i->eV k=xC k)/\(∀k,i<=k->k<ops.size->zN P ops dst LE bS ao FX bk out ins rd QP us a0 eV k)/\∀w',aj ao FX w' (fin.map (dk bk out us))->Q sk (e7 dst eV a0 (dF ops.size)) w':=by
 intro n;induction n with
 |zero=>
  intro i xC hn hi h;obtain rfl:i=ops.size:=ae;rw[List.drop_eq_nil_of_le aT]at h;exact⟨_,λ_ _=>rfl,λk h1 h2=>ae,h⟩
 |succ n bW=>
  intro i xC hn hi h;have cT:i<ops.size:=ae;have hlt:i<ops.toList.length:=ae;rw[List.drop_eq_getElem_cons hlt]at h;have pX:ops.toList[i]=ops.getD i default:=by simp[cT]
  have hd:dst i=(ops.getD i ob).dst:=by rw[hk.Rq i cT];simp[ou,cT]
  rw[pX]at h
  have step:∀v,c9 P _ Q dst LE bS ao FX bk out ins rd fin QP us _ _ ((e7 dst xC a0 _).put _ v)->
   ∃eV,(∀k,k<i->eV k=xC k)/\eV i=v/\(∀k,i+1<=k->k<ops.size->zN P ops dst LE bS ao FX bk out ins rd QP us a0 eV k)/\∀w',aj ao FX w' _->Q _ _ w':=λv hv=>by
   have e:e7 dst (dz xC i v) a0 (dF (i+1))=(e7 dst xC a0 (dF i)).put (ops.getD i ob).dst v:=by grind[List.range_succ,Ul,CU,dz]
   rw[<-e]at hv;obtain⟨eV,h1,h2,h3⟩:=bW (i+1) (dz xC i v) ae cT hv;exact⟨eV,λk hk2=>by grind[dz],by grind[dz],h2,h3⟩
  have ayx:∀eV:Nat->aO,(∀k,k<i->eV k=xC k)->e7 _ eV a0 _=e7 dst _ a0 _:=λeV h1=>CU _ _ (λj hj=>h1 j (nc.1 hj));unfold c9 at h;by_cases pR:i∈LE;·rw[if_pos pR]at h;obtain⟨eV,h1,h2,h3,h4⟩:=step _ h.2;refine⟨eV,h1,λk rS hk2=>?_,h4⟩;grind[zN]
  .rw[if_neg pR]at h;obtain⟨v,hv,hr⟩:=h;obtain⟨eV,h1,h2,h3,h4⟩:=step _ hr;refine⟨eV,h1,λk rS hk2=>?_,h4⟩;grind[zN]
end
section
variable {LE:List Nat} {bS:Nat->e3->aO} {ao:aM} {FX:Nat->Prop} {bk:List br} {out:(Nat->e3)->Nat->br} {ins rd look:Nat->List Nat} {fin:List Nat} {QP:List re->aM->Prop}
structure QF (m size:Nat) (D:List (List Nat)) (LE:List Nat) (ins rd look:Nat->List Nat) (fin:List Nat):Prop where
 le:∀i∈LE,i<size
 ab6:∀i,i<size->∀n∈ins i,n<m+size/\i∈LE
 ab5:∀i,i<size->∀n∈ins i,n<m\/(n -m∈LE/\n -m∈D.getD i [])
 aqt:∀i,i<size->∀n∈ins i,∀c,c<size->n∈ins c->c=i
 atz:∀i,i<size->∀n∈rd i,n<m+size
 M5:∀i,i<size->∀n∈rd i,n<m\/(n -m∈LE/\n -m∈D.getD i [])
 adZ:∀i,i<size->∀n∈rd i,∀c,c<size->n∈ins c->c≠i/\i∈D.getD c []
 arX:∀i,i<size->(ins i).Nodup
 arY:∀i,i<size->(rd i).Nodup
 Mw:∀i,i<size->∀k∈look i,k=i\/k∈D.getD i []
 fin:fin=(dF (m+size)).filter (alive m LE ins size (dF size))
def auR{m size D}(h:Fx m size D LE ins rd look fin=aB):QF m size D LE ins rd look fin:=by
 unfold Fx at h;simp only[v8,DK,decide_eq_true_eq,nc,af7,ajU,beq_iff_eq,Oo,bne_iff_ne,decide_eq_false_iff_not]at h;obtain⟨⟨h1,h2⟩,h3⟩:=h;refine⟨h1,λi hi n hn=>?_,λi hi n hn=>?_,λi hi n hn c hc iH=>?_,λi hi n hn=>?_,λi hi n hn=>?_,λi hi n hn c hc iH=>?_,λi hi=>(h2 i hi).1.1.2,λi hi=>(h2 i hi).1.2,λi hi k hk=>(h2 i hi).2 k hk,h3⟩;·exact⟨((h2 i hi).1.1.1.1 n hn).1.1.1,((h2 i hi).1.1.1.1 n hn).1.1.2⟩
 .exact((h2 i hi).1.1.1.1 n hn).1.2
 .exact(((h2 i hi).1.1.1.1 n hn).2 c hc).resolve_right (λh=>h iH)
 .exact((h2 i hi).1.1.1.2 n hn).1.1
 .exact((h2 i hi).1.1.1.2 n hn).1.2
 .exact(((h2 i hi).1.1.1.2 n hn).2 c hc).resolve_left (λh=>h iH)
theorem KP{m size done n}:alive m LE ins size done n=aB↔(n<m\/(n -m∈LE/\n -m∈done))/\∀c,c<size->c∈done->n∉ins c:=by grind[alive]
def lz(m size:Nat)(LE:List Nat)(ins:Nat->List Nat)(done:List Nat):List Nat:=(dF (m+size)).filter (alive m LE ins size done)
def Ms{m size done}:(lz m size LE ins done).Nodup:=List.nodup_range.filter _
def E8{m size done n}:n∈lz m size LE ins done↔n<m+size/\(n<m\/(n -m∈LE/\n -m∈done))/\∀c,c<size->c∈done->n∉ins c:=by grind[lz,KP]
def acH{m size D}(h:QF m size D LE ins rd look fin){done}(fC:AX D done){i}(hi:i<size)(eg:i∉done)(eT:∀k∈D.getD i [],k∈done):
 (lz m size LE ins done).Perm (ins i++(rd i++(lz m size LE ins done).filter (λn=>!(ins i).contains n&&!(rd i).contains n))):=by
 have aaT:=λn hn=>E8.2 ⟨(h.ab6 i hi n hn).1,(h.ab5 i hi n hn).imp id (λh1=>⟨h1.1,eT _ h1.2⟩),λc hc dq iH=>eg (h.aqt i hi n hn c hc iH▸dq)⟩;have p1:=λn hn=>E8.2 ⟨h.atz i hi n hn,(h.M5 i hi n hn).imp id (λh1=>⟨h1.1,eT _ h1.2⟩),λc hc dq iH=>eg (fC c dq i (h.adZ i hi n hn c hc iH).2)⟩;refine(Qw Ms ?_).2 (λn=>?_)
 .refine x'.2 ⟨h.arX i hi,x'.2 ⟨h.arY i hi,Ms.filter _,λa ha b hb e=>?_⟩,λa ha b hb e=>?_⟩;·grind
  .subst e;rcases jf.1 hb with hb|hb;·exact(h.adZ i hi a hb i hi ha).1 aa
   grind
 grind
def arn{m size D}(h:QF m size D LE ins rd look fin){done}(fC:AX D done)(hlt:∀j∈done,j<size){i}(hi:i<size)(eg:i∉done)(eT:∀k∈D.getD i [],k∈done):
 (lz m size LE ins (done++[i])).Perm ((if i∈LE then[m+i]else[])++(rd i++(lz m size LE ins done).filter (λn=>!(ins i).contains n&&!(rd i).contains n))):=by
 have hs:=acH h fC hi eg eT;have abk:=(hs.nodup_iff.1 Ms);have apF:=(x'.1 abk).2.1
 have xb:∀n,n∈rd i++(lz m _ LE _ _).filter (λn=>!(ins i).contains n&&!(rd i).contains n)↔n∈lz m _ LE _ _/\n∉ins i:=λn=>by
  have h1:n∈lz m size LE ins done↔n∈ins i\/n∈rd i++(lz m size LE ins done).filter (λn=>!(ins i).contains n&&!(rd i).contains n):=by rw[hs.mem_iff,jf]
  refine⟨λh2=>⟨h1.2 (b1 h2),λh3=>?_⟩,λh2=>(h1.1 h2.1).resolve_left h2.2⟩;exact(x'.1 abk).2.2 n h3 n h2 aa
 have lS:m+i∉lz m size LE ins _:=λh1=>by
  have h2:=(E8.1 h1).2.1;rcases h2 with h2|h2;·omega
  .rw[tG]at h2;exact eg h2.2
 refine(Qw Ms ?_).2 (λn=>?_)
 .refine x'.2 ⟨by split<;>simp,apF,λa ha b hb e=>?_⟩;subst e;split at ha
  .obtain rfl:a=m+i:=by simpa using ha
   exact lS ((xb _).1 hb).1
  .cases ha
 .rw[jf,xb,E8,E8];refine⟨λ⟨h1,h2,h3⟩=>?_,λhn=>?_⟩
  .by_cases apD:n=m+i
   .subst apD;left;rcases h2 with h2|h2;·omega
    .rw[tG]at h2;simp[h2.1]
   .right;refine⟨⟨h1,?_,λc hc dq=>h3 c hc (Bq _ dq)⟩,h3 i hi aT⟩;rcases h2 with h2|⟨h2,h4⟩;·exact bH h2
    .by_cases apE:n<m;·exact bH apE
     .refine b1 ⟨h2,?_⟩;rcases jf.1 h4 with h4|h4;·exact h4
      .have:n -m=i:=by simpa using h4
       omega
  .rcases hn with hn|⟨⟨h1,h2,h3⟩,h4⟩
   .split at hn
    .rename_i pR;obtain rfl:=by simpa using hn
     refine⟨ae,b1 (by rw[tG];exact⟨pR,aT⟩),λc hc dq iH=>?_⟩;have h5:=h.ab5 c hc _ iH;rw[tG]at h5;rcases h5 with h5|h5;·omega
     .rcases jf.1 dq with h6|h6;·exact eg (fC c h6 i h5.2)
      .obtain rfl:c=i:=by simpa using h6
       exact eg (eT _ h5.2)
    .cases hn
   .refine⟨h1,h2.imp id (λh5=>⟨h5.1,Bq _ h5.2⟩),λc hc dq=>?_⟩;rcases jf.1 dq with h6|h6;·exact h3 c hc h6
    .obtain rfl:c=i:=by simpa using h6
     exact h4
def Ut {w a0} (I:aj ao FX w bk) D dst LE bS out (ins rd look) fin QP
 (hk:Ed ops dst D=aB) (hsz:((dF ops.size).all λi=>match dst i with|some d=>decide (d<a0.tmps.size)|none=>LE.contains i)=aB) (hs:Fx bk.length ops.size D LE ins rd look fin=aB)
 (Hu:∀c a w,a.defers=a0.defers->QP c w->Q (tm c) a w)
 (hloc:∀i,i∈LE->∀us kr:Nat->e3,(∀k,k∈look i->us k=kr k)->out us i=out kr i)
 (j':∀us,c9 P ops Q dst LE bS ao FX bk out ins rd fin QP us 0 ops.toList a0):
 wpAny P wy ops Q ops.size (Of ops.size au) a0 {w with drawn:=w.drawn+1}:=by
 have hk:=am0 hk;have hs:=auR hs
 have abE:∀i,i<ops.size->match dst i with|some d=>d<a0.tmps.size|none=>i∈LE:=λi hi=>by
  have:=DK.1 hsz i (nc.2 hi);cases hd:dst i with
  |none=>simpa [hd]using this
  |some d=>simpa [hd]using this
 have hnone:∀i,i<ops.size->i∉LE->dst i≠none:=λi hi hn hd=>by have:=abE i hi;rw[hd]at this;exact hn this
 have hsz':∀i d,i<ops.size->dst i=ab d->d<a0.tmps.size:=λi d hi hd=>by have:=abE i hi;rw[hd]at this;exact this
 have pX:∀i,i<ops.size->ops[i]?=ab (ops.getD i ob):=λi hi=>by simp[hi]
 have LJ:∀i,i<ops.size->dst i=(ops.getD i _).dst:=λi hi=>by rw[hk.Rq i hi];unfold ou;rw[pX i hi];rfl
 have avE:∀i,i<ops.size->∀us kr:Nat->e3,(∀k,(k=i\/k∈D.getD i [])->us k=kr k)->∀n,n<bk.length\/(n -bk.length∈LE/\(n -bk.length∈D.getD i []\/n -bk.length=i))->dk bk _ us n=dk bk _ _ n:=λi hi us kr he n hn=>by
  unfold dk;cases hq:bk[n]? with
  |some t=>rfl
  |none=>
   have mc:=Qt.1 hq;rcases hn with hn|⟨hn,vH⟩;·omega
   .refine hloc _ hn us _ (λk hk2=>he k ?_);have h1:=hs.Mw _ (hs.le _ hn) k hk2;rcases vH with vH|vH
    .rcases h1 with h1|h1;·exact b1 (h1▸vH)
     .exact b1 (hk.trans i hi _ vH k h1)
    .rw[vH]at h1;exact h1
 let fs (us:Nat->e3×aO):Nat->e3:=λk=>(us k).1;let r' (us:Nat->e3×aO):Nat->Value:=λk=>(us k).2;let ck (us:Nat->e3×aO) (j:Nat):Prop:=∃w1 Fr,aj ao FX w1 ((rd j).map (dk bk out (fs us))++Fr)/\(if j∈LE then r' us j=bS j (fs us j)else r' us j=CD P ops w1 (ops.getD j ob) (e7 dst (r' us) a0 (D.getD j [])))
 have EM:∀(done) (us kr),AX D _->(∀j∈done,j<ops.size)->(∀j∈done,us j=kr j)->∀j∈done,ck us j->ck kr j:=λdone us kr fC hlt he j hj ⟨w1,Fr,h1,h2⟩=>by
  have o4:=hlt j hj
  have R9:∀k,(k=j\/k∈D.getD j [])->fs us k=fs _ k:=λk hk2=>by show(us k).1=(kr k).1;rw[he k (hk2.elim (λe=>e▸hj) (λh=>fC j hj k h))]
  refine⟨w1,Fr,?_,?_⟩;·have:=DS (λn hn=>avE j o4 _ _ R9 n ((hs.M5 j o4 n hn).imp id (λh=>⟨h.1,bH h.2⟩)));rw[<-this];exact h1
  .have hv:r' us j=r' kr j:=by show(us j).2=(kr j).2;rw[he j hj]
   have hu:e7 _ (r' us) a0 _=e7 dst (r' _) a0 _:=CU _ _ (λk hk2=>by show(us k).2=(kr k).2;rw[he k (fC j hj k hk2)]);rw[<-hv,<-hu,<-R9 j (bH aa)];exact h2
 have agree:∀(done) us eV,AX D done->(∀j∈done,j<ops.size)->(∀k,k<ops.size->zN P ops dst LE bS ao FX bk out ins rd QP (fs us) a0 eV k)->(∀j∈done,ck us j)->∀j,j∈done->eV j=r' us j:=by
  intro done us eV fC hlt hcm iT j;induction j using Qy with
  |ind j bW=>
   intro hj;have o4:=hlt j hj;have hc:=hcm j o4;obtain⟨w1,Fr,h1,h2⟩:=iT j hj;unfold zN at hc;by_cases pR:j∈LE;·rw[if_pos pR]at hc h2;rw[hc.2,h2]
   .rw[if_neg pR]at hc h2
    have z':=acJ (a0:=a0) (val:=eV) (val':=_) hk (pX j o4) (l:=_) (l':=_) (λk Sf=>by
     have hkj:=nc.1 Sf;exact⟨ae,λh=>by have:=hk.lt k ae j h;omega,ae⟩) (λk rT=>by
     have hkj:=hk.lt j o4 k rT;exact⟨ae,λh=>by have:=hk.lt k ae j h;omega,ae⟩) (λk rT=>⟨nc.2 (hk.lt j o4 k rT),rT,bW k (hk.lt j o4 k rT) (fC j hj k rT)⟩);have jl:=eval_congr (ops:=_) _ _ _ (λcs c=>O8 hk.uD j _ cs c (pX j o4)) z';have yQ:=Ur (ops:=ops) _ _ _ z';rw[h2];unfold CD;rcases hc with⟨h3,h4⟩|⟨h3,h4⟩;·rw[<-yQ,if_pos h3,<-jl,h4 w1 Fr h1]
    .rw[<-yQ,if_neg (by rw[h3];simp),h4]
 let nD (done:List Nat) (us:Nat->e3×aO) (w:aM):Prop:=aj ao FX w ((lz bk.length ops.size LE ins done).map (dk bk out (fs us)))/\∀j∈done,ck us j
 have ZF:∀us:Nat->e3×aO,∃eV,(∀k,k<ops.size->zN P _ _ LE bS ao FX bk _ _ rd QP _ a0 eV k)/\∀w',aj ao FX w' _->Q _ _ w':=λus=>by obtain⟨eV,_,h2,h3⟩:=auK (a0:=a0) (Q:=Q) hk ops.size 0 (λ_=>aY) ae (cQ _) (by simpa [e7]using j' (fs us));exact⟨eV,λk hk2=>h2 k (cQ _) hk2,h3⟩
 have apJ:∀i,i<ops.size->XP P ops dst D r' nD QP a0 i:=by
  intro i hi done us w1 fC hlt eg eT ⟨aoM,iT⟩ K hK;simp only[pX i hi];have vz:=LJ i hi;obtain⟨eV,hcm,_⟩:=ZF us;have RU:=agree _ us eV fC hlt hcm iT
  have z':=acJ (a0:=a0) (val:=eV) (val':=_) hk (pX i hi) (l:=_) (l':=_) (λk Sf=>by
   have hkj:=nc.1 Sf;exact⟨ae,λh=>by have:=hk.lt k ae i h;omega,ae⟩) (λk rT=>by
   have hkj:=hk.lt i hi k rT;exact⟨ae,λh=>by have:=hk.lt k ae i h;omega,ae⟩) (λk rT=>⟨nc.2 (hk.lt i hi k rT),rT,RU k (eT k rT)⟩);have jl:=eval_congr (ops:=_) _ _ _ (λcs c=>O8 hk.uD i _ cs c (pX i hi)) z';have yQ:=Ur (ops:=_) _ _ _ z';have hsp:=(aoM.perm ((acH hs fC hi eg eT).map _));rw[gx,gx]at hsp
  have abi:∀(u:e3) (v:aO) (w':aM),(∀k,k≠i->dz us i (u,v) k=us k)->(if i∈LE then v=bS i u else v=CD P ops w1 (ops.getD i ob) (e7 dst (r' us) a0 (D.getD i [])))->
   aj ao FX w' ((if i∈LE then[out (dz (fs us) i u) i]else[])++((rd i).map (dk bk out (fs us))++((lz bk.length ops.size LE ins done).filter (λn=>!(ins i).contains n&&!(rd i).contains n)).map (dk bk out (fs us))))->nD (done++[i]) (dz us i (u,v)) w':=by
   intro u v w' hne hv hst
   have ao3:fs (dz us i (u,v))=dz (fs us) i u:=by
    funext k;show(dz us i (u,v) k).1=dz (fs us) i u k;unfold dz;by_cases h:k=i;·rw[if_pos h,if_pos h]
    .rw[if_neg h,if_neg h]
   refine⟨?_,λj hj=>?_⟩
   .refine aj.perm ?_ ((arn hs fC hlt hi eg eT).map _).symm;rw[gx,gx]
    have bB:(rd i).map (dk bk _ (fs _))=(rd i).map (dk bk _ (fs us)):=DS (λn hn=>by
     have h1:=hs.M5 i hi n hn;unfold dk;cases hq:bk[n]? with
     |some t=>rfl
     |none=>
      have mc:=Qt.1 hq;rcases h1 with h1|h1;·omega
      .refine hloc _ h1.1 _ _ (λk hk2=>?_);have h2:=hs.Mw _ (hs.le _ h1.1) k hk2;have h3:=h2.elim (λe=>e▸eT _ h1.2) (λh=>fC _ (eT _ h1.2) k h);have h4:k≠i:=λe=>eg (e▸h3);show(dz us i (u,v) k).1=(us k).1;rw[hne k h4])
    have b7:((lz _ _ LE ins _).filter (λn=>!(ins i).contains n&&!(rd i).contains n)).map (dk bk _ (fs _))=((lz bk.length ops.size LE _ _).filter (λn=>!(ins i).contains n&&!(rd i).contains n)).map (dk bk out (fs us)):=DS (λn hn=>by
     have h1:=(E8.1 (nb.1 hn).1).2.1;unfold dk;cases hq:bk[n]? with
     |some t=>rfl
     |none=>
      have mc:=Qt.1 hq;rcases h1 with h1|h1;·omega
      .refine hloc _ h1.1 _ _ (λk hk2=>?_);have h2:=hs.Mw _ (hs.le _ h1.1) k hk2;have h3:=h2.elim (λe=>e▸h1.2) (λh=>fC _ h1.2 k h);have h4:k≠i:=λe=>eg (e▸h3);show(dz us i (u,v) k).1=(us k).1;rw[hne k h4])
    have fG:(if i∈LE then[bk.length+i]else[]).map (dk bk out (fs (dz us i (u,v))))=(if i∈LE then[out (dz (fs us) i u) i]else[]):=by
     split;·rw[ao3];simp only[jx,kC,dk];rw[GL ae,tG]
     .rfl
    rw[bB,b7,fG];exact hst
   .by_cases mF:j=i
    .subst mF;refine⟨w1,((ins j).map (dk bk out (fs us))++((lz bk.length ops.size LE ins done).filter (λn=>!(ins j).contains n&&!(rd j).contains n)).map (dk bk out (fs us))),?_,?_⟩
     .have bB:(rd j).map (dk bk _ (fs _))=(rd j).map (dk bk _ (fs us)):=DS (λn hn=>by
       have h1:=hs.M5 j hi n hn;unfold dk;cases hq:bk[n]? with
       |some t=>rfl
       |none=>
        have mc:=Qt.1 hq;rcases h1 with h1|h1;·omega
        .refine hloc _ h1.1 _ _ (λk hk2=>?_);have h2:=hs.Mw _ (hs.le _ h1.1) k hk2;have h3:=h2.elim (λe=>e▸eT _ h1.2) (λh=>fC _ (eT _ h1.2) k h);have h4:k≠j:=λe=>eg (e▸h3);show(dz us j (u,v) k).1=(us k).1;rw[hne k h4]);rw[bB];refine hsp.perm ?_;rw[<-j5,<-j5];exact List.Perm.append_right _ List.perm_append_comm
     .have o6:r' (dz us j (u,v)) j=v:=by show(dz us j (u,v) j).2=v;simp[dz]
      have hv2:fs (dz us j (u,v)) j=u:=by show(dz us j (u,v) j).1=u;simp[dz]
      have hv3:e7 dst (r' (dz us j (u,v))) a0 (D.getD j [])=e7 dst (r' us) a0 (D.getD j []):=CU _ _ (λk hk2=>by show(dz us j (u,v) k).2=(us k).2;rw[hne k (λe=>eg (e▸eT k hk2))]);rw[o6,hv2,hv3];exact hv
    .have B8:=(jf.1 hj).resolve_right (λh=>mF (by simpa using h));exact EM _ us _ fC hlt (λk hk2=>(hne k (λe=>eg (e▸hk2))).symm) j B8 (iT j B8)
  have abh:∀(u) v,∀k,k≠i->dz us i (u,v) k=us k:=λu v k rU=>by simp[dz,rU]
  have hc:=hcm i hi;unfold zN at hc;by_cases pR:i∈LE
  .rw[if_pos pR]at hc;have hl:=hc.1 w1 _ hsp;rw[<-yQ]
   have post:∀u w',aj ao FX w' (out _ i::((rd i).map _++((lz _ _ LE ins _).filter (λn=>!(ins i).contains n&&!(rd i).contains n)).map _))->nD _ _ w':=λu w' h=>
    abi u _ w' (abh u _) (by rw[if_pos pR]) (by rw[if_pos pR];exact h);by_cases hw:c4 (ops.getD i ob) (cY ops (e7 dst eV a0 (dF i)).tmps)=aB
   .rw[if_pos hw]
    have hl2:=hl (λiD w'=>iD.defers=(e7 _ eV a0 _).defers/\∃u,lC _ iD=bS i u/\nD _ _ w')
     (λu iD w' h1 h2 h3=>⟨h2,u,vz▸h1,post u w' h3⟩);rw[if_pos hw]at hl2;have apW:=λd hd=>hsz' i d hi (vz.trans hd)
    have:=afL (a:=_) (Qa:=λe _ w'=>match e with|.panic c=>QP c w'|_=>False) (K:=λv w'=>∃u,v=bS i u/\nD _ (dz us i (u,bS i u)) w') jl
     (λd hd=>by rw[q0];exact apW d hd) (by rw[q0,q0]) (λc w h=>h) (λh=>h) hl2;refine agu (λbw w' ⟨v,e,h0,u,h1,h2⟩=>?_) this;refine hK.out _ _ w' ?_ (by rw[e,put_defers,CV]) h2;show lC (dst i) bw=(dz us i (u,bS i u) i).2;rw[vz,h0,h1];simp[dz]
   .rw[if_neg hw];have hl2:=hl (λiD w'=>∃u,lC _ iD=bS i u/\nD _ _ w') (λu iD w' h1 _ h3=>⟨u,h1,post u w' h3⟩);rw[if_neg hw]at hl2;obtain⟨u,h1,h2⟩:=hl2;have hz:=λt ht=>hsz' i t hi ht;rw[MR _ _ _ (λt ht=>by rw[q0];exact hz t ht) (λ_=>aa)]at h1;refine hK.out _ _ w1 ?_ (by rw[put_defers,CV]) h2;rw[MR _ _ _ (λt ht=>by rw[q0];exact hz t ht) (λ_=>aa),h1];show bS i u=(dz us i (u,bS i u) i).2;simp[dz]
  .rw[if_neg pR]at hc;have aaT:=DM.2 (λn hn=>pR (hs.ab6 i hi n hn).2)
   have abA:aj ao FX w1 ((rd i).map (dk bk out (fs us))++((lz bk.length ops.size LE ins done).filter (λn=>!(ins i).contains n&&!(rd i).contains n)).map (dk bk out (fs us))):=by have h:=hsp;rw[aaT]at h⊢;simpa using h
   have post:∀v,v=CD P _ w1 _ _->nD _ (dz us i ((us i).1,v)) w1:=λv hv=>
    abi _ v w1 (abh _ _) (by rw[if_neg pR];exact hv) (by rw[if_neg pR];exact abA);have hz:∀t,dst i=ab t->t<(e7 dst (r' us) a0 (D.getD i [])).tmps.size:=λt ht=>by rw[q0];exact hsz' i t hi ht
   have fin:∀v',(dst i=af->v'=aY)->v'=CD P _ w1 _ _->K ((e7 _ _ a0 _).put _ v') w1:=λv' hn e=>by refine hK.out _ _ w1 ?_ (by rw[put_defers,CV]) (post v' e);rw[MR _ _ _ hz hn];show v'=(dz us i ((us i).1,v') i).2;simp[dz]
   rcases hc with⟨h3,h4⟩|⟨h3,h4⟩;·have h5:=h4 w1 _ abA;rw[jl]at h5;have h6:=h3;rw[yQ]at h6;rw[if_pos h6];unfold hB;rw[h5];show K _ _;rw[<-vz];exact fin _ (λh=>absurd h (hnone i hi pR)) (by unfold CD;rw[if_pos h6,h5])
   .have h6:=h3;rw[yQ]at h6;rw[if_neg (by rw[h6];simp)];exact fin _ (λ_=>aa) (by unfold CD;rw[if_neg (by rw[h6];simp)])
 have h:=awk (Q:=Q) (QP:=QP) (U:=e3×aO) hk hsz' Hu (λj _ us kr h=>by
  show(us j).2=(kr j).2;rw[h j (bH aa)]) apJ
  (λdone us w' hall hlt ⟨h1,h2⟩=>by
    obtain⟨eV,hcm,hI⟩:=ZF us;have fC:AX D _:=λj hj k hk2=>hall k (Nat.lt_trans (hk.lt j (hlt j hj) k hk2) (hlt j hj));have RU:=agree _ us eV fC hlt hcm h2;have bB:e7 dst _ a0 _=e7 _ eV a0 _:=CU _ _ (λj hj=>(RU j (hall j (nc.1 hj))).symm);rw[bB];refine hI w' ?_
    have b7:fin=lz bk.length ops.size LE ins done:=by rw[hs.fin];unfold lz;refine DN (λn _=>?_);rw[af5,KP,KP];refine and_congr (or_congr_right (and_congr_right λh=>⟨λ_=>hall _ (hs.le _ h),λ_=>nc.2 (hs.le _ h)⟩)) ⟨λh c hc _=>h c hc (nc.2 hc),λh c hc _=>h c hc (hall c hc)⟩
    rw[b7];exact h1)
  ops.size [] (Of ops.size au) (λ_=>({},aY)) w.drew
  (by rw[zE.2 (λj _=>aT)];simp) (λj d=>by
   by_cases hj:j<ops.size;·simp[hj]
   .simp[hj]) aT aT (λ_ h=>(ga h).elim) ⟨by
    have e:(lz bk.length ops.size LE ins []).map (dk bk out (fs (λ_=>({},aY))))=bk:=by
     have bB:lz bk.length ops.size LE ins []=dF bk.length:=by
      unfold lz
      have h1:∀n,alive _ LE ins ops.size [] n=decide (n<bk.length):=λn=>by rw[af5,KP,decide_eq_true_eq];exact⟨λh=>h.1.resolve_right (λh=>by cases h.2),λh=>⟨bH h,λ_ _ h=>by cases h⟩⟩
      rw[DN (λn _=>h1 n),List.range_add,List.filter_append,zE.2 (λn hn=>by simpa using hn),XA.2 (λn hn=>by obtain⟨k,_,rfl⟩:=gV.1 hn;simp),List.append_nil]
     rw[bB];refine List.ext_getElem? (λn=>?_);rw[List.getElem?_map];by_cases hn:n<bk.length;·rw[List.getElem?_range hn];simp[dk,hn]
     .rw[GL (by simpa using hn),GL ae];rfl
    rw[e];exact I.aH (ar.drew _),λ_ h=>(ga h).elim⟩;exact h
end
end
end
section
open Go.RowKit Go.MapKept
section
variable {P:eu} {o:cR} {a:bT} {w:aM}
theorem fy{B k t:Nat}{cs v ty x}(ho:o.op=n3 ty x)(hx:a.eval x=ay (ab ⟨B,k,af⟩))(hb:aW w B cs t)(hv:cs[k]?=ab v)(hu:(P.underlying ty).map (λd=>d.isRow)=ab au):
 (bt a.eval o).run P w=a7 (c8 v) w:=by
 have hc:=hb.cell k hv;cases hq:P.underlying ty with
 |none=>grind
 |some d=>
  have hd:d.isRow=false:=aF
  have hagg:(isAgg ty).run P w=a7 au w:=by unfold isAgg;rw[gj,gF hq w];cases d<;>simp_all
  unfold bt;simp[ho,hx,JE,A2,loadVar,hagg,hc]
def mg{B k t:Nat}{cs cs' ty x}(ho:o.op=n3 ty x)(hx:a.eval x=ay (ab ⟨B,k,af⟩))(hb:aW w B cs t)(hv:cs.extract k (k+cs'.size)=cs')(hk:k+cs'.size<=cs.size)(hu:(P.underlying ty).map (λd=>d.isRow)=ab aB)(hi:(P.info? ty).map (·.size)=ab cs'.size):
 (bt a.eval o).run P w=a7 (c8 (av cs')) w:=by
 cases hq:P.underlying ty with
 |none=>grind
 |some d=>
  have hd:d.isRow=true:=aF;have:=e6 (a:=a) (w:=w) ty x ho B k hx cs'.toList (hb.rangeAt k _ (λj v hj=>aF)) hq hd ae;simpa using this
def lay(cs:Array aO)(k:Nat):List aO->Array aO
 |[]=>cs
 |v::l=>lay (cs.setIfInBounds k v) (k+1) l
def lay_size l:∀(cs) k,(lay cs k l).size=cs.size:=by
 induction l with
 |nil=>intro cs k;rfl
 |cons v l bW=>grind[lay]
def T8(B t:Nat):∀(l) w cs (k j),aW w B cs t->k+j+l.length<=cs.size->l.all (·.oneCell')=aB->
 ∃w',(Bb ⟨B,k,af⟩ l j).run P w=a7 () w'/\aW w' B (lay cs (k+j) l) t/\ar (λi=>i=B) w w'/\w'.heap.size=w.heap.size
 |[],w,cs,k,j,hb,_,_=>⟨w,aS,hb,ar.refl _ _,aa⟩
 |v::l,w,cs,k,j,hb,hk,h1=>by
  simp only[List.all_cons,v8]at h1;have hlt:k+j<cs.size:=aF;have hb2:=hb.setRow (cs.setIfInBounds (k+j) v);obtain⟨w',hr,h2,h3,h4⟩:=T8 B t l (w.setRow B (cs.setIfInBounds (k+j) v)) _ k (j+1) hb2 aF h1.2;refine⟨w',?_,h2,ar.trans (ar.setRow w B _) h3 (λ_ _ h=>h),by rw[h4];simp⟩;have nL:(⟨B,k,af⟩:bU).add j=⟨B,k+j,af⟩:=Addr.add_mid _ _ _
  have hst:(store ⟨B,k+j,af⟩ v).run P w=a7 () (w.setRow B (cs.setIfInBounds (k+j) v)):=by rw[run_store P w _ v _ h1.1,hb.cell (k+j) (UW hlt)];simp[hb.frozen (k+j),setCell_eq_setRow w B (k+j) cs t (0,0) v hb]
  simp only[Bb,gj,nL,hst,ji,hr]
theorem Nc{B k t:Nat}{cs v ty x y}(ho:o.op=zk ty x y)(hx:a.eval x=ay (ab ⟨B,k,af⟩))(hy:a.eval y=v)(hb:aW w B cs t)(hk:k+v.cells.size<=cs.size)(hi:(P.info? ty).map (·.size)=ab v.cells.size)(h1:v.cells.all (·.oneCell')=aB):
 ∃w',(bt a.eval o).run P w=a7 .skip w'/\aW w' B (lay cs k v.cells.toList) t/\ar (λi=>i=B) w w'/\w'.heap.size=w.heap.size:=by
 obtain⟨w',hr,h2,h3,h4⟩:=T8 (P:=P) B t v.cells.toList w cs k 0 hb ae aF;refine⟨w',?_,h2,h3,h4⟩;cases hq:P.info? ty with
 |none=>grind
 |some i=>
  have hs:i.size=v.cells.size:=aF;unfold bt;simp only[ho,hx,hy,Instr.storeAt,A2,storeVar,mu,mY];simp[hq,hs,hr]
def IW (t e sz:Nat) (x lo hi) (ho:o.op=A3 t x (ab lo) (ab hi) af) (ht:P.underlying t=ab (hT e)) (hs:(P.info? e).map (·.size)=ab sz) A (n c i q m:Nat)
 (hx:a.eval x=ad A n c) (ka:a.eval lo=J R (i:Int)) (yE:a.eval hi=J R (q:Int)) (hm:i+m=q) (h2:q<=c):
 (bt a.eval o).run P w=a7 (c8 (ad (fE A c i sz) m (c -i))) w:=by
 have h:=aeQ t e sz x lo hi ho ht hs A n c i q (w:=w) hx ka yE ae h2;rwa [show q -i=m by omega]at h
def AL (t e sz:Nat) (x lo) (ho:o.op=A3 t x (ab lo) af af) (ht:P.underlying t=ab (hT e)) (hs:(P.info? e).map (·.size)=ab sz) A (n c i m:Nat)
 (hx:a.eval x=ad A n c) (ka:a.eval lo=J R (i:Int)) (hm:i+m=n) (h2:n<=c):
 (bt a.eval o).run P w=a7 (c8 (ad (fE A c i sz) m (c -i))) w:=by
 have h:=Ud t e sz x lo ho ht hs A n c i (w:=w) hx ka ae h2;rwa [show n -i=m by omega]at h
def QC(e:Ending)(K:aO->Prop):Prop:=match e with|.returned v=>K v|_=>False
end
section
variable {ao w w':aM} {FX:Nat->Prop} {l l':List br} {s t:br}
def aj.eF(h:aj ao FX w l)(i:Nat)(bF:Turned w w' s t)(hi:l[i]?=ab s:=by rfl)(hl:l.set i t=l':=by((try simp only[List.set_cons_zero,List.set_cons_succ]);rfl)):aj ao FX w' l':=hl▸h.CT i hi bF
def aj.front(h:aj ao FX w l)(i:Nat)(hi:l[i]?=ab t:=by rfl)(hl:l.eraseIdx i=l':=by((try simp only[List.eraseIdx_cons_zero,List.eraseIdx_cons_succ]);rfl)):aj ao FX w (t::l'):=hl▸h.perm (TO l i t hi)
def aj.aZ{B:Nat}{cs:Array aO}{ty:gl}(h:aj ao FX w l)(i:Nat)(hi:l[i]?=ab (ai B cs ty):=by rfl):aW w B cs ty:=h.at i hi
theorem vq{B cs cs' ty}(k:ar (λi=>i=B) w w')(h:aW w' B cs' ty):Turned w w' (ai B cs ty) (ai B cs' ty):=⟨k,h,λb hb=>⟨by have h2:b=B:=hb;rw[h2];exact aW.lt h,bH hb⟩⟩
def yh{B cs ty}(g:aq w w')(h:aW w' B cs ty)(ic:w.heap.size<=B):b3 w w' (ai B cs ty):=⟨g,h,λb hb=>by have h2:b=B:=hb;rw[h2];exact⟨ic,aW.lt h⟩⟩
end
def aj.pick{ao w:aM}{FX:Nat->Prop}{l:List br}(h:aj ao FX w l):∀{l':List br} (idx:List Nat) (_:idx.map (λi=>l[i]?)=l'.map some:=by rfl) (_:decide idx.Nodup=true:=by kernel_rfl),aj ao FX w l'
 |[],[],_,_=>⟨h.only,λ_ h=>(ga h).elim,λ_ h=>(ga h).elim,GI⟩
 |t::l',i::idx,hl,hn=>by
  simp at hl;have vH:=List.nodup_cons.1 (of_decide_eq_true hn);have bW:=h.pick (l':=l') _ hl.2 (decide_eq_true vH.2);refine⟨bW.only,λx hx=>?_,λx hx b hb=>?_,GH (λx hx b h1 h3=>?_) bW.apart⟩
  .rcases gy.1 hx with rfl|hx;·exact h.at i hl.1
   .exact bW.holds x hx
  .rcases gy.1 hx with rfl|hx;·exact h.low x (cL hl.1) b hb
   .exact bW.low x hx b hb
  .have:ab x∈idx.map (λi=>l[i]?):=aF;obtain⟨j,hj,e⟩:=gV.1 this;exact h.ne hl.1 e (λe=>vH.1 (e▸hj)) b h1 h3
def aj.dS{ao w FX l}(h:aj ao FX w l):aj ao FX w (emp::l):=h.new emp ⟨ar.refl _ _,trivial,λ_ h=>h.elim⟩
def aj.lr{ao w:aM}{FX:Nat->Prop}{l:List br}{A:Option bU}{c:Nat}{bs:List Int}(h:aj ao FX w l)(i:Nat)(hi:l[i]?=ab (cc A c bs):=by rfl):e2 0 w A c bs:=h.at i hi
def ro(A:Option bU)(bs:List Int):br:=⟨dU A,λw=>bR w A bs,λw w' h _ hp mH=>by obtain⟨kW,lV,rfl,hc⟩:=hp mH;refine⟨kW,lV,rfl,λk hk=>?_⟩;have h1:=hc k hk;exact(Dm (w:=w) (h kW ⟨lV,_,aa⟩ (uQ w _ h1))).trans h1⟩
section
variable {P:eu} {w:aM}
def alo(w:aM)(a p)n:(w.freeze a n).cell? p=w.cell? p:=by grind[Wy,World.cell?]
def alV{t e B n c:Nat}{C}bs(hb:aW w B C e)(j':C=(bs.map a8).toArray)(ht:P.underlying t=ab (hT e))(he:P.underlying e=ab (.int .u8)):
 ∃w',(convert t t (ad (ab ⟨B,0,af⟩) n c)).run P w=a7 (ad (ab ⟨B,0,af⟩) n c) w'/\Turned w w' (ai B C e) (ro (ab ⟨B,0,af⟩) bs):=by
 have Ie:w.shape? B=ab (e,C.size):=by grind[World.shape?]
 have hsz:(w.freeze ⟨B,C.size,af⟩ 1).heap.size=w.heap.size:=by grind[Wy]
 refine⟨w.freeze ⟨B,C.size,af⟩ 1,by simp[convert,gF ht,gF he,markStringish,Ie],⟨aS,aS,aS,ae,λk _ hk=>?_⟩,λ_=>⟨B,0,rfl,λj hj=>?_⟩,λb ⟨o,sp,h⟩=>?_⟩
 .have hk2:¬B=k:=λh=>hk h.symm;grind[Wy]
 .rw[alo,Nat.zero_add];refine hb.cell j ?_;subst j';simp[hj]
 .injection h with h;injection h with h;subst h;exact⟨aF,bH aa⟩
def Fg{o}{a:bT}{t e B n c:Nat}{C x}bs(ho:o.op=.convert t t x)(hx:a.eval x=ad (ab ⟨B,0,af⟩) n c)(hb:aW w B C e)(j':C=(bs.map a8).toArray)(ht:P.underlying t=ab (hT e))(he:P.underlying e=ab (.int .u8)):
 ∃w',(bt a.eval o).run P w=a7 (c8 (ad (ab ⟨B,0,af⟩) n c)) w'/\Turned w w' (ai B C e) (ro (ab ⟨B,0,af⟩) bs):=by
 obtain⟨w',h1,h2⟩:=alV (P:=P) (n:=n) (c:=c) bs hb j' ht he
 refine⟨w',?_,h2⟩;unfold bt;simp[ho,hx,h1]
def mP {fn p u ty} {t B:Nat} {cs tmps v} (h:fn.results=#[.cell p ty,.tmp u]) (hp:tmps.getD p aY=ay (ab ⟨B,0,af⟩)) (hv:tmps.getD u aY=v) (hb:aW w B cs t)
 (hu:(P.underlying ty).map (λd=>d.isRow)=ab aB) (hi:(P.info? ty).map (·.size)=ab cs.size):(results fn tmps).run P w=a7 (.tuple #[av cs,v]) w:=by
 have pZ:tmps[p]?.getD aY=ay (ab ⟨B,0,af⟩):=by simpa using hp
 cases hq:P.underlying ty with
 |none=>grind
 |some d=>grind[Dp,results_cell_tmp,asAddr,jR,ji]
end
section
variable {P:eu} {ops:Array cR} {rest:List cR} {Q:iy->bT->aM->Prop} {o:cR} {a bw:bT} {w:aM} {v:aO} {ao:aM} {FX:Nat->Prop} {l l':List br}
def ah (h:cG P ops Q rest bw w) (hw:c4 o (cY ops a.tmps)=true:=by kernel_rfl) (hr:(bt a.eval o).run P w=a7 (c8 v) w:=by(go_simp;try with_reducible rfl))
 (ha:a.put o.dst v=bw:=by((try simp only[Act.put,List.setIfInBounds_toArray,List.set_cons_zero,List.set_cons_succ]);rfl)):cG P ops Q (o::rest) a w:=by
 subst ha;exact rh λK hK=>by grind[asi]
def aI (v:aO) (hr:(bt a.eval o).run P w=a7 (c8 v) w) (h:cG P ops Q rest bw w) (hw:c4 o (cY ops a.tmps)=true:=by kernel_rfl)
 (ha:a.put o.dst v=bw:=by((try simp only[Act.put,List.setIfInBounds_toArray,List.set_cons_zero,List.set_cons_succ]);rfl)):cG P ops Q (o::rest) a w:=ah h hw hr ha
def ps (h:cG P ops Q rest bw w) (hw:c4 o (cY ops a.tmps)=false:=by kernel_rfl)
 (ha:a.put o.dst aY=bw:=by((try simp only[Act.put,List.setIfInBounds_toArray,List.set_cons_zero,List.set_cons_succ]);rfl)):cG P ops Q (o::rest) a w:=by
 subst ha;exact rh λK hK=>by grind
def pl {B t:Nat} {cs:Array aO} {ty:gl} {x:iz} (I:aj ao FX w l) (i k:Nat) (h:cG P ops Q rest bw w) (hi:l[i]?=ab (ai B cs t):=by rfl) (ho:o.op=n3 ty x:=by rfl) (hx:a.eval x=ay (ab ⟨B,k,af⟩):=by rfl)
 (hv:cs[k]?=ab v:=by((try simp only[List.getElem?_toArray,List.getElem?_cons_succ,List.getElem?_cons_zero])<;>rfl)) (hu:(P.underlying ty).map (λd=>d.isRow)=ab false:=by kernel_rfl) (hw:c4 o (cY ops a.tmps)=true:=by kernel_rfl)
 (ha:a.put o.dst v=bw:=by((try simp only[Act.put,List.setIfInBounds_toArray,List.set_cons_zero,List.set_cons_succ]);rfl)):cG P ops Q (o::rest) a w:=
 ah h hw (fy ho hx (I.aZ i hi) hv hu) ha
def bq {B t k:Nat} {cs:Array aO} {ty:gl} {x:iz} (I:aj ao FX w l) (i:Nat) (cs':Array aO) (h:cG P ops Q rest bw w) (hi:l[i]?=ab (ai B cs t):=by rfl) (ho:o.op=n3 ty x:=by rfl) (hx:a.eval x=ay (ab ⟨B,k,af⟩):=by rfl)
 (hv:cs.extract k (k+cs'.size)=cs':=by kernel_rfl) (hk:k+cs'.size<=cs.size:=by exact(of_decide_eq_true aw)) (hu:(P.underlying ty).map (λd=>d.isRow)=ab true:=by kernel_rfl) (hz:(P.info? ty).map (·.size)=ab cs'.size:=by kernel_rfl) (hw:c4 o (cY ops a.tmps)=true:=by kernel_rfl)
 (ha:a.put o.dst (av cs')=bw:=by((try simp only[Act.put,List.setIfInBounds_toArray,List.set_cons_zero,List.set_cons_succ]);rfl)):cG P ops Q (o::rest) a w:=
 ah h hw (mg ho hx (I.aZ i hi) hv hk hu hz) ha
def bx {ty:gl} {z:aO} {bw:Nat->bT} (I:aj ao FX w l) (cs:Array aO) (h:∀B w',aj ao FX w' (ai B cs ty::l)->cG P ops Q rest (bw B) w') (ho:o.op=Vg ty:=by rfl) (hz:(P.info? ty).bind (·.zero)=ab z:=by rfl) (hc:z.cells=cs:=by rfl) (hw:c4 o (cY ops a.tmps)=true:=by kernel_rfl)
 (ha:∀B,a.put o.dst (ay (ab ⟨B,0,af⟩))=bw B:=by(intro _;(try simp only[Act.put,List.setIfInBounds_toArray,List.set_cons_zero,List.set_cons_succ]);rfl)):cG P ops Q (o::rest) a w:=by
 subst hc;exact rh λK hK=>by rw[if_pos hw];exact adb ho z hz (λB w' h1 h2 h3 _=>by rw[ha];exact hK _ _ (h B w' (I.new _ (yh h2 h1 h3))))
def bM {ty:gl} {x:iz} {cs:Array aO} {bw:Nat->bT} (I:aj ao FX w l) (v:aO) (h:∀B w',aj ao FX w' (ai B cs ty::l)->cG P ops Q rest (bw B) w') (ho:o.op=.box ty x:=by rfl) (hx:a.eval x=v:=by rfl) (hc:v.cells=cs:=by rfl) (hw:c4 o (cY ops a.tmps)=true:=by kernel_rfl)
 (ha:∀B,a.put o.dst (ay (ab ⟨B,0,af⟩))=bw B:=by(intro _;(try simp only[Act.put,List.setIfInBounds_toArray,List.set_cons_zero,List.set_cons_succ]);rfl)):cG P ops Q (o::rest) a w:=by
 subst hc;exact rh λK hK=>by rw[if_pos hw];exact adf x ho v hx (λB w' h1 h2 h3 _=>by rw[ha];exact hK _ _ (h B w' (I.new _ (yh h2 h1 h3))))
def f' {ty n:Nat} {parts:Array (Nat×iz)} {bw:Nat->bT} (I:aj ao FX w l) (cs:Array aO) (e:Nat) (h:∀B w',aj ao FX w' (ai B cs e::l)->cG P ops Q rest (bw B) w') (ho:o.op=Vh ty n parts:=by rfl)
 (hr:∀w:aM,(Vb ty n (parts.map λ(i,x)=>(i,a.eval x))).run P w=a7 (ad (ab ⟨w.heap.size,0,af⟩) n n) (w.alloc (bc cs e)):=by(intro _;kernel_rfl)) (hw:c4 o (cY ops a.tmps)=true:=by kernel_rfl)
 (ha:∀B,a.put o.dst (ad (ab ⟨B,0,af⟩) n n)=bw B:=by(intro _;(try simp only[Act.put,List.setIfInBounds_toArray,List.set_cons_zero,List.set_cons_succ]);rfl)):cG P ops Q (o::rest) a w:=
 rh λK hK=>by rw[if_pos hw];exact adg ho hr (λB w' h1 h2 h3 _=>by rw[ha];exact hK _ _ (h B w' (I.new _ (yh h2 h1 h3))))
def a' {B t k:Nat} {cs cs':Array aO} {ty:gl} {x y:iz} (I:aj ao FX w l) (i:Nat) (v:aO) (h:∀w',aj ao FX w' l'->cG P ops Q rest bw w') (hi:l[i]?=ab (ai B cs t):=by rfl) (ho:o.op=zk ty x y:=by rfl) (hx:a.eval x=ay (ab ⟨B,k,af⟩):=by rfl) (hy:a.eval y=v:=by rfl)
 (hk:k+v.cells.size<=cs.size:=by exact(of_decide_eq_true aw)) (hz:(P.info? ty).map (·.size)=ab v.cells.size:=by kernel_rfl) (h1:v.cells.all (·.oneCell')=true:=by kernel_rfl)
 (hc:lay cs k v.cells.toList=cs':=by((try simp only[lay,Value.cells,List.setIfInBounds_toArray,List.set_cons_zero,List.set_cons_succ]);rfl)) (hl:l.set i (ai B cs' t)=l':=by((try simp only[List.set_cons_zero,List.set_cons_succ]);rfl)) (hw:c4 o (cY ops a.tmps)=true:=by kernel_rfl)
 (ha:a.put o.dst aY=bw:=by((try simp only[Act.put,List.setIfInBounds_toArray,List.set_cons_zero,List.set_cons_succ]);rfl)):cG P ops Q (o::rest) a w:=by
 obtain⟨w',hr,h2,h3,_⟩:=Nc (P:=P) ho hx hy (I.aZ i hi) hk hz h1;refine rh λK hK=>?_;rw[if_pos hw];unfold hB;rw[hr];show K _ _;rw[ha];exact hK _ _ (h w' (I.eF i (vq h3 (hc▸h2)) hi hl))
def X'{N n c uv aC e sz A az xs cn w'}(h:FP N w w' A n c az uv aC e sz xs cn):Turned w w' (bn A n c e sz xs) (bn az uv aC e sz cn):=
 ⟨h.2.2.1.only,h.1.le (cQ _),λb hb=>⟨(h.1.lt hb).2,h.2.2.2 b hb⟩⟩
def aj.atR{A:Option bU}{n c e sz:Nat}{xs:List aO}(h:aj ao FX w l)(i:Nat)(hi:l[i]?=ab (bn A n c e sz xs):=by rfl):Row 0 w A n c e sz xs:=h.at i hi
def nt {s x:iz} {t e sz n c m c2:Nat} {A aJ:Option bU} {xs news:List aO} {l':Option bU->Nat->List br} {bw:Option bU->Nat->bT} (I:aj ao FX w l) (i bytes:Nat) (hr:Cells w sz aJ m news) (h1:∀u∈news,u.oneCell'=aB)
 (h:∀az aC w',aj ao FX w' (l' az aC)->cG P ops Q rest (bw az aC) w') (ho:o.op=.call {callee:=n2 wg,args:=#[s,x],argTypes:=#[t,t]}:=by rfl) (hi:l[i]?=ab (bn A n c e sz xs):=by rfl) (hs:a.eval s=ad A n c:=by rfl) (hx:a.eval x=ad aJ m c2:=by rfl)
 (ht:P.underlying t=ab (hT e):=by kernel_rfl) (kZ:(P.info? e).map (λi=>(i.zero.isSome,(i.zero.map (·.cells.size)).getD 0,i.size,i.bytes))=ab (aB,sz,sz,bytes):=by kernel_rfl) (hb0:0<bytes:=by decide) (hby:(n+m)*bytes<=140737488355328:=by omega) (hl:∀az aC,l.set i (bn az (n+m) aC e sz (xs++news))=l' az aC:=by(intro _ _;(try simp only[List.set_cons_zero,List.set_cons_succ]);rfl))
 (hw:c4 o (cY ops a.tmps)=true:=by kernel_rfl) (ha:∀az aC,a.put o.dst (ad az (n+m) aC)=bw az aC:=by(intro _ _;((try simp only[Act.put,List.setIfInBounds_toArray,List.set_cons_zero,List.set_cons_succ]);rfl))):cG P ops Q (o::rest) a w:=
 rh λK hK=>by rw[if_pos hw];exact ade 0 s x t e sz _ ho ht kZ A n c xs hs (I.atR i hi) aJ m c2 _ hx hr h1 hby hb0 (cQ _) (λaz aC w' hap=>by rw[ha];exact hK _ _ (h az aC w' (I.eF i (X' hap) hi (hl az aC))))
def CG {s t:br} (I:aj ao FX w l) (i:Nat) (hr:∃w',(bt a.eval o).run P w=a7 (c8 v) w'/\Turned w w' s t) (h:∀w',aj ao FX w' l'->cG P ops Q rest bw w') (hi:l[i]?=ab s:=by rfl) (hl:l.set i t=l':=by((try simp only[List.set_cons_zero,List.set_cons_succ]);rfl)) (hw:c4 o (cY ops a.tmps)=true:=by kernel_rfl)
 (ha:a.put o.dst v=bw:=by((try simp only[Act.put,List.setIfInBounds_toArray,List.set_cons_zero,List.set_cons_succ]);rfl)):cG P ops Q (o::rest) a w:=by
 obtain⟨w',h1,h2⟩:=hr;refine rh λK hK=>?_;rw[if_pos hw];unfold hB;rw[h1];show K _ _;rw[ha];exact hK _ _ (h w' (I.eF i h2 hi hl))
def IH {afA:Nat->aO} {afe:Nat->br} {bw:Nat->bT} (I:aj ao FX w l) (hr:∃B w',(bt a.eval o).run P w=a7 (c8 (afA B)) w'/\b3 w w' (afe B)) (h:∀B w',aj ao FX w' (afe B::l)->cG P ops Q rest (bw B) w') (hw:c4 o (cY ops a.tmps)=true:=by kernel_rfl)
 (ha:∀B,a.put o.dst (afA B)=bw B:=by(intro _;(try simp only[Act.put,List.setIfInBounds_toArray,List.set_cons_zero,List.set_cons_succ]);rfl)):cG P ops Q (o::rest) a w:=by
 obtain⟨B,w',h1,h2⟩:=hr;refine rh λK hK=>?_;rw[if_pos hw];unfold hB;rw[h1];show K _ _;rw[ha];exact hK _ _ (h B w' (I.new _ h2))
def MV {s t:br} (I:aj ao FX w l) (i:Nat) (hr:∃w',(bt a.eval o).run P w=a7 .skip w'/\Turned w w' s t) (h:∀w',aj ao FX w' l'->cG P ops Q rest bw w') (hi:l[i]?=ab s:=by rfl) (hl:l.set i t=l':=by((try simp only[List.set_cons_zero,List.set_cons_succ]);rfl)) (hw:c4 o (cY ops a.tmps)=true:=by kernel_rfl)
 (ha:a.put o.dst aY=bw:=by((try simp only[Act.put,List.setIfInBounds_toArray,List.set_cons_zero,List.set_cons_succ]);rfl)):cG P ops Q (o::rest) a w:=by
 obtain⟨w',h1,h2⟩:=hr;refine rh λK hK=>?_;rw[if_pos hw];unfold hB;rw[h1];show K _ _;rw[ha];exact hK _ _ (h w' (I.eF i h2 hi hl))
def a6{f:FuncId}{args:Array aO}{ck:Ending->aM->Prop}(hc:Calls P f args w ck)(h:∀e w',ck e w'->QC e λv=>cG P ops Q rest (a.put o.dst v) w')(hr:(bt a.eval o).run P w=a7 (.enter f args) w:=by(go_simp;try with_reducible rfl))(hw:c4 o (cY ops a.tmps)=true:=by kernel_rfl):
 cG P ops Q (o::rest) a w:=rh λK hK=>by
 rw[if_pos hw];unfold hB;rw[hr];refine JB hc (λe w' he=>?_);grind[QC]
def ba(h:cG P ops Q rest bw w)(ha:a.put o.dst v=bw:=by((try simp only[Act.put,List.setIfInBounds_toArray,List.set_cons_zero,List.set_cons_succ]);rfl)):QC (.returned v) λv=>cG P ops Q rest (a.put o.dst v) w:=by subst ha;exact h
end
def Bt(look:Nat->List Nat)(out:(Nat->e3)->Nat->br):List Nat->Prop
 |[]=>True
 |i::l=>(∀us kr:Nat->e3,(∀k,k∈look i->us k=kr k)->out us i=out kr i)/\Bt look out l
def Bt.spec{look out}:∀{LE},Bt look out LE->∀i,i∈LE->∀us kr:Nat->e3,(∀k,k∈look i->us k=kr k)->out us i=out kr i
 |[],_,i,hi=>absurd hi ga
 |_::_,h,i,hi=>by
  rcases gy.1 hi with rfl|hi;·exact h.1
  .exact Bt.spec h.2 i hi
def bN {P:eu} {ops:Array cR} {Q:iy->bT->aM->Prop} {ao:aM} {FX:Nat->Prop} {bk:List br} {IQ:Nat} {w:aM} {a0:bT} (I:aj ao FX w bk) (LE:List Nat) (bS:Nat->e3->aO) (out:(Nat->e3)->Nat->br) (ins rd look:Nat->List Nat) (fin:List Nat)
 (j':∀us,c9 P ops Q (ou ops) LE bS ao FX bk out ins rd fin (λ_ _=>False) us 0 ops.toList a0)
 (hloc:Bt look out LE:=by(repeat' (first|exact trivial|refine And.intro (λus kr h=>?_) ?_|rfl|(simp(disch:=decide) only[h];done))))
 (hm:P.follows .mixedOrders=true:=by kernel_rfl) (hk:Ed ops (ou ops) (yq ops)=true:=by kernel_rfl) (hsz:((dF ops.size).all λi=>match ou ops i with|some d=>decide (d<a0.tmps.size)|none=>LE.contains i)=true:=by kernel_rfl) (hs:Fx bk.length ops.size (yq ops) LE ins rd look fin=true:=by kernel_rfl):
 (Code.region IQ ops aB).wp P Q a0 w:=wp_region_any hm (Ut I (yq ops) (ou ops) LE bS out ins rd look fin _ hk hsz hs (λ_ _ _ _ h=>h.elim) (hloc.spec) j')
section
variable {P:eu} {ops:Array cR} {rest:List cR} {Q:iy->bT->aM->Prop} {o:cR} {a bw:bT} {v:aO} {ao:aM} {FX:Nat->Prop} {dst:Nat->Option mV} {LE:List Nat} {bS:Nat->e3->aO} {bk:List br} {out:(Nat->e3)->Nat->br} {ins rd:Nat->List Nat} {fin:List Nat} {QP:List re->aM->Prop} {us:Nat->e3} {i:Nat}
def aK (h:c9 P ops Q dst LE bS ao FX bk out ins rd fin QP us (i+1) rest bw) (hi:decide (i∈LE)=false:=by kernel_rfl) (hw:c4 o (cY ops a.tmps)=true:=by kernel_rfl) (hr:∀w,(bt a.eval o).run P w=a7 (c8 v) w:=by(intro _;go_simp;try with_reducible rfl))
 (ha:a.put o.dst v=bw:=by((try simp only[Act.put,List.setIfInBounds_toArray,List.set_cons_zero,List.set_cons_succ]);rfl)):c9 P ops Q dst LE bS ao FX bk out ins rd fin QP us i (o::rest) a:=by
 subst ha;exact aey hi hw (λw _ _=>hr w) h
def aL (v:aO) (hr:∀w (Fr:List br),aj ao FX w ((rd i).map (dk bk out us)++Fr)->(bt a.eval o).run P w=a7 (c8 v) w) (h:c9 P ops Q dst LE bS ao FX bk out ins rd fin QP us (i+1) rest bw) (hi:decide (i∈LE)=false:=by kernel_rfl) (hw:c4 o (cY ops a.tmps)=true:=by kernel_rfl)
 (ha:a.put o.dst v=bw:=by((try simp only[Act.put,List.setIfInBounds_toArray,List.set_cons_zero,List.set_cons_succ]);rfl)):c9 P ops Q dst LE bS ao FX bk out ins rd fin QP us i (o::rest) a:=by
 subst ha;exact aey hi hw hr h
def ds (h:c9 P ops Q dst LE bS ao FX bk out ins rd fin QP us (i+1) rest bw) (hi:decide (i∈LE)=false:=by kernel_rfl) (hw:c4 o (cY ops a.tmps)=false:=by kernel_rfl)
 (ha:a.put o.dst aY=bw:=by((try simp only[Act.put,List.setIfInBounds_toArray,List.set_cons_zero,List.set_cons_succ]);rfl)):c9 P ops Q dst LE bS ao FX bk out ins rd fin QP us i (o::rest) a:=by
 subst ha;exact auJ hi hw h
def dl {B t:Nat} {cs:Array aO} {ty:gl} {x:iz} (j k:Nat) (h:c9 P ops Q dst LE bS ao FX bk out ins rd fin QP us (i+1) rest bw) (ho:o.op=n3 ty x:=by rfl) (hx:a.eval x=ay (ab ⟨B,k,af⟩):=by rfl) (hj:∀Fr,((rd i).map (dk bk out us)++Fr)[j]?=ab (ai B cs t):=by(intro _;rfl))
 (hv:cs[k]?=ab v:=by((try simp only[List.getElem?_toArray,List.getElem?_cons_succ,List.getElem?_cons_zero])<;>rfl)) (hu:(P.underlying ty).map (λd=>d.isRow)=ab false:=by kernel_rfl) (hi:decide (i∈LE)=false:=by kernel_rfl) (hw:c4 o (cY ops a.tmps)=true:=by kernel_rfl)
 (ha:a.put o.dst v=bw:=by((try simp only[Act.put,List.setIfInBounds_toArray,List.set_cons_zero,List.set_cons_succ]);rfl)):c9 P ops Q dst LE bS ao FX bk out ins rd fin QP us i (o::rest) a:=
 aL v (λ_ Fr I=>fy ho hx (I.aZ j (hj Fr)) hv hu) h hi hw ha
def ea {B t k:Nat} {cs:Array aO} {ty:gl} {x:iz} (j:Nat) (cs':Array aO) (h:c9 P ops Q dst LE bS ao FX bk out ins rd fin QP us (i+1) rest bw) (ho:o.op=n3 ty x:=by rfl) (hx:a.eval x=ay (ab ⟨B,k,af⟩):=by rfl) (hj:∀Fr,((rd i).map (dk bk out us)++Fr)[j]?=ab (ai B cs t):=by(intro _;rfl))
 (hv:cs.extract k (k+cs'.size)=cs':=by kernel_rfl) (hk:k+cs'.size<=cs.size:=by exact(of_decide_eq_true aw)) (hu:(P.underlying ty).map (λd=>d.isRow)=ab true:=by kernel_rfl) (hz:(P.info? ty).map (·.size)=ab cs'.size:=by kernel_rfl) (hi:decide (i∈LE)=false:=by kernel_rfl) (hw:c4 o (cY ops a.tmps)=true:=by kernel_rfl)
 (ha:a.put o.dst (av cs')=bw:=by((try simp only[Act.put,List.setIfInBounds_toArray,List.set_cons_zero,List.set_cons_succ]);rfl)):c9 P ops Q dst LE bS ao FX bk out ins rd fin QP us i (o::rest) a:=
 aL _ (λ_ Fr I=>mg ho hx (I.aZ j (hj Fr)) hv hk hu hz) h hi hw ha
def wZ(h:KC P ops dst LE bS ao FX bk out ins rd QP us i o a)(hr:c9 P ops Q dst LE bS ao FX bk out ins rd fin QP us (i+1) rest bw)(hi:decide (i∈LE)=true:=by kernel_rfl)(ha:a.put o.dst (bS i (us i))=bw:=by((try simp only[Act.put,List.setIfInBounds_toArray,List.set_cons_zero,List.set_cons_succ]);rfl)):c9 P ops Q dst LE bS ao FX bk out ins rd fin QP us i (o::rest) a:=by subst ha;exact auI hi h hr
def qB {ty:gl} {z:aO} (cs:Array aO) (h:c9 P ops Q dst LE bS ao FX bk out ins rd fin QP us (i+1) rest bw) (ho:o.op=Vg ty:=by rfl) (hz:(P.info? ty).bind (·.zero)=ab z:=by rfl) (hc:z.cells=cs:=by rfl) (hl:∀u,bS i u=ay (ab ⟨u.b,0,af⟩):=by(intro _;rfl)) (nO:∀u,out (dz us i u) i=ai u.b cs ty:=by(intro _;rfl)) (hn:ins i=[]:=by rfl) (hd:dst i=o.dst:=by rfl) (hlt:(match o.dst with|some d=>decide (d<a.tmps.size)|none=>au)=true:=by kernel_rfl)
 (hi:decide (i∈LE)=true:=by kernel_rfl) (hw:c4 o (cY ops a.tmps)=true:=by kernel_rfl) (ha:a.put o.dst (bS i (us i))=bw:=by((try simp only[Act.put,List.setIfInBounds_toArray,List.set_cons_zero,List.set_cons_succ]);rfl)):c9 P ops Q dst LE bS ao FX bk out ins rd fin QP us i (o::rest) a:=by
 refine wZ (λw Fr I K hK=>?_) h hi ha;subst hc;rw[if_pos hw];rw[hn]at I;refine adb ho z hz (λB w' h1 h2 h3 _=>hK.out {b:=B} _ _ ?_ (put_defers _ _ _) ?_)
 .rw[hd,hl];cases hq:o.dst with
  |none=>grind
  |some d=>simp only[hq,decide_eq_true_eq]at hlt;simp[lC,uM,tl,hlt]
 .rw[nO];exact I.new _ (yh h2 h1 h3)
def amt {ty:gl} {x:iz} {cs:Array aO} (v:aO) (h:c9 P ops Q dst LE bS ao FX bk out ins rd fin QP us (i+1) rest bw) (ho:o.op=.box ty x:=by rfl) (hx:a.eval x=v:=by rfl) (hc:v.cells=cs:=by rfl) (hl:∀u,bS i u=ay (ab ⟨u.b,0,af⟩):=by(intro _;rfl)) (nO:∀u,out (dz us i u) i=ai u.b cs ty:=by(intro _;rfl)) (hn:ins i=[]:=by rfl) (hd:dst i=o.dst:=by rfl) (hlt:(match o.dst with|some d=>decide (d<a.tmps.size)|none=>au)=true:=by kernel_rfl)
 (hi:decide (i∈LE)=true:=by kernel_rfl) (hw:c4 o (cY ops a.tmps)=true:=by kernel_rfl) (ha:a.put o.dst (bS i (us i))=bw:=by((try simp only[Act.put,List.setIfInBounds_toArray,List.set_cons_zero,List.set_cons_succ]);rfl)):c9 P ops Q dst LE bS ao FX bk out ins rd fin QP us i (o::rest) a:=by
 refine wZ (λw Fr I K hK=>?_) h hi ha;subst hc;rw[if_pos hw];rw[hn]at I;refine adf x ho v hx (λB w' h1 h2 h3 _=>hK.out {b:=B} _ _ ?_ (put_defers _ _ _) ?_)
 .rw[hd,hl];cases hq:o.dst with
  |none=>grind
  |some d=>simp only[hq,decide_eq_true_eq]at hlt;simp[lC,uM,tl,hlt]
 .rw[nO];exact I.new _ (yh h2 h1 h3)
def lM {ty n:Nat} {parts:Array (Nat×iz)} (cs:Array aO) (e:Nat) (h:c9 P ops Q dst LE bS ao FX bk out ins rd fin QP us (i+1) rest bw) (ho:o.op=Vh ty n parts:=by rfl) (hr:∀w:aM,(Vb ty n (parts.map λ(i,x)=>(i,a.eval x))).run P w=a7 (ad (ab ⟨w.heap.size,0,af⟩) n n) (w.alloc (bc cs e)):=by(intro _;kernel_rfl))
 (hl:∀u,bS i u=ad (ab ⟨u.b,0,af⟩) n n:=by(intro _;rfl)) (nO:∀u,out (dz us i u) i=ai u.b cs e:=by(intro _;rfl)) (hn:ins i=[]:=by rfl) (hd:dst i=o.dst:=by rfl) (hlt:(match o.dst with|some d=>decide (d<a.tmps.size)|none=>au)=true:=by kernel_rfl)
 (hi:decide (i∈LE)=true:=by kernel_rfl) (hw:c4 o (cY ops a.tmps)=true:=by kernel_rfl) (ha:a.put o.dst (bS i (us i))=bw:=by((try simp only[Act.put,List.setIfInBounds_toArray,List.set_cons_zero,List.set_cons_succ]);rfl)):c9 P ops Q dst LE bS ao FX bk out ins rd fin QP us i (o::rest) a:=by
 refine wZ (λw Fr I K hK=>?_) h hi ha;rw[if_pos hw];rw[hn]at I;refine adg ho hr (λB w' h1 h2 h3 _=>hK.out {b:=B} _ _ ?_ (put_defers _ _ _) ?_)
 .rw[hd,hl];cases hq:o.dst with
  |none=>grind
  |some d=>simp only[hq,decide_eq_true_eq]at hlt;simp[lC,uM,tl,hlt]
 .rw[nO];exact I.new _ (yh h2 h1 h3)
def fY {B t k m:Nat} {cs cs':Array aO} {ty:gl} {x y:iz} (v:aO) (h:c9 P ops Q dst LE bS ao FX bk out ins rd fin QP us (i+1) rest bw) (hn:ins i=[m]:=by rfl) (hm:dk bk out us m=ai B cs t:=by rfl) (ho:o.op=zk ty x y:=by rfl) (hx:a.eval x=ay (ab ⟨B,k,af⟩):=by rfl) (hy:a.eval y=v:=by rfl)
 (hk:k+v.cells.size<=cs.size:=by exact(of_decide_eq_true aw)) (hz:(P.info? ty).map (·.size)=ab v.cells.size:=by kernel_rfl) (h1:v.cells.all (·.oneCell')=true:=by kernel_rfl)
 (hc:lay cs k v.cells.toList=cs':=by((try simp only[lay,Value.cells,List.setIfInBounds_toArray,List.set_cons_zero,List.set_cons_succ]);rfl)) (hl:∀u,bS i u=undef:=by(intro _;rfl)) (nO:∀u,out (dz us i u) i=ai B cs' t:=by(intro _;rfl)) (hd:dst i=none:=by rfl) (jV:o.dst=none:=by rfl)
 (hi:decide (i∈LE)=true:=by kernel_rfl) (hw:c4 o (cY ops a.tmps)=true:=by kernel_rfl) (ha:a.put o.dst (bS i (us i))=bw:=by((try simp only[Act.put,List.setIfInBounds_toArray,List.set_cons_zero,List.set_cons_succ]);rfl)):c9 P ops Q dst LE bS ao FX bk out ins rd fin QP us i (o::rest) a:=by
 refine wZ (λw Fr I K hK=>?_) h hi ha;rw[if_pos hw];rw[hn]at I;have kT:aj ao FX w (ai B cs t::((rd i).map (dk bk out us)++Fr)):=aF;obtain⟨w',hr,h2,h3,_⟩:=Nc (P:=P) ho hx hy (kT.aZ 0 aa) hk hz h1;unfold hB;rw[hr];show K _ _;refine hK.out {} _ _ (by rw[hd,hl,jV];rfl) (put_defers _ _ _) ?_;rw[nO];exact kT.y' (vq h3 (hc▸h2))
def tQ {s x:iz} {t e sz n c m c2 k:Nat} {A aJ:Option bU} {xs news:List aO} (bytes:Nat) (hr:∀w (Fr:List br),aj ao FX w ((ins i).map (dk bk out us)++((rd i).map (dk bk out us)++Fr))->Cells w sz aJ m news) (h1:∀u∈news,u.oneCell'=aB) (h:c9 P ops Q dst LE bS ao FX bk out ins rd fin QP us (i+1) rest bw)
 (hn:ins i=[k]:=by rfl) (hk:dk bk out us k=bn A n c e sz xs:=by rfl) (ho:o.op=.call {callee:=n2 wg,args:=#[s,x],argTypes:=#[t,t]}:=by rfl) (hs:a.eval s=ad A n c:=by rfl) (hx:a.eval x=ad aJ m c2:=by rfl) (ht:P.underlying t=ab (hT e):=by kernel_rfl) (kZ:(P.info? e).map (λi=>(i.zero.isSome,(i.zero.map (·.cells.size)).getD 0,i.size,i.bytes))=ab (aB,sz,sz,bytes):=by kernel_rfl) (hb0:0<bytes:=by decide) (hby:(n+m)*bytes<=140737488355328:=by omega)
 (hl:∀u,bS i u=ad u.A (n+m) u.c:=by(intro _;rfl)) (nO:∀u,out (dz us i u) i=bn u.A (n+m) u.c e sz (xs++news):=by(intro _;rfl)) (hd:dst i=o.dst:=by rfl) (hlt:(match o.dst with|some d=>decide (d<a.tmps.size)|none=>au)=true:=by kernel_rfl)
 (hi:decide (i∈LE)=true:=by kernel_rfl) (hw:c4 o (cY ops a.tmps)=true:=by kernel_rfl) (ha:a.put o.dst (bS i (us i))=bw:=by((try simp only[Act.put,List.setIfInBounds_toArray,List.set_cons_zero,List.set_cons_succ]);rfl)):c9 P ops Q dst LE bS ao FX bk out ins rd fin QP us i (o::rest) a:=by
 refine wZ (λw Fr I K hK=>?_) h hi ha;rw[if_pos hw];have hr:=hr w Fr I;rw[hn]at I;have kT:aj ao FX w (bn A n c e sz xs::((rd i).map (dk bk out us)++Fr)):=aF;refine ade 0 s x t e sz _ ho ht kZ A n c xs hs (kT.atR 0 aa) aJ m c2 _ hx hr h1 hby hb0 (cQ _) (λaz aC w' hap=>hK.out {A:=az,c:=aC} _ _ ?_ (put_defers _ _ _) ?_)
 .rw[hd,hl];cases hq:o.dst with
  |none=>grind
  |some d=>simp only[hq,decide_eq_true_eq]at hlt;simp[lC,uM,tl,hlt]
 .rw[nO];exact kT.y' (X' hap)
def D' {k:Nat} {s t:br} (v:aO) (hr:∀w (Fr:List br),aj ao FX w ((ins i).map (dk bk out us)++((rd i).map (dk bk out us)++Fr))->∃w',(bt a.eval o).run P w=a7 (c8 v) w'/\Turned w w' s t) (h:c9 P ops Q dst LE bS ao FX bk out ins rd fin QP us (i+1) rest bw)
 (hn:ins i=[k]:=by rfl) (hk:dk bk out us k=s:=by rfl) (hl:∀u,bS i u=(if o.dst=af then aY else v):=by(intro _;rfl)) (nO:∀u,out (dz us i u) i=t:=by(intro _;rfl)) (hd:dst i=o.dst:=by rfl) (hlt:(match o.dst with|some d=>decide (d<a.tmps.size)|none=>aB)=true:=by kernel_rfl)
 (hi:decide (i∈LE)=true:=by kernel_rfl) (hw:c4 o (cY ops a.tmps)=true:=by kernel_rfl) (ha:a.put o.dst (bS i (us i))=bw:=by((try simp only[Act.put,List.setIfInBounds_toArray,List.set_cons_zero,List.set_cons_succ]);rfl)):c9 P ops Q dst LE bS ao FX bk out ins rd fin QP us i (o::rest) a:=by
 refine wZ (λw Fr I K hK=>?_) h hi ha;rw[if_pos hw];obtain⟨w',h1,h2⟩:=hr w Fr I;rw[hn]at I;have kT:aj ao FX w (s::((rd i).map (dk bk out us)++Fr)):=aF;unfold hB;rw[h1];show K _ _;refine hK.out {} _ _ ?_ (put_defers _ _ _) ?_
 .rw[hd,hl];cases hq:o.dst with
  |none=>rfl
  |some d=>simp only[hq,decide_eq_true_eq]at hlt;simp[lC,uM,tl,hlt]
 .rw[nO];exact kT.y' h2
def K' {k:Nat} {s t:br} (hr:∀w (Fr:List br),aj ao FX w ((ins i).map (dk bk out us)++((rd i).map (dk bk out us)++Fr))->∃w',(bt a.eval o).run P w=a7 .skip w'/\Turned w w' s t) (h:c9 P ops Q dst LE bS ao FX bk out ins rd fin QP us (i+1) rest bw)
 (hn:ins i=[k]:=by rfl) (hk:dk bk out us k=s:=by rfl) (hl:∀u,bS i u=undef:=by(intro _;rfl)) (nO:∀u,out (dz us i u) i=t:=by(intro _;rfl)) (hd:dst i=o.dst:=by rfl) (hlt:(match o.dst with|some d=>decide (d<a.tmps.size)|none=>aB)=true:=by kernel_rfl)
 (hi:decide (i∈LE)=true:=by kernel_rfl) (hw:c4 o (cY ops a.tmps)=true:=by kernel_rfl) (ha:a.put o.dst (bS i (us i))=bw:=by((try simp only[Act.put,List.setIfInBounds_toArray,List.set_cons_zero,List.set_cons_succ]);rfl)):c9 P ops Q dst LE bS ao FX bk out ins rd fin QP us i (o::rest) a:=by
 refine wZ (λw Fr I K hK=>?_) h hi ha;rw[if_pos hw];obtain⟨w',h1,h2⟩:=hr w Fr I;rw[hn]at I;have kT:aj ao FX w (s::((rd i).map (dk bk out us)++Fr)):=aF;unfold hB;rw[h1];show K _ _;refine hK.out {} _ _ ?_ (put_defers _ _ _) ?_
 .rw[hd,hl];cases hq:o.dst with
  |none=>rfl
  |some d=>simp only[hq,decide_eq_true_eq]at hlt;simp[lC,uM,tl]
 .rw[nO];exact kT.y' h2
def df {f:FuncId} {args:Array aO} (hc:∀w (Fr:List br),aj ao FX w ((ins i).map (dk bk out us)++((rd i).map (dk bk out us)++Fr))->Calls P f args w λe w'=>∃u,e=.returned (bS i u)/\aj ao FX w' (out (dz us i u) i::((rd i).map (dk bk out us)++Fr))) (h:c9 P ops Q dst LE bS ao FX bk out ins rd fin QP us (i+1) rest bw)
 (hr:∀w,(bt a.eval o).run P w=a7 (.enter f args) w:=by(intro _;go_simp;try with_reducible rfl)) (hd:dst i=o.dst:=by rfl) (hlt:(match o.dst with|some d=>decide (d<a.tmps.size)|none=>au)=true:=by kernel_rfl) (hi:decide (i∈LE)=true:=by kernel_rfl) (hw:c4 o (cY ops a.tmps)=true:=by kernel_rfl) (ha:a.put o.dst (bS i (us i))=bw:=by((try simp only[Act.put,List.setIfInBounds_toArray,List.set_cons_zero,List.set_cons_succ]);rfl)):c9 P ops Q dst LE bS ao FX bk out ins rd fin QP us i (o::rest) a:=by
 refine wZ (λw Fr I K hK=>?_) h hi ha;rw[if_pos hw];unfold hB;rw[hr];refine JB (hc w Fr I) (λe w' ⟨u,he,h2⟩=>?_);subst he;refine hK.out u _ _ ?_ (put_defers _ _ _) h2;rw[hd];cases hq:o.dst with
 |none=>grind
 |some d=>simp only[hq,decide_eq_true_eq]at hlt;simp[lC,uM,tl,hlt]
end
def bf(w:World):aj w (λ_=>False) w []:=aj.init w λ_=>False
end
end Go.Proofs.YtcmhplknoglbkaaGreat
