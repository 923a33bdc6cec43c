/- Part 2 of the proof of TopConflictsSaid. -/
import Derived.Deep.RegionHeld
import Derived.Laws.Rows
import Derived.Laws.Tables
import Derived.Laws.CopyRow
import Derived.Deep.MidRow
import Derived.Laws.MakeOwn
import Derived.Test.YtcmhplknoglbkaaGreatQx0
import Derived.Test.YtcmhplknoglbkaaGreatQx1
set_option linter.all false
set_option maxRecDepth 100000
set_option maxHeartbeats 4000000
open Go.Proofs.Tryz
open Array renaming getElem?_eq_getElem->U6,getElem?_eq_none->agd,getElem?_eq_some_iff->tr,replicate->OA
open Bool renaming and_eq_true->Bh,eq_iff_iff->agm,false->ao,not_eq_true'->OI,or_eq_true->ago,true->az
open Go renaming Act->bT,Addr->bQ,Exit->iD,Oper->cU,Operand->iE,PanicEntry->rv,Program->ee,Tmp->mR,TypeId->gb,Value->aO,World->aM,asIntOf->zC,execOp->bt,grownCap->x9,heap_alloc_new->fz,loadCellsFrom->Pv,mem_ready->Kb,run_loadVar_row->DS,run_underlying->gE,sizeOf->my,storeCells->Bz,typeInfo->mS,undef->a1,wpList->cL,wpList_step->ry,yielded->cZ
open Go.Act renaming eval->u0,put->tw
open Go.Addr renaming add->wb
open Go.Builtin renaming append->x0,append_->oQ,firstCells->rr,lenOf->we,zeroCells->mQ
open Go.Callee renaming builtin->oR
open Go.Calls renaming mono->JO
open Go.Exit renaming normal->su,panic->tx
open Go.Instr renaming buildSlice->Vj,loadAt->JS,slice->OU,sliceAt->OV,sliceBound->OW,sliceBounds->OX,sureAddr->Bn
open Go.IntKind renaming i64->R
open Go.Next renaming value->c9
open Go.Obj renaming cells->bl
open Go.Op renaming alloc->Vo,buildSlice->Vp,load->oc,slice->Bo,store->zw
open Go.Oper renaming upon->agJ,wp->ih,wp_mono->agL
open Go.Region.Mode renaming any->wx
open Go.Region renaming binds->x5,noSelect->Po,noSelect_spec->Pp,wanted->c6
open Go.Result renaming andThen_ok->jc,ok->a6
open Go.Sem renaming run_bind->ga,run_pure->jK
open Go.TypeDesc renaming slice->iF
open Go.Value renaming agg->av,int->J,pointer->ax,slice->ae
open Go.World renaming block_lt_of_cell?->u3,cell?_of_block->DQ,freeze->WH
open Inhabited renaming default->oh
open List.Pairwise renaming cons->Hb,nil->Hc
open List.Perm renaming refl->BN,swap->yp
open List renaming all_eq_true->Eb,append_assoc->j0,contains_eq_mem->aj6,eq_nil_iff_forall_not_mem->aj7,eq_nil_of_length_eq_zero->j2,filter_congr->He,filter_eq_nil_iff->Hg,filter_eq_self->zT,getElem?_eq_none->zU,getElem?_eq_none_iff->QQ,map_append->gp,map_congr_left->BP,map_cons->jM,map_nil->kp,mem_append->j3,mem_append_left->BQ,mem_cons->gF,mem_cons_of_mem->rJ,mem_cons_self->rK,mem_filter->pO,mem_map->fL,mem_of_getElem?->cY,mem_range->kq,nodup_append->yr,not_mem_nil->fQ,pairwise_cons->vl,perm_ext_iff_of_nodup->XW,range->dG
open Nat renaming add_mul->tR,add_sub_cancel_left->tS,le_refl->b4,le_trans->ea,lt_of_lt_of_le->wP,strongRecOn->akn,zero_le->cF
open Option renaming map_some->pR,none->af,some->ab
open Option.some renaming injEq->wR
open Or renaming inl->bM,inr->b8
namespace Go.Proofs.YtcmhplknoglbkaaGreat
section
open Go
section
variable {P:ee} {ops:Array cU} {Q:iD->bT->aM->Prop}
def e'(dst:Nat->Option mR)(val:Nat->aO):bT->List Nat->bT
 |a,[]=>a
 |a,j::l=>e' dst val (a.put (dst j) (val j)) l
def dw{U:Type}(us:Nat->U)(i:Nat)(u:U):Nat->U:=λk=>if k=i then u else us k
def lF(d:Option mR)(a:bT):Value:=match d with
 |some t=>a.eval (.tmp t)
 |none=>a1
def ox(ops:Array cU)(j:Nat):Option Tmp:=(ops[j]?).bind (·.dst)
def aei(a:bT)d v(t:Nat):(a.put d v).tmps[t]?=if d=ab t/\t<a.tmps.size then ab v else a.tmps[t]?:=by
 cases d with
 |none=>rfl
 |some d=>grind[tw]
def put_defers(a:bT)d v:(a.put d v).defers=a.defers:=by cases d<;>rfl
def aej(a:bT)d v:(a.put d v).tmps.size=a.tmps.size:=by cases d<;>simp[tw]
variable {dst:Nat->Option mR} {val val':Nat->aO}
theorem Di:∀(l) a,(e' dst val a l).defers=a.defers
 |[],_=>aa
 |_::l,a=>(Di l _).trans (put_defers a _ _)
theorem rb:∀(l) a,(e' dst val a l).tmps.size=a.tmps.size
 |[],_=>aa
 |_::l,a=>(rb l _).trans (aej a _ _)
theorem F9{t:Nat}:∀(l) a,(∀j∈l,dst j≠ab t)->(e' dst val a l).tmps[t]?=a.tmps[t]?
 |[],_,_=>aa
 |j::l,a,h=>by have h1:=F9 l (a.put (dst j) (val j)) (λk hk=>h k (rJ _ hk));rw[e',h1,aei,if_neg (λe=>h j (rK ..) e.1)]
theorem Jo{j t:Nat}(ht:dst j=ab t):∀(l) a,(∀i∈l,dst i=ab t->i=j)->j∈l->t<a.tmps.size->(e' dst val a l).tmps[t]?=ab (val j)
 |[],_,_,h,_=>by grind
 |i::l,a,hu,hm,hs=>by
  by_cases hl:j∈l;·exact Jo ht l _ (λk hk=>hu k (rJ _ hk)) hl (by rw[aej];exact hs)
  .have hi:i=j:=by
    rcases gF.1 hm with h|h;·exact h.symm
    .exact absurd h hl
   subst hi;rw[e',F9 l _ (λk hk e=>hl (hu k (rJ _ hk) e▸hk)),aei,if_pos ⟨ht,hs⟩]
theorem UB i:∀(l) a,e' dst val a (l++[i])=(e' dst val a l).put (dst i) (val i)
 |[],_=>aa
 |_::l,_=>UB i l _
theorem Dh:∀(l) a,(∀j∈l,val j=val' j)->e' dst val a l=e' dst val' a l
 |[],_,_=>aa
 |j::l,a,h=>by rw[e',e',h j (rK ..)];exact Dh l _ (λk hk=>h k (rJ _ hk))
def akz{a b:bT}(h1:a.tmps=b.tmps)(h2:a.defers=b.defers):a=b:=by cases a;cases b;grind
def av9{n}(hu:∀i j,i<n->j<n->i≠j->∀t,dst i=ab t->dst j≠ab t){l l'}a(hl:∀j∈l,j<n)(h:∀j,j∈l↔j∈l'):
 e' dst val a l=e' dst val a l':=by
 refine akz ?_ (by grind[Di]);refine Array.ext_getElem? (λt=>?_);grind[Jo,F9,rb]
def EA(ops:Array cU)(dst:Nat->Option mR)(D:List (List Nat)):Bool:=
 Po ops&&(dG ops.size).all λi=>
  (dst i==ox ops i)&&
  ((ops.getD i oh).after.all λe=>!x5 wx e||(D.getD i []).contains e.on)&&
  ((D.getD i []).all λk=>decide (k<i)&&((D.getD k []).all λm=>(D.getD i []).contains m)&&(ops.getD i oh).after.any λe=>x5 wx e&&(e.on==k||(D.getD e.on []).contains k))&&
  ((dG ops.size).all λj=>(i==j||dst i==af||dst i !=dst j)&&
    (((ops.getD i oh).looksAt ops).all λt=>dst j !=ab t||i==j||(D.getD i []).contains j||(D.getD j []).contains i))
structure JK (ops:Array cU) (dst:Nat->Option mR) (D:List (List Nat)):Prop where
 uM:Po ops=az
 RM:∀i,i<ops.size->dst i=ox ops i
 after:∀i o,ops[i]?=ab o->∀e∈o.after,x5 wx e=az->e.on∈D.getD i []
 lt:∀i,i<ops.size->∀k∈D.getD i [],k<i
 trans:∀i,i<ops.size->∀k∈D.getD i [],∀m∈D.getD k [],m∈D.getD i []
 reach:∀i o,ops[i]?=ab o->∀k∈D.getD i [],∃e∈o.after,x5 wx e=az/\(e.on=k\/k∈D.getD e.on [])
 uniq:∀i j,i<ops.size->j<ops.size->i≠j->∀t,dst i=ab t->dst j≠ab t
 looks:∀i o,ops[i]?=ab o->∀t∈o.looksAt ops,∀j,j<ops.size->dst j=ab t->i=j\/j∈D.getD i []\/i∈D.getD j []
def ane{D}(h:EA ops dst D=az):JK ops dst D:=by
 unfold EA at h;rw[Bh,Eb]at h;obtain⟨h0,h⟩:=h
 have h2:∀i,i<ops.size->(dst i=ox ops i)/\(∀e∈(ops.getD i oh).after,x5 wx e=az->e.on∈D.getD i [])/\
  (∀k∈D.getD i [],(k<i/\∀m∈D.getD k [],m∈D.getD i [])/\∃e∈(ops.getD i oh).after,x5 wx e=az/\(e.on=k\/k∈D.getD e.on []))/\
  (∀j,j<ops.size->(i=j\/dst i=af\/dst i≠dst j)/\∀t∈(ops.getD i oh).looksAt ops,dst j=ab t->i=j\/j∈D.getD i []\/i∈D.getD j []):=by
  intro i hi;have:=h i (kq.2 hi);simp only[Bh,beq_iff_eq,Eb,aj6,decide_eq_true_eq,ago,bne_iff_ne,kq,Array.all_eq_true_iff_forall_mem,OI,Array.any_eq_true']at this;grind
 have p':∀i o,ops[i]?=ab o->i<ops.size/\ops.getD i oh=o:=λi o ho=>by obtain⟨hi,e⟩:=tr.1 ho;exact⟨hi,by simp[hi,e]⟩
 refine⟨h0,λi hi=>(h2 i hi).1,λi o ho e he hb=>?_,λi hi k hk=>((h2 i hi).2.2.1 k hk).1.1,λi hi k hk=>((h2 i hi).2.2.1 k hk).1.2,λi o ho k hk=>?_,λi j hi hj iI t e=>?_,λi o ho t ht j hj e=>?_⟩;·grind
 .obtain⟨hi,bY⟩:=p' i o ho;exact bY▸((h2 i hi).2.2.1 k hk).2
 .grind
 .grind
def UF o(a b:bT)(h:∀t∈o.looksAt ops,a.tmps[t]?=b.tmps[t]?):c6 o (cZ ops a.tmps)=c6 o (cZ ops b.tmps):=by
 unfold c6;cases hg:o.guard with
 |none=>rfl
 |some aot=>
  obtain⟨g,want⟩:=aot
  have hy:cZ ops a.tmps g=cZ ops b.tmps g:=by
   unfold cZ;cases ht:(ops[g]?).bind (·.dst)with
   |none=>rfl
   |some t=>grind[Oper.looksAt]
  simp only[hy]
def eval_congr o(a b:bT)(hs:∀cs c,o.op≠.select cs c)(h:∀t∈o.looksAt ops,a.tmps[t]?=b.tmps[t]?):bt a.eval o=bt b.eval o:=
 execOp_congr o hs λx hx=>by
  cases x with
  |tmp t=>
   have:=h t (BQ _ (List.mem_filterMap.2 ⟨.tmp t,aF,aa⟩));simp[u0,this]
  |_=>rfl
def M4(a:bT)(d:Option mR)v(h:∀t,d=ab t->t<a.tmps.size)(hd:d=af->v=a1):lF d (a.put d v)=v:=by
 cases d with
 |none=>exact(hd aa).symm
 |some t=>simp[lF,u0,tw,h t aa]
theorem Nc(a:bT)(d:Option mR)v(h:∀t,d=ab t->t<a.tmps.size):a.put d v=a.put d (lF d (a.put d v)):=by
 cases d with
 |none=>rfl
 |some t=>simp[lF,u0,tw,h t aa]
def af3 {o a b w} {K:aO->aM->Prop} {Q1 Qa} (he:bt b.eval o=bt a.eval o) (LW:∀d,o.dst=ab d->d<b.tmps.size) (hsz:b.tmps.size=a.tmps.size)
 (EJ:∀c w,Q1 (tx c) b w->Qa (tx c) a w) (cz:LetsOut Q1->LetsOut Qa)
 (h:o.wp P b w (λiV w'=>iV.defers=b.defers/\K (lF o.dst iV) w') Q1):o.wp P a w (λbx w'=>∃v,bx=a.put o.dst v/\lF o.dst bx=v/\K v w') Qa:=by
 have ao7:=λd hd=>hsz▸LW d hd
 have hout:∀v,lF o.dst (b.put o.dst v)=lF o.dst (a.put o.dst v):=λv=>by
  cases hd:o.dst with
  |none=>rfl
  |some t=>simp[lF,u0,tw,LW t hd,ao7 t hd]
 unfold ih at*;rw[he]at h;generalize (bt a.eval o).run P w=r at*;cases r with
 |ok n w'=>
  cases n<;>simp only[agJ]at h⊢;case value u=>grind[Nc]
  case skip=>grind[Nc]
  case defer d=>
   have h1:=h.1;rw[put_defers]at h1;have:=congrArg List.length h1;simp at this
  case enter f args=>
   refine JO h λe NI he=>?_;grind[Nc]
  grind[Rows.mono,Nc]
 |halt x w'=>
  cases x<;>simp only[agJ]at h⊢;case panic u=>grind
variable {U:Type}
structure KV where
 A:Option bQ
 b:Nat
 c:Nat
def C0(P:ee)(ops:Array cU)(Dj:aM)(o:cU)(a:bT):Value:=
 if c6 o (cZ ops a.tmps)=az then(match(bt a.eval o).run P Dj with|.ok (c9 v) _=>v|_=>a1)else a1
section
variable {D:List (List Nat)} {LE:List Nat} {bV:Nat->KV->aO} {cp:Nat->(Nat->KV)->aM->Prop} {T:aM->Prop} {E:Nat->(Nat->KV)->aM->aM->Prop} {QP:List rv->aM->Prop} {ayx:Nat->aM->Prop} {us:Nat->KV}
end
def ada {a0 val val' D} (hk:JK ops dst D) {i o} (ho:ops[i]?=ab o) {l l'} (hl:∀j∈l,j<ops.size/\i∉D.getD j []/\i≠j) (hl':∀j∈l',j<ops.size/\i∉D.getD j []/\i≠j)
 (dQ:∀j∈D.getD i [],j∈l/\j∈l'/\val j=val' j):∀t∈o.looksAt ops,(e' dst val a0 l).tmps[t]?=(e' dst val' a0 l').tmps[t]?:=λt ht=>by
 by_cases hs:t<a0.tmps.size
 .have u:∀k j,k<ops.size->j<ops.size->dst j=ab t->dst k=ab t->k=j:=λk j y1 nf AB e=>by
   by_cases hkj:k=j;·omega
   .exact absurd AB (hk.uniq k j y1 nf hkj t e)
  by_cases hj:∃j∈D.getD i [],dst j=ab t;·grind[Jo]
  .have hno:∀k,k<ops.size->i∉D.getD k []->i≠k->dst k≠ab t:=λk y1 h1 h2 e=>by
    rcases hk.looks i o ho t ht k y1 e with h|h|h;·omega
    .grind
    .grind
   grind[F9]
 grind[rb]
end
end
section
open Go.RowKit Go.MapKept
abbrev aU(w:aM)(B:Nat)(cs:Array aO)(t:gb):Prop:=w.heap[B]?=ab (bl cs t (0,0))
section
variable {F:Nat->Prop} {w w':aM} {B:Nat} {cs:Array aO} {t:gb}
def aU.lt(h:aU w B cs t):B<w.heap.size:=(tr.1 h).1
theorem aU.cell(h:aU w B cs t)k{v}(hv:cs[k]?=ab v):w.cell? ⟨B,k,af⟩=ab v:=(cell_of_row w B k cs t _ h).trans hv
def aU.frozen(h:aU w B cs t)k:w.frozen? ⟨B,k,af⟩=false:=by grind[World.frozen?]
def aU.rangeAt(h:aU w B cs t)o l(hl:∀j v,l[j]?=ab v->cs[o+j]?=ab v):w.rangeAt B o l:=λj v hv=>h.cell _ (hl j v hv)
theorem au.setRow w B cs:au (λi=>i=B) w (w.setRow B cs):=
 ⟨rfl,rfl,rfl,a8,λk _ hn=>by grind[World.setRow]⟩
theorem aU.setRow(h:aU w B cs t)cs':aU (w.setRow B cs') B cs' t:=setRow_heap w B cs cs' t _ h
structure vg (F:Nat->Prop) (w w':aM):Prop where
 only:au F w w'
 shape:∀B cs t,aU w B cs t->∃cs',aU w' B cs' t/\cs'.size=cs.size
def ar.keep(h:ar w w'):vg F w w':=⟨h.to,λ_ cs _ hb=>⟨cs,au.heap h hb (λh=>h),aa⟩⟩
def vg.adA{F}(h:vg (λ_=>False) w w'):vg F w w':=⟨h.only.mono (λ_ _ h=>h.elim),h.shape⟩
def vg.adz{cs'}(h:au (λi=>i=B) w w')(h1:aU w B cs t)(h2:aU w' B cs' t)(hs:cs'.size=cs.size):vg (λi=>i=B) w w':=
 ⟨h,λagi ayY b7 hb=>by
   by_cases e:agi=B;·grind
   .exact⟨_,h.heap hb e,aa⟩⟩
end
section
variable {P:ee} {o:cU} {a:bT} {w:aM} {K:bT->aM->Prop} {Q:iD->bT->aM->Prop}
def Uk{t z}(hz:(P.info? t).bind (·.zero)=ab z)w:(zeroValue t).run P w=a6 z w:=by
 cases hq:P.info? t with
 |none=>grind
 |some i=>
  simp only[hq,Option.bind_some]at hz;simp[zeroValue,mS,hq,hz]
def adC {t} (ho:o.op=Vo t) z (hz:(P.info? t).bind (·.zero)=ab z)
 (h:∀B w',aU w' B z.cells t->ar w w'->w.heap.size<=B->B<w'.heap.size->K (a.put o.dst (ax (ab ⟨B,0,af⟩))) w'):o.wp P a w K Q:=by
 have hr:(bt a.eval o).run P w=a6 (c9 (ax (ab ⟨w.heap.size,0,af⟩))) (w.alloc (bl z.cells t)):=by unfold bt;simp only[ho];simp only[Instr.alloc,newVar,newRow,newObj,ga,Uk hz,jc,jK];rfl
 unfold ih;rw[hr];exact h _ _ (fz w _) (au.alloc _ _) (b4 _) a8
def adE {t} x (ho:o.op=.box t x) v (hx:a.eval x=v)
 (h:∀B w',aU w' B v.cells t->ar w w'->w.heap.size<=B->B<w'.heap.size->K (a.put o.dst (ax (ab ⟨B,0,af⟩))) w'):o.wp P a w K Q:=by
 have hr:(bt a.eval o).run P w=a6 (c9 (ax (ab ⟨w.heap.size,0,af⟩))) (w.alloc (bl v.cells t)):=by unfold bt;simp only[ho,hx];rfl
 unfold ih;rw[hr];exact h _ _ (fz w _) (au.alloc _ _) (b4 _) a8
def adF {t n e:Nat} {parts cells} (ho:o.op=Vp t n parts)
 (hr:∀w:aM,(Vj t n (parts.map λ(i,x)=>(i,a.eval x))).run P w=a6 (ae (ab ⟨w.heap.size,0,af⟩) n n) (w.alloc (bl cells e)))
 (h:∀B w',aU w' B cells e->ar w w'->w.heap.size<=B->B<w'.heap.size->K (a.put o.dst (ae (ab ⟨B,0,af⟩) n n)) w'):o.wp P a w K Q:=by
 unfold ih bt;simp only[ho,ga,hr,jc,jK];exact h _ _ (fz w _) (au.alloc _ _) (b4 _) a8
theorem asz{v}(hr:(bt a.eval o).run P w=a6 (c9 v) w)(h:K (a.put o.dst v) w):o.wp P a w K Q:=by unfold ih;rw[hr];exact h
def art ty x (ho:o.op=oc ty x) B (hx:a.eval x=ax (ab ⟨B,0,af⟩)) {t cs d} (hg:aU w B cs t)
 (hu:P.underlying ty=ab d) (hd:(match d with|.struct _|.array _ _=>az|_=>ao)=az) (hi:(P.info? ty).map (·.size)=ab cs.size):(bt a.eval o).run P w=a6 (c9 (av cs)) w:=by
 unfold bt;simp only[ho,hx,JS,Bn,ga,jK,jc,DS w B t ty cs _ d hg hu hd hi]
def eC ty x (ho:o.op=oc ty x) (B k) (hx:a.eval x=ax (ab ⟨B,k,af⟩)) cs {d} (hc:w.rangeAt B k cs)
 (hu:P.underlying ty=ab d) (hd:d.isRow=az) (hi:(P.info? ty).map (·.size)=ab cs.length):(bt a.eval o).run P w=a6 (c9 (av cs.toArray)) w:=by grind[bt,JS,Bn,ga,jK,jc,run_loadVar_mid]
end
end
section
open Go.RowKit Go.MapKept
def Mem(N:Nat)(w:aM)(A:Option bQ)(t:gb):Prop:=∀b off sp,A=ab ⟨b,off,sp⟩->N<=b/\∃cs,aU w b cs t
section
variable {w w':aM} {N n B c:Nat} {A:Option bQ} {t b7:gb} {bs:List Int}
def Mem.none:Mem N w af t:=λ_ _ _ h=>by grind
def Mem.le(h:Mem N w A t){M}(dW:M<=N):Mem M w A t:=λb off sp e=>⟨ea dW (h b off sp e).1,(h b off sp e).2⟩
def e6(N:Nat)(w:aM)(A:Option bQ)(c:Nat)(bs:List Int):Prop:=bX w A bs/\Mem N w A 5/\bs.length<=c
theorem e6.nil:e6 N w af c []:=⟨bX.nil,Mem.none,cF _⟩
def e6.le(h:e6 N w A c bs){M}(dW:M<=N):e6 M w A c bs:=⟨h.1,h.2.1.le dW,h.2.2⟩
theorem e6.nU{base}(h:w.ownsRow base 5 1 (ae A bs.length c) bs.length (bs.map bb)):e6 base w A c bs:=⟨bX.nU h,λb off sp e=>by
 rcases h.2 with⟨hv,_⟩|⟨g,cap,cur,hv,hb,hg,_⟩;·grind
 grind,by
 rcases h.2 with⟨hv,h0⟩|⟨g,cap,cur,hv,hb,hg,hn,_⟩;·omega
 .grind⟩
end
def fF(A:Option bQ)(c i sz:Nat):Option Addr:=if c=i then A else A.map (·.add (i*sz))
section
variable {P:ee} {o:cU} {a:bT} {w:aM}
def aff (t e sz:Nat) (x lo hi) (ho:o.op=Bo t x (ab lo) (ab hi) af) (ht:P.underlying t=ab (iF e)) (hs:(P.info? e).map (·.size)=ab sz) A (n c i q:Nat)
 (hx:a.eval x=ae A n c) (kO:a.eval lo=J R (i:Int)) (yY:a.eval hi=J R (q:Int)) (h1:i<=q) (h2:q<=c):
 (bt a.eval o).run P w=a6 (c9 (ae (fF A c i sz) (q -i) (c -i))) w:=by
 cases hq:P.info? e with
 |none=>grind
 |some tk=>
  have hsz:tk.size=sz:=aF;have h3:(q:Int)<=(c:Int):=ad;have h4:(i:Int)<=(q:Int):=ad;have h5:(0:Int)<=(q:Int):=ad;have h6:(0:Int)<=(i:Int):=ad;unfold bt;simp[ho,hx,kO,yY,OV,OU,OX,OW,zC,ga,gE ht,my,mS,hq,hsz,h1,h2,fF]
def Us (t e sz:Nat) (x lo) (ho:o.op=Bo t x (ab lo) af af) (ht:P.underlying t=ab (iF e)) (hs:(P.info? e).map (·.size)=ab sz) A (n c i:Nat)
 (hx:a.eval x=ae A n c) (kO:a.eval lo=J R (i:Int)) (h1:i<=n) (h2:n<=c):
 (bt a.eval o).run P w=a6 (c9 (ae (fF A c i sz) (n -i) (c -i))) w:=by
 cases hq:P.info? e with
 |none=>grind
 |some tk=>
  have hsz:tk.size=sz:=aF;unfold bt;simp[ho,hx,kO,OV,OU,OX,OW,zC,ga,gE ht,my,mS,hq,hsz,h1,fF]
def qt (t e sz:Nat) (x hi) (ho:o.op=Bo t x af (ab hi) af) (ht:P.underlying t=ab (iF e)) (hs:(P.info? e).map (·.size)=ab sz) A (n c q:Nat)
 (hx:a.eval x=ae A n c) (yY:a.eval hi=J R (q:Int)) (h2:q<=c):
 (bt a.eval o).run P w=a6 (c9 (ae A q c)) w:=by
 cases hq:P.info? e with
 |none=>grind
 |some tk=>
  unfold bt;simp[ho,hx,yY,OV,OU,OX,OW,zC,ga,gE ht,my,mS,hq,h2];intro _;cases A<;>simp[wb]
end
def bX.win{w A bs c i q}(h:bX w A bs)(hc:bs.length<=c)(hq:q<=bs.length):bX w (fF A c i 1) ((bs.drop i).take (q -i)):=λhp=>by have hl:0<q -i:=aF;obtain⟨b0,lX,rfl,hcell⟩:=h ad;grind[fF,nL]
def bX.Gc{w A bs c i}(h:bX w A bs)(hc:bs.length<=c):bX w (fF A c i 1) (bs.drop i):=by have:=h.win (i:=i) hc (b4 _);rwa [List.take_of_length_le a8]at this
def bX.Dl{w A bs q}(h:bX w A bs)(hq:q<=bs.length):bX w A (bs.take q):=λhp=>by obtain⟨b0,lX,rfl,hcell⟩:=h aF;grind
def Mem.win{w N A}{t c i sz:Nat}(h:Mem N w A t):Mem N w (fF A c i sz) t:=by
 unfold fF;split;·omega
 .intro b off sp e;cases A with
  |none=>grind
  |some fG=>
   simp at e;obtain⟨b0,lX,auU⟩:=fG;have:b0=b:=by grind[wb]
   subst this;exact h _ _ _ aa
end
section
open Go.RowKit Go.MapKept
abbrev Row(N:Nat)(w:aM)(A:Option bQ)(n c:Nat)(e:gb)(sz:Nat)(xs:List aO):Prop:=w.ownsRow N e sz (ae A n c) n xs
def eb(A:Option bQ)(b:Nat):Prop:=∃off sp,A=ab ⟨b,off,sp⟩
section
variable {F:Nat->Prop} {w w':aM} {N n c e sz B b7 m:Nat} {A:Option bQ} {xs:List aO}
theorem Row.nil N w(e sz:Nat):Row N w af 0 0 e sz []:=World.ownsRow_nil _ _ _ _
def Row.cases(h:Row N w A n c e sz xs):(A=af/\n=0/\c=0/\xs=[])\/∃g cur,A=ab ⟨g,0,af⟩/\N<=g/\aU w g cur e/\n<=c/\cur.size=c*sz/\cur.toList.take (n*sz)=xs:=by
 rcases h.2 with⟨hv,h0⟩|⟨g,cap,cur,hv,hb,hg,hn,hm,hs,ht⟩;·injection hv with h1 h2 h3;subst h0;exact bM ⟨h1,aa,h3,j2 (by have:=h.1;omega)⟩
 grind
def Row.only(h:Row N w A n c e sz xs)(k:au F w w')(hn:∀b,eb A b->¬F b):Row N w' A n c e sz xs:=by
 refine⟨h.1,?_⟩;rcases h.2 with h2|⟨g,cap,cur,hv,hb,hg,r⟩;·grind
 .injection hv with h1 h2 h3;subst h1;subst h3;exact b8 ⟨g,c,_,aa,hb,k.heap hg (hn g ⟨0,_,aa⟩),r⟩
def Row.aG(h:Row N w A n c e sz xs)(g:ar w w'):Row N w' A n c e sz xs:=h.only g (λ_ _ h=>h)
def Row.le(h:Row N w A n c e sz xs){M}(dW:M<=N):Row M w A n c e sz xs:=by
 refine⟨h.1,?_⟩;rcases h.2 with h2|⟨g,cap,cur,hv,hb,r⟩;·grind
 .exact b8 ⟨g,_,_,hv,ea dW hb,r⟩
def Row.mem(h:Row N w A n c e sz xs):Mem N w A e:=λb off sp ha=>by
 rcases h.cases with⟨h1,_⟩|⟨g,cur,h1,hb,hg,_⟩;·grind
 grind
def Row.lt(h:Row N w A n c e sz xs){b}(hb:eb A b):N<=b/\b<w.heap.size:=by obtain⟨off,sp,e⟩:=hb;obtain⟨h1,cs,h2⟩:=h.mem b off sp e;exact⟨h1,aU.lt h2⟩
def Row.len(h:Row N w A n c e sz xs):xs.length=n*sz:=h.1
theorem Row.cell(h:Row N w A n c e sz xs){j v}(hj:xs[j]?=ab v):∃g,A=ab ⟨g,0,af⟩/\w.cell? ⟨g,j,af⟩=ab v:=by
 rcases h.cases with⟨_,_,_,h4⟩|⟨g,cur,h1,_,hg,_,_,ht⟩;·grind
 grind[aU.cell]
def Row.cap(h:Row N w A n c e sz xs):n<=c:=by
 rcases h.cases with⟨_,h2,h3,_⟩|⟨_,_,_,_,_,h5,_⟩;·omega
 .omega
def Row.nZ{bs}(h:Row N w A bs.length c 5 1 (bs.map bb)):e6 N w A c bs:=e6.nU h
def Gl(N:Nat)(w w':aM)(A:Option bQ)(n c:Nat)(aA:Option bQ)(CW aC:Nat)(e sz:Nat)(xs ct:List aO):Prop:=
 Row N w' aA CW aC e sz ct/\Row N w' A n c e sz xs/\vg (eb A) w w'/\(∀b,eb aA b->eb A b\/w.heap.size<=b)
end
section
variable {P:ee} (w:aM)
def auA N (t ty e) i z (ht:P.underlying t=ab (iF e)) (hi:P.info? e=ab i) (hz:i.zero=ab z) (hzs:z.cells.size=i.size)
 A (n c) xs (hown:Row N w A n c e i.size xs) aJ (m c2) news (hr:Cells w i.size aJ m news) (h1:∀u∈news,u.oneCell'=az)
 (h63:n+m<=maxLen) (hbytes:(n+m)*i.bytes<=140737488355328) (dU:N<=w.heap.size):
 ∃aA aC w',(oQ #[t,t] ty #[ae A n c,ae aJ m c2]).run P w=a6 (ae aA (n+m) aC) w'/\Gl N w w' A n c aA (n+m) aC e i.size xs (xs++news):=by
 have hlen:(xs++news).length=(n+m)*i.size:=by rw[List.length_append,hown.1,hr.1,tR]
 have aAf:Gl N w w A n c A n c e _ xs xs:=⟨hown,hown,ar.keep (au.refl _ w),λb hb=>bM hb⟩;rcases Nat.eq_zero_or_pos m with hm|hm
 .subst hm;have hn:=j2 (by simpa using hr.1);subst hn;refine⟨A,c,w,?_,aF⟩;have hc:=hown.cap;rcases aJ with _|fG
  .rcases hown.cases with⟨rfl,rfl,rfl,_⟩|⟨g,cur,rfl,_⟩;·simp[oQ,gE ht,my,mS,hi,we,rr]
   .simp[oQ,gE ht,my,mS,hi,we,rr,hc,Bz]
  .rcases hown.cases with⟨rfl,rfl,rfl,_⟩|⟨g,cur,rfl,_⟩;·simp[oQ,gE ht,my,mS,hi,we,rr,loadCells,Pv]
   .simp[oQ,gE ht,my,mS,hi,we,rr,loadCells,Pv,hc,Bz]
 .obtain⟨fG,rfl,hnews⟩:=hr.2 hm;have aAg:n+m<=9223372036854775807:=by grind[maxLen]
  have grown:∀old,old<n+m->Gl N w (w.drew.alloc (bl (xs.toArray++news.toArray++mQ z.cells (x9 w (n+m) old e -(n+m))) e)) A n c (ab ⟨w.heap.size,0,af⟩) (n+m) (x9 w (n+m) old e) e i.size xs (xs++news):=by
   intro old ho;have mc:=grownCap_ge w (n+m) old e;have hcm:=grownCap_le_maxLen w _ old e h63;have hg:ar w (w.drew.alloc (bl (xs.toArray++news.toArray++mQ z.cells (x9 w (n+m) old e -(n+m))) e)):=ar.trans (au.drew _) (au.alloc _ _);refine⟨⟨hlen,b8 ⟨w.heap.size,_,_,aa,dU,fz w.drew _,mc,hcm,?_,?_⟩⟩,hown.aG hg,hg.keep.adA,λb ⟨_,_,Zt⟩=>aF⟩;·simp only[Array.size_append,List.size_toArray,size_zeroCells,hzs,hown.1,hr.1,<-tR];congr 1;omega
   grind
  rcases hown.cases with⟨rfl,rfl,rfl,rfl⟩|⟨g,cur,rfl,hbg,hg,j9,hcs,aAh⟩;·grind[run_append_nil]
  .by_cases hroom:n+m<=c
   .have lR:n*i.size+news.length<=cur.size:=by rw[hr.1,hcs,<-tR];exact Nat.mul_le_mul_right _ hroom
    have hrun:=run_append_room (P:=P) w t ty e i ht hi g n c _ hg fG m c2 _ hr.1 hnews h1 hroom lR;have hb2:=hg.setRow (cur.toList.take (n*i.size)++news++cur.toList.drop (n*i.size+news.length)).toArray;have hsz:(cur.toList.take (n*i.size)++news++cur.toList.drop (n*i.size+news.length)).toArray.size=cur.size:=aF
    have hcm:c<=maxLen:=by
     rcases hown.2 with⟨hv,_⟩|⟨g2,ayP,B',hv,_,_,_,kv,_⟩;·grind
     .grind
    refine⟨_,_,_,hrun,⟨hlen,b8 ⟨g,c,_,aa,hbg,hb2,hroom,hcm,ad,?_⟩⟩,⟨hown.1,b8 ⟨g,c,_,aa,hbg,hb2,j9,hcm,ad,?_⟩⟩,?_,λb hb=>bM hb⟩;·grind
    .grind
    .have k:=vg.adz (au.setRow w g _) hg hb2 hsz;exact⟨k.only.mono (λb _ e=>⟨0,af,by rw[e]⟩),k.shape⟩
   .have holds:=hown.cells (g:=g) aa;have hrun:=run_append_grow (P:=P) w t ty e i z ht hi hz _ n c xs hown.1 holds fG m c2 _ hr.1 hnews ad ad (growslice_fits ad hbytes);exact⟨_,_,_,hrun,grown c ad⟩
end
section
variable {P:ee} {o:cU} {a:bT} {w:aM} {K:bT->aM->Prop} {Q:iD->bT->aM->Prop}
def adD N (s x) (t e sz bytes:Nat) (ho:o.op=.call {callee:=oR x0,args:=#[s,x],argTypes:=#[t,t]}) (ht:P.underlying t=ab (iF e))
 (k3:(P.info? e).map (λi=>(i.zero.isSome,(i.zero.map (·.cells.size)).getD 0,i.size,i.bytes))=ab (az,sz,sz,bytes))
 (A:Option bQ) (n c:Nat) (xs:List aO) (hs:a.eval s=ae A n c) (hown:Row N w A n c e sz xs) (aJ:Option bQ) (m c2:Nat) (news:List aO) (hx:a.eval x=ae aJ m c2) (hr:Cells w sz aJ m news) (h1:∀u∈news,u.oneCell'=az)
 (hbytes:(n+m)*bytes<=140737488355328) (hb0:0<bytes) (dU:N<=w.heap.size)
 (h:∀aA aC w',Gl N w w' A n c aA (n+m) aC e sz xs (xs++news)->K (a.put o.dst (ae aA (n+m) aC)) w'):o.wp P a w K Q:=by
 cases hq:P.info? e with
 |none=>simp[hq]at k3
 |some i=>
  rw[hq]at k3;simp only[pR,wR,Prod.mk.injEq]at k3;obtain⟨bB,bY,e8,na⟩:=k3;obtain⟨z,hz⟩:=Option.isSome_iff_exists.1 bB;rw[hz]at bY;simp only[pR,Option.getD_some]at bY;subst e8;subst na;have hle:(n+m)<=(n+m)*i.bytes:=Nat.le_mul_of_pos_right _ hb0;obtain⟨aA,aC,w',hrun,hap⟩:=auA (P:=P) w N t o.type e i z ht hq hz bY A n c xs hown aJ m c2 news hr h1 (by grind[maxLen]) hbytes dU;unfold ih bt;simp only[ho,resolve,invoke,builtin,ga,jK,jc,List.map_toArray,jM,kp,hs,hx,hrun];exact h aA aC w' hap
end
end
section
open Go.RowKit Go.MapKept
structure bp where
 cR:Nat->Prop
 p:aM->Prop
 nO:∀w w':aM,(∀b,cR b->b<w.heap.size->w'.heap[b]?=w.heap[b]?)->(∀b,cR b->b<w.heap.size)->p w->p w'
structure ak (aq:aM) (FX:Nat->Prop) (w:aM) (l:List bp):Prop where
 only:au FX aq w
 holds:∀t∈l,t.p w
 low:∀t∈l,∀b,t.cR b->b<w.heap.size/\(aq.heap.size<=b\/FX b)
 apart:l.Pairwise (λs t=>∀b,s.cR b->¬t.cR b)
def Has(w:aM)(t:bp):Prop:=t.p w/\∀b,t.cR b->b<w.heap.size
def cf(w w':aM)(t:bp):Prop:=ar w w'/\t.p w'/\∀b,t.cR b->w.heap.size<=b/\b<w'.heap.size
def Turned(w w':aM)(s t:bp):Prop:=au s.cR w w'/\t.p w'/\∀b,t.cR b->b<w'.heap.size/\(s.cR b\/w.heap.size<=b)
section
variable {aq w w':aM} {FX F:Nat->Prop} {l l':List bp} {s t:bp}
def ak.init w FX:ak w FX w []:=⟨au.refl _ _,λ_ h=>(fQ h).elim,λ_ h=>(fQ h).elim,Hc⟩
def ak.start(h:Has w t):ak w t.cR w [t]:=⟨au.refl _ _,λx hx=>by
 obtain rfl:x=t:=aF;exact h.1,λx hx b hb=>by
 obtain rfl:x=t:=aF;exact⟨h.2 b hb,b8 hb⟩,List.pairwise_singleton _ _⟩
def bp.only(t:bp)(h:t.p w)(hl:∀b,t.cR b->b<w.heap.size)(k:au F w w')(hn:∀b,t.cR b->¬F b):t.p w':=
 t.nO w w' (λb hb hlt=>k.block b hlt (hn b hb)) hl h
def ak.perm(h:ak aq FX w l)(p:l.Perm l'):ak aq FX w l':=
 ⟨h.only,λt ht=>h.holds t (p.mem_iff.2 ht),λt ht=>h.low t (p.mem_iff.2 ht),(p.pairwise_iff (λ{a b} (h1:∀c,a.cR c->¬b.cR c) c hb ha=>h1 c ha hb)).1 h.apart⟩
def ak.sub(h:ak aq FX w l)(p:l'.Sublist l):ak aq FX w l':=
 ⟨h.only,λt ht=>h.holds t (p.subset ht),λt ht=>h.low t (p.subset ht),h.apart.sublist p⟩
def ak.aG(h:ak aq FX w l)(g:ar w w'):ak aq FX w' l:=
 ⟨au.trans h.only g.to (λ_ _ h=>h),λt ht=>t.only (h.holds t ht) (λb hb=>(h.low t ht b hb).1) g (λ_ _ h=>h),λt ht b hb=>⟨wP (h.low t ht b hb).1 g.size,(h.low t ht b hb).2⟩,h.apart⟩
def ak.new(h:ak aq FX w l)t(hf:cf w w' t):ak aq FX w' (t::l):=by
 obtain⟨g,hp,hb⟩:=hf;have h2:=h.aG g;refine⟨h2.only,λx hx=>?_,λx hx b hb2=>?_,Hb (λx hx b h1 h3=>?_) h2.apart⟩
 .rcases gF.1 hx with rfl|hx;·omega
  .exact h2.holds x hx
 .rcases gF.1 hx with rfl|hx;·exact⟨(hb b hb2).2,bM (ea h.only.size (hb b hb2).1)⟩
  .exact h2.low x hx b hb2
 .have h4:=(h.low x hx b h3).1;have h5:=(hb b h1).1;omega
def ak.zm(h:ak aq FX w (s::l))(bL:Turned w w' s t):ak aq FX w' (t::l):=by
 obtain⟨k,hp,hb⟩:=bL;have ha:=vl.1 h.apart;have hs:=h.low s (rK ..);refine⟨⟨k.os.trans h.only.os,k.tape.trans h.only.tape,k.output.trans h.only.output,ea h.only.size k.size,λi hi hn=>?_⟩,λx hx=>?_,λx hx b hb2=>?_,Hb (λx hx b h1 h3=>?_) ha.2⟩
 .have h1:¬s.cR i:=λh1=>by grind
  exact(k.block i (wP hi h.only.size) h1).trans (h.only.block i hi hn)
 .rcases gF.1 hx with rfl|hx;·omega
  .exact x.only (h.holds x (rJ _ hx)) (λb hb=>(h.low x (rJ _ hx) b hb).1) k (λb h1 h2=>ha.1 x hx b h2 h1)
 .rcases gF.1 hx with rfl|hx
  .refine⟨(hb b hb2).1,?_⟩;rcases(hb b hb2).2 with h1|h1;·grind
   .exact bM (ea h.only.size h1)
  .exact⟨wP (h.low x (rJ _ hx) b hb2).1 k.size,(h.low x (rJ _ hx) b hb2).2⟩
 .rcases(hb b h1).2 with h2|h2;·grind
  .have:=(h.low x (rJ _ hx) b h3).1;omega
def Z1{i:Nat}(hi:l[i]?=ab s):∃h,l[i]=s:=List.getElem?_eq_some_iff.1 hi
def T3:∀(l:List bp) i s,l[i]?=ab s->l.Perm (s::l.eraseIdx i)
 |[],i,s,h=>by simp at h
 |x::l,0,s,h=>by
  obtain rfl:x=s:=by simpa using h
  exact BN _
 |x::l,i+1,s,h=>by have h1:=T3 l i s (by simpa using h);exact(h1.cons x).trans (yp s x _)
def ad6 t:∀(l:List bp) i s,l[i]?=ab s->(l.set i t).Perm (t::l.eraseIdx i)
 |[],i,s,h=>by simp at h
 |x::l,0,s,h=>BN _
 |x::l,i+1,s,h=>by have h1:=ad6 t l i s (by simpa using h);exact(h1.cons x).trans (yp t x _)
def ak.Dg(h:ak aq FX w l)i(hi:l[i]?=ab s)(bL:Turned w w' s t):ak aq FX w' (l.set i t):=by have h3:=h.perm (T3 l i s hi);exact(h3.zm bL).perm (ad6 t l i s hi).symm
def ak.at(h:ak aq FX w l)(i:Nat)(hi:l[i]?=ab t:=by rfl):t.p w:=h.holds t (cY hi)
def ak.has(h:ak aq FX w l)(i:Nat)(hi:l[i]?=ab t:=by rfl):Has w t:=⟨h.at i hi,λb hb=>(h.low t (cY hi) b hb).1⟩
def ak.drop(h:ak aq FX w l)(i:Nat)(hl:l.eraseIdx i=l':=by rfl):ak aq FX w l':=hl▸h.sub (List.eraseIdx_sublist ..)
def ak.fM(h:ak w s.cR w' l)(i:Nat)(hi:l[i]?=ab t:=by rfl):Turned w w' s t:=
 ⟨h.only,h.at i hi,λb hb=>⟨(h.low t (cY hi) b hb).1,(h.low t (cY hi) b hb).2.symm⟩⟩
def ak.fresh(h:ak w (λ_=>False) w' l)(i:Nat)(hi:l[i]?=ab t:=by rfl):cf w w' t:=
 ⟨h.only,h.at i hi,λb hb=>⟨(h.low t (cY hi) b hb).2.elim id (λh=>h.elim),(h.low t (cY hi) b hb).1⟩⟩
def ak.ne(h:ak aq FX w l){i j:Nat}(hi:l[i]?=ab s)(hj:l[j]?=ab t)(iI:i≠j):∀b,s.cR b->¬t.cR b:=by obtain⟨h1,rfl⟩:=Z1 hi;obtain⟨h2,rfl⟩:=Z1 hj;have hp:=List.pairwise_iff_getElem.1 h.apart;grind
theorem Turned.refl(h:Has w t):Turned w w t t:=⟨au.refl _ _,h.1,λb hb=>⟨h.2 b hb,bM hb⟩⟩
def cf.aG{aW}(h:cf w w' t)(g:ar w' aW):cf w aW t:=
 ⟨ar.trans h.1 g,t.only h.2.1 (λb hb=>(h.2.2 b hb).2) g (λ_ _ h=>h),λb hb=>⟨(h.2.2 b hb).1,wP (h.2.2 b hb).2 g.size⟩⟩
def Has.aG(h:Has w t)(g:ar w w'):Has w' t:=⟨t.only h.1 h.2 g (λ_ _ h=>h),λb hb=>wP (h.2 b hb) g.size⟩
end
def emp:bp:=⟨λ_=>False,λ_=>True,λ_ _ _ _ _=>trivial⟩
def aj(B:Nat)(cs:Array aO)(t:gb):bp:=⟨λb=>b=B,λw=>aU w B cs t,λw w' h hl hp=>(h B aa (hl B aa)).trans hp⟩
def AT{cR:Nat->Prop}{w w':aM}(h:∀b,cR b->b<w.heap.size->w'.heap[b]?=w.heap[b]?){b o}(hf:cR b)(hb:w.heap[b]?=ab o):w'.heap[b]?=ab o:=
 by grind
def bk(A:Option bQ)(n c e sz:Nat)(xs:List aO):bp:=⟨eb A,λw=>Row 0 w A n c e sz xs,λw w' h _ hp=>by
 refine⟨hp.1,?_⟩;rcases hp.2 with h2|⟨g,cap,cur,hv,hb,hg,r⟩;·grind
 .injection hv with h1 h2 h3;subst h1;subst h3;exact b8 ⟨g,c,_,aa,hb,AT h ⟨0,_,aa⟩ hg,r⟩⟩
def cg(A:Option bQ)(c:Nat)(bs:List Int):bp:=⟨eb A,λw=>e6 0 w A c bs,λw w' h _ hp=>by
 refine⟨λlU=>?_,λb off sp e=>?_,hp.2.2⟩;·obtain⟨b0,lX,rfl,hc⟩:=hp.1 lU;refine⟨b0,lX,rfl,λk hk=>?_⟩;have h1:=hc k hk;exact(DQ (w:=w) (h b0 ⟨lX,_,aa⟩ (u3 w _ h1))).trans h1
 .obtain⟨h1,cs,h2⟩:=hp.2.1 b off sp e;exact⟨h1,cs,AT h ⟨_,sp,e⟩ h2⟩⟩
def both(s t:bp):bp:=⟨λb=>s.cR b\/t.cR b,λw=>s.p w/\t.p w/\∀b,s.cR b->¬t.cR b,λw w' h hl hp=>
 ⟨s.nO w w' (λb hb=>h b (bM hb)) (λb hb=>hl b (bM hb)) hp.1,t.nO w w' (λb hb=>h b (b8 hb)) (λb hb=>hl b (b8 hb)) hp.2.1,hp.2.2⟩⟩
def nW(q:Prop)(t:bp):bp:=⟨t.cR,λw=>q/\t.p w,λw w' h hl hp=>⟨hp.1,t.nO w w' h hl hp.2⟩⟩
section
variable {aq w w':aM} {FX F:Nat->Prop} {l l':List bp} {s t:bp} {A:Option bQ} {B c n e sz:Nat} {bs:List Int} {xs:List aO} {cs cs':Array aO} {ty:gb}
def ak.jE(h:ak aq FX w l)(g:ar w w')(hb:e6 w.heap.size w' A c bs):ak aq FX w' (cg A c bs::l):=
 h.new _ ⟨g,hb.le (cF _),λb ⟨off,sp,e⟩=>by obtain⟨h1,cs,h2⟩:=hb.2.1 b off sp e;exact⟨h1,aU.lt h2⟩⟩
def ak.k9(h:ak aq FX w l)(g:ar w w')(hb:Row w.heap.size w' A n c e sz xs):ak aq FX w' (bk A n c e sz xs::l):=
 h.new _ ⟨g,hb.le (cF _),λ_ hb2=>hb.lt hb2⟩
theorem cf.TO(g:ar w w')(hb:e6 w.heap.size w' A c bs):cf w w' (cg A c bs):=⟨g,hb.le (cF _),λb ⟨off,sp,e⟩=>by obtain⟨h1,cs,h2⟩:=hb.2.1 b off sp e;exact⟨h1,aU.lt h2⟩⟩
def cf.ady(g:ar w w')(hb:Row w.heap.size w' A n c e sz xs):cf w w' (bk A n c e sz xs):=⟨g,hb.le (cF _),λ_ hb2=>hb.lt hb2⟩
def cf.Db(h:cf w w' (cg A c bs)):e6 w.heap.size w' A c bs:=⟨h.2.1.1,λb off sp e=>⟨(h.2.2 b ⟨off,sp,e⟩).1,(h.2.1.2.1 b off sp e).2⟩,h.2.1.2.2⟩
def cf.row(h:cf w w' (bk A n c e sz xs)):Row w.heap.size w' A n c e sz xs:=by
 obtain⟨g,hp,hl⟩:=h;refine⟨hp.1,?_⟩;rcases hp.2 with h2|⟨g2,cap,cur,hv,hb,r⟩;·grind
 .injection hv with h1 h2 h3;subst h1;exact b8 ⟨g2,_,_,by rw[h3],(hl g2 ⟨0,_,aa⟩).1,r⟩
def ak.star(h:ak aq FX w (s::t::l)):ak aq FX w (both s t::l):=by
 have h1:=vl.1 h.apart;have h2:=vl.1 h1.2;refine⟨h.only,λx hx=>?_,λx hx b hb=>?_,Hb (λx hx b hb hx2=>?_) h2.2⟩
 .rcases gF.1 hx with rfl|hx;·exact⟨h.holds s a8,h.holds t a8,h1.1 t a8⟩
  .exact h.holds x aF
 .rcases gF.1 hx with rfl|hx;·exact hb.elim (h.low s a8 b) (h.low t a8 b)
  .exact h.low x aF b hb
 .exact hb.elim (λhb=>h1.1 x aF b hb hx2) (λhb=>h2.1 x hx b hb hx2)
def ak.fi(h:ak aq FX w (both s t::l)):ak aq FX w (s::t::l):=by
 have h1:=vl.1 h.apart;have hs:=h.holds _ (rK ..);have hl:=h.low _ (rK ..);refine⟨h.only,λx hx=>?_,λx hx b hb=>?_,Hb (λx hx b hb hx2=>?_) (Hb (λx hx b hb hx2=>?_) h1.2)⟩
 .rcases gF.1 hx with rfl|hx;·exact hs.1
  .rcases gF.1 hx with rfl|hx;·exact hs.2.1
   .exact h.holds x aF
 .rcases gF.1 hx with rfl|hx;·exact hl b (bM hb)
  .rcases gF.1 hx with rfl|hx;·exact hl b (b8 hb)
   .exact h.low x aF b hb
 .rcases gF.1 hx with rfl|hx;·exact hs.2.2 b hb hx2
  .exact h1.1 x hx b (bM hb) hx2
 .exact h1.1 x hx b (b8 hb) hx2
def ak.as(h:ak aq FX w l)i(hi:l[i]?=ab s)t(hp:s.p w->t.p w)(hf:∀b,t.cR b->s.cR b):ak aq FX w (l.set i t):=
 h.Dg i hi ⟨au.refl _ _,hp (h.at i hi),λb hb=>⟨(h.has i hi).2 b (hf b hb),bM (hf b hb)⟩⟩
end
end
section
open Go.RowKit Go.MapKept
section
variable {P:ee} {ops:Array cU} {Q:iD->bT->aM->Prop} {dst:Nat->Option mR} {U:Type}
def Bj(D:List (List Nat))(done:List Nat):Prop:=∀j∈done,∀k∈D.getD j [],k∈done
def X5(P:ee)(ops:Array cU)(dst:Nat->Option mR)(D:List (List Nat))(val:(Nat->U)->Nat->aO)(nH:List Nat->(Nat->U)->aM->Prop)(QP:List rv->aM->Prop)(a0:bT)(i:Nat):Prop:=
 ∀done us w,Bj D done->(∀j∈done,j<ops.size)->i∉done->(∀k∈D.getD i [],k∈done)->nH done us w->∀K:bT->aM->Prop,Shut (∀u iV w',lF (dst i) iV=val (dw us i u) i->iV.defers=a0.defers->nH (done++[i]) (dw us i u) w'->K iV w')->
  match ops[i]? with
  |none=>True
  |some o=>if c6 o (cZ ops (e' dst (val us) a0 (D.getD i [])).tmps)=az then o.wp P (e' dst (val us) a0 (D.getD i [])) w K (λe _ w'=>match e with|.panic c=>QP c w'|_=>False)
   else K ((e' dst (val us) a0 (D.getD i [])).put (dst i) a1) w
def awI {D val nH QP a0}
 (hk:JK ops dst D) (hsz:∀i d,i<ops.size->dst i=ab d->d<a0.tmps.size)
 (HU:∀c a w,a.defers=a0.defers->QP c w->Q (tx c) a w)
 (hloc:∀j,j<ops.size->∀us kA,(∀k,k=j\/k∈D.getD j []->us k=kA k)->val us j=val kA j)
 (hop:∀i,i<ops.size->X5 P ops dst D val nH QP a0 i)
 (hend:∀done us w',(∀j,j<ops.size->j∈done)->(∀j∈done,j<ops.size)->nH done us w'->Q su (e' dst (val us) a0 (dG ops.size)) w'):
 ∀(fuel) done ez (us:Nat->U) w,((dG ops.size).filter (λj=>decide (j∉done))).length<=fuel->
  (∀j d,ez.getD j d=if j<ops.size then decide (j∈done)else d)->ez.size=ops.size->(∀j∈done,j<ops.size)->Bj D done->nH done us w->
  wpAny P wx ops Q fuel ez (e' dst (val us) a0 done) w:=by
 have iq:∀(done) us w,(∀j,j<ops.size->j∈done)->(∀j∈done,j<ops.size)->nH _ us w->Q _ (e' _ _ a0 _) w:=
  λdone us w hall hlt fY=>by rw[av9 (n:=_) hk.uniq a0 hlt (l':=_) (λj=>⟨λh=>kq.2 (hlt j h),λh=>hall j (kq.1 h)⟩)];exact hend _ us w hall hlt fY
 intro fuel;induction fuel with
 |zero=>
  intro done ez us w hf Cw xi hlt fZ fY
  have hall:∀j,j<ops.size->j∈done:=λj hj=>by have:(dG ops.size).filter (λj=>decide (j∉done))=[]:=j2 ad;have:=Hg.1 this j (kq.2 hj);simpa using this
  refine⟨?_,iq _ us w hall hlt fY⟩;refine aj7.2 (λj hj=>?_);obtain⟨h0,o,ho,_⟩:=Kb.1 hj;have hj:=(tr.1 ho).1;rw[Cw j _,if_pos hj]at h0;exact absurd (hall j hj) (by simpa using h0)
 |succ fuel ca=>
  intro done ez us w hf Cw xi hlt fZ fY;refine⟨λhnil=>?_,λi hi=>?_⟩
  .refine iq _ us w (λj=>?_) hlt fY;induction j using akn with
   |ind j aqv=>
    intro hj;by_cases hd:j∈done;·exact hd
    .exfalso
     have:=Kb.2 ⟨by rw[Cw j _,if_pos hj];simpa using hd,_,U6 hj,λe he hb=>by have h1:=hk.after j _ (U6 hj) e he hb;have h2:=hk.lt j hj _ h1;rw[Cw _ _,if_pos ad];simpa using aqv e.on h2 ad⟩;rw[hnil]at this;cases this
  .obtain⟨h0,o,ho,aoY⟩:=Kb.1 hi;have de:=(tr.1 ho).1;have eN:i∉done:=by rw[Cw i _,if_pos de]at h0;simpa using h0
   have vB:dst i=o.dst:=by rw[hk.RM i de];simp[ox,ho]
   have LG:∀k∈D.getD i [],k∈done:=by
    intro k r1;obtain⟨e,he,hb,h⟩:=hk.reach i o ho k r1;have h1:=aoY e he hb;have hen:e.on<ops.size:=by have:=hk.lt i de _ (hk.after i o ho e he hb);omega
    rw[Cw _ _,if_pos hen]at h1;have h2:=by simpa using h1
    rcases h with h|h;·exact h▸h2
    .exact fZ _ h2 k h
   have Au:∀t∈o.looksAt _,(e' _ _ a0 _).tmps[t]?=(e' _ (val us) a0 done).tmps[t]?:=λt ht=>by
    by_cases hs:t<a0.tmps.size
    .by_cases hj:∃j∈done,dst j=ab t
     .obtain⟨j,hj,AB⟩:=hj
      have aph:j∈D.getD i []:=by
       rcases hk.looks i o ho t ht j (hlt j hj) AB with h|h|h;·exact absurd (h▸hj) eN
       .exact h
       .exact absurd (fZ j hj i h) eN
      have u:=λk y1 e=>by
       by_cases hkj:k=j;·exact hkj
       .exact absurd AB (hk.uniq k j y1 (hlt j hj) hkj t e)
      rw[Jo AB _ _ (λk hk e=>u k (hlt k (LG k hk)) e) aph hs,Jo AB _ _ (λk hk e=>u k (hlt k hk) e) hj hs]
     .rw[F9 _ _ (λk hk e=>hj ⟨k,LG k hk,e⟩),F9 _ _ (λk hk e=>hj ⟨k,hk,e⟩)]
    .have hs':a0.tmps.size<=t:=Nat.le_of_not_lt hs;rw[agd (by rw[rb];exact hs'),agd (by rw[rb];exact hs')]
   have Mf:=Pp hk.uM;have jO:=eval_congr (ops:=_) o _ _ (λcs c=>Mf i o cs c ho) Au;have y4:=UF (ops:=_) o _ _ Au
   have abV:∀v u w',v=val (dw us i u) i->nH (done++[i]) (dw us i u) w'->wpAny P wx ops Q fuel (ez.setIfInBounds i az) ((e' dst (val us) a0 done).put o.dst v) w':=λv u w' hv aoF=>by
    have AK:∀j∈done,val us j=val (dw us i u) j:=λj hj=>hloc j (hlt j hj) _ _ (λk hk=>by
     have:k≠i:=λe=>by
      subst e;rcases hk with h|h;·exact eN (h▸hj)
      .exact eN (fZ j hj _ h)
     simp[dw,this])
    have bB:(e' dst (val us) a0 done).put o.dst v=e' dst (val (dw us i u)) a0 (done++[i]):=by rw[UB,<-hv,<-vB,Dh done a0 AK]
    rw[bB];refine ca _ _ _ w' ?_ ?_ (by simpa using xi) ?_ ?_ aoF
    .have abw:((dG ops.size).filter (λj=>decide (j∉done++[i]))).length<((dG ops.size).filter (λj=>decide (j∉done))).length:=by
      have:(dG ops.size).filter (λj=>decide (j∉done++[i]))=((dG ops.size).filter (λj=>decide (j∉done))).filter (λj=>decide (j≠i)):=by rw[List.filter_filter];refine He (λj _=>?_);by_cases h1:j∈done<;>by_cases h2:j=i<;>simp[h1,h2]
      rw[this];exact List.length_filter_lt_length_iff_exists.2 ⟨i,pO.2 ⟨kq.2 de,by simpa using eN⟩,a8⟩
     omega
    .intro j d;by_cases nQ:i=j;·subst nQ;have:i<ez.size:=ad;simp[de,this]
     .rw[getD_set_ne d nQ,Cw j d];by_cases hj:j<ops.size;·have:¬j=i:=λe=>nQ e.symm;simp[hj,this]
      .simp[hj]
    .intro j hj;rcases j3.1 hj with h|h;·exact hlt j h
     .obtain rfl:j=i:=by simpa using h
      exact de
    .intro j hj k hkj;rcases j3.1 hj with h|h;·exact BQ _ (fZ j h k hkj)
     .obtain rfl:j=i:=by simpa using h
      exact BQ _ (LG k hkj)
   have abP:=hop i de _ us w fZ hlt eN LG fY;unfold wpOp;simp only[ho];by_cases hw:c6 o (cZ ops (e' dst (val us) a0 done).tmps)=az
   .rw[if_pos hw]
    have CH:=abP (λiV w'=>iV.defers=(e' dst (val us) a0 (D.getD i [])).defers/\(∃u,lF _ iV=val _ i/\nH _ _ w'))
     (λu iV w' h1 h2 h3=>by rw[vB]at h1;exact⟨by rw[Di];exact h2,u,h1,h3⟩);simp only[ho]at CH;rw[y4,if_pos hw]at CH;refine bM ?_
    have:=af3 (a:=_) (Qa:=Q) (K:=λv w'=>∃u,v=val (dw us i u) i/\nH _ (dw us i u) w') jO (λd hd=>by rw[rb];exact hsz i d de (vB.trans hd)) (by rw[rb,rb])
     (λc w h=>HU c _ w (by rw[Di]) h) (λh=>by obtain⟨_,_,h⟩:=h;exact h.elim) CH;exact agL (λbx w' ⟨v,e,_,u,h1,h2⟩=>by subst e;exact abV v u w' h1 h2) this
   .rw[if_neg hw]
    have CH:=abP (λiV w'=>(∃u,lF _ iV=val _ i/\nH _ _ w'))
     (λu iV w' h1 _ h3=>by rw[vB]at h1;exact⟨u,h1,h3⟩);simp only[ho]at CH;rw[y4,if_neg hw,vB,M4 _ _ _ (λd hd=>by rw[rb];exact hsz i d de (vB.trans hd)) (λ_=>aa)]at CH;obtain⟨u,h1,h2⟩:=CH;exact abV a1 u w h1 h2
def yL(ops:Array cU):List (List Nat):=
 ops.toList.foldl (λacc o=>acc++[o.after.foldl (λs e=>if x5 wx e then let s2:=(acc.getD e.on []).foldl (λs k=>if s.contains k then s else k::s) s;if s2.contains e.on then s2 else e.on::s2 else s) []]) []
structure Q0 where
 sec:Nat
 A:Option bQ
 c:Nat
 bs:List Int
structure nz where
 cG:Nat
 e3:Nat
 A:Option bQ
 c:Nat
 L:List Q0
structure e7 where
 A:Option Addr:=af
 b:Nat:=0
 c:Nat:=0
 aJ:Option Addr:=af
 eV:Nat:=0
 c2:Nat:=0
 sL:Nat:=0
 Yv:Nat:=0
 Yw:Nat:=0
 v:Value:=a1
 m:nz:=⟨0,0,af,0,[]⟩
 t:bp:=emp
def dk(bo:List bp)(out:(Nat->e7)->Nat->bp)(us:Nat->e7)(n:Nat):bp:=match bo[n]? with|some t=>t|none=>out us (n -bo.length)
def KO(P:ee)(ops:Array cU)(dst:Nat->Option mR)(LE:List Nat)(bV:Nat->e7->aO)(aq:aM)(FX:Nat->Prop)(bo:List bp)(out:(Nat->e7)->Nat->bp)(ins rd:Nat->List Nat)(QP:List rv->aM->Prop)(us:Nat->e7)(i:Nat)(o:cU)(a:bT):Prop:=
 ∀w (Fr:List bp),ak aq FX w ((ins i).map (dk bo out us)++((rd i).map (dk bo out us)++Fr))->∀K:bT->aM->Prop,Shut (∀u iV w',lF (dst i) iV=bV i u->iV.defers=a.defers->ak aq FX w' (out (dw us i u) i::((rd i).map (dk bo out us)++Fr))->K iV w')->
  if c6 o (cZ ops a.tmps)=az then o.wp P a w K (λe _ w'=>match e with|.panic c=>QP c w'|_=>False)else K (a.put (dst i) a1) w
def cM(P:ee)(ops:Array cU)(Q:iD->bT->aM->Prop)(dst:Nat->Option mR)(LE:List Nat)(bV:Nat->e7->aO)(aq:aM)(FX:Nat->Prop)(bo:List bp)(out:(Nat->e7)->Nat->bp)(ins rd:Nat->List Nat)(fin:List Nat)(QP:List rv->aM->Prop)(us:Nat->e7):Nat->List cU->bT->Prop
 |_,[],a=>∀w',ak aq FX w' (fin.map (dk bo out us))->Q su a w'
 |i,o::rest,a=>
  if i∈LE then KO P ops dst LE bV aq FX bo out ins rd QP us i o a/\cM P ops Q dst LE bV aq FX bo out ins rd fin QP us (i+1) rest (a.put o.dst (bV i (us i)))
  else ∃v,((c6 o (cZ ops a.tmps)=az/\∀w (Fr:List bp),ak aq FX w ((rd i).map (dk bo out us)++Fr)->(bt a.eval o).run P w=a6 (c9 v) w)\/(c6 o (cZ ops a.tmps)=ao/\v=a1))/\
   cM P ops Q dst LE bV aq FX bo out ins rd fin QP us (i+1) rest (a.put o.dst v)
def alive(m:Nat)(LE:List Nat)(ins:Nat->List Nat)(size:Nat)(done:List Nat)(n:Nat):Bool:=
 (decide (n<m)||(LE.contains (n -m)&&done.contains (n -m)))&&(dG size).all λc=>!(done.contains c&&(ins c).contains n)
def FZ(m size:Nat)(D:List (List Nat))(LE:List Nat)(ins rd look:Nat->List Nat)(fin:List Nat):Bool:=
 LE.all (λi=>decide (i<size))&&
 ((dG size).all λi=>
   ((ins i).all λn=>decide (n<m+size)&&LE.contains i&&(decide (n<m)||(LE.contains (n -m)&&(D.getD i []).contains (n -m)))&&(dG size).all λc=>c==i||!(ins c).contains n)&&
   ((rd i).all λn=>decide (n<m+size)&&(decide (n<m)||(LE.contains (n -m)&&(D.getD i []).contains (n -m)))&&(dG size).all λc=>!(ins c).contains n||(c !=i&&(D.getD c []).contains i))&&
   decide (ins i).Nodup&&decide (rd i).Nodup&&(look i).all λk=>k==i||(D.getD i []).contains k)&&
 (fin==(dG (m+size)).filter (alive m LE ins size (dG size)))
section
variable {LE:List Nat} {bV:Nat->e7->aO} {aq:aM} {FX:Nat->Prop} {bo:List bp} {out:(Nat->e7)->Nat->bp} {ins rd look:Nat->List Nat} {fin:List Nat} {QP:List rv->aM->Prop} {us:Nat->e7}
def aeX {i o rest a v} (hi:decide (i∈LE)=ao) (hw:c6 o (cZ ops a.tmps)=az) (hy:∀w Fr,ak aq FX w ((rd i).map (dk bo out us)++Fr)->(bt a.eval o).run P w=a6 (c9 v) w)
 (h:cM P ops Q dst LE bV aq FX bo out ins rd fin QP us (i+1) rest (a.put o.dst v)):cM P ops Q dst LE bV aq FX bo out ins rd fin QP us i (o::rest) a:=by
 unfold cM;grind
def au0 {i o rest a} (hi:decide (i∈LE)=ao) (hw:c6 o (cZ ops a.tmps)=ao)
 (h:cM P ops Q dst LE bV aq FX bo out ins rd fin QP us (i+1) rest (a.put o.dst a1)):cM P ops Q dst LE bV aq FX bo out ins rd fin QP us i (o::rest) a:=by
 unfold cM;grind
def auZ {i o rest a} (hi:decide (i∈LE)=az) (hl:KO P ops dst LE bV aq FX bo out ins rd QP us i o a)
 (h:cM P ops Q dst LE bV aq FX bo out ins rd fin QP us (i+1) rest (a.put o.dst (bV i (us i)))):cM P ops Q dst LE bV aq FX bo out ins rd fin QP us i (o::rest) a:=by
 unfold cM;grind
def pv{i a}(h:∀w',ak aq FX w' (fin.map (dk bo out us))->Q su a w'):cM P ops Q dst LE bV aq FX bo out ins rd fin QP us i [] a:=h
def z7(P:ee)(ops:Array cU)(dst:Nat->Option mR)(LE:List Nat)(bV:Nat->e7->aO)(aq:aM)(FX:Nat->Prop)(bo:List bp)(out:(Nat->e7)->Nat->bp)(ins rd:Nat->List Nat)(QP:List rv->aM->Prop)(us:Nat->e7)(a0:bT)(eX:Nat->aO)(k:Nat):Prop:=
 if k∈LE then KO P ops dst LE bV aq FX bo out ins rd QP us k (ops.getD k oh) (e' dst eX a0 (dG k))/\eX k=bV k (us k)
 else(c6 (ops.getD k oh) (cZ ops (e' dst eX a0 (dG k)).tmps)=az/\∀w (Fr:List bp),ak aq FX w ((rd k).map (dk bo out us)++Fr)->(bt (e' dst eX a0 (dG k)).eval (ops.getD k oh)).run P w=a6 (c9 (eX k)) w)\/
  (c6 (ops.getD k oh) (cZ ops (e' dst eX a0 (dG k)).tmps)=ao/\eX k=a1)
def au1{D a0}(hk:JK ops dst D):∀n i xR,ops.size -i=n->i<=ops.size->cM P ops Q dst LE bV aq FX bo out ins rd fin QP us i (ops.toList.drop i) (e' dst xR a0 (dG i))->
 ∃eX,(∀k,k<i->eX k=xR k)/\(∀k,i<=k->k<ops.size->z7 P ops dst LE bV aq FX bo out ins rd QP us a0 eX k)/\∀w',ak aq FX w' (fin.map (dk bo out us))->Q su (e' dst eX a0 (dG ops.size)) w':=by
 intro n;induction n with
 |zero=>
  intro i xR hn hi h;obtain rfl:i=ops.size:=ad;rw[List.drop_eq_nil_of_le a8]at h;exact⟨_,λ_ _=>rfl,λk h1 h2=>ad,h⟩
 |succ n ca=>
  intro i xR hn hi h;have de:i<ops.size:=ad;have hlt:i<ops.toList.length:=ad;rw[List.drop_eq_getElem_cons hlt]at h;have p':ops.toList[i]=ops.getD i default:=by simp[de]
  have hd:dst i=(ops.getD i oh).dst:=by rw[hk.RM i de];simp[ox,de]
  rw[p']at h
  have step:∀v,cM P _ Q dst LE bV aq FX bo out ins rd fin QP us _ _ ((e' dst xR a0 _).put _ v)->
   ∃eX,(∀k,k<i->eX k=xR k)/\eX i=v/\(∀k,i+1<=k->k<ops.size->z7 P ops dst LE bV aq FX bo out ins rd QP us a0 eX k)/\∀w',ak aq FX w' _->Q _ _ w':=λv hv=>by
   have e:e' dst (dw xR i v) a0 (dG (i+1))=(e' dst xR a0 (dG i)).put (ops.getD i oh).dst v:=by grind[List.range_succ,UB,Dh,dw]
   rw[<-e]at hv;obtain⟨eX,h1,h2,h3⟩:=ca (i+1) (dw xR i v) ad de hv;exact⟨eX,λk hk2=>by grind[dw],by grind[dw],h2,h3⟩
  have ayX:∀eX:Nat->aO,(∀k,k<i->eX k=xR k)->e' _ eX a0 _=e' dst _ a0 _:=λeX h1=>Dh _ _ (λj hj=>h1 j (kq.1 hj));unfold cM at h;by_cases p3:i∈LE;·rw[if_pos p3]at h;obtain⟨eX,h1,h2,h3,h4⟩:=step _ h.2;refine⟨eX,h1,λk ng hk2=>?_,h4⟩;grind[z7]
  .rw[if_neg p3]at h;obtain⟨v,hv,hr⟩:=h;obtain⟨eX,h1,h2,h3,h4⟩:=step _ hr;refine⟨eX,h1,λk ng hk2=>?_,h4⟩;grind[z7]
end
section
variable {LE:List Nat} {bV:Nat->e7->aO} {aq:aM} {FX:Nat->Prop} {bo:List bp} {out:(Nat->e7)->Nat->bp} {ins rd look:Nat->List Nat} {fin:List Nat} {QP:List rv->aM->Prop}
structure Q5 (m size:Nat) (D:List (List Nat)) (LE:List Nat) (ins rd look:Nat->List Nat) (fin:List Nat):Prop where
 le:∀i∈LE,i<size
 acE:∀i,i<size->∀n∈ins i,n<m+size/\i∈LE
 acD:∀i,i<size->∀n∈ins i,n<m\/(n -m∈LE/\n -m∈D.getD i [])
 aqH:∀i,i<size->∀n∈ins i,∀c,c<size->n∈ins c->c=i
 atU:∀i,i<size->∀n∈rd i,n<m+size
 Ng:∀i,i<size->∀n∈rd i,n<m\/(n -m∈LE/\n -m∈D.getD i [])
 aep:∀i,i<size->∀n∈rd i,∀c,c<size->n∈ins c->c≠i/\i∈D.getD c []
 ase:∀i,i<size->(ins i).Nodup
 asf:∀i,i<size->(rd i).Nodup
 MI:∀i,i<size->∀k∈look i,k=i\/k∈D.getD i []
 fin:fin=(dG (m+size)).filter (alive m LE ins size (dG size))
def au9{m size D}(h:FZ m size D LE ins rd look fin=az):Q5 m size D LE ins rd look fin:=by
 unfold FZ at h;simp only[Bh,Eb,decide_eq_true_eq,kq,ago,aj6,beq_iff_eq,OI,bne_iff_ne,decide_eq_false_iff_not]at h;obtain⟨⟨h1,h2⟩,h3⟩:=h;refine⟨h1,λi hi n hn=>?_,λi hi n hn=>?_,λi hi n hn c hc j9=>?_,λi hi n hn=>?_,λi hi n hn=>?_,λi hi n hn c hc j9=>?_,λi hi=>(h2 i hi).1.1.2,λi hi=>(h2 i hi).1.2,λi hi k hk=>(h2 i hi).2 k hk,h3⟩;·exact⟨((h2 i hi).1.1.1.1 n hn).1.1.1,((h2 i hi).1.1.1.1 n hn).1.1.2⟩
 .exact((h2 i hi).1.1.1.1 n hn).1.2
 .exact(((h2 i hi).1.1.1.1 n hn).2 c hc).resolve_right (λh=>h j9)
 .exact((h2 i hi).1.1.1.2 n hn).1.1
 .exact((h2 i hi).1.1.1.2 n hn).1.2
 .exact(((h2 i hi).1.1.1.2 n hn).2 c hc).resolve_left (λh=>h j9)
theorem K4{m size done n}:alive m LE ins size done n=az↔(n<m\/(n -m∈LE/\n -m∈done))/\∀c,c<size->c∈done->n∉ins c:=by grind[alive]
def lD(m size:Nat)(LE:List Nat)(ins:Nat->List Nat)(done:List Nat):List Nat:=(dG (m+size)).filter (alive m LE ins size done)
def ME{m size done}:(lD m size LE ins done).Nodup:=List.nodup_range.filter _
def Fx{m size done n}:n∈lD m size LE ins done↔n<m+size/\(n<m\/(n -m∈LE/\n -m∈done))/\∀c,c<size->c∈done->n∉ins c:=by grind[lD,K4]
def ac9{m size D}(h:Q5 m size D LE ins rd look fin){done}(fZ:Bj D done){i}(hi:i<size)(eN:i∉done)(dQ:∀k∈D.getD i [],k∈done):
 (lD m size LE ins done).Perm (ins i++(rd i++(lD m size LE ins done).filter (λn=>!(ins i).contains n&&!(rd i).contains n))):=by
 have abe:=λn hn=>Fx.2 ⟨(h.acE i hi n hn).1,(h.acD i hi n hn).imp id (λh1=>⟨h1.1,dQ _ h1.2⟩),λc hc dr j9=>eN (h.aqH i hi n hn c hc j9▸dr)⟩;have oG:=λn hn=>Fx.2 ⟨h.atU i hi n hn,(h.Ng i hi n hn).imp id (λh1=>⟨h1.1,dQ _ h1.2⟩),λc hc dr j9=>eN (fZ c dr i (h.aep i hi n hn c hc j9).2)⟩;refine(XW ME ?_).2 (λn=>?_)
 .refine yr.2 ⟨h.ase i hi,yr.2 ⟨h.asf i hi,ME.filter _,λa ha b hb e=>?_⟩,λa ha b hb e=>?_⟩;·grind
  .subst e;rcases j3.1 hb with hb|hb;·exact(h.aep i hi a hb i hi ha).1 aa
   grind
 grind
def arB{m size D}(h:Q5 m size D LE ins rd look fin){done}(fZ:Bj D done)(hlt:∀j∈done,j<size){i}(hi:i<size)(eN:i∉done)(dQ:∀k∈D.getD i [],k∈done):
 (lD m size LE ins (done++[i])).Perm ((if i∈LE then[m+i]else[])++(rd i++(lD m size LE ins done).filter (λn=>!(ins i).contains n&&!(rd i).contains n))):=by
 have hs:=ac9 h fZ hi eN dQ;have abJ:=(hs.nodup_iff.1 ME);have apR:=(yr.1 abJ).2.1
 have xj:∀n,n∈rd i++(lD m _ LE _ _).filter (λn=>!(ins i).contains n&&!(rd i).contains n)↔n∈lD m _ LE _ _/\n∉ins i:=λn=>by
  have h1:n∈lD m size LE ins done↔n∈ins i\/n∈rd i++(lD m size LE ins done).filter (λn=>!(ins i).contains n&&!(rd i).contains n):=by rw[hs.mem_iff,j3]
  refine⟨λh2=>⟨h1.2 (b8 h2),λh3=>?_⟩,λh2=>(h1.1 h2.1).resolve_left h2.2⟩;exact(yr.1 abJ).2.2 n h3 n h2 aa
 have kP:m+i∉lD m size LE ins _:=λh1=>by
  have h2:=(Fx.1 h1).2.1;rcases h2 with h2|h2;·omega
  .rw[tS]at h2;exact eN h2.2
 refine(XW ME ?_).2 (λn=>?_)
 .refine yr.2 ⟨by split<;>simp,apR,λa ha b hb e=>?_⟩;subst e;split at ha
  .obtain rfl:a=m+i:=by simpa using ha
   exact kP ((xj _).1 hb).1
  .cases ha
 .rw[j3,xj,Fx,Fx];refine⟨λ⟨h1,h2,h3⟩=>?_,λhn=>?_⟩
  .by_cases apO:n=m+i
   .subst apO;left;rcases h2 with h2|h2;·omega
    .rw[tS]at h2;simp[h2.1]
   .right;refine⟨⟨h1,?_,λc hc dr=>h3 c hc (BQ _ dr)⟩,h3 i hi a8⟩;rcases h2 with h2|⟨h2,h4⟩;·exact bM h2
    .by_cases apP:n<m;·exact bM apP
     .refine b8 ⟨h2,?_⟩;rcases j3.1 h4 with h4|h4;·exact h4
      .have:n -m=i:=by simpa using h4
       omega
  .rcases hn with hn|⟨⟨h1,h2,h3⟩,h4⟩
   .split at hn
    .rename_i p3;obtain rfl:=by simpa using hn
     refine⟨ad,b8 (by rw[tS];exact⟨p3,a8⟩),λc hc dr j9=>?_⟩;have h5:=h.acD c hc _ j9;rw[tS]at h5;rcases h5 with h5|h5;·omega
     .rcases j3.1 dr with h6|h6;·exact eN (fZ c h6 i h5.2)
      .obtain rfl:c=i:=by simpa using h6
       exact eN (dQ _ h5.2)
    .cases hn
   .refine⟨h1,h2.imp id (λh5=>⟨h5.1,BQ _ h5.2⟩),λc hc dr=>?_⟩;rcases j3.1 dr with h6|h6;·exact h3 c hc h6
    .obtain rfl:c=i:=by simpa using h6
     exact h4
def UH {w a0} (I:ak aq FX w bo) D dst LE bV out (ins rd look) fin QP
 (hk:EA ops dst D=az) (hsz:((dG ops.size).all λi=>match dst i with|some d=>decide (d<a0.tmps.size)|none=>LE.contains i)=az) (hs:FZ bo.length ops.size D LE ins rd look fin=az)
 (HU:∀c a w,a.defers=a0.defers->QP c w->Q (tx c) a w)
 (hloc:∀i,i∈LE->∀us kA:Nat->e7,(∀k,k∈look i->us k=kA k)->out us i=out kA i)
 (h9:∀us,cM P ops Q dst LE bV aq FX bo out ins rd fin QP us 0 ops.toList a0):
 wpAny P wx ops Q ops.size (OA ops.size ao) a0 {w with drawn:=w.drawn+1}:=by
 have hk:=ane hk;have hs:=au9 hs
 have ab8:∀i,i<ops.size->match dst i with|some d=>d<a0.tmps.size|none=>i∈LE:=λi hi=>by
  have:=Eb.1 hsz i (kq.2 hi);cases hd:dst i with
  |none=>simpa [hd]using this
  |some d=>simpa [hd]using this
 have hnone:∀i,i<ops.size->i∉LE->dst i≠none:=λi hi hn hd=>by have:=ab8 i hi;rw[hd]at this;exact hn this
 have hsz':∀i d,i<ops.size->dst i=ab d->d<a0.tmps.size:=λi d hi hd=>by have:=ab8 i hi;rw[hd]at this;exact this
 have p':∀i,i<ops.size->ops[i]?=ab (ops.getD i oh):=λi hi=>by simp[hi]
 have LW:∀i,i<ops.size->dst i=(ops.getD i _).dst:=λi hi=>by rw[hk.RM i hi];unfold ox;rw[p' i hi];rfl
 have av2:∀i,i<ops.size->∀us kA:Nat->e7,(∀k,(k=i\/k∈D.getD i [])->us k=kA k)->∀n,n<bo.length\/(n -bo.length∈LE/\(n -bo.length∈D.getD i []\/n -bo.length=i))->dk bo _ us n=dk bo _ _ n:=λi hi us kA he n hn=>by
  unfold dk;cases hq:bo[n]? with
  |some t=>rfl
  |none=>
   have mc:=QQ.1 hq;rcases hn with hn|⟨hn,vJ⟩;·omega
   .refine hloc _ hn us _ (λk hk2=>he k ?_);have h1:=hs.MI _ (hs.le _ hn) k hk2;rcases vJ with vJ|vJ
    .rcases h1 with h1|h1;·exact b8 (h1▸vJ)
     .exact b8 (hk.trans i hi _ vJ k h1)
    .rw[vJ]at h1;exact h1
 let fs (us:Nat->e7×aO):Nat->e7:=λk=>(us k).1;let sh (us:Nat->e7×aO):Nat->Value:=λk=>(us k).2;let cp (us:Nat->e7×aO) (j:Nat):Prop:=∃w1 Fr,ak aq FX w1 ((rd j).map (dk bo out (fs us))++Fr)/\(if j∈LE then sh us j=bV j (fs us j)else sh us j=C0 P ops w1 (ops.getD j oh) (e' dst (sh us) a0 (D.getD j [])))
 have AK:∀(done) (us kA),Bj D _->(∀j∈done,j<ops.size)->(∀j∈done,us j=kA j)->∀j∈done,cp us j->cp kA j:=λdone us kA fZ hlt he j hj ⟨w1,Fr,h1,h2⟩=>by
  have pd:=hlt j hj
  have Ss:∀k,(k=j\/k∈D.getD j [])->fs us k=fs _ k:=λk hk2=>by show(us k).1=(kA k).1;rw[he k (hk2.elim (λe=>e▸hj) (λh=>fZ j hj k h))]
  refine⟨w1,Fr,?_,?_⟩;·have:=BP (λn hn=>av2 j pd _ _ Ss n ((hs.Ng j pd n hn).imp id (λh=>⟨h.1,bM h.2⟩)));rw[<-this];exact h1
  .have hv:sh us j=sh kA j:=by show(us j).2=(kA j).2;rw[he j hj]
   have hu:e' _ (sh us) a0 _=e' dst (sh _) a0 _:=Dh _ _ (λk hk2=>by show(us k).2=(kA k).2;rw[he k (fZ j hj k hk2)]);rw[<-hv,<-hu,<-Ss j (bM aa)];exact h2
 have agree:∀(done) us eX,Bj D done->(∀j∈done,j<ops.size)->(∀k,k<ops.size->z7 P ops dst LE bV aq FX bo out ins rd QP (fs us) a0 eX k)->(∀j∈done,cp us j)->∀j,j∈done->eX j=sh us j:=by
  intro done us eX fZ hlt hcm fo j;induction j using akn with
  |ind j ca=>
   intro hj;have pd:=hlt j hj;have hc:=hcm j pd;obtain⟨w1,Fr,h1,h2⟩:=fo j hj;unfold z7 at hc;by_cases p3:j∈LE;·rw[if_pos p3]at hc h2;rw[hc.2,h2]
   .rw[if_neg p3]at hc h2
    have Au:=ada (a0:=a0) (val:=eX) (val':=_) hk (p' j pd) (l:=_) (l':=_) (λk Sy=>by
     have hkj:=kq.1 Sy;exact⟨ad,λh=>by have:=hk.lt k ad j h;omega,ad⟩) (λk r1=>by
     have hkj:=hk.lt j pd k r1;exact⟨ad,λh=>by have:=hk.lt k ad j h;omega,ad⟩) (λk r1=>⟨kq.2 (hk.lt j pd k r1),r1,ca k (hk.lt j pd k r1) (fZ j hj k r1)⟩);have jO:=eval_congr (ops:=_) _ _ _ (λcs c=>Pp hk.uM j _ cs c (p' j pd)) Au;have y4:=UF (ops:=ops) _ _ _ Au;rw[h2];unfold C0;rcases hc with⟨h3,h4⟩|⟨h3,h4⟩;·rw[<-y4,if_pos h3,<-jO,h4 w1 Fr h1]
    .rw[<-y4,if_neg (by rw[h3];simp),h4]
 let nH (done:List Nat) (us:Nat->e7×aO) (w:aM):Prop:=ak aq FX w ((lD bo.length ops.size LE ins done).map (dk bo out (fs us)))/\∀j∈done,cp us j
 have Z2:∀us:Nat->e7×aO,∃eX,(∀k,k<ops.size->z7 P _ _ LE bV aq FX bo _ _ rd QP _ a0 eX k)/\∀w',ak aq FX w' _->Q _ _ w':=λus=>by obtain⟨eX,_,h2,h3⟩:=au1 (a0:=a0) (Q:=Q) hk ops.size 0 (λ_=>a1) ad (cF _) (by simpa [e']using h9 (fs us));exact⟨eX,λk hk2=>h2 k (cF _) hk2,h3⟩
 have apW:∀i,i<ops.size->X5 P ops dst D sh nH QP a0 i:=by
  intro i hi done us w1 fZ hlt eN dQ ⟨aoU,fo⟩ K hK;simp only[p' i hi];have vB:=LW i hi;obtain⟨eX,hcm,_⟩:=Z2 us;have Sb:=agree _ us eX fZ hlt hcm fo
  have Au:=ada (a0:=a0) (val:=eX) (val':=_) hk (p' i hi) (l:=_) (l':=_) (λk Sy=>by
   have hkj:=kq.1 Sy;exact⟨ad,λh=>by have:=hk.lt k ad i h;omega,ad⟩) (λk r1=>by
   have hkj:=hk.lt i hi k r1;exact⟨ad,λh=>by have:=hk.lt k ad i h;omega,ad⟩) (λk r1=>⟨kq.2 (hk.lt i hi k r1),r1,Sb k (dQ k r1)⟩);have jO:=eval_congr (ops:=_) _ _ _ (λcs c=>Pp hk.uM i _ cs c (p' i hi)) Au;have y4:=UF (ops:=_) _ _ _ Au;have hsp:=(aoU.perm ((ac9 hs fZ hi eN dQ).map _));rw[gp,gp]at hsp
  have abH:∀(u:e7) (v:aO) (w':aM),(∀k,k≠i->dw us i (u,v) k=us k)->(if i∈LE then v=bV i u else v=C0 P ops w1 (ops.getD i oh) (e' dst (sh us) a0 (D.getD i [])))->
   ak aq FX w' ((if i∈LE then[out (dw (fs us) i u) i]else[])++((rd i).map (dk bo out (fs us))++((lD bo.length ops.size LE ins done).filter (λn=>!(ins i).contains n&&!(rd i).contains n)).map (dk bo out (fs us))))->nH (done++[i]) (dw us i (u,v)) w':=by
   intro u v w' hne hv hst
   have apb:fs (dw us i (u,v))=dw (fs us) i u:=by
    funext k;show(dw us i (u,v) k).1=dw (fs us) i u k;unfold dw;by_cases h:k=i;·rw[if_pos h,if_pos h]
    .rw[if_neg h,if_neg h]
   refine⟨?_,λj hj=>?_⟩
   .refine ak.perm ?_ ((arB hs fZ hlt hi eN dQ).map _).symm;rw[gp,gp]
    have bB:(rd i).map (dk bo _ (fs _))=(rd i).map (dk bo _ (fs us)):=BP (λn hn=>by
     have h1:=hs.Ng i hi n hn;unfold dk;cases hq:bo[n]? with
     |some t=>rfl
     |none=>
      have mc:=QQ.1 hq;rcases h1 with h1|h1;·omega
      .refine hloc _ h1.1 _ _ (λk hk2=>?_);have h2:=hs.MI _ (hs.le _ h1.1) k hk2;have h3:=h2.elim (λe=>e▸dQ _ h1.2) (λh=>fZ _ (dQ _ h1.2) k h);have h4:k≠i:=λe=>eN (e▸h3);show(dw us i (u,v) k).1=(us k).1;rw[hne k h4])
    have bY:((lD _ _ LE ins _).filter (λn=>!(ins i).contains n&&!(rd i).contains n)).map (dk bo _ (fs _))=((lD bo.length ops.size LE _ _).filter (λn=>!(ins i).contains n&&!(rd i).contains n)).map (dk bo out (fs us)):=BP (λn hn=>by
     have h1:=(Fx.1 (pO.1 hn).1).2.1;unfold dk;cases hq:bo[n]? with
     |some t=>rfl
     |none=>
      have mc:=QQ.1 hq;rcases h1 with h1|h1;·omega
      .refine hloc _ h1.1 _ _ (λk hk2=>?_);have h2:=hs.MI _ (hs.le _ h1.1) k hk2;have h3:=h2.elim (λe=>e▸h1.2) (λh=>fZ _ h1.2 k h);have h4:k≠i:=λe=>eN (e▸h3);show(dw us i (u,v) k).1=(us k).1;rw[hne k h4])
    have e8:(if i∈LE then[bo.length+i]else[]).map (dk bo out (fs (dw us i (u,v))))=(if i∈LE then[out (dw (fs us) i u) i]else[]):=by
     split;·rw[apb];simp only[jM,kp,dk];rw[zU ad,tS]
     .rfl
    rw[bB,bY,e8];exact hst
   .by_cases nQ:j=i
    .subst nQ;refine⟨w1,((ins j).map (dk bo out (fs us))++((lD bo.length ops.size LE ins done).filter (λn=>!(ins j).contains n&&!(rd j).contains n)).map (dk bo out (fs us))),?_,?_⟩
     .have bB:(rd j).map (dk bo _ (fs _))=(rd j).map (dk bo _ (fs us)):=BP (λn hn=>by
       have h1:=hs.Ng j hi n hn;unfold dk;cases hq:bo[n]? with
       |some t=>rfl
       |none=>
        have mc:=QQ.1 hq;rcases h1 with h1|h1;·omega
        .refine hloc _ h1.1 _ _ (λk hk2=>?_);have h2:=hs.MI _ (hs.le _ h1.1) k hk2;have h3:=h2.elim (λe=>e▸dQ _ h1.2) (λh=>fZ _ (dQ _ h1.2) k h);have h4:k≠j:=λe=>eN (e▸h3);show(dw us j (u,v) k).1=(us k).1;rw[hne k h4]);rw[bB];refine hsp.perm ?_;rw[<-j0,<-j0];exact List.Perm.append_right _ List.perm_append_comm
     .have r6:sh (dw us j (u,v)) j=v:=by show(dw us j (u,v) j).2=v;simp[dw]
      have hv2:fs (dw us j (u,v)) j=u:=by show(dw us j (u,v) j).1=u;simp[dw]
      have hv3:e' dst (sh (dw us j (u,v))) a0 (D.getD j [])=e' dst (sh us) a0 (D.getD j []):=Dh _ _ (λk hk2=>by show(dw us j (u,v) k).2=(us k).2;rw[hne k (λe=>eN (e▸dQ k hk2))]);rw[r6,hv2,hv3];exact hv
    .have Ct:=(j3.1 hj).resolve_right (λh=>nQ (by simpa using h));exact AK _ us _ fZ hlt (λk hk2=>(hne k (λe=>eN (e▸hk2))).symm) j Ct (fo j Ct)
  have abG:∀(u) v,∀k,k≠i->dw us i (u,v) k=us k:=λu v k r2=>by simp[dw,r2]
  have hc:=hcm i hi;unfold z7 at hc;by_cases p3:i∈LE
  .rw[if_pos p3]at hc;have hl:=hc.1 w1 _ hsp;rw[<-y4]
   have post:∀u w',ak aq FX w' (out _ i::((rd i).map _++((lD _ _ LE ins _).filter (λn=>!(ins i).contains n&&!(rd i).contains n)).map _))->nH _ _ w':=λu w' h=>
    abH u _ w' (abG u _) (by rw[if_pos p3]) (by rw[if_pos p3];exact h);by_cases hw:c6 (ops.getD i oh) (cZ ops (e' dst eX a0 (dG i)).tmps)=az
   .rw[if_pos hw]
    have hl2:=hl (λiV w'=>iV.defers=(e' _ eX a0 _).defers/\∃u,lF _ iV=bV i u/\nH _ _ w')
     (λu iV w' h1 h2 h3=>⟨h2,u,vB▸h1,post u w' h3⟩);rw[if_pos hw]at hl2;have aqf:=λd hd=>hsz' i d hi (vB.trans hd)
    have:=af3 (a:=_) (Qa:=λe _ w'=>match e with|.panic c=>QP c w'|_=>False) (K:=λv w'=>∃u,v=bV i u/\nH _ (dw us i (u,bV i u)) w') jO
     (λd hd=>by rw[rb];exact aqf d hd) (by rw[rb,rb]) (λc w h=>h) (λh=>h) hl2;refine agL (λbx w' ⟨v,e,h0,u,h1,h2⟩=>?_) this;refine hK.out _ _ w' ?_ (by rw[e,put_defers,Di]) h2;show lF (dst i) bx=(dw us i (u,bV i u) i).2;rw[vB,h0,h1];simp[dw]
   .rw[if_neg hw];have hl2:=hl (λiV w'=>∃u,lF _ iV=bV i u/\nH _ _ w') (λu iV w' h1 _ h3=>⟨u,h1,post u w' h3⟩);rw[if_neg hw]at hl2;obtain⟨u,h1,h2⟩:=hl2;have hz:=λt ht=>hsz' i t hi ht;rw[M4 _ _ _ (λt ht=>by rw[rb];exact hz t ht) (λ_=>aa)]at h1;refine hK.out _ _ w1 ?_ (by rw[put_defers,Di]) h2;rw[M4 _ _ _ (λt ht=>by rw[rb];exact hz t ht) (λ_=>aa),h1];show bV i u=(dw us i (u,bV i u) i).2;simp[dw]
  .rw[if_neg p3]at hc;have abe:=aj7.2 (λn hn=>p3 (hs.acE i hi n hn).2)
   have ab4:ak aq FX w1 ((rd i).map (dk bo out (fs us))++((lD bo.length ops.size LE ins done).filter (λn=>!(ins i).contains n&&!(rd i).contains n)).map (dk bo out (fs us))):=by have h:=hsp;rw[abe]at h⊢;simpa using h
   have post:∀v,v=C0 P _ w1 _ _->nH _ (dw us i ((us i).1,v)) w1:=λv hv=>
    abH _ v w1 (abG _ _) (by rw[if_neg p3];exact hv) (by rw[if_neg p3];exact ab4);have hz:∀t,dst i=ab t->t<(e' dst (sh us) a0 (D.getD i [])).tmps.size:=λt ht=>by rw[rb];exact hsz' i t hi ht
   have fin:∀v',(dst i=af->v'=a1)->v'=C0 P _ w1 _ _->K ((e' _ _ a0 _).put _ v') w1:=λv' hn e=>by refine hK.out _ _ w1 ?_ (by rw[put_defers,Di]) (post v' e);rw[M4 _ _ _ hz hn];show v'=(dw us i ((us i).1,v') i).2;simp[dw]
   rcases hc with⟨h3,h4⟩|⟨h3,h4⟩;·have h5:=h4 w1 _ ab4;rw[jO]at h5;have h6:=h3;rw[y4]at h6;rw[if_pos h6];unfold ih;rw[h5];show K _ _;rw[<-vB];exact fin _ (λh=>absurd h (hnone i hi p3)) (by unfold C0;rw[if_pos h6,h5])
   .have h6:=h3;rw[y4]at h6;rw[if_neg (by rw[h6];simp)];exact fin _ (λ_=>aa) (by unfold C0;rw[if_neg (by rw[h6];simp)])
 have h:=awI (Q:=Q) (QP:=QP) (U:=e7×aO) hk hsz' HU (λj _ us kA h=>by
  show(us j).2=(kA j).2;rw[h j (bM aa)]) apW
  (λdone us w' hall hlt ⟨h1,h2⟩=>by
    obtain⟨eX,hcm,iq⟩:=Z2 us;have fZ:Bj D _:=λj hj k hk2=>hall k (Nat.lt_trans (hk.lt j (hlt j hj) k hk2) (hlt j hj));have Sb:=agree _ us eX fZ hlt hcm h2;have bB:e' dst _ a0 _=e' _ eX a0 _:=Dh _ _ (λj hj=>(Sb j (hall j (kq.1 hj))).symm);rw[bB];refine iq w' ?_
    have bY:fin=lD bo.length ops.size LE ins done:=by rw[hs.fin];unfold lD;refine He (λn _=>?_);rw[agm,K4,K4];refine and_congr (or_congr_right (and_congr_right λh=>⟨λ_=>hall _ (hs.le _ h),λ_=>kq.2 (hs.le _ h)⟩)) ⟨λh c hc _=>h c hc (kq.2 hc),λh c hc _=>h c hc (hall c hc)⟩
    rw[bY];exact h1)
  ops.size [] (OA ops.size ao) (λ_=>({},a1)) w.drew
  (by rw[zT.2 (λj _=>a8)];simp) (λj d=>by
   by_cases hj:j<ops.size;·simp[hj]
   .simp[hj]) a8 a8 (λ_ h=>(fQ h).elim) ⟨by
    have e:(lD bo.length ops.size LE ins []).map (dk bo out (fs (λ_=>({},a1))))=bo:=by
     have bB:lD bo.length ops.size LE ins []=dG bo.length:=by
      unfold lD
      have h1:∀n,alive _ LE ins ops.size [] n=decide (n<bo.length):=λn=>by rw[agm,K4,decide_eq_true_eq];exact⟨λh=>h.1.resolve_right (λh=>by cases h.2),λh=>⟨bM h,λ_ _ h=>by cases h⟩⟩
      rw[He (λn _=>h1 n),List.range_add,List.filter_append,zT.2 (λn hn=>by simpa using hn),Hg.2 (λn hn=>by obtain⟨k,_,rfl⟩:=fL.1 hn;simp),List.append_nil]
     rw[bB];refine List.ext_getElem? (λn=>?_);rw[List.getElem?_map];by_cases hn:n<bo.length;·rw[List.getElem?_range hn];simp[dk,hn]
     .rw[zU (by simpa using hn),zU ad];rfl
    rw[e];exact I.aG (au.drew _),λ_ h=>(fQ h).elim⟩;exact h
end
end
end
section
open Go.RowKit Go.MapKept
section
variable {P:ee} {o:cU} {a:bT} {w:aM}
theorem fw{B k t:Nat}{cs v ty x}(ho:o.op=oc ty x)(hx:a.eval x=ax (ab ⟨B,k,af⟩))(hb:aU w B cs t)(hv:cs[k]?=ab v)(hu:(P.underlying ty).map (λd=>d.isRow)=ab ao):
 (bt a.eval o).run P w=a6 (c9 v) w:=by
 have hc:=hb.cell k hv;cases hq:P.underlying ty with
 |none=>grind
 |some d=>
  have hd:d.isRow=false:=aF
  have hagg:(isAgg ty).run P w=a6 ao w:=by unfold isAgg;rw[ga,gE hq w];cases d<;>simp_all
  unfold bt;simp[ho,hx,JS,Bn,loadVar,hagg,hc]
def mi{B k t:Nat}{cs cs' ty x}(ho:o.op=oc ty x)(hx:a.eval x=ax (ab ⟨B,k,af⟩))(hb:aU w B cs t)(hv:cs.extract k (k+cs'.size)=cs')(hk:k+cs'.size<=cs.size)(hu:(P.underlying ty).map (λd=>d.isRow)=ab az)(hi:(P.info? ty).map (·.size)=ab cs'.size):
 (bt a.eval o).run P w=a6 (c9 (av cs')) w:=by
 cases hq:P.underlying ty with
 |none=>grind
 |some d=>
  have hd:d.isRow=true:=aF;have:=eC (a:=a) (w:=w) ty x ho B k hx cs'.toList (hb.rangeAt k _ (λj v hj=>aF)) hq hd ad;simpa using this
def lay(cs:Array aO)(k:Nat):List aO->Array aO
 |[]=>cs
 |v::l=>lay (cs.setIfInBounds k v) (k+1) l
def lay_size l:∀(cs) k,(lay cs k l).size=cs.size:=by
 induction l with
 |nil=>intro cs k;rfl
 |cons v l ca=>grind[lay]
def Uj(B t:Nat):∀(l) w cs (k j),aU w B cs t->k+j+l.length<=cs.size->l.all (·.oneCell')=az->
 ∃w',(Bz ⟨B,k,af⟩ l j).run P w=a6 () w'/\aU w' B (lay cs (k+j) l) t/\au (λi=>i=B) w w'/\w'.heap.size=w.heap.size
 |[],w,cs,k,j,hb,_,_=>⟨w,aY,hb,au.refl _ _,aa⟩
 |v::l,w,cs,k,j,hb,hk,h1=>by
  simp only[List.all_cons,Bh]at h1;have hlt:k+j<cs.size:=aF;have hb2:=hb.setRow (cs.setIfInBounds (k+j) v);obtain⟨w',hr,h2,h3,h4⟩:=Uj B t l (w.setRow B (cs.setIfInBounds (k+j) v)) _ k (j+1) hb2 aF h1.2;refine⟨w',?_,h2,au.trans (au.setRow w B _) h3 (λ_ _ h=>h),by rw[h4];simp⟩;have nP:(⟨B,k,af⟩:bQ).add j=⟨B,k+j,af⟩:=Addr.add_mid _ _ _
  have hst:(store ⟨B,k+j,af⟩ v).run P w=a6 () (w.setRow B (cs.setIfInBounds (k+j) v)):=by rw[run_store P w _ v _ h1.1,hb.cell (k+j) (U6 hlt)];simp[hb.frozen (k+j),setCell_eq_setRow w B (k+j) cs t (0,0) v hb]
  simp only[Bz,ga,nP,hst,jc,hr]
theorem Np{B k t:Nat}{cs v ty x y}(ho:o.op=zw ty x y)(hx:a.eval x=ax (ab ⟨B,k,af⟩))(hy:a.eval y=v)(hb:aU w B cs t)(hk:k+v.cells.size<=cs.size)(hi:(P.info? ty).map (·.size)=ab v.cells.size)(h1:v.cells.all (·.oneCell')=az):
 ∃w',(bt a.eval o).run P w=a6 .skip w'/\aU w' B (lay cs k v.cells.toList) t/\au (λi=>i=B) w w'/\w'.heap.size=w.heap.size:=by
 obtain⟨w',hr,h2,h3,h4⟩:=Uj (P:=P) B t v.cells.toList w cs k 0 hb ad aF;refine⟨w',?_,h2,h3,h4⟩;cases hq:P.info? ty with
 |none=>grind
 |some i=>
  have hs:i.size=v.cells.size:=aF;unfold bt;simp only[ho,hx,hy,Instr.storeAt,Bn,storeVar,my,mS];simp[hq,hs,hr]
def Jh (t e sz:Nat) (x lo hi) (ho:o.op=Bo t x (ab lo) (ab hi) af) (ht:P.underlying t=ab (iF e)) (hs:(P.info? e).map (·.size)=ab sz) A (n c i q m:Nat)
 (hx:a.eval x=ae A n c) (kO:a.eval lo=J R (i:Int)) (yY:a.eval hi=J R (q:Int)) (hm:i+m=q) (h2:q<=c):
 (bt a.eval o).run P w=a6 (c9 (ae (fF A c i sz) m (c -i))) w:=by
 have h:=aff t e sz x lo hi ho ht hs A n c i q (w:=w) hx kO yY ad h2;rwa [show q -i=m by omega]at h
def A3 (t e sz:Nat) (x lo) (ho:o.op=Bo t x (ab lo) af af) (ht:P.underlying t=ab (iF e)) (hs:(P.info? e).map (·.size)=ab sz) A (n c i m:Nat)
 (hx:a.eval x=ae A n c) (kO:a.eval lo=J R (i:Int)) (hm:i+m=n) (h2:n<=c):
 (bt a.eval o).run P w=a6 (c9 (ae (fF A c i sz) m (c -i))) w:=by
 have h:=Us t e sz x lo ho ht hs A n c i (w:=w) hx kO ad h2;rwa [show n -i=m by omega]at h
def Q2(e:Ending)(K:aO->Prop):Prop:=match e with|.returned v=>K v|_=>False
end
section
variable {aq w w':aM} {FX:Nat->Prop} {l l':List bp} {s t:bp}
def ak.ek(h:ak aq FX w l)(i:Nat)(bL:Turned w w' s t)(hi:l[i]?=ab s:=by rfl)(hl:l.set i t=l':=by((try simp only[List.set_cons_zero,List.set_cons_succ]);rfl)):ak aq FX w' l':=hl▸h.Dg i hi bL
def ak.front(h:ak aq FX w l)(i:Nat)(hi:l[i]?=ab t:=by rfl)(hl:l.eraseIdx i=l':=by((try simp only[List.eraseIdx_cons_zero,List.eraseIdx_cons_succ]);rfl)):ak aq FX w (t::l'):=hl▸h.perm (T3 l i t hi)
def ak.aX{B:Nat}{cs:Array aO}{ty:gb}(h:ak aq FX w l)(i:Nat)(hi:l[i]?=ab (aj B cs ty):=by rfl):aU w B cs ty:=h.at i hi
theorem vt{B cs cs' ty}(k:au (λi=>i=B) w w')(h:aU w' B cs' ty):Turned w w' (aj B cs ty) (aj B cs' ty):=⟨k,h,λb hb=>⟨by have h2:b=B:=hb;rw[h2];exact aU.lt h,bM hb⟩⟩
def yz{B cs ty}(g:ar w w')(h:aU w' B cs ty)(kd:w.heap.size<=B):cf w w' (aj B cs ty):=⟨g,h,λb hb=>by have h2:b=B:=hb;rw[h2];exact⟨kd,aU.lt h⟩⟩
end
def ak.pick{aq w:aM}{FX:Nat->Prop}{l:List bp}(h:ak aq FX w l):∀{l':List bp} (idx:List Nat) (_:idx.map (λi=>l[i]?)=l'.map some:=by rfl) (_:decide idx.Nodup=true:=by kernel_rfl),ak aq FX w l'
 |[],[],_,_=>⟨h.only,λ_ h=>(fQ h).elim,λ_ h=>(fQ h).elim,Hc⟩
 |t::l',i::idx,hl,hn=>by
  simp at hl;have vJ:=List.nodup_cons.1 (of_decide_eq_true hn);have ca:=h.pick (l':=l') _ hl.2 (decide_eq_true vJ.2);refine⟨ca.only,λx hx=>?_,λx hx b hb=>?_,Hb (λx hx b h1 h3=>?_) ca.apart⟩
  .rcases gF.1 hx with rfl|hx;·exact h.at i hl.1
   .exact ca.holds x hx
  .rcases gF.1 hx with rfl|hx;·exact h.low x (cY hl.1) b hb
   .exact ca.low x hx b hb
  .have:ab x∈idx.map (λi=>l[i]?):=aF;obtain⟨j,hj,e⟩:=fL.1 this;exact h.ne hl.1 e (λe=>vJ.1 (e▸hj)) b h1 h3
def ak.dN{aq w FX l}(h:ak aq FX w l):ak aq FX w (emp::l):=h.new emp ⟨au.refl _ _,trivial,λ_ h=>h.elim⟩
def ak.kK{aq w:aM}{FX:Nat->Prop}{l:List bp}{A:Option bQ}{c:Nat}{bs:List Int}(h:ak aq FX w l)(i:Nat)(hi:l[i]?=ab (cg A c bs):=by rfl):e6 0 w A c bs:=h.at i hi
def ro(A:Option bQ)(bs:List Int):bp:=⟨eb A,λw=>bX w A bs,λw w' h _ hp lU=>by obtain⟨b0,lX,rfl,hc⟩:=hp lU;refine⟨b0,lX,rfl,λk hk=>?_⟩;have h1:=hc k hk;exact(DQ (w:=w) (h b0 ⟨lX,_,aa⟩ (u3 w _ h1))).trans h1⟩
section
variable {P:ee} {w:aM}
def alL(w:aM)(a p)n:(w.freeze a n).cell? p=w.cell? p:=by grind[WH,World.cell?]
def amg{t e B n c:Nat}{C}bs(hb:aU w B C e)(h9:C=(bs.map bb).toArray)(ht:P.underlying t=ab (iF e))(he:P.underlying e=ab (.int .u8)):
 ∃w',(convert t t (ae (ab ⟨B,0,af⟩) n c)).run P w=a6 (ae (ab ⟨B,0,af⟩) n c) w'/\Turned w w' (aj B C e) (ro (ab ⟨B,0,af⟩) bs):=by
 have Iu:w.shape? B=ab (e,C.size):=by grind[World.shape?]
 have hsz:(w.freeze ⟨B,C.size,af⟩ 1).heap.size=w.heap.size:=by grind[WH]
 refine⟨w.freeze ⟨B,C.size,af⟩ 1,by simp[convert,gE ht,gE he,markStringish,Iu],⟨aY,aY,aY,ad,λk _ hk=>?_⟩,λ_=>⟨B,0,rfl,λj hj=>?_⟩,λb ⟨o,sp,h⟩=>?_⟩
 .have hk2:¬B=k:=λh=>hk h.symm;grind[WH]
 .rw[alL,Nat.zero_add];refine hb.cell j ?_;subst h9;simp[hj]
 .injection h with h;injection h with h;subst h;exact⟨aF,bM aa⟩
def FF{o}{a:bT}{t e B n c:Nat}{C x}bs(ho:o.op=.convert t t x)(hx:a.eval x=ae (ab ⟨B,0,af⟩) n c)(hb:aU w B C e)(h9:C=(bs.map bb).toArray)(ht:P.underlying t=ab (iF e))(he:P.underlying e=ab (.int .u8)):
 ∃w',(bt a.eval o).run P w=a6 (c9 (ae (ab ⟨B,0,af⟩) n c)) w'/\Turned w w' (aj B C e) (ro (ab ⟨B,0,af⟩) bs):=by
 obtain⟨w',h1,h2⟩:=amg (P:=P) (n:=n) (c:=c) bs hb h9 ht he
 refine⟨w',?_,h2⟩;unfold bt;simp[ho,hx,h1]
def mL {fn p u ty} {t B:Nat} {cs tmps v} (h:fn.results=#[.cell p ty,.tmp u]) (hp:tmps.getD p a1=ax (ab ⟨B,0,af⟩)) (hv:tmps.getD u a1=v) (hb:aU w B cs t)
 (hu:(P.underlying ty).map (λd=>d.isRow)=ab az) (hi:(P.info? ty).map (·.size)=ab cs.size):(results fn tmps).run P w=a6 (.tuple #[av cs,v]) w:=by
 have qc:tmps[p]?.getD a1=ax (ab ⟨B,0,af⟩):=by simpa using hp
 cases hq:P.underlying ty with
 |none=>grind
 |some d=>grind[DS,results_cell_tmp,asAddr,jK,jc]
end
section
variable {P:ee} {ops:Array cU} {rest:List cU} {Q:iD->bT->aM->Prop} {o:cU} {a bx:bT} {w:aM} {v:aO} {aq:aM} {FX:Nat->Prop} {l l':List bp}
def ag (h:cL P ops Q rest bx w) (hw:c6 o (cZ ops a.tmps)=true:=by kernel_rfl) (hr:(bt a.eval o).run P w=a6 (c9 v) w:=by(go_simp;try with_reducible rfl))
 (ha:a.put o.dst v=bx:=by((try simp only[Act.put,List.setIfInBounds_toArray,List.set_cons_zero,List.set_cons_succ]);rfl)):cL P ops Q (o::rest) a w:=by
 subst ha;exact ry λK hK=>by grind[asz]
def aI (v:aO) (hr:(bt a.eval o).run P w=a6 (c9 v) w) (h:cL P ops Q rest bx w) (hw:c6 o (cZ ops a.tmps)=true:=by kernel_rfl)
 (ha:a.put o.dst v=bx:=by((try simp only[Act.put,List.setIfInBounds_toArray,List.set_cons_zero,List.set_cons_succ]);rfl)):cL P ops Q (o::rest) a w:=ag h hw hr ha
def ps (h:cL P ops Q rest bx w) (hw:c6 o (cZ ops a.tmps)=false:=by kernel_rfl)
 (ha:a.put o.dst a1=bx:=by((try simp only[Act.put,List.setIfInBounds_toArray,List.set_cons_zero,List.set_cons_succ]);rfl)):cL P ops Q (o::rest) a w:=by
 subst ha;exact ry λK hK=>by grind
def pl {B t:Nat} {cs:Array aO} {ty:gb} {x:iE} (I:ak aq FX w l) (i k:Nat) (h:cL P ops Q rest bx w) (hi:l[i]?=ab (aj B cs t):=by rfl) (ho:o.op=oc ty x:=by rfl) (hx:a.eval x=ax (ab ⟨B,k,af⟩):=by rfl)
 (hv:cs[k]?=ab v:=by((try simp only[List.getElem?_toArray,List.getElem?_cons_succ,List.getElem?_cons_zero])<;>rfl)) (hu:(P.underlying ty).map (λd=>d.isRow)=ab false:=by kernel_rfl) (hw:c6 o (cZ ops a.tmps)=true:=by kernel_rfl)
 (ha:a.put o.dst v=bx:=by((try simp only[Act.put,List.setIfInBounds_toArray,List.set_cons_zero,List.set_cons_succ]);rfl)):cL P ops Q (o::rest) a w:=
 ag h hw (fw ho hx (I.aX i hi) hv hu) ha
def bh {B t k:Nat} {cs:Array aO} {ty:gb} {x:iE} (I:ak aq FX w l) (i:Nat) (cs':Array aO) (h:cL P ops Q rest bx w) (hi:l[i]?=ab (aj B cs t):=by rfl) (ho:o.op=oc ty x:=by rfl) (hx:a.eval x=ax (ab ⟨B,k,af⟩):=by rfl)
 (hv:cs.extract k (k+cs'.size)=cs':=by kernel_rfl) (hk:k+cs'.size<=cs.size:=by exact(of_decide_eq_true ay)) (hu:(P.underlying ty).map (λd=>d.isRow)=ab true:=by kernel_rfl) (hz:(P.info? ty).map (·.size)=ab cs'.size:=by kernel_rfl) (hw:c6 o (cZ ops a.tmps)=true:=by kernel_rfl)
 (ha:a.put o.dst (av cs')=bx:=by((try simp only[Act.put,List.setIfInBounds_toArray,List.set_cons_zero,List.set_cons_succ]);rfl)):cL P ops Q (o::rest) a w:=
 ag h hw (mi ho hx (I.aX i hi) hv hk hu hz) ha
def bA {ty:gb} {z:aO} {bx:Nat->bT} (I:ak aq FX w l) (cs:Array aO) (h:∀B w',ak aq FX w' (aj B cs ty::l)->cL P ops Q rest (bx B) w') (ho:o.op=Vo ty:=by rfl) (hz:(P.info? ty).bind (·.zero)=ab z:=by rfl) (hc:z.cells=cs:=by rfl) (hw:c6 o (cZ ops a.tmps)=true:=by kernel_rfl)
 (ha:∀B,a.put o.dst (ax (ab ⟨B,0,af⟩))=bx B:=by(intro _;(try simp only[Act.put,List.setIfInBounds_toArray,List.set_cons_zero,List.set_cons_succ]);rfl)):cL P ops Q (o::rest) a w:=by
 subst hc;exact ry λK hK=>by rw[if_pos hw];exact adC ho z hz (λB w' h1 h2 h3 _=>by rw[ha];exact hK _ _ (h B w' (I.new _ (yz h2 h1 h3))))
def bG {ty:gb} {x:iE} {cs:Array aO} {bx:Nat->bT} (I:ak aq FX w l) (v:aO) (h:∀B w',ak aq FX w' (aj B cs ty::l)->cL P ops Q rest (bx B) w') (ho:o.op=.box ty x:=by rfl) (hx:a.eval x=v:=by rfl) (hc:v.cells=cs:=by rfl) (hw:c6 o (cZ ops a.tmps)=true:=by kernel_rfl)
 (ha:∀B,a.put o.dst (ax (ab ⟨B,0,af⟩))=bx B:=by(intro _;(try simp only[Act.put,List.setIfInBounds_toArray,List.set_cons_zero,List.set_cons_succ]);rfl)):cL P ops Q (o::rest) a w:=by
 subst hc;exact ry λK hK=>by rw[if_pos hw];exact adE x ho v hx (λB w' h1 h2 h3 _=>by rw[ha];exact hK _ _ (h B w' (I.new _ (yz h2 h1 h3))))
def fC {ty n:Nat} {parts:Array (Nat×iE)} {bx:Nat->bT} (I:ak aq FX w l) (cs:Array aO) (e:Nat) (h:∀B w',ak aq FX w' (aj B cs e::l)->cL P ops Q rest (bx B) w') (ho:o.op=Vp ty n parts:=by rfl)
 (hr:∀w:aM,(Vj ty n (parts.map λ(i,x)=>(i,a.eval x))).run P w=a6 (ae (ab ⟨w.heap.size,0,af⟩) n n) (w.alloc (bl cs e)):=by(intro _;kernel_rfl)) (hw:c6 o (cZ ops a.tmps)=true:=by kernel_rfl)
 (ha:∀B,a.put o.dst (ae (ab ⟨B,0,af⟩) n n)=bx B:=by(intro _;(try simp only[Act.put,List.setIfInBounds_toArray,List.set_cons_zero,List.set_cons_succ]);rfl)):cL P ops Q (o::rest) a w:=
 ry λK hK=>by rw[if_pos hw];exact adF ho hr (λB w' h1 h2 h3 _=>by rw[ha];exact hK _ _ (h B w' (I.new _ (yz h2 h1 h3))))
def a' {B t k:Nat} {cs cs':Array aO} {ty:gb} {x y:iE} (I:ak aq FX w l) (i:Nat) (v:aO) (h:∀w',ak aq FX w' l'->cL P ops Q rest bx w') (hi:l[i]?=ab (aj B cs t):=by rfl) (ho:o.op=zw ty x y:=by rfl) (hx:a.eval x=ax (ab ⟨B,k,af⟩):=by rfl) (hy:a.eval y=v:=by rfl)
 (hk:k+v.cells.size<=cs.size:=by exact(of_decide_eq_true ay)) (hz:(P.info? ty).map (·.size)=ab v.cells.size:=by kernel_rfl) (h1:v.cells.all (·.oneCell')=true:=by kernel_rfl)
 (hc:lay cs k v.cells.toList=cs':=by((try simp only[lay,Value.cells,List.setIfInBounds_toArray,List.set_cons_zero,List.set_cons_succ]);rfl)) (hl:l.set i (aj B cs' t)=l':=by((try simp only[List.set_cons_zero,List.set_cons_succ]);rfl)) (hw:c6 o (cZ ops a.tmps)=true:=by kernel_rfl)
 (ha:a.put o.dst a1=bx:=by((try simp only[Act.put,List.setIfInBounds_toArray,List.set_cons_zero,List.set_cons_succ]);rfl)):cL P ops Q (o::rest) a w:=by
 obtain⟨w',hr,h2,h3,_⟩:=Np (P:=P) ho hx hy (I.aX i hi) hk hz h1;refine ry λK hK=>?_;rw[if_pos hw];unfold ih;rw[hr];show K _ _;rw[ha];exact hK _ _ (h w' (I.ek i (vt h3 (hc▸h2)) hi hl))
def Yo{N n c CW aC e sz A aA xs ct w'}(h:Gl N w w' A n c aA CW aC e sz xs ct):Turned w w' (bk A n c e sz xs) (bk aA CW aC e sz ct):=
 ⟨h.2.2.1.only,h.1.le (cF _),λb hb=>⟨(h.1.lt hb).2,h.2.2.2 b hb⟩⟩
def ak.atR{A:Option bQ}{n c e sz:Nat}{xs:List aO}(h:ak aq FX w l)(i:Nat)(hi:l[i]?=ab (bk A n c e sz xs):=by rfl):Row 0 w A n c e sz xs:=h.at i hi
def lZ {s x:iE} {t e sz n c m c2:Nat} {A aJ:Option bQ} {xs news:List aO} {l':Option bQ->Nat->List bp} {bx:Option bQ->Nat->bT} (I:ak aq FX w l) (i bytes:Nat) (hr:Cells w sz aJ m news) (h1:∀u∈news,u.oneCell'=az)
 (h:∀aA aC w',ak aq FX w' (l' aA aC)->cL P ops Q rest (bx aA aC) w') (ho:o.op=.call {callee:=oR x0,args:=#[s,x],argTypes:=#[t,t]}:=by rfl) (hi:l[i]?=ab (bk A n c e sz xs):=by rfl) (hs:a.eval s=ae A n c:=by rfl) (hx:a.eval x=ae aJ m c2:=by rfl)
 (ht:P.underlying t=ab (iF e):=by kernel_rfl) (k3:(P.info? e).map (λi=>(i.zero.isSome,(i.zero.map (·.cells.size)).getD 0,i.size,i.bytes))=ab (az,sz,sz,bytes):=by kernel_rfl) (hb0:0<bytes:=by decide) (hby:(n+m)*bytes<=140737488355328:=by omega) (hl:∀aA aC,l.set i (bk aA (n+m) aC e sz (xs++news))=l' aA aC:=by(intro _ _;(try simp only[List.set_cons_zero,List.set_cons_succ]);rfl))
 (hw:c6 o (cZ ops a.tmps)=true:=by kernel_rfl) (ha:∀aA aC,a.put o.dst (ae aA (n+m) aC)=bx aA aC:=by(intro _ _;((try simp only[Act.put,List.setIfInBounds_toArray,List.set_cons_zero,List.set_cons_succ]);rfl))):cL P ops Q (o::rest) a w:=
 ry λK hK=>by rw[if_pos hw];exact adD 0 s x t e sz _ ho ht k3 A n c xs hs (I.atR i hi) aJ m c2 _ hx hr h1 hby hb0 (cF _) (λaA aC w' hap=>by rw[ha];exact hK _ _ (h aA aC w' (I.ek i (Yo hap) hi (hl aA aC))))
def C3 {s t:bp} (I:ak aq FX w l) (i:Nat) (hr:∃w',(bt a.eval o).run P w=a6 (c9 v) w'/\Turned w w' s t) (h:∀w',ak aq FX w' l'->cL P ops Q rest bx w') (hi:l[i]?=ab s:=by rfl) (hl:l.set i t=l':=by((try simp only[List.set_cons_zero,List.set_cons_succ]);rfl)) (hw:c6 o (cZ ops a.tmps)=true:=by kernel_rfl)
 (ha:a.put o.dst v=bx:=by((try simp only[Act.put,List.setIfInBounds_toArray,List.set_cons_zero,List.set_cons_succ]);rfl)):cL P ops Q (o::rest) a w:=by
 obtain⟨w',h1,h2⟩:=hr;refine ry λK hK=>?_;rw[if_pos hw];unfold ih;rw[h1];show K _ _;rw[ha];exact hK _ _ (h w' (I.ek i h2 hi hl))
def I3 {afS:Nat->aO} {afA:Nat->bp} {bx:Nat->bT} (I:ak aq FX w l) (hr:∃B w',(bt a.eval o).run P w=a6 (c9 (afS B)) w'/\cf w w' (afA B)) (h:∀B w',ak aq FX w' (afA B::l)->cL P ops Q rest (bx B) w') (hw:c6 o (cZ ops a.tmps)=true:=by kernel_rfl)
 (ha:∀B,a.put o.dst (afS B)=bx B:=by(intro _;(try simp only[Act.put,List.setIfInBounds_toArray,List.set_cons_zero,List.set_cons_succ]);rfl)):cL P ops Q (o::rest) a w:=by
 obtain⟨B,w',h1,h2⟩:=hr;refine ry λK hK=>?_;rw[if_pos hw];unfold ih;rw[h1];show K _ _;rw[ha];exact hK _ _ (h B w' (I.new _ h2))
def I2 {s t:bp} (I:ak aq FX w l) (i:Nat) (hr:∃w',(bt a.eval o).run P w=a6 .skip w'/\Turned w w' s t) (h:∀w',ak aq FX w' l'->cL P ops Q rest bx w') (hi:l[i]?=ab s:=by rfl) (hl:l.set i t=l':=by((try simp only[List.set_cons_zero,List.set_cons_succ]);rfl)) (hw:c6 o (cZ ops a.tmps)=true:=by kernel_rfl)
 (ha:a.put o.dst a1=bx:=by((try simp only[Act.put,List.setIfInBounds_toArray,List.set_cons_zero,List.set_cons_succ]);rfl)):cL P ops Q (o::rest) a w:=by
 obtain⟨w',h1,h2⟩:=hr;refine ry λK hK=>?_;rw[if_pos hw];unfold ih;rw[h1];show K _ _;rw[ha];exact hK _ _ (h w' (I.ek i h2 hi hl))
def aP{f:FuncId}{args:Array aO}{cp:Ending->aM->Prop}(hc:Calls P f args w cp)(h:∀e w',cp e w'->Q2 e λv=>cL P ops Q rest (a.put o.dst v) w')(hr:(bt a.eval o).run P w=a6 (.enter f args) w:=by(go_simp;try with_reducible rfl))(hw:c6 o (cZ ops a.tmps)=true:=by kernel_rfl):
 cL P ops Q (o::rest) a w:=ry λK hK=>by
 rw[if_pos hw];unfold ih;rw[hr];refine JO hc (λe w' he=>?_);grind[Q2]
def aQ(h:cL P ops Q rest bx w)(ha:a.put o.dst v=bx:=by((try simp only[Act.put,List.setIfInBounds_toArray,List.set_cons_zero,List.set_cons_succ]);rfl)):Q2 (.returned v) λv=>cL P ops Q rest (a.put o.dst v) w:=by subst ha;exact h
end
def BR(look:Nat->List Nat)(out:(Nat->e7)->Nat->bp):List Nat->Prop
 |[]=>True
 |i::l=>(∀us kA:Nat->e7,(∀k,k∈look i->us k=kA k)->out us i=out kA i)/\BR look out l
def BR.spec{look out}:∀{LE},BR look out LE->∀i,i∈LE->∀us kA:Nat->e7,(∀k,k∈look i->us k=kA k)->out us i=out kA i
 |[],_,i,hi=>absurd hi fQ
 |_::_,h,i,hi=>by
  rcases gF.1 hi with rfl|hi;·exact h.1
  .exact BR.spec h.2 i hi
def bN {P:ee} {ops:Array cU} {Q:iD->bT->aM->Prop} {aq:aM} {FX:Nat->Prop} {bo:List bp} {I':Nat} {w:aM} {a0:bT} (I:ak aq FX w bo) (LE:List Nat) (bV:Nat->e7->aO) (out:(Nat->e7)->Nat->bp) (ins rd look:Nat->List Nat) (fin:List Nat)
 (h9:∀us,cM P ops Q (ox ops) LE bV aq FX bo out ins rd fin (λ_ _=>False) us 0 ops.toList a0)
 (hloc:BR look out LE:=by(repeat' (first|exact trivial|refine And.intro (λus kA h=>?_) ?_|rfl|(simp(disch:=decide) only[h];done))))
 (hm:P.follows .mixedOrders=true:=by kernel_rfl) (hk:EA ops (ox ops) (yL ops)=true:=by kernel_rfl) (hsz:((dG ops.size).all λi=>match ox ops i with|some d=>decide (d<a0.tmps.size)|none=>LE.contains i)=true:=by kernel_rfl) (hs:FZ bo.length ops.size (yL ops) LE ins rd look fin=true:=by kernel_rfl):
 (Code.region I' ops az).wp P Q a0 w:=wp_region_any hm (UH I (yL ops) (ox ops) LE bV out ins rd look fin _ hk hsz hs (λ_ _ _ _ h=>h.elim) (hloc.spec) h9)
section
variable {P:ee} {ops:Array cU} {rest:List cU} {Q:iD->bT->aM->Prop} {o:cU} {a bx:bT} {v:aO} {aq:aM} {FX:Nat->Prop} {dst:Nat->Option mR} {LE:List Nat} {bV:Nat->e7->aO} {bo:List bp} {out:(Nat->e7)->Nat->bp} {ins rd:Nat->List Nat} {fin:List Nat} {QP:List rv->aM->Prop} {us:Nat->e7} {i:Nat}
def aK (h:cM P ops Q dst LE bV aq FX bo out ins rd fin QP us (i+1) rest bx) (hi:decide (i∈LE)=false:=by kernel_rfl) (hw:c6 o (cZ ops a.tmps)=true:=by kernel_rfl) (hr:∀w,(bt a.eval o).run P w=a6 (c9 v) w:=by(intro _;go_simp;try with_reducible rfl))
 (ha:a.put o.dst v=bx:=by((try simp only[Act.put,List.setIfInBounds_toArray,List.set_cons_zero,List.set_cons_succ]);rfl)):cM P ops Q dst LE bV aq FX bo out ins rd fin QP us i (o::rest) a:=by
 subst ha;exact aeX hi hw (λw _ _=>hr w) h
def aN (v:aO) (hr:∀w (Fr:List bp),ak aq FX w ((rd i).map (dk bo out us)++Fr)->(bt a.eval o).run P w=a6 (c9 v) w) (h:cM P ops Q dst LE bV aq FX bo out ins rd fin QP us (i+1) rest bx) (hi:decide (i∈LE)=false:=by kernel_rfl) (hw:c6 o (cZ ops a.tmps)=true:=by kernel_rfl)
 (ha:a.put o.dst v=bx:=by((try simp only[Act.put,List.setIfInBounds_toArray,List.set_cons_zero,List.set_cons_succ]);rfl)):cM P ops Q dst LE bV aq FX bo out ins rd fin QP us i (o::rest) a:=by
 subst ha;exact aeX hi hw hr h
def ds (h:cM P ops Q dst LE bV aq FX bo out ins rd fin QP us (i+1) rest bx) (hi:decide (i∈LE)=false:=by kernel_rfl) (hw:c6 o (cZ ops a.tmps)=false:=by kernel_rfl)
 (ha:a.put o.dst a1=bx:=by((try simp only[Act.put,List.setIfInBounds_toArray,List.set_cons_zero,List.set_cons_succ]);rfl)):cM P ops Q dst LE bV aq FX bo out ins rd fin QP us i (o::rest) a:=by
 subst ha;exact au0 hi hw h
def dl {B t:Nat} {cs:Array aO} {ty:gb} {x:iE} (j k:Nat) (h:cM P ops Q dst LE bV aq FX bo out ins rd fin QP us (i+1) rest bx) (ho:o.op=oc ty x:=by rfl) (hx:a.eval x=ax (ab ⟨B,k,af⟩):=by rfl) (hj:∀Fr,((rd i).map (dk bo out us)++Fr)[j]?=ab (aj B cs t):=by(intro _;rfl))
 (hv:cs[k]?=ab v:=by((try simp only[List.getElem?_toArray,List.getElem?_cons_succ,List.getElem?_cons_zero])<;>rfl)) (hu:(P.underlying ty).map (λd=>d.isRow)=ab false:=by kernel_rfl) (hi:decide (i∈LE)=false:=by kernel_rfl) (hw:c6 o (cZ ops a.tmps)=true:=by kernel_rfl)
 (ha:a.put o.dst v=bx:=by((try simp only[Act.put,List.setIfInBounds_toArray,List.set_cons_zero,List.set_cons_succ]);rfl)):cM P ops Q dst LE bV aq FX bo out ins rd fin QP us i (o::rest) a:=
 aN v (λ_ Fr I=>fw ho hx (I.aX j (hj Fr)) hv hu) h hi hw ha
def eI {B t k:Nat} {cs:Array aO} {ty:gb} {x:iE} (j:Nat) (cs':Array aO) (h:cM P ops Q dst LE bV aq FX bo out ins rd fin QP us (i+1) rest bx) (ho:o.op=oc ty x:=by rfl) (hx:a.eval x=ax (ab ⟨B,k,af⟩):=by rfl) (hj:∀Fr,((rd i).map (dk bo out us)++Fr)[j]?=ab (aj B cs t):=by(intro _;rfl))
 (hv:cs.extract k (k+cs'.size)=cs':=by kernel_rfl) (hk:k+cs'.size<=cs.size:=by exact(of_decide_eq_true ay)) (hu:(P.underlying ty).map (λd=>d.isRow)=ab true:=by kernel_rfl) (hz:(P.info? ty).map (·.size)=ab cs'.size:=by kernel_rfl) (hi:decide (i∈LE)=false:=by kernel_rfl) (hw:c6 o (cZ ops a.tmps)=true:=by kernel_rfl)
 (ha:a.put o.dst (av cs')=bx:=by((try simp only[Act.put,List.setIfInBounds_toArray,List.set_cons_zero,List.set_cons_succ]);rfl)):cM P ops Q dst LE bV aq FX bo out ins rd fin QP us i (o::rest) a:=
 aN _ (λ_ Fr I=>mi ho hx (I.aX j (hj Fr)) hv hk hu hz) h hi hw ha
def w5(h:KO P ops dst LE bV aq FX bo out ins rd QP us i o a)(hr:cM P ops Q dst LE bV aq FX bo out ins rd fin QP us (i+1) rest bx)(hi:decide (i∈LE)=true:=by kernel_rfl)(ha:a.put o.dst (bV i (us i))=bx:=by((try simp only[Act.put,List.setIfInBounds_toArray,List.set_cons_zero,List.set_cons_succ]);rfl)):cM P ops Q dst LE bV aq FX bo out ins rd fin QP us i (o::rest) a:=by subst ha;exact auZ hi h hr
def rR {ty:gb} {z:aO} (cs:Array aO) (h:cM P ops Q dst LE bV aq FX bo out ins rd fin QP us (i+1) rest bx) (ho:o.op=Vo ty:=by rfl) (hz:(P.info? ty).bind (·.zero)=ab z:=by rfl) (hc:z.cells=cs:=by rfl) (hl:∀u,bV i u=ax (ab ⟨u.b,0,af⟩):=by(intro _;rfl)) (nR:∀u,out (dw us i u) i=aj u.b cs ty:=by(intro _;rfl)) (hn:ins i=[]:=by rfl) (hd:dst i=o.dst:=by rfl) (hlt:(match o.dst with|some d=>decide (d<a.tmps.size)|none=>ao)=true:=by kernel_rfl)
 (hi:decide (i∈LE)=true:=by kernel_rfl) (hw:c6 o (cZ ops a.tmps)=true:=by kernel_rfl) (ha:a.put o.dst (bV i (us i))=bx:=by((try simp only[Act.put,List.setIfInBounds_toArray,List.set_cons_zero,List.set_cons_succ]);rfl)):cM P ops Q dst LE bV aq FX bo out ins rd fin QP us i (o::rest) a:=by
 refine w5 (λw Fr I K hK=>?_) h hi ha;subst hc;rw[if_pos hw];rw[hn]at I;refine adC ho z hz (λB w' h1 h2 h3 _=>hK.out {b:=B} _ _ ?_ (put_defers _ _ _) ?_)
 .rw[hd,hl];cases hq:o.dst with
  |none=>grind
  |some d=>simp only[hq,decide_eq_true_eq]at hlt;simp[lF,u0,tw,hlt]
 .rw[nR];exact I.new _ (yz h2 h1 h3)
def amH {ty:gb} {x:iE} {cs:Array aO} (v:aO) (h:cM P ops Q dst LE bV aq FX bo out ins rd fin QP us (i+1) rest bx) (ho:o.op=.box ty x:=by rfl) (hx:a.eval x=v:=by rfl) (hc:v.cells=cs:=by rfl) (hl:∀u,bV i u=ax (ab ⟨u.b,0,af⟩):=by(intro _;rfl)) (nR:∀u,out (dw us i u) i=aj u.b cs ty:=by(intro _;rfl)) (hn:ins i=[]:=by rfl) (hd:dst i=o.dst:=by rfl) (hlt:(match o.dst with|some d=>decide (d<a.tmps.size)|none=>ao)=true:=by kernel_rfl)
 (hi:decide (i∈LE)=true:=by kernel_rfl) (hw:c6 o (cZ ops a.tmps)=true:=by kernel_rfl) (ha:a.put o.dst (bV i (us i))=bx:=by((try simp only[Act.put,List.setIfInBounds_toArray,List.set_cons_zero,List.set_cons_succ]);rfl)):cM P ops Q dst LE bV aq FX bo out ins rd fin QP us i (o::rest) a:=by
 refine w5 (λw Fr I K hK=>?_) h hi ha;subst hc;rw[if_pos hw];rw[hn]at I;refine adE x ho v hx (λB w' h1 h2 h3 _=>hK.out {b:=B} _ _ ?_ (put_defers _ _ _) ?_)
 .rw[hd,hl];cases hq:o.dst with
  |none=>grind
  |some d=>simp only[hq,decide_eq_true_eq]at hlt;simp[lF,u0,tw,hlt]
 .rw[nR];exact I.new _ (yz h2 h1 h3)
def lN {ty n:Nat} {parts:Array (Nat×iE)} (cs:Array aO) (e:Nat) (h:cM P ops Q dst LE bV aq FX bo out ins rd fin QP us (i+1) rest bx) (ho:o.op=Vp ty n parts:=by rfl) (hr:∀w:aM,(Vj ty n (parts.map λ(i,x)=>(i,a.eval x))).run P w=a6 (ae (ab ⟨w.heap.size,0,af⟩) n n) (w.alloc (bl cs e)):=by(intro _;kernel_rfl))
 (hl:∀u,bV i u=ae (ab ⟨u.b,0,af⟩) n n:=by(intro _;rfl)) (nR:∀u,out (dw us i u) i=aj u.b cs e:=by(intro _;rfl)) (hn:ins i=[]:=by rfl) (hd:dst i=o.dst:=by rfl) (hlt:(match o.dst with|some d=>decide (d<a.tmps.size)|none=>ao)=true:=by kernel_rfl)
 (hi:decide (i∈LE)=true:=by kernel_rfl) (hw:c6 o (cZ ops a.tmps)=true:=by kernel_rfl) (ha:a.put o.dst (bV i (us i))=bx:=by((try simp only[Act.put,List.setIfInBounds_toArray,List.set_cons_zero,List.set_cons_succ]);rfl)):cM P ops Q dst LE bV aq FX bo out ins rd fin QP us i (o::rest) a:=by
 refine w5 (λw Fr I K hK=>?_) h hi ha;rw[if_pos hw];rw[hn]at I;refine adF ho hr (λB w' h1 h2 h3 _=>hK.out {b:=B} _ _ ?_ (put_defers _ _ _) ?_)
 .rw[hd,hl];cases hq:o.dst with
  |none=>grind
  |some d=>simp only[hq,decide_eq_true_eq]at hlt;simp[lF,u0,tw,hlt]
 .rw[nR];exact I.new _ (yz h2 h1 h3)
def gi {B t k m:Nat} {cs cs':Array aO} {ty:gb} {x y:iE} (v:aO) (h:cM P ops Q dst LE bV aq FX bo out ins rd fin QP us (i+1) rest bx) (hn:ins i=[m]:=by rfl) (hm:dk bo out us m=aj B cs t:=by rfl) (ho:o.op=zw ty x y:=by rfl) (hx:a.eval x=ax (ab ⟨B,k,af⟩):=by rfl) (hy:a.eval y=v:=by rfl)
 (hk:k+v.cells.size<=cs.size:=by exact(of_decide_eq_true ay)) (hz:(P.info? ty).map (·.size)=ab v.cells.size:=by kernel_rfl) (h1:v.cells.all (·.oneCell')=true:=by kernel_rfl)
 (hc:lay cs k v.cells.toList=cs':=by((try simp only[lay,Value.cells,List.setIfInBounds_toArray,List.set_cons_zero,List.set_cons_succ]);rfl)) (hl:∀u,bV i u=undef:=by(intro _;rfl)) (nR:∀u,out (dw us i u) i=aj B cs' t:=by(intro _;rfl)) (hd:dst i=none:=by rfl) (j7:o.dst=none:=by rfl)
 (hi:decide (i∈LE)=true:=by kernel_rfl) (hw:c6 o (cZ ops a.tmps)=true:=by kernel_rfl) (ha:a.put o.dst (bV i (us i))=bx:=by((try simp only[Act.put,List.setIfInBounds_toArray,List.set_cons_zero,List.set_cons_succ]);rfl)):cM P ops Q dst LE bV aq FX bo out ins rd fin QP us i (o::rest) a:=by
 refine w5 (λw Fr I K hK=>?_) h hi ha;rw[if_pos hw];rw[hn]at I;have kY:ak aq FX w (aj B cs t::((rd i).map (dk bo out us)++Fr)):=aF;obtain⟨w',hr,h2,h3,_⟩:=Np (P:=P) ho hx hy (kY.aX 0 aa) hk hz h1;unfold ih;rw[hr];show K _ _;refine hK.out {} _ _ (by rw[hd,hl,j7];rfl) (put_defers _ _ _) ?_;rw[nR];exact kY.zm (vt h3 (hc▸h2))
def ub {s x:iE} {t e sz n c m c2 k:Nat} {A aJ:Option bQ} {xs news:List aO} (bytes:Nat) (hr:∀w (Fr:List bp),ak aq FX w ((ins i).map (dk bo out us)++((rd i).map (dk bo out us)++Fr))->Cells w sz aJ m news) (h1:∀u∈news,u.oneCell'=az) (h:cM P ops Q dst LE bV aq FX bo out ins rd fin QP us (i+1) rest bx)
 (hn:ins i=[k]:=by rfl) (hk:dk bo out us k=bk A n c e sz xs:=by rfl) (ho:o.op=.call {callee:=oR x0,args:=#[s,x],argTypes:=#[t,t]}:=by rfl) (hs:a.eval s=ae A n c:=by rfl) (hx:a.eval x=ae aJ m c2:=by rfl) (ht:P.underlying t=ab (iF e):=by kernel_rfl) (k3:(P.info? e).map (λi=>(i.zero.isSome,(i.zero.map (·.cells.size)).getD 0,i.size,i.bytes))=ab (az,sz,sz,bytes):=by kernel_rfl) (hb0:0<bytes:=by decide) (hby:(n+m)*bytes<=140737488355328:=by omega)
 (hl:∀u,bV i u=ae u.A (n+m) u.c:=by(intro _;rfl)) (nR:∀u,out (dw us i u) i=bk u.A (n+m) u.c e sz (xs++news):=by(intro _;rfl)) (hd:dst i=o.dst:=by rfl) (hlt:(match o.dst with|some d=>decide (d<a.tmps.size)|none=>ao)=true:=by kernel_rfl)
 (hi:decide (i∈LE)=true:=by kernel_rfl) (hw:c6 o (cZ ops a.tmps)=true:=by kernel_rfl) (ha:a.put o.dst (bV i (us i))=bx:=by((try simp only[Act.put,List.setIfInBounds_toArray,List.set_cons_zero,List.set_cons_succ]);rfl)):cM P ops Q dst LE bV aq FX bo out ins rd fin QP us i (o::rest) a:=by
 refine w5 (λw Fr I K hK=>?_) h hi ha;rw[if_pos hw];have hr:=hr w Fr I;rw[hn]at I;have kY:ak aq FX w (bk A n c e sz xs::((rd i).map (dk bo out us)++Fr)):=aF;refine adD 0 s x t e sz _ ho ht k3 A n c xs hs (kY.atR 0 aa) aJ m c2 _ hx hr h1 hby hb0 (cF _) (λaA aC w' hap=>hK.out {A:=aA,c:=aC} _ _ ?_ (put_defers _ _ _) ?_)
 .rw[hd,hl];cases hq:o.dst with
  |none=>grind
  |some d=>simp only[hq,decide_eq_true_eq]at hlt;simp[lF,u0,tw,hlt]
 .rw[nR];exact kY.zm (Yo hap)
def HA {k:Nat} {s t:bp} (v:aO) (hr:∀w (Fr:List bp),ak aq FX w ((ins i).map (dk bo out us)++((rd i).map (dk bo out us)++Fr))->∃w',(bt a.eval o).run P w=a6 (c9 v) w'/\Turned w w' s t) (h:cM P ops Q dst LE bV aq FX bo out ins rd fin QP us (i+1) rest bx)
 (hn:ins i=[k]:=by rfl) (hk:dk bo out us k=s:=by rfl) (hl:∀u,bV i u=(if o.dst=af then a1 else v):=by(intro _;rfl)) (nR:∀u,out (dw us i u) i=t:=by(intro _;rfl)) (hd:dst i=o.dst:=by rfl) (hlt:(match o.dst with|some d=>decide (d<a.tmps.size)|none=>az)=true:=by kernel_rfl)
 (hi:decide (i∈LE)=true:=by kernel_rfl) (hw:c6 o (cZ ops a.tmps)=true:=by kernel_rfl) (ha:a.put o.dst (bV i (us i))=bx:=by((try simp only[Act.put,List.setIfInBounds_toArray,List.set_cons_zero,List.set_cons_succ]);rfl)):cM P ops Q dst LE bV aq FX bo out ins rd fin QP us i (o::rest) a:=by
 refine w5 (λw Fr I K hK=>?_) h hi ha;rw[if_pos hw];obtain⟨w',h1,h2⟩:=hr w Fr I;rw[hn]at I;have kY:ak aq FX w (s::((rd i).map (dk bo out us)++Fr)):=aF;unfold ih;rw[h1];show K _ _;refine hK.out {} _ _ ?_ (put_defers _ _ _) ?_
 .rw[hd,hl];cases hq:o.dst with
  |none=>rfl
  |some d=>simp only[hq,decide_eq_true_eq]at hlt;simp[lF,u0,tw,hlt]
 .rw[nR];exact kY.zm h2
def Lm {k:Nat} {s t:bp} (hr:∀w (Fr:List bp),ak aq FX w ((ins i).map (dk bo out us)++((rd i).map (dk bo out us)++Fr))->∃w',(bt a.eval o).run P w=a6 .skip w'/\Turned w w' s t) (h:cM P ops Q dst LE bV aq FX bo out ins rd fin QP us (i+1) rest bx)
 (hn:ins i=[k]:=by rfl) (hk:dk bo out us k=s:=by rfl) (hl:∀u,bV i u=undef:=by(intro _;rfl)) (nR:∀u,out (dw us i u) i=t:=by(intro _;rfl)) (hd:dst i=o.dst:=by rfl) (hlt:(match o.dst with|some d=>decide (d<a.tmps.size)|none=>az)=true:=by kernel_rfl)
 (hi:decide (i∈LE)=true:=by kernel_rfl) (hw:c6 o (cZ ops a.tmps)=true:=by kernel_rfl) (ha:a.put o.dst (bV i (us i))=bx:=by((try simp only[Act.put,List.setIfInBounds_toArray,List.set_cons_zero,List.set_cons_succ]);rfl)):cM P ops Q dst LE bV aq FX bo out ins rd fin QP us i (o::rest) a:=by
 refine w5 (λw Fr I K hK=>?_) h hi ha;rw[if_pos hw];obtain⟨w',h1,h2⟩:=hr w Fr I;rw[hn]at I;have kY:ak aq FX w (s::((rd i).map (dk bo out us)++Fr)):=aF;unfold ih;rw[h1];show K _ _;refine hK.out {} _ _ ?_ (put_defers _ _ _) ?_
 .rw[hd,hl];cases hq:o.dst with
  |none=>rfl
  |some d=>simp only[hq,decide_eq_true_eq]at hlt;simp[lF,u0,tw]
 .rw[nR];exact kY.zm h2
def du {f:FuncId} {args:Array aO} (hc:∀w (Fr:List bp),ak aq FX w ((ins i).map (dk bo out us)++((rd i).map (dk bo out us)++Fr))->Calls P f args w λe w'=>∃u,e=.returned (bV i u)/\ak aq FX w' (out (dw us i u) i::((rd i).map (dk bo out us)++Fr))) (h:cM P ops Q dst LE bV aq FX bo out ins rd fin QP us (i+1) rest bx)
 (hr:∀w,(bt a.eval o).run P w=a6 (.enter f args) w:=by(intro _;go_simp;try with_reducible rfl)) (hd:dst i=o.dst:=by rfl) (hlt:(match o.dst with|some d=>decide (d<a.tmps.size)|none=>ao)=true:=by kernel_rfl) (hi:decide (i∈LE)=true:=by kernel_rfl) (hw:c6 o (cZ ops a.tmps)=true:=by kernel_rfl) (ha:a.put o.dst (bV i (us i))=bx:=by((try simp only[Act.put,List.setIfInBounds_toArray,List.set_cons_zero,List.set_cons_succ]);rfl)):cM P ops Q dst LE bV aq FX bo out ins rd fin QP us i (o::rest) a:=by
 refine w5 (λw Fr I K hK=>?_) h hi ha;rw[if_pos hw];unfold ih;rw[hr];refine JO (hc w Fr I) (λe w' ⟨u,he,h2⟩=>?_);subst he;refine hK.out u _ _ ?_ (put_defers _ _ _) h2;rw[hd];cases hq:o.dst with
 |none=>grind
 |some d=>simp only[hq,decide_eq_true_eq]at hlt;simp[lF,u0,tw,hlt]
end
def bc(w:World):ak w (λ_=>False) w []:=ak.init w λ_=>False
end
end Go.Proofs.YtcmhplknoglbkaaGreat
