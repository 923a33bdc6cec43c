/- Part 2 of the proof of TopConvertsSaid. -/
import Derived.Deep.RegionHeld
import Derived.Laws.Rows
import Derived.Laws.Tables
import Derived.Laws.CopyRow
import Derived.Deep.MidRow
import Derived.Laws.MakeOwn
import Derived.Test.YtcmhplknoglbkaaGreat0
import Derived.Test.YtcmhplknoglbkaaGreat1
set_option linter.all false
set_option maxRecDepth 100000
set_option maxHeartbeats 4000000
open Go.Proofs.Tryz
open Array renaming getElem?_eq_some_iff->pf
open Bool renaming and_eq_true->vO,true->aB
open Go renaming Act->bV,Addr->bW,Oper->cR,Program->ew,TypeId->gm,Value->aP,World->aN,asIntOf->y',execOp->bw,grownCap->xG,heap_alloc_new->ff,loadCellsFrom->OT,run_underlying->gG,sizeOf->mu,typeInfo->mV,undef->aZ,yielded->cY
open Go.Act renaming eval->uJ,put->tj
open Go.Addr renaming add->vR
open Go.Builtin renaming append_->oK,firstCells->q8,lenOf->vT,zeroCells->mT
open Go.Instr renaming loadAt->Jk,slice->Oc,sliceAt->Od,sliceBound->Oe,sliceBounds->Of,sureAddr->AM
open Go.IntKind renaming i64->R
open Go.Next renaming value->c8
open Go.Obj renaming cells->bf
open Go.Op renaming slice->AN
open Go.Oper renaming upon->afW,wp->hC
open Go.Region.Mode renaming any->wb
open Go.Region renaming binds->xF,noSelect->OJ,wanted->c4
open Go.Result renaming andThen_ok->ji,ok->a8
open Go.Sem renaming run_bind->gl,run_pure->jR
open Go.TypeDesc renaming slice->hU
open Go.Value renaming int->J,pointer->ay,slice->ad
open Inhabited renaming default->n3
open List.Pairwise renaming cons->Gm,nil->Gn
open List.Perm renaming refl->A9,swap->Dr
open List renaming all_eq_true->Ds,eq_nil_of_length_eq_zero->jH,mem_cons->gz,mem_cons_of_mem->pA,mem_cons_self->sv,mem_of_getElem?->cM,mem_range->m',not_mem_nil->gb,pairwise_cons->u6,range->dG
open Nat renaming add_mul->Bd,le_refl->cp,le_trans->eD,lt_of_lt_of_le->u9,zero_le->cQ
open Option renaming map_some->oT,none->af,some->ab
open Option.some renaming injEq->wC
open Or renaming inl->bJ,inr->b3
namespace Go.Proofs.YtcmhplknoglbkaaGreat
section
open Go
section
variable {P:ew} {ops:Array cR} {Q:Exit->bV->aN->Prop}
def e8(dst:Nat->Option Tmp)(val:Nat->aP):bV->List Nat->bV
 |a,[]=>a
 |a,j::l=>e8 dst val (a.put (dst j) (val j)) l
def dA{U:Type}(us:Nat->U)(i:Nat)(u:U):Nat->U:=λk=>if k=i then u else us k
def lC(d:Option Tmp)(a:bV):Value:=match d with
 |some t=>a.eval (.tmp t)
 |none=>aZ
def oo(ops:Array cR)(j:Nat):Option Tmp:=(ops[j]?).bind (·.dst)
def adp(a:bV)d v(t:Nat):(a.put d v).tmps[t]?=if d=ab t/\t<a.tmps.size then ab v else a.tmps[t]?:=by
 cases d with
 |none=>rfl
 |some d=>grind[tj]
def put_defers(a:bV)d v:(a.put d v).defers=a.defers:=by cases d<;>rfl
def adq(a:bV)d v:(a.put d v).tmps.size=a.tmps.size:=by cases d<;>simp[tj]
variable {dst:Nat->Option Tmp} {val val':Nat->aP}
theorem CE:∀(l) a,(e8 dst val a l).defers=a.defers
 |[],_=>aa
 |_::l,a=>(CE l _).trans (put_defers a _ _)
theorem qX:∀(l) a,(e8 dst val a l).tmps.size=a.tmps.size
 |[],_=>aa
 |_::l,a=>(qX l _).trans (adq a _ _)
theorem Fk{t:Nat}:∀(l) a,(∀j∈l,dst j≠ab t)->(e8 dst val a l).tmps[t]?=a.tmps[t]?
 |[],_,_=>aa
 |j::l,a,h=>by have h1:=Fk l (a.put (dst j) (val j)) (λk hk=>h k (pA _ hk));rw[e8,h1,adp,if_neg (λe=>h j (sv ..) e.1)]
theorem IM{j t:Nat}(ht:dst j=ab t):∀(l) a,(∀i∈l,dst i=ab t->i=j)->j∈l->t<a.tmps.size->(e8 dst val a l).tmps[t]?=ab (val j)
 |[],_,_,h,_=>by grind
 |i::l,a,hu,hm,hs=>by
  by_cases hl:j∈l;·exact IM ht l _ (λk hk=>hu k (pA _ hk)) hl (by rw[adq];exact hs)
  .have hi:i=j:=by
    rcases gz.1 hm with h|h;·exact h.symm
    .exact absurd h hl
   subst hi;rw[e8,Fk l _ (λk hk e=>hl (hu k (pA _ hk) e▸hk)),adp,if_pos ⟨ht,hs⟩]
theorem TX i:∀(l) a,e8 dst val a (l++[i])=(e8 dst val a l).put (dst i) (val i)
 |[],_=>aa
 |_::l,_=>TX i l _
theorem CD:∀(l) a,(∀j∈l,val j=val' j)->e8 dst val a l=e8 dst val' a l
 |[],_,_=>aa
 |j::l,a,h=>by rw[e8,e8,h j (sv ..)];exact CD l _ (λk hk=>h k (pA _ hk))
def ajz{a b:bV}(h1:a.tmps=b.tmps)(h2:a.defers=b.defers):a=b:=by cases a;cases b;grind
def au3{n}(hu:∀i j,i<n->j<n->i≠j->∀t,dst i=ab t->dst j≠ab t){l l'}a(hl:∀j∈l,j<n)(h:∀j,j∈l↔j∈l'):
 e8 dst val a l=e8 dst val a l':=by
 refine ajz ?_ (by grind[CE]);refine Array.ext_getElem? (λt=>?_);grind[IM,Fk,qX]
def DW(ops:Array cR)(dst:Nat->Option Tmp)(D:List (List Nat)):Bool:=
 OJ ops&&(dG ops.size).all λi=>
  (dst i==oo ops i)&&
  ((ops.getD i n3).after.all λe=>!xF wb e||(D.getD i []).contains e.on)&&
  ((D.getD i []).all λk=>decide (k<i)&&((D.getD k []).all λm=>(D.getD i []).contains m)&&(ops.getD i n3).after.any λe=>xF wb e&&(e.on==k||(D.getD e.on []).contains k))&&
  ((dG ops.size).all λj=>(i==j||dst i==af||dst i !=dst j)&&
    (((ops.getD i n3).looksAt ops).all λt=>dst j !=ab t||i==j||(D.getD i []).contains j||(D.getD j []).contains i))
structure Jd (ops:Array cR) (dst:Nat->Option Tmp) (D:List (List Nat)):Prop where
 uA:OJ ops=aB
 Q1:∀i,i<ops.size->dst i=oo ops i
 after:∀i o,ops[i]?=ab o->∀e∈o.after,xF wb e=aB->e.on∈D.getD i []
 lt:∀i,i<ops.size->∀k∈D.getD i [],k<i
 trans:∀i,i<ops.size->∀k∈D.getD i [],∀m∈D.getD k [],m∈D.getD i []
 reach:∀i o,ops[i]?=ab o->∀k∈D.getD i [],∃e∈o.after,xF wb e=aB/\(e.on=k\/k∈D.getD e.on [])
 uniq:∀i j,i<ops.size->j<ops.size->i≠j->∀t,dst i=ab t->dst j≠ab t
 looks:∀i o,ops[i]?=ab o->∀t∈o.looksAt ops,∀j,j<ops.size->dst j=ab t->i=j\/j∈D.getD i []\/i∈D.getD j []
def amf{D}(h:DW ops dst D=aB):Jd ops dst D:=by
 unfold DW at h;rw[vO,Ds]at h;obtain⟨h0,h⟩:=h
 have h2:∀i,i<ops.size->(dst i=oo ops i)/\(∀e∈(ops.getD i n3).after,xF wb e=aB->e.on∈D.getD i [])/\
  (∀k∈D.getD i [],(k<i/\∀m∈D.getD k [],m∈D.getD i [])/\∃e∈(ops.getD i n3).after,xF wb e=aB/\(e.on=k\/k∈D.getD e.on []))/\
  (∀j,j<ops.size->(i=j\/dst i=af\/dst i≠dst j)/\∀t∈(ops.getD i n3).looksAt ops,dst j=ab t->i=j\/j∈D.getD i []\/i∈D.getD j []):=by
  intro i hi;have:=h i (m'.2 hi);simp only[vO,beq_iff_eq,Ds,List.contains_eq_mem,decide_eq_true_eq,Bool.or_eq_true,bne_iff_ne,m',Array.all_eq_true_iff_forall_mem,Bool.not_eq_true',Array.any_eq_true']at this;grind
 have pU:∀i o,ops[i]?=ab o->i<ops.size/\ops.getD i n3=o:=λi o ho=>by obtain⟨hi,e⟩:=pf.1 ho;exact⟨hi,by simp[hi,e]⟩
 refine⟨h0,λi hi=>(h2 i hi).1,λi o ho e he hb=>?_,λi hi k hk=>((h2 i hi).2.2.1 k hk).1.1,λi hi k hk=>((h2 i hi).2.2.1 k hk).1.2,λi o ho k hk=>?_,λi j hi hj hL t e=>?_,λi o ho t ht j hj e=>?_⟩;·grind
 .obtain⟨hi,b9⟩:=pU i o ho;exact b9▸((h2 i hi).2.2.1 k hk).2
 .grind
 .grind
def T3 o(a b:bV)(h:∀t∈o.looksAt ops,a.tmps[t]?=b.tmps[t]?):c4 o (cY ops a.tmps)=c4 o (cY ops b.tmps):=by
 unfold c4;cases hg:o.guard with
 |none=>rfl
 |some anB=>
  obtain⟨g,want⟩:=anB
  have hy:cY ops a.tmps g=cY ops b.tmps g:=by
   unfold cY;cases ht:(ops[g]?).bind (·.dst)with
   |none=>rfl
   |some t=>grind[Oper.looksAt]
  simp only[hy]
def eval_congr o(a b:bV)(hs:∀cs c,o.op≠.select cs c)(h:∀t∈o.looksAt ops,a.tmps[t]?=b.tmps[t]?):bw a.eval o=bw b.eval o:=
 execOp_congr o hs λx hx=>by
  cases x with
  |tmp t=>
   have:=h t (List.mem_append_left _ (List.mem_filterMap.2 ⟨.tmp t,aG,aa⟩));simp[uJ,this]
  |_=>rfl
def Mu(a:bV)(d:Option Tmp)v(h:∀t,d=ab t->t<a.tmps.size)(hd:d=af->v=aZ):lC d (a.put d v)=v:=by
 cases d with
 |none=>exact(hd aa).symm
 |some t=>simp[lC,uJ,tj,h t aa]
theorem MD(a:bV)(d:Option Tmp)v(h:∀t,d=ab t->t<a.tmps.size):a.put d v=a.put d (lC d (a.put d v)):=by
 cases d with
 |none=>rfl
 |some t=>simp[lC,uJ,tj,h t aa]
def afh {o a b w} {K:aP->aN->Prop} {Qc Qa} (he:bw b.eval o=bw a.eval o) (Lk:∀d,o.dst=ab d->d<b.tmps.size) (hsz:b.tmps.size=a.tmps.size)
 (D8:∀c w,Qc (.panic c) b w->Qa (.panic c) a w) (cj:LetsOut Qc->LetsOut Qa)
 (h:o.wp P b w (λiE w'=>iE.defers=b.defers/\K (lC o.dst iE) w') Qc):o.wp P a w (λbz w'=>∃v,bz=a.put o.dst v/\lC o.dst bz=v/\K v w') Qa:=by
 have aod:=λd hd=>hsz▸Lk d hd
 have hout:∀v,lC o.dst (b.put o.dst v)=lC o.dst (a.put o.dst v):=λv=>by
  cases hd:o.dst with
  |none=>rfl
  |some t=>simp[lC,uJ,tj,Lk t hd,aod t hd]
 unfold hC at*;rw[he]at h;generalize (bw a.eval o).run P w=r at*;cases r with
 |ok n w'=>
  cases n<;>simp only[afW]at h⊢;case value u=>grind[MD]
  case skip=>grind[MD]
  case defer d=>
   have h1:=h.1;rw[put_defers]at h1;have:=congrArg List.length h1;simp at this
  case enter f args=>
   refine Calls.mono h λe M' he=>?_;grind[MD]
  grind[Rows.mono,MD]
 |halt x w'=>
  cases x<;>simp only[afW]at h⊢;case panic u=>grind
variable {U:Type}
structure Kk where
 A:Option bW
 b:Nat
 c:Nat
def Cm(P:ew)(ops:Array cR)(CH:aN)(o:cR)(a:bV):Value:=
 if c4 o (cY ops a.tmps)=aB then(match(bw a.eval o).run P CH with|.ok (c8 v) _=>v|_=>aZ)else aZ
section
variable {D:List (List Nat)} {LE:List Nat} {bU:Nat->Kk->aP} {cn:Nat->(Nat->Kk)->aN->Prop} {T:aN->Prop} {E:Nat->(Nat->Kk)->aN->aN->Prop} {QP:List PanicEntry->aN->Prop} {axn:Nat->aN->Prop} {us:Nat->Kk}
end
def acd {a0 val val' D} (hk:Jd ops dst D) {i o} (ho:ops[i]?=ab o) {l l'} (hl:∀j∈l,j<ops.size/\i∉D.getD j []/\i≠j) (hl':∀j∈l',j<ops.size/\i∉D.getD j []/\i≠j)
 (eU:∀j∈D.getD i [],j∈l/\j∈l'/\val j=val' j):∀t∈o.looksAt ops,(e8 dst val a0 l).tmps[t]?=(e8 dst val' a0 l').tmps[t]?:=λt ht=>by
 by_cases hs:t<a0.tmps.size
 .have u:∀k j,k<ops.size->j<ops.size->dst j=ab t->dst k=ab t->k=j:=λk j yr vo zT e=>by
   by_cases hkj:k=j;·omega
   .exact absurd zT (hk.uniq k j yr vo hkj t e)
  by_cases hj:∃j∈D.getD i [],dst j=ab t;·grind[IM]
  .have hno:∀k,k<ops.size->i∉D.getD k []->i≠k->dst k≠ab t:=λk yr h1 h2 e=>by
    rcases hk.looks i o ho t ht k yr e with h|h|h;·omega
    .grind
    .grind
   grind[Fk]
 grind[qX]
end
end
section
open Go.RowKit Go.MapKept
abbrev aX(w:aN)(B:Nat)(cs:Array aP)(t:gm):Prop:=w.heap[B]?=ab (bf cs t (0,0))
section
variable {F:Nat->Prop} {w w':aN} {B:Nat} {cs:Array aP} {t:gm}
def aX.lt(h:aX w B cs t):B<w.heap.size:=(pf.1 h).1
theorem aX.cell(h:aX w B cs t)k{v}(hv:cs[k]?=ab v):w.cell? ⟨B,k,af⟩=ab v:=(cell_of_row w B k cs t _ h).trans hv
def aX.frozen(h:aX w B cs t)k:w.frozen? ⟨B,k,af⟩=false:=by grind[World.frozen?]
def aX.rangeAt(h:aX w B cs t)o l(hl:∀j v,l[j]?=ab v->cs[o+j]?=ab v):w.rangeAt B o l:=λj v hv=>h.cell _ (hl j v hv)
theorem aq.setRow w B cs:aq (λi=>i=B) w (w.setRow B cs):=
 ⟨rfl,rfl,rfl,aU,λk _ hn=>by grind[World.setRow]⟩
theorem aX.setRow(h:aX w B cs t)cs':aX (w.setRow B cs') B cs' t:=setRow_heap w B cs cs' t _ h
structure u1 (F:Nat->Prop) (w w':aN):Prop where
 only:aq F w w'
 shape:∀B cs t,aX w B cs t->∃cs',aX w' B cs' t/\cs'.size=cs.size
def ao.keep(h:ao w w'):u1 F w w':=⟨h.to,λ_ cs _ hb=>⟨cs,aq.heap h hb (λh=>h),aa⟩⟩
def u1.acF{F}(h:u1 (λ_=>False) w w'):u1 F w w':=⟨h.only.mono (λ_ _ h=>h.elim),h.shape⟩
def u1.acE{cs'}(h:aq (λi=>i=B) w w')(h1:aX w B cs t)(h2:aX w' B cs' t)(hs:cs'.size=cs.size):u1 (λi=>i=B) w w':=
 ⟨h,λNV axN b4 hb=>by
   by_cases e:NV=B;·grind
   .exact⟨_,h.heap hb e,aa⟩⟩
end
section
variable {P:ew} {o:cR} {a:bV} {w:aN} {K:bV->aN->Prop} {Q:Exit->bV->aN->Prop}
def TK{t z}(hz:(P.info? t).bind (·.zero)=ab z)w:(zeroValue t).run P w=a8 z w:=by
 cases hq:P.info? t with
 |none=>grind
 |some i=>
  simp only[hq,Option.bind_some]at hz;simp[zeroValue,mV,hq,hz]
def acH {t} (ho:o.op=.alloc t) z (hz:(P.info? t).bind (·.zero)=ab z)
 (h:∀B w',aX w' B z.cells t->ao w w'->w.heap.size<=B->B<w'.heap.size->K (a.put o.dst (ay (ab ⟨B,0,af⟩))) w'):o.wp P a w K Q:=by
 have hr:(bw a.eval o).run P w=a8 (c8 (ay (ab ⟨w.heap.size,0,af⟩))) (w.alloc (bf z.cells t)):=by unfold bw;simp only[ho];simp only[Instr.alloc,newVar,newRow,newObj,gl,TK hz,ji,jR];rfl
 unfold hC;rw[hr];exact h _ _ (ff w _) (aq.alloc _ _) (cp _) aU
def acJ {t} x (ho:o.op=.box t x) v (hx:a.eval x=v)
 (h:∀B w',aX w' B v.cells t->ao w w'->w.heap.size<=B->B<w'.heap.size->K (a.put o.dst (ay (ab ⟨B,0,af⟩))) w'):o.wp P a w K Q:=by
 have hr:(bw a.eval o).run P w=a8 (c8 (ay (ab ⟨w.heap.size,0,af⟩))) (w.alloc (bf v.cells t)):=by unfold bw;simp only[ho,hx];rfl
 unfold hC;rw[hr];exact h _ _ (ff w _) (aq.alloc _ _) (cp _) aU
def acK {t n e:Nat} {parts cells} (ho:o.op=.buildSlice t n parts)
 (hr:∀w:aN,(Instr.buildSlice t n (parts.map λ(i,x)=>(i,a.eval x))).run P w=a8 (ad (ab ⟨w.heap.size,0,af⟩) n n) (w.alloc (bf cells e)))
 (h:∀B w',aX w' B cells e->ao w w'->w.heap.size<=B->B<w'.heap.size->K (a.put o.dst (ad (ab ⟨B,0,af⟩) n n)) w'):o.wp P a w K Q:=by
 unfold hC bw;simp only[ho,gl,hr,ji,jR];exact h _ _ (ff w _) (aq.alloc _ _) (cp _) aU
theorem arw{v}(hr:(bw a.eval o).run P w=a8 (c8 v) w)(h:K (a.put o.dst v) w):o.wp P a w K Q:=by unfold hC;rw[hr];exact h
def aqq ty x (ho:o.op=.load ty x) B (hx:a.eval x=ay (ab ⟨B,0,af⟩)) {t cs d} (hg:aX w B cs t)
 (hu:P.underlying ty=ab d) (hd:(match d with|.struct _|.array _ _=>aB|_=>false)=aB) (hi:(P.info? ty).map (·.size)=ab cs.size):(bw a.eval o).run P w=a8 (c8 (.agg cs)) w:=by
 unfold bw;simp only[ho,hx,Jk,AM,gl,jR,ji,run_loadVar_row w B t ty cs _ d hg hu hd hi]
def e7 ty x (ho:o.op=.load ty x) (B k) (hx:a.eval x=ay (ab ⟨B,k,af⟩)) cs {d} (hc:w.rangeAt B k cs)
 (hu:P.underlying ty=ab d) (hd:d.isRow=aB) (hi:(P.info? ty).map (·.size)=ab cs.length):(bw a.eval o).run P w=a8 (c8 (.agg cs.toArray)) w:=by grind[bw,Jk,AM,gl,jR,ji,run_loadVar_mid]
end
end
section
open Go.RowKit Go.MapKept
def Mem(N:Nat)(w:aN)(A:Option bW)(t:gm):Prop:=∀b off sp,A=ab ⟨b,off,sp⟩->N<=b/\∃cs,aX w b cs t
section
variable {w w':aN} {N n B c:Nat} {A:Option bW} {t b4:gm} {bs:List Int}
def Mem.none:Mem N w af t:=λ_ _ _ h=>by grind
def Mem.le(h:Mem N w A t){M}(ec:M<=N):Mem M w A t:=λb off sp e=>⟨eD ec (h b off sp e).1,(h b off sp e).2⟩
def e3(N:Nat)(w:aN)(A:Option bW)(c:Nat)(bs:List Int):Prop:=bT w A bs/\Mem N w A 5/\bs.length<=c
theorem e3.nil:e3 N w af c []:=⟨bT.nil,Mem.none,cQ _⟩
def e3.le(h:e3 N w A c bs){M}(ec:M<=N):e3 M w A c bs:=⟨h.1,h.2.1.le ec,h.2.2⟩
theorem e3.lW{base}(h:w.ownsRow base 5 1 (ad A bs.length c) bs.length (bs.map a')):e3 base w A c bs:=⟨bT.lW h,λb off sp e=>by
 rcases h.2 with⟨hv,_⟩|⟨g,cap,cur,hv,hb,hg,_⟩;·grind
 grind,by
 rcases h.2 with⟨hv,h0⟩|⟨g,cap,cur,hv,hb,hg,hn,_⟩;·omega
 .grind⟩
end
def fF(A:Option bW)(c i sz:Nat):Option Addr:=if c=i then A else A.map (·.add (i*sz))
section
variable {P:ew} {o:cR} {a:bV} {w:aN}
def aem (t e sz:Nat) (x lo hi) (ho:o.op=AN t x (ab lo) (ab hi) af) (ht:P.underlying t=ab (hU e)) (hs:(P.info? e).map (·.size)=ab sz) A (n c i q:Nat)
 (hx:a.eval x=ad A n c) (ka:a.eval lo=J R (i:Int)) (yp:a.eval hi=J R (q:Int)) (h1:i<=q) (h2:q<=c):
 (bw a.eval o).run P w=a8 (c8 (ad (fF A c i sz) (q -i) (c -i))) w:=by
 cases hq:P.info? e with
 |none=>grind
 |some s8=>
  have hsz:s8.size=sz:=aG;have h3:(q:Int)<=(c:Int):=ae;have h4:(i:Int)<=(q:Int):=ae;have h5:(0:Int)<=(q:Int):=ae;have h6:(0:Int)<=(i:Int):=ae;unfold bw;simp[ho,hx,ka,yp,Od,Oc,Of,Oe,y',gl,gG ht,mu,mV,hq,hsz,h1,h2,fF]
def TP (t e sz:Nat) (x lo) (ho:o.op=AN t x (ab lo) af af) (ht:P.underlying t=ab (hU e)) (hs:(P.info? e).map (·.size)=ab sz) A (n c i:Nat)
 (hx:a.eval x=ad A n c) (ka:a.eval lo=J R (i:Int)) (h1:i<=n) (h2:n<=c):
 (bw a.eval o).run P w=a8 (c8 (ad (fF A c i sz) (n -i) (c -i))) w:=by
 cases hq:P.info? e with
 |none=>grind
 |some s8=>
  have hsz:s8.size=sz:=aG;unfold bw;simp[ho,hx,ka,Od,Oc,Of,Oe,y',gl,gG ht,mu,mV,hq,hsz,h1,fF]
def qV (t e sz:Nat) (x hi) (ho:o.op=AN t x af (ab hi) af) (ht:P.underlying t=ab (hU e)) (hs:(P.info? e).map (·.size)=ab sz) A (n c q:Nat)
 (hx:a.eval x=ad A n c) (yp:a.eval hi=J R (q:Int)) (h2:q<=c):
 (bw a.eval o).run P w=a8 (c8 (ad A q c)) w:=by
 cases hq:P.info? e with
 |none=>grind
 |some s8=>
  unfold bw;simp[ho,hx,yp,Od,Oc,Of,Oe,y',gl,gG ht,mu,mV,hq,h2];intro _;cases A<;>simp[vR]
end
def bT.win{w A bs c i q}(h:bT w A bs)(hc:bs.length<=c)(hq:q<=bs.length):bT w (fF A c i 1) ((bs.drop i).take (q -i)):=λhp=>by have hl:0<q -i:=aG;obtain⟨kW,lV,rfl,hcell⟩:=h ae;grind[fF,nD]
def bT.Fp{w A bs c i}(h:bT w A bs)(hc:bs.length<=c):bT w (fF A c i 1) (bs.drop i):=by have:=h.win (i:=i) hc (cp _);rwa [List.take_of_length_le aU]at this
def bT.Fo{w A bs q}(h:bT w A bs)(hq:q<=bs.length):bT w A (bs.take q):=λhp=>by obtain⟨kW,lV,rfl,hcell⟩:=h aG;grind
def Mem.win{w N A}{t c i sz:Nat}(h:Mem N w A t):Mem N w (fF A c i sz) t:=by
 unfold fF;split;·omega
 .intro b off sp e;cases A with
  |none=>grind
  |some fx=>
   simp at e;obtain⟨kW,lV,atS⟩:=fx;have:kW=b:=by grind[vR]
   subst this;exact h _ _ _ aa
end
section
open Go.RowKit Go.MapKept
abbrev Row(N:Nat)(w:aN)(A:Option bW)(n c:Nat)(e:gm)(sz:Nat)(xs:List aP):Prop:=w.ownsRow N e sz (ad A n c) n xs
def dV(A:Option bW)(b:Nat):Prop:=∃off sp,A=ab ⟨b,off,sp⟩
section
variable {F:Nat->Prop} {w w':aN} {N n c e sz B b4 m:Nat} {A:Option bW} {xs:List aP}
theorem Row.nil N w(e sz:Nat):Row N w af 0 0 e sz []:=World.ownsRow_nil _ _ _ _
def Row.cases(h:Row N w A n c e sz xs):(A=af/\n=0/\c=0/\xs=[])\/∃g cur,A=ab ⟨g,0,af⟩/\N<=g/\aX w g cur e/\n<=c/\cur.size=c*sz/\cur.toList.take (n*sz)=xs:=by
 rcases h.2 with⟨hv,h0⟩|⟨g,cap,cur,hv,hb,hg,hn,hm,hs,ht⟩;·injection hv with h1 h2 h3;subst h0;exact bJ ⟨h1,aa,h3,jH (by have:=h.1;omega)⟩
 grind
def Row.only(h:Row N w A n c e sz xs)(k:aq F w w')(hn:∀b,dV A b->¬F b):Row N w' A n c e sz xs:=by
 refine⟨h.1,?_⟩;rcases h.2 with h2|⟨g,cap,cur,hv,hb,hg,r⟩;·grind
 .injection hv with h1 h2 h3;subst h1;subst h3;exact b3 ⟨g,c,_,aa,hb,k.heap hg (hn g ⟨0,_,aa⟩),r⟩
def Row.aI(h:Row N w A n c e sz xs)(g:ao w w'):Row N w' A n c e sz xs:=h.only g (λ_ _ h=>h)
def Row.le(h:Row N w A n c e sz xs){M}(ec:M<=N):Row M w A n c e sz xs:=by
 refine⟨h.1,?_⟩;rcases h.2 with h2|⟨g,cap,cur,hv,hb,r⟩;·grind
 .exact b3 ⟨g,_,_,hv,eD ec hb,r⟩
def Row.mem(h:Row N w A n c e sz xs):Mem N w A e:=λb off sp ha=>by
 rcases h.cases with⟨h1,_⟩|⟨g,cur,h1,hb,hg,_⟩;·grind
 grind
def Row.lt(h:Row N w A n c e sz xs){b}(hb:dV A b):N<=b/\b<w.heap.size:=by obtain⟨off,sp,e⟩:=hb;obtain⟨h1,cs,h2⟩:=h.mem b off sp e;exact⟨h1,aX.lt h2⟩
def Row.len(h:Row N w A n c e sz xs):xs.length=n*sz:=h.1
theorem Row.cell(h:Row N w A n c e sz xs){j v}(hj:xs[j]?=ab v):∃g,A=ab ⟨g,0,af⟩/\w.cell? ⟨g,j,af⟩=ab v:=by
 rcases h.cases with⟨_,_,_,h4⟩|⟨g,cur,h1,_,hg,_,_,ht⟩;·grind
 grind[aX.cell]
def Row.cap(h:Row N w A n c e sz xs):n<=c:=by
 rcases h.cases with⟨_,h2,h3,_⟩|⟨_,_,_,_,_,h5,_⟩;·omega
 .omega
def Row.nS{bs}(h:Row N w A bs.length c 5 1 (bs.map a')):e3 N w A c bs:=e3.lW h
def Fx(N:Nat)(w w':aN)(A:Option bW)(n c:Nat)(az:Option bW)(uq aC:Nat)(e sz:Nat)(xs cq:List aP):Prop:=
 Row N w' az uq aC e sz cq/\Row N w' A n c e sz xs/\u1 (dV A) w w'/\(∀b,dV az b->dV A b\/w.heap.size<=b)
end
section
variable {P:ew} (w:aN)
def atz N (t ty e) i z (ht:P.underlying t=ab (hU e)) (hi:P.info? e=ab i) (hz:i.zero=ab z) (hzs:z.cells.size=i.size)
 A (n c) xs (hown:Row N w A n c e i.size xs) aK (m c2) news (hr:Cells w i.size aK m news) (h1:∀u∈news,u.oneCell'=aB)
 (h63:n+m<=maxLen) (hbytes:(n+m)*i.bytes<=140737488355328) (fl:N<=w.heap.size):
 ∃az aC w',(oK #[t,t] ty #[ad A n c,ad aK m c2]).run P w=a8 (ad az (n+m) aC) w'/\Fx N w w' A n c az (n+m) aC e i.size xs (xs++news):=by
 have hlen:(xs++news).length=(n+m)*i.size:=by rw[List.length_append,hown.1,hr.1,Bd]
 have ay3:Fx N w w A n c A n c e _ xs xs:=⟨hown,hown,ao.keep (aq.refl _ w),λb hb=>bJ hb⟩;rcases Nat.eq_zero_or_pos m with hm|hm
 .subst hm;have hn:=jH (by simpa using hr.1);subst hn;refine⟨A,c,w,?_,aG⟩;have hc:=hown.cap;rcases aK with _|fx
  .rcases hown.cases with⟨rfl,rfl,rfl,_⟩|⟨g,cur,rfl,_⟩;·simp[oK,gG ht,mu,mV,hi,vT,q8]
   .simp[oK,gG ht,mu,mV,hi,vT,q8,hc,storeCells]
  .rcases hown.cases with⟨rfl,rfl,rfl,_⟩|⟨g,cur,rfl,_⟩;·simp[oK,gG ht,mu,mV,hi,vT,q8,loadCells,OT]
   .simp[oK,gG ht,mu,mV,hi,vT,q8,loadCells,OT,hc,storeCells]
 .obtain⟨fx,rfl,hnews⟩:=hr.2 hm;have ay4:n+m<=9223372036854775807:=by grind[maxLen]
  have grown:∀old,old<n+m->Fx N w (w.drew.alloc (bf (xs.toArray++news.toArray++mT z.cells (xG w (n+m) old e -(n+m))) e)) A n c (ab ⟨w.heap.size,0,af⟩) (n+m) (xG w (n+m) old e) e i.size xs (xs++news):=by
   intro old ho;have mc:=grownCap_ge w (n+m) old e;have hcm:=grownCap_le_maxLen w _ old e h63;have hg:ao w (w.drew.alloc (bf (xs.toArray++news.toArray++mT z.cells (xG w (n+m) old e -(n+m))) e)):=ao.trans (aq.drew _) (aq.alloc _ _);refine⟨⟨hlen,b3 ⟨w.heap.size,_,_,aa,fl,ff w.drew _,mc,hcm,?_,?_⟩⟩,hown.aI hg,hg.keep.acF,λb ⟨_,_,YG⟩=>aG⟩;·simp only[Array.size_append,List.size_toArray,size_zeroCells,hzs,hown.1,hr.1,<-Bd];congr 1;omega
   grind
  rcases hown.cases with⟨rfl,rfl,rfl,rfl⟩|⟨g,cur,rfl,hbg,hg,iI,hcs,ay5⟩;·grind[run_append_nil]
  .by_cases hroom:n+m<=c
   .have o0:n*i.size+news.length<=cur.size:=by rw[hr.1,hcs,<-Bd];exact Nat.mul_le_mul_right _ hroom
    have hrun:=run_append_room (P:=P) w t ty e i ht hi g n c _ hg fx m c2 _ hr.1 hnews h1 hroom o0;have hb2:=hg.setRow (cur.toList.take (n*i.size)++news++cur.toList.drop (n*i.size+news.length)).toArray;have hsz:(cur.toList.take (n*i.size)++news++cur.toList.drop (n*i.size+news.length)).toArray.size=cur.size:=aG
    have hcm:c<=maxLen:=by
     rcases hown.2 with⟨hv,_⟩|⟨g2,DL,Bw,hv,_,_,_,jo,_⟩;·grind
     .grind
    refine⟨_,_,_,hrun,⟨hlen,b3 ⟨g,c,_,aa,hbg,hb2,hroom,hcm,ae,?_⟩⟩,⟨hown.1,b3 ⟨g,c,_,aa,hbg,hb2,iI,hcm,ae,?_⟩⟩,?_,λb hb=>bJ hb⟩;·grind
    .grind
    .have k:=u1.acE (aq.setRow w g _) hg hb2 hsz;exact⟨k.only.mono (λb _ e=>⟨0,af,by rw[e]⟩),k.shape⟩
   .have holds:=hown.cells (g:=g) aa;have hrun:=run_append_grow (P:=P) w t ty e i z ht hi hz _ n c xs hown.1 holds fx m c2 _ hr.1 hnews ae ae (growslice_fits ae hbytes);exact⟨_,_,_,hrun,grown c ae⟩
end
section
variable {P:ew} {o:cR} {a:bV} {w:aN} {K:bV->aN->Prop} {Q:Exit->bV->aN->Prop}
def acI N (s x) (t e sz bytes:Nat) (ho:o.op=.call {callee:=.builtin .append,args:=#[s,x],argTypes:=#[t,t]}) (ht:P.underlying t=ab (hU e))
 (kZ:(P.info? e).map (λi=>(i.zero.isSome,(i.zero.map (·.cells.size)).getD 0,i.size,i.bytes))=ab (aB,sz,sz,bytes))
 (A:Option bW) (n c:Nat) (xs:List aP) (hs:a.eval s=ad A n c) (hown:Row N w A n c e sz xs) (aK:Option bW) (m c2:Nat) (news:List aP) (hx:a.eval x=ad aK m c2) (hr:Cells w sz aK m news) (h1:∀u∈news,u.oneCell'=aB)
 (hbytes:(n+m)*bytes<=140737488355328) (hb0:0<bytes) (fl:N<=w.heap.size)
 (h:∀az aC w',Fx N w w' A n c az (n+m) aC e sz xs (xs++news)->K (a.put o.dst (ad az (n+m) aC)) w'):o.wp P a w K Q:=by
 cases hq:P.info? e with
 |none=>simp[hq]at kZ
 |some i=>
  rw[hq]at kZ;simp only[oT,wC,Prod.mk.injEq]at kZ;obtain⟨bD,b9,fH,pN⟩:=kZ;obtain⟨z,hz⟩:=Option.isSome_iff_exists.1 bD;rw[hz]at b9;simp only[oT,Option.getD_some]at b9;subst fH;subst pN;have hle:(n+m)<=(n+m)*i.bytes:=Nat.le_mul_of_pos_right _ hb0;obtain⟨az,aC,w',hrun,hap⟩:=atz (P:=P) w N t o.type e i z ht hq hz b9 A n c xs hown aK m c2 news hr h1 (by grind[maxLen]) hbytes fl;unfold hC bw;simp only[ho,resolve,invoke,builtin,gl,jR,ji,List.map_toArray,List.map_cons,List.map_nil,hs,hx,hrun];exact h az aC w' hap
end
end
section
open Go.RowKit Go.MapKept
structure bu where
 c5:Nat->Prop
 p:aN->Prop
 ox:∀w w':aN,(∀b,c5 b->b<w.heap.size->w'.heap[b]?=w.heap[b]?)->(∀b,c5 b->b<w.heap.size)->p w->p w'
structure ai (an:aN) (FX:Nat->Prop) (w:aN) (l:List bu):Prop where
 only:aq FX an w
 holds:∀t∈l,t.p w
 low:∀t∈l,∀b,t.c5 b->b<w.heap.size/\(an.heap.size<=b\/FX b)
 apart:l.Pairwise (λs t=>∀b,s.c5 b->¬t.c5 b)
def Has(w:aN)(t:bu):Prop:=t.p w/\∀b,t.c5 b->b<w.heap.size
def b5(w w':aN)(t:bu):Prop:=ao w w'/\t.p w'/\∀b,t.c5 b->w.heap.size<=b/\b<w'.heap.size
def Turned(w w':aN)(s t:bu):Prop:=aq s.c5 w w'/\t.p w'/\∀b,t.c5 b->b<w'.heap.size/\(s.c5 b\/w.heap.size<=b)
section
variable {an w w':aN} {FX F:Nat->Prop} {l l':List bu} {s t:bu}
def ai.init w FX:ai w FX w []:=⟨aq.refl _ _,λ_ h=>(gb h).elim,λ_ h=>(gb h).elim,Gn⟩
def ai.start(h:Has w t):ai w t.c5 w [t]:=⟨aq.refl _ _,λx hx=>by
 obtain rfl:x=t:=aG;exact h.1,λx hx b hb=>by
 obtain rfl:x=t:=aG;exact⟨h.2 b hb,b3 hb⟩,List.pairwise_singleton _ _⟩
def bu.only(t:bu)(h:t.p w)(hl:∀b,t.c5 b->b<w.heap.size)(k:aq F w w')(hn:∀b,t.c5 b->¬F b):t.p w':=
 t.ox w w' (λb hb hlt=>k.block b hlt (hn b hb)) hl h
def ai.perm(h:ai an FX w l)(p:l.Perm l'):ai an FX w l':=
 ⟨h.only,λt ht=>h.holds t (p.mem_iff.2 ht),λt ht=>h.low t (p.mem_iff.2 ht),(p.pairwise_iff (λ{a b} (h1:∀c,a.c5 c->¬b.c5 c) c hb ha=>h1 c ha hb)).1 h.apart⟩
def ai.sub(h:ai an FX w l)(p:l'.Sublist l):ai an FX w l':=
 ⟨h.only,λt ht=>h.holds t (p.subset ht),λt ht=>h.low t (p.subset ht),h.apart.sublist p⟩
def ai.aI(h:ai an FX w l)(g:ao w w'):ai an FX w' l:=
 ⟨aq.trans h.only g.to (λ_ _ h=>h),λt ht=>t.only (h.holds t ht) (λb hb=>(h.low t ht b hb).1) g (λ_ _ h=>h),λt ht b hb=>⟨u9 (h.low t ht b hb).1 g.size,(h.low t ht b hb).2⟩,h.apart⟩
def ai.new(h:ai an FX w l)t(hf:b5 w w' t):ai an FX w' (t::l):=by
 obtain⟨g,hp,hb⟩:=hf;have h2:=h.aI g;refine⟨h2.only,λx hx=>?_,λx hx b hb2=>?_,Gm (λx hx b h1 h3=>?_) h2.apart⟩
 .rcases gz.1 hx with rfl|hx;·omega
  .exact h2.holds x hx
 .rcases gz.1 hx with rfl|hx;·exact⟨(hb b hb2).2,bJ (eD h.only.size (hb b hb2).1)⟩
  .exact h2.low x hx b hb2
 .have h4:=(h.low x hx b h3).1;have h5:=(hb b h1).1;omega
def ai.yV(h:ai an FX w (s::l))(bH:Turned w w' s t):ai an FX w' (t::l):=by
 obtain⟨k,hp,hb⟩:=bH;have ha:=u6.1 h.apart;have hs:=h.low s (sv ..);refine⟨⟨k.os.trans h.only.os,k.tape.trans h.only.tape,k.output.trans h.only.output,eD h.only.size k.size,λi hi hn=>?_⟩,λx hx=>?_,λx hx b hb2=>?_,Gm (λx hx b h1 h3=>?_) ha.2⟩
 .have h1:¬s.c5 i:=λh1=>by grind
  exact(k.block i (u9 hi h.only.size) h1).trans (h.only.block i hi hn)
 .rcases gz.1 hx with rfl|hx;·omega
  .exact x.only (h.holds x (pA _ hx)) (λb hb=>(h.low x (pA _ hx) b hb).1) k (λb h1 h2=>ha.1 x hx b h2 h1)
 .rcases gz.1 hx with rfl|hx
  .refine⟨(hb b hb2).1,?_⟩;rcases(hb b hb2).2 with h1|h1;·grind
   .exact bJ (eD h.only.size h1)
  .exact⟨u9 (h.low x (pA _ hx) b hb2).1 k.size,(h.low x (pA _ hx) b hb2).2⟩
 .rcases(hb b h1).2 with h2|h2;·grind
  .have:=(h.low x (pA _ hx) b h3).1;omega
def Za{i:Nat}(hi:l[i]?=ab s):∃h,l[i]=s:=List.getElem?_eq_some_iff.1 hi
def Tp:∀(l:List bu) i s,l[i]?=ab s->l.Perm (s::l.eraseIdx i)
 |[],i,s,h=>by simp at h
 |x::l,0,s,h=>by
  obtain rfl:x=s:=by simpa using h
  exact A9 _
 |x::l,i+1,s,h=>by have h1:=Tp l i s (by simpa using h);exact(h1.cons x).trans (Dr s x _)
def adf t:∀(l:List bu) i s,l[i]?=ab s->(l.set i t).Perm (t::l.eraseIdx i)
 |[],i,s,h=>by simp at h
 |x::l,0,s,h=>A9 _
 |x::l,i+1,s,h=>by have h1:=adf t l i s (by simpa using h);exact(h1.cons x).trans (Dr t x _)
def ai.CC(h:ai an FX w l)i(hi:l[i]?=ab s)(bH:Turned w w' s t):ai an FX w' (l.set i t):=by have h3:=h.perm (Tp l i s hi);exact(h3.yV bH).perm (adf t l i s hi).symm
def ai.at(h:ai an FX w l)(i:Nat)(hi:l[i]?=ab t:=by rfl):t.p w:=h.holds t (cM hi)
def ai.has(h:ai an FX w l)(i:Nat)(hi:l[i]?=ab t:=by rfl):Has w t:=⟨h.at i hi,λb hb=>(h.low t (cM hi) b hb).1⟩
def ai.drop(h:ai an FX w l)(i:Nat)(hl:l.eraseIdx i=l':=by rfl):ai an FX w l':=hl▸h.sub (List.eraseIdx_sublist ..)
def ai.gj(h:ai w s.c5 w' l)(i:Nat)(hi:l[i]?=ab t:=by rfl):Turned w w' s t:=
 ⟨h.only,h.at i hi,λb hb=>⟨(h.low t (cM hi) b hb).1,(h.low t (cM hi) b hb).2.symm⟩⟩
def ai.fresh(h:ai w (λ_=>False) w' l)(i:Nat)(hi:l[i]?=ab t:=by rfl):b5 w w' t:=
 ⟨h.only,h.at i hi,λb hb=>⟨(h.low t (cM hi) b hb).2.elim id (λh=>h.elim),(h.low t (cM hi) b hb).1⟩⟩
def ai.ne(h:ai an FX w l){i j:Nat}(hi:l[i]?=ab s)(hj:l[j]?=ab t)(hL:i≠j):∀b,s.c5 b->¬t.c5 b:=by obtain⟨h1,rfl⟩:=Za hi;obtain⟨h2,rfl⟩:=Za hj;have hp:=List.pairwise_iff_getElem.1 h.apart;grind
theorem Turned.refl(h:Has w t):Turned w w t t:=⟨aq.refl _ _,h.1,λb hb=>⟨h.2 b hb,bJ hb⟩⟩
def b5.aI{aS}(h:b5 w w' t)(g:ao w' aS):b5 w aS t:=
 ⟨ao.trans h.1 g,t.only h.2.1 (λb hb=>(h.2.2 b hb).2) g (λ_ _ h=>h),λb hb=>⟨(h.2.2 b hb).1,u9 (h.2.2 b hb).2 g.size⟩⟩
def Has.aI(h:Has w t)(g:ao w w'):Has w' t:=⟨t.only h.1 h.2 g (λ_ _ h=>h),λb hb=>u9 (h.2 b hb) g.size⟩
end
def emp:bu:=⟨λ_=>False,λ_=>True,λ_ _ _ _ _=>trivial⟩
def ah(B:Nat)(cs:Array aP)(t:gm):bu:=⟨λb=>b=B,λw=>aX w B cs t,λw w' h hl hp=>(h B aa (hl B aa)).trans hp⟩
def Ck{c5:Nat->Prop}{w w':aN}(h:∀b,c5 b->b<w.heap.size->w'.heap[b]?=w.heap[b]?){b o}(hf:c5 b)(hb:w.heap[b]?=ab o):w'.heap[b]?=ab o:=
 by grind
def bp(A:Option bW)(n c e sz:Nat)(xs:List aP):bu:=⟨dV A,λw=>Row 0 w A n c e sz xs,λw w' h _ hp=>by
 refine⟨hp.1,?_⟩;rcases hp.2 with h2|⟨g,cap,cur,hv,hb,hg,r⟩;·grind
 .injection hv with h1 h2 h3;subst h1;subst h3;exact b3 ⟨g,c,_,aa,hb,Ck h ⟨0,_,aa⟩ hg,r⟩⟩
def cf(A:Option bW)(c:Nat)(bs:List Int):bu:=⟨dV A,λw=>e3 0 w A c bs,λw w' h _ hp=>by
 refine⟨λmH=>?_,λb off sp e=>?_,hp.2.2⟩;·obtain⟨kW,lV,rfl,hc⟩:=hp.1 mH;refine⟨kW,lV,rfl,λk hk=>?_⟩;have h1:=hc k hk;exact(World.cell?_of_block (w:=w) (h kW ⟨lV,_,aa⟩ (World.block_lt_of_cell? w _ h1))).trans h1
 .obtain⟨h1,cs,h2⟩:=hp.2.1 b off sp e;exact⟨h1,cs,Ck h ⟨_,sp,e⟩ h2⟩⟩
def both(s t:bu):bu:=⟨λb=>s.c5 b\/t.c5 b,λw=>s.p w/\t.p w/\∀b,s.c5 b->¬t.c5 b,λw w' h hl hp=>
 ⟨s.ox w w' (λb hb=>h b (bJ hb)) (λb hb=>hl b (bJ hb)) hp.1,t.ox w w' (λb hb=>h b (b3 hb)) (λb hb=>hl b (b3 hb)) hp.2.1,hp.2.2⟩⟩
def kN(q:Prop)(t:bu):bu:=⟨t.c5,λw=>q/\t.p w,λw w' h hl hp=>⟨hp.1,t.ox w w' h hl hp.2⟩⟩
section
variable {an w w':aN} {FX F:Nat->Prop} {l l':List bu} {s t:bu} {A:Option bW} {B c n e sz:Nat} {bs:List Int} {xs:List aP} {cs cs':Array aP} {ty:gm}
theorem ai.js(h:ai an FX w l)(g:ao w w')(hb:e3 w.heap.size w' A c bs):ai an FX w' (cf A c bs::l):=
 h.new _ ⟨g,hb.le (cQ _),λb ⟨off,sp,e⟩=>by obtain⟨h1,cs,h2⟩:=hb.2.1 b off sp e;exact⟨h1,aX.lt h2⟩⟩
def ai.k8(h:ai an FX w l)(g:ao w w')(hb:Row w.heap.size w' A n c e sz xs):ai an FX w' (bp A n c e sz xs::l):=
 h.new _ ⟨g,hb.le (cQ _),λ_ hb2=>hb.lt hb2⟩
theorem b5.S8(g:ao w w')(hb:e3 w.heap.size w' A c bs):b5 w w' (cf A c bs):=⟨g,hb.le (cQ _),λb ⟨off,sp,e⟩=>by obtain⟨h1,cs,h2⟩:=hb.2.1 b off sp e;exact⟨h1,aX.lt h2⟩⟩
def b5.acD(g:ao w w')(hb:Row w.heap.size w' A n c e sz xs):b5 w w' (bp A n c e sz xs):=⟨g,hb.le (cQ _),λ_ hb2=>hb.lt hb2⟩
def b5.Cx(h:b5 w w' (cf A c bs)):e3 w.heap.size w' A c bs:=⟨h.2.1.1,λb off sp e=>⟨(h.2.2 b ⟨off,sp,e⟩).1,(h.2.1.2.1 b off sp e).2⟩,h.2.1.2.2⟩
def b5.row(h:b5 w w' (bp A n c e sz xs)):Row w.heap.size w' A n c e sz xs:=by
 obtain⟨g,hp,hl⟩:=h;refine⟨hp.1,?_⟩;rcases hp.2 with h2|⟨g2,cap,cur,hv,hb,r⟩;·grind
 .injection hv with h1 h2 h3;subst h1;exact b3 ⟨g2,_,_,by rw[h3],(hl g2 ⟨0,_,aa⟩).1,r⟩
def ai.star(h:ai an FX w (s::t::l)):ai an FX w (both s t::l):=by
 have h1:=u6.1 h.apart;have h2:=u6.1 h1.2;refine⟨h.only,λx hx=>?_,λx hx b hb=>?_,Gm (λx hx b hb hx2=>?_) h2.2⟩
 .rcases gz.1 hx with rfl|hx;·exact⟨h.holds s aU,h.holds t aU,h1.1 t aU⟩
  .exact h.holds x aG
 .rcases gz.1 hx with rfl|hx;·exact hb.elim (h.low s aU b) (h.low t aU b)
  .exact h.low x aG b hb
 .exact hb.elim (λhb=>h1.1 x aG b hb hx2) (λhb=>h2.1 x hx b hb hx2)
def ai.fi(h:ai an FX w (both s t::l)):ai an FX w (s::t::l):=by
 have h1:=u6.1 h.apart;have hs:=h.holds _ (sv ..);have hl:=h.low _ (sv ..);refine⟨h.only,λx hx=>?_,λx hx b hb=>?_,Gm (λx hx b hb hx2=>?_) (Gm (λx hx b hb hx2=>?_) h1.2)⟩
 .rcases gz.1 hx with rfl|hx;·exact hs.1
  .rcases gz.1 hx with rfl|hx;·exact hs.2.1
   .exact h.holds x aG
 .rcases gz.1 hx with rfl|hx;·exact hl b (bJ hb)
  .rcases gz.1 hx with rfl|hx;·exact hl b (b3 hb)
   .exact h.low x aG b hb
 .rcases gz.1 hx with rfl|hx;·exact hs.2.2 b hb hx2
  .exact h1.1 x hx b (bJ hb) hx2
 .exact h1.1 x hx b (b3 hb) hx2
def ai.as(h:ai an FX w l)i(hi:l[i]?=ab s)t(hp:s.p w->t.p w)(hf:∀b,t.c5 b->s.c5 b):ai an FX w (l.set i t):=
 h.CC i hi ⟨aq.refl _ _,hp (h.at i hi),λb hb=>⟨(h.has i hi).2 b (hf b hb),bJ (hf b hb)⟩⟩
end
end
end Go.Proofs.YtcmhplknoglbkaaGreat
