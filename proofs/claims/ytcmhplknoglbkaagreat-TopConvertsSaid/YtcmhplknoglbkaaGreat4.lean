/- Part 4 of the proof of TopConvertsSaid. -/
import Derived.Test.YtcmhplknoglbkaaGreat0
import Derived.Test.YtcmhplknoglbkaaGreat3
set_option linter.all false
set_option maxRecDepth 100000
set_option maxHeartbeats 4000000
open Go.Proofs.Tryz
open Bool renaming false->au,true->aB
open Go renaming Act->bV,Addr->bW,Oper->cR,Operand->iz,Program->ew,TypeId->gm,Value->aP,World->aN,execOp->bw,run_underlying->gG,undef->aZ,wpList->cH,wpList_step->rb,yielded->cY
open Go.Act renaming eval->uJ,put->tj
open Go.Calls renaming mono->Jh
open Go.Instr renaming buildSlice->UL,sureAddr->AM
open Go.IntKind renaming i64->R
open Go.Next renaming value->c8
open Go.Op renaming buildSlice->UP,load->nZ,store->y6
open Go.Oper renaming wp->hC
open Go.Region renaming wanted->c4
open Go.Result renaming andThen_ok->ji,ok->a8
open Go.Sem renaming run_bind->gl
open Go.TypeDesc renaming slice->hU
open Go.Value renaming int->J,pointer->ay,slice->ad
open Go.World renaming freeze->V7
open List.Pairwise renaming nil->Gn
open List renaming mem_cons->gz,not_mem_nil->gb
open Nat renaming zero_le->cQ
open Option renaming none->af,some->ab
namespace Go.Proofs.YtcmhplknoglbkaaGreat
section
open Go.RowKit Go.MapKept
section
variable {P:ew} {o:cR} {a:bV} {w:aN}
theorem fz{B k t:Nat}{cs v ty x}(ho:o.op=nZ ty x)(hx:a.eval x=ay (ab ⟨B,k,af⟩))(hb:aX w B cs t)(hv:cs[k]?=ab v)(hu:(P.underlying ty).map (λd=>d.isRow)=ab au):
 (bw a.eval o).run P w=a8 (c8 v) w:=by
 have hc:=hb.cell k hv;cases hq:P.underlying ty with
 |none=>grind
 |some d=>
  have hd:d.isRow=false:=aG
  have hagg:(isAgg ty).run P w=a8 au w:=by unfold isAgg;rw[gl,gG hq w];cases d<;>simp_all
  unfold bw;simp[ho,hx,Instr.loadAt,AM,loadVar,hagg,hc]
def mg{B k t:Nat}{cs cs' ty x}(ho:o.op=nZ ty x)(hx:a.eval x=ay (ab ⟨B,k,af⟩))(hb:aX w B cs t)(hv:cs.extract k (k+cs'.size)=cs')(hk:k+cs'.size<=cs.size)(hu:(P.underlying ty).map (λd=>d.isRow)=ab aB)(hi:(P.info? ty).map (·.size)=ab cs'.size):
 (bw a.eval o).run P w=a8 (c8 (.agg cs')) w:=by
 cases hq:P.underlying ty with
 |none=>grind
 |some d=>
  have hd:d.isRow=true:=aG;have:=e7 (a:=a) (w:=w) ty x ho B k hx cs'.toList (hb.rangeAt k _ (λj v hj=>aG)) hq hd ae;simpa using this
def lay(cs:Array aP)(k:Nat):List aP->Array aP
 |[]=>cs
 |v::l=>lay (cs.setIfInBounds k v) (k+1) l
def lay_size l:∀(cs) k,(lay cs k l).size=cs.size:=by
 induction l with
 |nil=>intro cs k;rfl
 |cons v l bY=>grind[lay]
def TJ(B t:Nat):∀(l) w cs (k j),aX w B cs t->k+j+l.length<=cs.size->l.all (·.oneCell')=aB->
 ∃w',(storeCells ⟨B,k,af⟩ l j).run P w=a8 () w'/\aX w' B (lay cs (k+j) l) t/\aq (λi=>i=B) w w'/\w'.heap.size=w.heap.size
 |[],w,cs,k,j,hb,_,_=>⟨w,aT,hb,aq.refl _ _,aa⟩
 |v::l,w,cs,k,j,hb,hk,h1=>by
  simp only[List.all_cons,Bool.and_eq_true]at h1;have hlt:k+j<cs.size:=aG;have hb2:=hb.setRow (cs.setIfInBounds (k+j) v);obtain⟨w',hr,h2,h3,h4⟩:=TJ B t l (w.setRow B (cs.setIfInBounds (k+j) v)) _ k (j+1) hb2 aG h1.2;refine⟨w',?_,h2,aq.trans (aq.setRow w B _) h3 (λ_ _ h=>h),by rw[h4];simp⟩;have nI:(⟨B,k,af⟩:bW).add j=⟨B,k+j,af⟩:=Addr.add_mid _ _ _
  have hst:(store ⟨B,k+j,af⟩ v).run P w=a8 () (w.setRow B (cs.setIfInBounds (k+j) v)):=by rw[run_store P w _ v _ h1.1,hb.cell (k+j) (Array.getElem?_eq_getElem hlt)];simp[hb.frozen (k+j),setCell_eq_setRow w B (k+j) cs t (0,0) v hb]
  simp only[storeCells,gl,nI,hst,ji,hr]
theorem MP{B k t:Nat}{cs v ty x y}(ho:o.op=y6 ty x y)(hx:a.eval x=ay (ab ⟨B,k,af⟩))(hy:a.eval y=v)(hb:aX w B cs t)(hk:k+v.cells.size<=cs.size)(hi:(P.info? ty).map (·.size)=ab v.cells.size)(h1:v.cells.all (·.oneCell')=aB):
 ∃w',(bw a.eval o).run P w=a8 .skip w'/\aX w' B (lay cs k v.cells.toList) t/\aq (λi=>i=B) w w'/\w'.heap.size=w.heap.size:=by
 obtain⟨w',hr,h2,h3,h4⟩:=TJ (P:=P) B t v.cells.toList w cs k 0 hb ae aG;refine⟨w',?_,h2,h3,h4⟩;cases hq:P.info? ty with
 |none=>grind
 |some i=>
  have hs:i.size=v.cells.size:=aG;unfold bw;simp only[ho,hx,hy,Instr.storeAt,AM,storeVar,sizeOf,typeInfo];simp[hq,hs,hr]
def IA (t e sz:Nat) (x lo hi) (ho:o.op=.slice t x (ab lo) (ab hi) af) (ht:P.underlying t=ab (hU e)) (hs:(P.info? e).map (·.size)=ab sz) A (n c i q m:Nat)
 (hx:a.eval x=ad A n c) (ka:a.eval lo=J R (i:Int)) (yp:a.eval hi=J R (q:Int)) (hm:i+m=q) (h2:q<=c):
 (bw a.eval o).run P w=a8 (c8 (ad (fF A c i sz) m (c -i))) w:=by
 have h:=aem t e sz x lo hi ho ht hs A n c i q (w:=w) hx ka yp ae h2;rwa [show q -i=m by omega]at h
def Au (t e sz:Nat) (x lo) (ho:o.op=.slice t x (ab lo) af af) (ht:P.underlying t=ab (hU e)) (hs:(P.info? e).map (·.size)=ab sz) A (n c i m:Nat)
 (hx:a.eval x=ad A n c) (ka:a.eval lo=J R (i:Int)) (hm:i+m=n) (h2:n<=c):
 (bw a.eval o).run P w=a8 (c8 (ad (fF A c i sz) m (c -i))) w:=by
 have h:=TP t e sz x lo ho ht hs A n c i (w:=w) hx ka ae h2;rwa [show n -i=m by omega]at h
def Qd(e:Ending)(K:aP->Prop):Prop:=match e with|.returned v=>K v|_=>False
end
section
variable {an w w':aN} {FX:Nat->Prop} {l l':List bu} {s t:bu}
def ai.eG(h:ai an FX w l)(i:Nat)(bH:Turned w w' s t)(hi:l[i]?=ab s:=by rfl)(hl:l.set i t=l':=by((try simp only[List.set_cons_zero,List.set_cons_succ]);rfl)):ai an FX w' l':=hl▸h.CC i hi bH
def ai.front(h:ai an FX w l)(i:Nat)(hi:l[i]?=ab t:=by rfl)(hl:l.eraseIdx i=l':=by((try simp only[List.eraseIdx_cons_zero,List.eraseIdx_cons_succ]);rfl)):ai an FX w (t::l'):=hl▸h.perm (Tp l i t hi)
def ai.a1{B:Nat}{cs:Array aP}{ty:gm}(h:ai an FX w l)(i:Nat)(hi:l[i]?=ab (ah B cs ty):=by rfl):aX w B cs ty:=h.at i hi
theorem vd{B cs cs' ty}(k:aq (λi=>i=B) w w')(h:aX w' B cs' ty):Turned w w' (ah B cs ty) (ah B cs' ty):=⟨k,h,λb hb=>⟨by have h2:b=B:=hb;rw[h2];exact aX.lt h,.inl hb⟩⟩
def x3{B cs ty}(g:ao w w')(h:aX w' B cs ty)(ie:w.heap.size<=B):b5 w w' (ah B cs ty):=⟨g,h,λb hb=>by have h2:b=B:=hb;rw[h2];exact⟨ie,aX.lt h⟩⟩
end
def ai.pick{an w:aN}{FX:Nat->Prop}{l:List bu}(h:ai an FX w l):∀{l':List bu} (idx:List Nat) (_:idx.map (λi=>l[i]?)=l'.map some:=by rfl) (_:decide idx.Nodup=true:=by kernel_rfl),ai an FX w l'
 |[],[],_,_=>⟨h.only,λ_ h=>(gb h).elim,λ_ h=>(gb h).elim,Gn⟩
 |t::l',i::idx,hl,hn=>by
  simp at hl;have vu:=List.nodup_cons.1 (of_decide_eq_true hn);have bY:=h.pick (l':=l') _ hl.2 (decide_eq_true vu.2);refine⟨bY.only,λx hx=>?_,λx hx b hb=>?_,.cons (λx hx b h1 h3=>?_) bY.apart⟩
  .rcases gz.1 hx with rfl|hx;·exact h.at i hl.1
   .exact bY.holds x hx
  .rcases gz.1 hx with rfl|hx;·exact h.low x (List.mem_of_getElem? hl.1) b hb
   .exact bY.low x hx b hb
  .have:ab x∈idx.map (λi=>l[i]?):=aG;obtain⟨j,hj,e⟩:=List.mem_map.1 this;exact h.ne hl.1 e (λe=>vu.1 (e▸hj)) b h1 h3
def ai.dT{an w FX l}(h:ai an FX w l):ai an FX w (emp::l):=h.new emp ⟨aq.refl _ _,trivial,λ_ h=>h.elim⟩
def ai.lr{an w:aN}{FX:Nat->Prop}{l:List bu}{A:Option bW}{c:Nat}{bs:List Int}(h:ai an FX w l)(i:Nat)(hi:l[i]?=ab (cf A c bs):=by rfl):e3 0 w A c bs:=h.at i hi
def ro(A:Option bW)(bs:List Int):bu:=⟨dV A,λw=>bT w A bs,λw w' h _ hp mH=>by obtain⟨kW,lV,rfl,hc⟩:=hp mH;refine⟨kW,lV,rfl,λk hk=>?_⟩;have h1:=hc k hk;exact(World.cell?_of_block (w:=w) (h kW ⟨lV,_,aa⟩ (World.block_lt_of_cell? w _ h1))).trans h1⟩
section
variable {P:ew} {w:aN}
def akC(w:aN)(a p)n:(w.freeze a n).cell? p=w.cell? p:=by grind[V7,World.cell?]
def ak8{t e B n c:Nat}{C}bs(hb:aX w B C e)(j':C=(bs.map a').toArray)(ht:P.underlying t=ab (hU e))(he:P.underlying e=ab (.int .u8)):
 ∃w',(convert t t (ad (ab ⟨B,0,af⟩) n c)).run P w=a8 (ad (ab ⟨B,0,af⟩) n c) w'/\Turned w w' (ah B C e) (ro (ab ⟨B,0,af⟩) bs):=by
 have HT:w.shape? B=ab (e,C.size):=by grind[World.shape?]
 have hsz:(w.freeze ⟨B,C.size,af⟩ 1).heap.size=w.heap.size:=by grind[V7]
 refine⟨w.freeze ⟨B,C.size,af⟩ 1,by simp[convert,gG ht,gG he,markStringish,HT],⟨aT,aT,aT,ae,λk _ hk=>?_⟩,λ_=>⟨B,0,rfl,λj hj=>?_⟩,λb ⟨o,sp,h⟩=>?_⟩
 .have hk2:¬B=k:=λh=>hk h.symm;grind[V7]
 .rw[akC,Nat.zero_add];refine hb.cell j ?_;subst j';simp[hj]
 .injection h with h;injection h with h;subst h;exact⟨aG,.inl aa⟩
def EX{o}{a:bV}{t e B n c:Nat}{C x}bs(ho:o.op=.convert t t x)(hx:a.eval x=ad (ab ⟨B,0,af⟩) n c)(hb:aX w B C e)(j':C=(bs.map a').toArray)(ht:P.underlying t=ab (hU e))(he:P.underlying e=ab (.int .u8)):
 ∃w',(bw a.eval o).run P w=a8 (c8 (ad (ab ⟨B,0,af⟩) n c)) w'/\Turned w w' (ah B C e) (ro (ab ⟨B,0,af⟩) bs):=by
 obtain⟨w',h1,h2⟩:=ak8 (P:=P) (n:=n) (c:=c) bs hb j' ht he
 refine⟨w',?_,h2⟩;unfold bw;simp[ho,hx,h1]
def mP {fn p u ty} {t B:Nat} {cs tmps v} (h:fn.results=#[.cell p ty,.tmp u]) (hp:tmps.getD p aZ=ay (ab ⟨B,0,af⟩)) (hv:tmps.getD u aZ=v) (hb:aX w B cs t)
 (hu:(P.underlying ty).map (λd=>d.isRow)=ab aB) (hi:(P.info? ty).map (·.size)=ab cs.size):(results fn tmps).run P w=a8 (.tuple #[.agg cs,v]) w:=by
 have pW:tmps[p]?.getD aZ=ay (ab ⟨B,0,af⟩):=by simpa using hp
 cases hq:P.underlying ty with
 |none=>grind
 |some d=>grind[run_loadVar_row,results_cell_tmp,asAddr,Sem.run_pure,ji]
end
section
variable {P:ew} {ops:Array cR} {rest:List cR} {Q:Exit->bV->aN->Prop} {o:cR} {a bz:bV} {w:aN} {v:aP} {an:aN} {FX:Nat->Prop} {l l':List bu}
def ag (h:cH P ops Q rest bz w) (hw:c4 o (cY ops a.tmps)=true:=by kernel_rfl) (hr:(bw a.eval o).run P w=a8 (c8 v) w:=by(go_simp;try with_reducible rfl))
 (ha:a.put o.dst v=bz:=by((try simp only[Act.put,List.setIfInBounds_toArray,List.set_cons_zero,List.set_cons_succ]);rfl)):cH P ops Q (o::rest) a w:=by
 subst ha;exact rb λK hK=>by grind[arw]
def aJ (v:aP) (hr:(bw a.eval o).run P w=a8 (c8 v) w) (h:cH P ops Q rest bz w) (hw:c4 o (cY ops a.tmps)=true:=by kernel_rfl)
 (ha:a.put o.dst v=bz:=by((try simp only[Act.put,List.setIfInBounds_toArray,List.set_cons_zero,List.set_cons_succ]);rfl)):cH P ops Q (o::rest) a w:=ag h hw hr ha
def ps (h:cH P ops Q rest bz w) (hw:c4 o (cY ops a.tmps)=false:=by kernel_rfl)
 (ha:a.put o.dst aZ=bz:=by((try simp only[Act.put,List.setIfInBounds_toArray,List.set_cons_zero,List.set_cons_succ]);rfl)):cH P ops Q (o::rest) a w:=by
 subst ha;exact rb λK hK=>by grind
def pl {B t:Nat} {cs:Array aP} {ty:gm} {x:iz} (I:ai an FX w l) (i k:Nat) (h:cH P ops Q rest bz w) (hi:l[i]?=ab (ah B cs t):=by rfl) (ho:o.op=nZ ty x:=by rfl) (hx:a.eval x=ay (ab ⟨B,k,af⟩):=by rfl)
 (hv:cs[k]?=ab v:=by((try simp only[List.getElem?_toArray,List.getElem?_cons_succ,List.getElem?_cons_zero])<;>rfl)) (hu:(P.underlying ty).map (λd=>d.isRow)=ab false:=by kernel_rfl) (hw:c4 o (cY ops a.tmps)=true:=by kernel_rfl)
 (ha:a.put o.dst v=bz:=by((try simp only[Act.put,List.setIfInBounds_toArray,List.set_cons_zero,List.set_cons_succ]);rfl)):cH P ops Q (o::rest) a w:=
 ag h hw (fz ho hx (I.a1 i hi) hv hu) ha
def bt {B t k:Nat} {cs:Array aP} {ty:gm} {x:iz} (I:ai an FX w l) (i:Nat) (cs':Array aP) (h:cH P ops Q rest bz w) (hi:l[i]?=ab (ah B cs t):=by rfl) (ho:o.op=nZ ty x:=by rfl) (hx:a.eval x=ay (ab ⟨B,k,af⟩):=by rfl)
 (hv:cs.extract k (k+cs'.size)=cs':=by kernel_rfl) (hk:k+cs'.size<=cs.size:=by exact(of_decide_eq_true aw)) (hu:(P.underlying ty).map (λd=>d.isRow)=ab true:=by kernel_rfl) (hz:(P.info? ty).map (·.size)=ab cs'.size:=by kernel_rfl) (hw:c4 o (cY ops a.tmps)=true:=by kernel_rfl)
 (ha:a.put o.dst (.agg cs')=bz:=by((try simp only[Act.put,List.setIfInBounds_toArray,List.set_cons_zero,List.set_cons_succ]);rfl)):cH P ops Q (o::rest) a w:=
 ag h hw (mg ho hx (I.a1 i hi) hv hk hu hz) ha
def bA {ty:gm} {z:aP} {bz:Nat->bV} (I:ai an FX w l) (cs:Array aP) (h:∀B w',ai an FX w' (ah B cs ty::l)->cH P ops Q rest (bz B) w') (ho:o.op=.alloc ty:=by rfl) (hz:(P.info? ty).bind (·.zero)=ab z:=by rfl) (hc:z.cells=cs:=by rfl) (hw:c4 o (cY ops a.tmps)=true:=by kernel_rfl)
 (ha:∀B,a.put o.dst (ay (ab ⟨B,0,af⟩))=bz B:=by(intro _;(try simp only[Act.put,List.setIfInBounds_toArray,List.set_cons_zero,List.set_cons_succ]);rfl)):cH P ops Q (o::rest) a w:=by
 subst hc;exact rb λK hK=>by rw[if_pos hw];exact acH ho z hz (λB w' h1 h2 h3 _=>by rw[ha];exact hK _ _ (h B w' (I.new _ (x3 h2 h1 h3))))
def bO {ty:gm} {x:iz} {cs:Array aP} {bz:Nat->bV} (I:ai an FX w l) (v:aP) (h:∀B w',ai an FX w' (ah B cs ty::l)->cH P ops Q rest (bz B) w') (ho:o.op=.box ty x:=by rfl) (hx:a.eval x=v:=by rfl) (hc:v.cells=cs:=by rfl) (hw:c4 o (cY ops a.tmps)=true:=by kernel_rfl)
 (ha:∀B,a.put o.dst (ay (ab ⟨B,0,af⟩))=bz B:=by(intro _;(try simp only[Act.put,List.setIfInBounds_toArray,List.set_cons_zero,List.set_cons_succ]);rfl)):cH P ops Q (o::rest) a w:=by
 subst hc;exact rb λK hK=>by rw[if_pos hw];exact acJ x ho v hx (λB w' h1 h2 h3 _=>by rw[ha];exact hK _ _ (h B w' (I.new _ (x3 h2 h1 h3))))
def ga {ty n:Nat} {parts:Array (Nat×iz)} {bz:Nat->bV} (I:ai an FX w l) (cs:Array aP) (e:Nat) (h:∀B w',ai an FX w' (ah B cs e::l)->cH P ops Q rest (bz B) w') (ho:o.op=UP ty n parts:=by rfl)
 (hr:∀w:aN,(UL ty n (parts.map λ(i,x)=>(i,a.eval x))).run P w=a8 (ad (ab ⟨w.heap.size,0,af⟩) n n) (w.alloc (.cells cs e)):=by(intro _;kernel_rfl)) (hw:c4 o (cY ops a.tmps)=true:=by kernel_rfl)
 (ha:∀B,a.put o.dst (ad (ab ⟨B,0,af⟩) n n)=bz B:=by(intro _;(try simp only[Act.put,List.setIfInBounds_toArray,List.set_cons_zero,List.set_cons_succ]);rfl)):cH P ops Q (o::rest) a w:=
 rb λK hK=>by rw[if_pos hw];exact acK ho hr (λB w' h1 h2 h3 _=>by rw[ha];exact hK _ _ (h B w' (I.new _ (x3 h2 h1 h3))))
def ba {B t k:Nat} {cs cs':Array aP} {ty:gm} {x y:iz} (I:ai an FX w l) (i:Nat) (v:aP) (h:∀w',ai an FX w' l'->cH P ops Q rest bz w') (hi:l[i]?=ab (ah B cs t):=by rfl) (ho:o.op=y6 ty x y:=by rfl) (hx:a.eval x=ay (ab ⟨B,k,af⟩):=by rfl) (hy:a.eval y=v:=by rfl)
 (hk:k+v.cells.size<=cs.size:=by exact(of_decide_eq_true aw)) (hz:(P.info? ty).map (·.size)=ab v.cells.size:=by kernel_rfl) (h1:v.cells.all (·.oneCell')=true:=by kernel_rfl)
 (hc:lay cs k v.cells.toList=cs':=by((try simp only[lay,Value.cells,List.setIfInBounds_toArray,List.set_cons_zero,List.set_cons_succ]);rfl)) (hl:l.set i (ah B cs' t)=l':=by((try simp only[List.set_cons_zero,List.set_cons_succ]);rfl)) (hw:c4 o (cY ops a.tmps)=true:=by kernel_rfl)
 (ha:a.put o.dst aZ=bz:=by((try simp only[Act.put,List.setIfInBounds_toArray,List.set_cons_zero,List.set_cons_succ]);rfl)):cH P ops Q (o::rest) a w:=by
 obtain⟨w',hr,h2,h3,_⟩:=MP (P:=P) ho hx hy (I.a1 i hi) hk hz h1;refine rb λK hK=>?_;rw[if_pos hw];unfold hC;rw[hr];show K _ _;rw[ha];exact hK _ _ (h w' (I.eG i (vd h3 (hc▸h2)) hi hl))
def XG{N n c uq aC e sz A az xs cq w'}(h:Fx N w w' A n c az uq aC e sz xs cq):Turned w w' (bp A n c e sz xs) (bp az uq aC e sz cq):=
 ⟨h.2.2.1.only,h.1.le (cQ _),λb hb=>⟨(h.1.lt hb).2,h.2.2.2 b hb⟩⟩
def ai.atR{A:Option bW}{n c e sz:Nat}{xs:List aP}(h:ai an FX w l)(i:Nat)(hi:l[i]?=ab (bp A n c e sz xs):=by rfl):Row 0 w A n c e sz xs:=h.at i hi
def np {s x:iz} {t e sz n c m c2:Nat} {A aK:Option bW} {xs news:List aP} {l':Option bW->Nat->List bu} {bz:Option bW->Nat->bV} (I:ai an FX w l) (i bytes:Nat) (hr:Cells w sz aK m news) (h1:∀u∈news,u.oneCell'=aB)
 (h:∀az aC w',ai an FX w' (l' az aC)->cH P ops Q rest (bz az aC) w') (ho:o.op=.call {callee:=.builtin .append,args:=#[s,x],argTypes:=#[t,t]}:=by rfl) (hi:l[i]?=ab (bp A n c e sz xs):=by rfl) (hs:a.eval s=ad A n c:=by rfl) (hx:a.eval x=ad aK m c2:=by rfl)
 (ht:P.underlying t=ab (hU e):=by kernel_rfl) (kZ:(P.info? e).map (λi=>(i.zero.isSome,(i.zero.map (·.cells.size)).getD 0,i.size,i.bytes))=ab (aB,sz,sz,bytes):=by kernel_rfl) (hb0:0<bytes:=by decide) (hby:(n+m)*bytes<=140737488355328:=by omega) (hl:∀az aC,l.set i (bp az (n+m) aC e sz (xs++news))=l' az aC:=by(intro _ _;(try simp only[List.set_cons_zero,List.set_cons_succ]);rfl))
 (hw:c4 o (cY ops a.tmps)=true:=by kernel_rfl) (ha:∀az aC,a.put o.dst (ad az (n+m) aC)=bz az aC:=by(intro _ _;((try simp only[Act.put,List.setIfInBounds_toArray,List.set_cons_zero,List.set_cons_succ]);rfl))):cH P ops Q (o::rest) a w:=
 rb λK hK=>by rw[if_pos hw];exact acI 0 s x t e sz _ ho ht kZ A n c xs hs (I.atR i hi) aK m c2 _ hx hr h1 hby hb0 (cQ _) (λaz aC w' hap=>by rw[ha];exact hK _ _ (h az aC w' (I.eG i (XG hap) hi (hl az aC))))
def Cp {s t:bu} (I:ai an FX w l) (i:Nat) (hr:∃w',(bw a.eval o).run P w=a8 (c8 v) w'/\Turned w w' s t) (h:∀w',ai an FX w' l'->cH P ops Q rest bz w') (hi:l[i]?=ab s:=by rfl) (hl:l.set i t=l':=by((try simp only[List.set_cons_zero,List.set_cons_succ]);rfl)) (hw:c4 o (cY ops a.tmps)=true:=by kernel_rfl)
 (ha:a.put o.dst v=bz:=by((try simp only[Act.put,List.setIfInBounds_toArray,List.set_cons_zero,List.set_cons_succ]);rfl)):cH P ops Q (o::rest) a w:=by
 obtain⟨w',h1,h2⟩:=hr;refine rb λK hK=>?_;rw[if_pos hw];unfold hC;rw[h1];show K _ _;rw[ha];exact hK _ _ (h w' (I.eG i h2 hi hl))
def Im {ae6:Nat->aP} {aeK:Nat->bu} {bz:Nat->bV} (I:ai an FX w l) (hr:∃B w',(bw a.eval o).run P w=a8 (c8 (ae6 B)) w'/\b5 w w' (aeK B)) (h:∀B w',ai an FX w' (aeK B::l)->cH P ops Q rest (bz B) w') (hw:c4 o (cY ops a.tmps)=true:=by kernel_rfl)
 (ha:∀B,a.put o.dst (ae6 B)=bz B:=by(intro _;(try simp only[Act.put,List.setIfInBounds_toArray,List.set_cons_zero,List.set_cons_succ]);rfl)):cH P ops Q (o::rest) a w:=by
 obtain⟨B,w',h1,h2⟩:=hr;refine rb λK hK=>?_;rw[if_pos hw];unfold hC;rw[h1];show K _ _;rw[ha];exact hK _ _ (h B w' (I.new _ h2))
def My {s t:bu} (I:ai an FX w l) (i:Nat) (hr:∃w',(bw a.eval o).run P w=a8 .skip w'/\Turned w w' s t) (h:∀w',ai an FX w' l'->cH P ops Q rest bz w') (hi:l[i]?=ab s:=by rfl) (hl:l.set i t=l':=by((try simp only[List.set_cons_zero,List.set_cons_succ]);rfl)) (hw:c4 o (cY ops a.tmps)=true:=by kernel_rfl)
 (ha:a.put o.dst aZ=bz:=by((try simp only[Act.put,List.setIfInBounds_toArray,List.set_cons_zero,List.set_cons_succ]);rfl)):cH P ops Q (o::rest) a w:=by
 obtain⟨w',h1,h2⟩:=hr;refine rb λK hK=>?_;rw[if_pos hw];unfold hC;rw[h1];show K _ _;rw[ha];exact hK _ _ (h w' (I.eG i h2 hi hl))
def a7{f:FuncId}{args:Array aP}{cn:Ending->aN->Prop}(hc:Calls P f args w cn)(h:∀e w',cn e w'->Qd e λv=>cH P ops Q rest (a.put o.dst v) w')(hr:(bw a.eval o).run P w=a8 (.enter f args) w:=by(go_simp;try with_reducible rfl))(hw:c4 o (cY ops a.tmps)=true:=by kernel_rfl):
 cH P ops Q (o::rest) a w:=rb λK hK=>by
 rw[if_pos hw];unfold hC;rw[hr];refine Jh hc (λe w' he=>?_);grind[Qd]
def bb(h:cH P ops Q rest bz w)(ha:a.put o.dst v=bz:=by((try simp only[Act.put,List.setIfInBounds_toArray,List.set_cons_zero,List.set_cons_succ]);rfl)):Qd (.returned v) λv=>cH P ops Q rest (a.put o.dst v) w:=by subst ha;exact h
end
def Bc(look:Nat->List Nat)(out:(Nat->e4)->Nat->bu):List Nat->Prop
 |[]=>True
 |i::l=>(∀us kr:Nat->e4,(∀k,k∈look i->us k=kr k)->out us i=out kr i)/\Bc look out l
def Bc.spec{look out}:∀{LE},Bc look out LE->∀i,i∈LE->∀us kr:Nat->e4,(∀k,k∈look i->us k=kr k)->out us i=out kr i
 |[],_,i,hi=>absurd hi gb
 |_::_,h,i,hi=>by
  rcases gz.1 hi with rfl|hi;·exact h.1
  .exact Bc.spec h.2 i hi
def bP {P:ew} {ops:Array cR} {Q:Exit->bV->aN->Prop} {an:aN} {FX:Nat->Prop} {bl:List bu} {Iv:Nat} {w:aN} {a0:bV} (I:ai an FX w bl) (LE:List Nat) (bU:Nat->e4->aP) (out:(Nat->e4)->Nat->bu) (ins rd look:Nat->List Nat) (fin:List Nat)
 (j':∀us,c9 P ops Q (oo ops) LE bU an FX bl out ins rd fin (λ_ _=>False) us 0 ops.toList a0)
 (hloc:Bc look out LE:=by(repeat' (first|exact trivial|refine And.intro (λus kr h=>?_) ?_|rfl|(simp(disch:=decide) only[h];done))))
 (hm:P.follows .mixedOrders=true:=by kernel_rfl) (hk:DW ops (oo ops) (yb ops)=true:=by kernel_rfl) (hsz:((List.range ops.size).all λi=>match oo ops i with|some d=>decide (d<a0.tmps.size)|none=>LE.contains i)=true:=by kernel_rfl) (hs:Fc bl.length ops.size (yb ops) LE ins rd look fin=true:=by kernel_rfl):
 (Code.region Iv ops aB).wp P Q a0 w:=wp_region_any hm (T5 I (yb ops) (oo ops) LE bU out ins rd look fin _ hk hsz hs (λ_ _ _ _ h=>h.elim) (hloc.spec) j')
section
variable {P:ew} {ops:Array cR} {rest:List cR} {Q:Exit->bV->aN->Prop} {o:cR} {a bz:bV} {v:aP} {an:aN} {FX:Nat->Prop} {dst:Nat->Option Tmp} {LE:List Nat} {bU:Nat->e4->aP} {bl:List bu} {out:(Nat->e4)->Nat->bu} {ins rd:Nat->List Nat} {fin:List Nat} {QP:List PanicEntry->aN->Prop} {us:Nat->e4} {i:Nat}
def aL (h:c9 P ops Q dst LE bU an FX bl out ins rd fin QP us (i+1) rest bz) (hi:decide (i∈LE)=false:=by kernel_rfl) (hw:c4 o (cY ops a.tmps)=true:=by kernel_rfl) (hr:∀w,(bw a.eval o).run P w=a8 (c8 v) w:=by(intro _;go_simp;try with_reducible rfl))
 (ha:a.put o.dst v=bz:=by((try simp only[Act.put,List.setIfInBounds_toArray,List.set_cons_zero,List.set_cons_succ]);rfl)):c9 P ops Q dst LE bU an FX bl out ins rd fin QP us i (o::rest) a:=by
 subst ha;exact ad4 hi hw (λw _ _=>hr w) h
def aM (v:aP) (hr:∀w (Fr:List bu),ai an FX w ((rd i).map (dm bl out us)++Fr)->(bw a.eval o).run P w=a8 (c8 v) w) (h:c9 P ops Q dst LE bU an FX bl out ins rd fin QP us (i+1) rest bz) (hi:decide (i∈LE)=false:=by kernel_rfl) (hw:c4 o (cY ops a.tmps)=true:=by kernel_rfl)
 (ha:a.put o.dst v=bz:=by((try simp only[Act.put,List.setIfInBounds_toArray,List.set_cons_zero,List.set_cons_succ]);rfl)):c9 P ops Q dst LE bU an FX bl out ins rd fin QP us i (o::rest) a:=by
 subst ha;exact ad4 hi hw hr h
def ds (h:c9 P ops Q dst LE bU an FX bl out ins rd fin QP us (i+1) rest bz) (hi:decide (i∈LE)=false:=by kernel_rfl) (hw:c4 o (cY ops a.tmps)=false:=by kernel_rfl)
 (ha:a.put o.dst aZ=bz:=by((try simp only[Act.put,List.setIfInBounds_toArray,List.set_cons_zero,List.set_cons_succ]);rfl)):c9 P ops Q dst LE bU an FX bl out ins rd fin QP us i (o::rest) a:=by
 subst ha;exact atX hi hw h
def dl {B t:Nat} {cs:Array aP} {ty:gm} {x:iz} (j k:Nat) (h:c9 P ops Q dst LE bU an FX bl out ins rd fin QP us (i+1) rest bz) (ho:o.op=nZ ty x:=by rfl) (hx:a.eval x=ay (ab ⟨B,k,af⟩):=by rfl) (hj:∀Fr,((rd i).map (dm bl out us)++Fr)[j]?=ab (ah B cs t):=by(intro _;rfl))
 (hv:cs[k]?=ab v:=by((try simp only[List.getElem?_toArray,List.getElem?_cons_succ,List.getElem?_cons_zero])<;>rfl)) (hu:(P.underlying ty).map (λd=>d.isRow)=ab false:=by kernel_rfl) (hi:decide (i∈LE)=false:=by kernel_rfl) (hw:c4 o (cY ops a.tmps)=true:=by kernel_rfl)
 (ha:a.put o.dst v=bz:=by((try simp only[Act.put,List.setIfInBounds_toArray,List.set_cons_zero,List.set_cons_succ]);rfl)):c9 P ops Q dst LE bU an FX bl out ins rd fin QP us i (o::rest) a:=
 aM v (λ_ Fr I=>fz ho hx (I.a1 j (hj Fr)) hv hu) h hi hw ha
def eb {B t k:Nat} {cs:Array aP} {ty:gm} {x:iz} (j:Nat) (cs':Array aP) (h:c9 P ops Q dst LE bU an FX bl out ins rd fin QP us (i+1) rest bz) (ho:o.op=nZ ty x:=by rfl) (hx:a.eval x=ay (ab ⟨B,k,af⟩):=by rfl) (hj:∀Fr,((rd i).map (dm bl out us)++Fr)[j]?=ab (ah B cs t):=by(intro _;rfl))
 (hv:cs.extract k (k+cs'.size)=cs':=by kernel_rfl) (hk:k+cs'.size<=cs.size:=by exact(of_decide_eq_true aw)) (hu:(P.underlying ty).map (λd=>d.isRow)=ab true:=by kernel_rfl) (hz:(P.info? ty).map (·.size)=ab cs'.size:=by kernel_rfl) (hi:decide (i∈LE)=false:=by kernel_rfl) (hw:c4 o (cY ops a.tmps)=true:=by kernel_rfl)
 (ha:a.put o.dst (.agg cs')=bz:=by((try simp only[Act.put,List.setIfInBounds_toArray,List.set_cons_zero,List.set_cons_succ]);rfl)):c9 P ops Q dst LE bU an FX bl out ins rd fin QP us i (o::rest) a:=
 aM _ (λ_ Fr I=>mg ho hx (I.a1 j (hj Fr)) hv hk hu hz) h hi hw ha
def wL(h:Kg P ops dst LE bU an FX bl out ins rd QP us i o a)(hr:c9 P ops Q dst LE bU an FX bl out ins rd fin QP us (i+1) rest bz)(hi:decide (i∈LE)=true:=by kernel_rfl)(ha:a.put o.dst (bU i (us i))=bz:=by((try simp only[Act.put,List.setIfInBounds_toArray,List.set_cons_zero,List.set_cons_succ]);rfl)):c9 P ops Q dst LE bU an FX bl out ins rd fin QP us i (o::rest) a:=by subst ha;exact atW hi h hr
def qy {ty:gm} {z:aP} (cs:Array aP) (h:c9 P ops Q dst LE bU an FX bl out ins rd fin QP us (i+1) rest bz) (ho:o.op=.alloc ty:=by rfl) (hz:(P.info? ty).bind (·.zero)=ab z:=by rfl) (hc:z.cells=cs:=by rfl) (hl:∀u,bU i u=ay (ab ⟨u.b,0,af⟩):=by(intro _;rfl)) (nL:∀u,out (dA us i u) i=ah u.b cs ty:=by(intro _;rfl)) (hn:ins i=[]:=by rfl) (hd:dst i=o.dst:=by rfl) (hlt:(match o.dst with|some d=>decide (d<a.tmps.size)|none=>au)=true:=by kernel_rfl)
 (hi:decide (i∈LE)=true:=by kernel_rfl) (hw:c4 o (cY ops a.tmps)=true:=by kernel_rfl) (ha:a.put o.dst (bU i (us i))=bz:=by((try simp only[Act.put,List.setIfInBounds_toArray,List.set_cons_zero,List.set_cons_succ]);rfl)):c9 P ops Q dst LE bU an FX bl out ins rd fin QP us i (o::rest) a:=by
 refine wL (λw Fr I K hK=>?_) h hi ha;subst hc;rw[if_pos hw];rw[hn]at I;refine acH ho z hz (λB w' h1 h2 h3 _=>hK.out {b:=B} _ _ ?_ (put_defers _ _ _) ?_)
 .rw[hd,hl];cases hq:o.dst with
  |none=>grind
  |some d=>simp only[hq,decide_eq_true_eq]at hlt;simp[lC,uJ,tj,hlt]
 .rw[nL];exact I.new _ (x3 h2 h1 h3)
def alI {ty:gm} {x:iz} {cs:Array aP} (v:aP) (h:c9 P ops Q dst LE bU an FX bl out ins rd fin QP us (i+1) rest bz) (ho:o.op=.box ty x:=by rfl) (hx:a.eval x=v:=by rfl) (hc:v.cells=cs:=by rfl) (hl:∀u,bU i u=ay (ab ⟨u.b,0,af⟩):=by(intro _;rfl)) (nL:∀u,out (dA us i u) i=ah u.b cs ty:=by(intro _;rfl)) (hn:ins i=[]:=by rfl) (hd:dst i=o.dst:=by rfl) (hlt:(match o.dst with|some d=>decide (d<a.tmps.size)|none=>au)=true:=by kernel_rfl)
 (hi:decide (i∈LE)=true:=by kernel_rfl) (hw:c4 o (cY ops a.tmps)=true:=by kernel_rfl) (ha:a.put o.dst (bU i (us i))=bz:=by((try simp only[Act.put,List.setIfInBounds_toArray,List.set_cons_zero,List.set_cons_succ]);rfl)):c9 P ops Q dst LE bU an FX bl out ins rd fin QP us i (o::rest) a:=by
 refine wL (λw Fr I K hK=>?_) h hi ha;subst hc;rw[if_pos hw];rw[hn]at I;refine acJ x ho v hx (λB w' h1 h2 h3 _=>hK.out {b:=B} _ _ ?_ (put_defers _ _ _) ?_)
 .rw[hd,hl];cases hq:o.dst with
  |none=>grind
  |some d=>simp only[hq,decide_eq_true_eq]at hlt;simp[lC,uJ,tj,hlt]
 .rw[nL];exact I.new _ (x3 h2 h1 h3)
def lM {ty n:Nat} {parts:Array (Nat×iz)} (cs:Array aP) (e:Nat) (h:c9 P ops Q dst LE bU an FX bl out ins rd fin QP us (i+1) rest bz) (ho:o.op=UP ty n parts:=by rfl) (hr:∀w:aN,(UL ty n (parts.map λ(i,x)=>(i,a.eval x))).run P w=a8 (ad (ab ⟨w.heap.size,0,af⟩) n n) (w.alloc (.cells cs e)):=by(intro _;kernel_rfl))
 (hl:∀u,bU i u=ad (ab ⟨u.b,0,af⟩) n n:=by(intro _;rfl)) (nL:∀u,out (dA us i u) i=ah u.b cs e:=by(intro _;rfl)) (hn:ins i=[]:=by rfl) (hd:dst i=o.dst:=by rfl) (hlt:(match o.dst with|some d=>decide (d<a.tmps.size)|none=>au)=true:=by kernel_rfl)
 (hi:decide (i∈LE)=true:=by kernel_rfl) (hw:c4 o (cY ops a.tmps)=true:=by kernel_rfl) (ha:a.put o.dst (bU i (us i))=bz:=by((try simp only[Act.put,List.setIfInBounds_toArray,List.set_cons_zero,List.set_cons_succ]);rfl)):c9 P ops Q dst LE bU an FX bl out ins rd fin QP us i (o::rest) a:=by
 refine wL (λw Fr I K hK=>?_) h hi ha;rw[if_pos hw];rw[hn]at I;refine acK ho hr (λB w' h1 h2 h3 _=>hK.out {b:=B} _ _ ?_ (put_defers _ _ _) ?_)
 .rw[hd,hl];cases hq:o.dst with
  |none=>grind
  |some d=>simp only[hq,decide_eq_true_eq]at hlt;simp[lC,uJ,tj,hlt]
 .rw[nL];exact I.new _ (x3 h2 h1 h3)
def fZ {B t k m:Nat} {cs cs':Array aP} {ty:gm} {x y:iz} (v:aP) (h:c9 P ops Q dst LE bU an FX bl out ins rd fin QP us (i+1) rest bz) (hn:ins i=[m]:=by rfl) (hm:dm bl out us m=ah B cs t:=by rfl) (ho:o.op=y6 ty x y:=by rfl) (hx:a.eval x=ay (ab ⟨B,k,af⟩):=by rfl) (hy:a.eval y=v:=by rfl)
 (hk:k+v.cells.size<=cs.size:=by exact(of_decide_eq_true aw)) (hz:(P.info? ty).map (·.size)=ab v.cells.size:=by kernel_rfl) (h1:v.cells.all (·.oneCell')=true:=by kernel_rfl)
 (hc:lay cs k v.cells.toList=cs':=by((try simp only[lay,Value.cells,List.setIfInBounds_toArray,List.set_cons_zero,List.set_cons_succ]);rfl)) (hl:∀u,bU i u=undef:=by(intro _;rfl)) (nL:∀u,out (dA us i u) i=ah B cs' t:=by(intro _;rfl)) (hd:dst i=none:=by rfl) (jV:o.dst=none:=by rfl)
 (hi:decide (i∈LE)=true:=by kernel_rfl) (hw:c4 o (cY ops a.tmps)=true:=by kernel_rfl) (ha:a.put o.dst (bU i (us i))=bz:=by((try simp only[Act.put,List.setIfInBounds_toArray,List.set_cons_zero,List.set_cons_succ]);rfl)):c9 P ops Q dst LE bU an FX bl out ins rd fin QP us i (o::rest) a:=by
 refine wL (λw Fr I K hK=>?_) h hi ha;rw[if_pos hw];rw[hn]at I;have kT:ai an FX w (ah B cs t::((rd i).map (dm bl out us)++Fr)):=aG;obtain⟨w',hr,h2,h3,_⟩:=MP (P:=P) ho hx hy (kT.a1 0 aa) hk hz h1;unfold hC;rw[hr];show K _ _;refine hK.out {} _ _ (by rw[hd,hl,jV];rfl) (put_defers _ _ _) ?_;rw[nL];exact kT.yV (vd h3 (hc▸h2))
def tN {s x:iz} {t e sz n c m c2 k:Nat} {A aK:Option bW} {xs news:List aP} (bytes:Nat) (hr:∀w (Fr:List bu),ai an FX w ((ins i).map (dm bl out us)++((rd i).map (dm bl out us)++Fr))->Cells w sz aK m news) (h1:∀u∈news,u.oneCell'=aB) (h:c9 P ops Q dst LE bU an FX bl out ins rd fin QP us (i+1) rest bz)
 (hn:ins i=[k]:=by rfl) (hk:dm bl out us k=bp A n c e sz xs:=by rfl) (ho:o.op=.call {callee:=.builtin .append,args:=#[s,x],argTypes:=#[t,t]}:=by rfl) (hs:a.eval s=ad A n c:=by rfl) (hx:a.eval x=ad aK m c2:=by rfl) (ht:P.underlying t=ab (hU e):=by kernel_rfl) (kZ:(P.info? e).map (λi=>(i.zero.isSome,(i.zero.map (·.cells.size)).getD 0,i.size,i.bytes))=ab (aB,sz,sz,bytes):=by kernel_rfl) (hb0:0<bytes:=by decide) (hby:(n+m)*bytes<=140737488355328:=by omega)
 (hl:∀u,bU i u=ad u.A (n+m) u.c:=by(intro _;rfl)) (nL:∀u,out (dA us i u) i=bp u.A (n+m) u.c e sz (xs++news):=by(intro _;rfl)) (hd:dst i=o.dst:=by rfl) (hlt:(match o.dst with|some d=>decide (d<a.tmps.size)|none=>au)=true:=by kernel_rfl)
 (hi:decide (i∈LE)=true:=by kernel_rfl) (hw:c4 o (cY ops a.tmps)=true:=by kernel_rfl) (ha:a.put o.dst (bU i (us i))=bz:=by((try simp only[Act.put,List.setIfInBounds_toArray,List.set_cons_zero,List.set_cons_succ]);rfl)):c9 P ops Q dst LE bU an FX bl out ins rd fin QP us i (o::rest) a:=by
 refine wL (λw Fr I K hK=>?_) h hi ha;rw[if_pos hw];have hr:=hr w Fr I;rw[hn]at I;have kT:ai an FX w (bp A n c e sz xs::((rd i).map (dm bl out us)++Fr)):=aG;refine acI 0 s x t e sz _ ho ht kZ A n c xs hs (kT.atR 0 aa) aK m c2 _ hx hr h1 hby hb0 (cQ _) (λaz aC w' hap=>hK.out {A:=az,c:=aC} _ _ ?_ (put_defers _ _ _) ?_)
 .rw[hd,hl];cases hq:o.dst with
  |none=>grind
  |some d=>simp only[hq,decide_eq_true_eq]at hlt;simp[lC,uJ,tj,hlt]
 .rw[nL];exact kT.yV (XG hap)
def DS {k:Nat} {s t:bu} (v:aP) (hr:∀w (Fr:List bu),ai an FX w ((ins i).map (dm bl out us)++((rd i).map (dm bl out us)++Fr))->∃w',(bw a.eval o).run P w=a8 (c8 v) w'/\Turned w w' s t) (h:c9 P ops Q dst LE bU an FX bl out ins rd fin QP us (i+1) rest bz)
 (hn:ins i=[k]:=by rfl) (hk:dm bl out us k=s:=by rfl) (hl:∀u,bU i u=(if o.dst=af then aZ else v):=by(intro _;rfl)) (nL:∀u,out (dA us i u) i=t:=by(intro _;rfl)) (hd:dst i=o.dst:=by rfl) (hlt:(match o.dst with|some d=>decide (d<a.tmps.size)|none=>aB)=true:=by kernel_rfl)
 (hi:decide (i∈LE)=true:=by kernel_rfl) (hw:c4 o (cY ops a.tmps)=true:=by kernel_rfl) (ha:a.put o.dst (bU i (us i))=bz:=by((try simp only[Act.put,List.setIfInBounds_toArray,List.set_cons_zero,List.set_cons_succ]);rfl)):c9 P ops Q dst LE bU an FX bl out ins rd fin QP us i (o::rest) a:=by
 refine wL (λw Fr I K hK=>?_) h hi ha;rw[if_pos hw];obtain⟨w',h1,h2⟩:=hr w Fr I;rw[hn]at I;have kT:ai an FX w (s::((rd i).map (dm bl out us)++Fr)):=aG;unfold hC;rw[h1];show K _ _;refine hK.out {} _ _ ?_ (put_defers _ _ _) ?_
 .rw[hd,hl];cases hq:o.dst with
  |none=>rfl
  |some d=>simp only[hq,decide_eq_true_eq]at hlt;simp[lC,uJ,tj,hlt]
 .rw[nL];exact kT.yV h2
def KM {k:Nat} {s t:bu} (hr:∀w (Fr:List bu),ai an FX w ((ins i).map (dm bl out us)++((rd i).map (dm bl out us)++Fr))->∃w',(bw a.eval o).run P w=a8 .skip w'/\Turned w w' s t) (h:c9 P ops Q dst LE bU an FX bl out ins rd fin QP us (i+1) rest bz)
 (hn:ins i=[k]:=by rfl) (hk:dm bl out us k=s:=by rfl) (hl:∀u,bU i u=undef:=by(intro _;rfl)) (nL:∀u,out (dA us i u) i=t:=by(intro _;rfl)) (hd:dst i=o.dst:=by rfl) (hlt:(match o.dst with|some d=>decide (d<a.tmps.size)|none=>aB)=true:=by kernel_rfl)
 (hi:decide (i∈LE)=true:=by kernel_rfl) (hw:c4 o (cY ops a.tmps)=true:=by kernel_rfl) (ha:a.put o.dst (bU i (us i))=bz:=by((try simp only[Act.put,List.setIfInBounds_toArray,List.set_cons_zero,List.set_cons_succ]);rfl)):c9 P ops Q dst LE bU an FX bl out ins rd fin QP us i (o::rest) a:=by
 refine wL (λw Fr I K hK=>?_) h hi ha;rw[if_pos hw];obtain⟨w',h1,h2⟩:=hr w Fr I;rw[hn]at I;have kT:ai an FX w (s::((rd i).map (dm bl out us)++Fr)):=aG;unfold hC;rw[h1];show K _ _;refine hK.out {} _ _ ?_ (put_defers _ _ _) ?_
 .rw[hd,hl];cases hq:o.dst with
  |none=>rfl
  |some d=>simp only[hq,decide_eq_true_eq]at hlt;simp[lC,uJ,tj]
 .rw[nL];exact kT.yV h2
def df {f:FuncId} {args:Array aP} (hc:∀w (Fr:List bu),ai an FX w ((ins i).map (dm bl out us)++((rd i).map (dm bl out us)++Fr))->Calls P f args w λe w'=>∃u,e=.returned (bU i u)/\ai an FX w' (out (dA us i u) i::((rd i).map (dm bl out us)++Fr))) (h:c9 P ops Q dst LE bU an FX bl out ins rd fin QP us (i+1) rest bz)
 (hr:∀w,(bw a.eval o).run P w=a8 (.enter f args) w:=by(intro _;go_simp;try with_reducible rfl)) (hd:dst i=o.dst:=by rfl) (hlt:(match o.dst with|some d=>decide (d<a.tmps.size)|none=>au)=true:=by kernel_rfl) (hi:decide (i∈LE)=true:=by kernel_rfl) (hw:c4 o (cY ops a.tmps)=true:=by kernel_rfl) (ha:a.put o.dst (bU i (us i))=bz:=by((try simp only[Act.put,List.setIfInBounds_toArray,List.set_cons_zero,List.set_cons_succ]);rfl)):c9 P ops Q dst LE bU an FX bl out ins rd fin QP us i (o::rest) a:=by
 refine wL (λw Fr I K hK=>?_) h hi ha;rw[if_pos hw];unfold hC;rw[hr];refine Jh (hc w Fr I) (λe w' ⟨u,he,h2⟩=>?_);subst he;refine hK.out u _ _ ?_ (put_defers _ _ _) h2;rw[hd];cases hq:o.dst with
 |none=>grind
 |some d=>simp only[hq,decide_eq_true_eq]at hlt;simp[lC,uJ,tj,hlt]
end
def bg(w:World):ai w (λ_=>False) w []:=ai.init w λ_=>False
end
end Go.Proofs.YtcmhplknoglbkaaGreat
