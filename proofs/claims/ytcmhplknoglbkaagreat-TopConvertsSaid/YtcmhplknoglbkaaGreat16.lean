/- Part 16 of the proof of TopConvertsSaid. -/
import Derived.Test.YtcmhplknoglbkaaGreat0
import Derived.Test.YtcmhplknoglbkaaGreat6
import Derived.Test.YtcmhplknoglbkaaGreat12
import Derived.Test.YtcmhplknoglbkaaGreat15
set_option linter.all false
set_option maxRecDepth 100000
set_option maxHeartbeats 4000000
open Go.Proofs.Tryz
open BitVec renaming ofInt->nt
open Bool renaming true->aB
open Go renaming Addr->bW,Calls->aD,World->aN,execOp->bw,run_underlying->gG,wpList->cH,wpList_nil->ak,wp_region_lit->ar
open Go.Ending renaming returned->aA
open Go.IntKind renaming i64->R,u32->vV,u64->aH,u8->ea
open Go.Next renaming value->c8
open Go.Op renaming indexAddr->C4
open Go.Proofs.Tryz renaming func213->agj,ntmps213->ag8,prog->ax,underlying22->dJ
open Go.Region renaming wanted->c4
open Go.RowKit renaming intOf->cx
open Go.Sem renaming run_bind->gl
open Go.TypeDesc renaming slice->hU
open Go.Value renaming bool->aj,int->J,pointer->ay,slice->ad,tuple->bh
open List renaming append_assoc->j5,length_append->dw,length_replicate->ry,map_append->gy,map_cons->jx,map_nil->kC,replicate->fu
open Nat renaming le_refl->cp
open Option renaming map_some->oT,none->af,some->ab
open Option.some renaming injEq->wC
open Or renaming inr->b3
namespace Go.Proofs.YtcmhplknoglbkaaGreat
section
open Go.RowKit Go.MapKept
section
variable {P:Program} {o:Oper} {a:Act} {w:aN}
def aen (t e sz:Nat) (x hi b) (d:o.op=.slice t x af (ab hi) (ab b)) (f:P.underlying t=ab (hU e)) (g:(P.info? e).map (·.size)=ab sz) A (n c q m:Nat)
 (hx:a.eval x=ad A n c) (yp:a.eval hi=J R (q:Int)) (hmx:a.eval b=J R (m:Int)) (h1:q<=m) (h2:m<=c):
 (bw a.eval o).run P w=.ok (c8 (ad A q m)) w:=by
 cases hq:P.info? e with
 |none=>grind
 |some h=>
  unfold bw;simp[d,hx,yp,hmx,Instr.sliceAt,Instr.slice,Instr.sliceBounds,Instr.sliceBound,asIntOf,gl,gG f,sizeOf,typeInfo,hq,h1,h2];intro _;cases A<;>simp[Addr.add]
def atA w N (t ty e) i z (d:P.underlying t=ab (hU e)) (hi:P.info? e=ab i) (hz:i.zero=ab z) (hsize:i.size=1) (hzs:z.cells.size=1)
 A n xs (hx:Cells w 1 A n xs) aK (m c2) news (hr:Cells w 1 aK m news) (h1:∀u∈news,u.oneCell'=aB) (hm:0<m)
 (h63:n+m<=maxLen) (hbytes:(n+m)*i.bytes<=140737488355328) (fl:N<=w.heap.size):
 ∃B c w',(Builtin.append_ #[t,t] ty #[ad A n n,ad aK m c2]).run P w=.ok (ad (ab ⟨B,0,af⟩) (n+m) c) w'/\Row N w' (ab ⟨B,0,af⟩) (n+m) c e 1 (xs++news)/\ao w w'/\w.heap.size<=B:=by
 have hlx:=by simpa using hx.1
 have j:=by simpa using hr.1
 obtain⟨a,rfl,hnews⟩:=hr.2 hm;have h:Src P i.size t (ad (ab a) m c2) m news w:=Src.ofSlice w d a m c2 news aG hnews h1
 have hold:(Builtin.firstCells i.size n (ad A n n)).run P w.drew=.ok xs.toArray w.drew:=by
  rw[hsize];rcases Nat.eq_zero_or_pos n with b|b
  .subst b;obtain rfl:=List.eq_nil_of_length_eq_zero hlx;cases A with
   |none=>rfl
   |some a=>rfl
  .obtain⟨a,rfl,hc⟩:=hx.2 b;exact run_firstCells_some _ 1 n a n n xs ae hc
 have hrun:=run_append_grow_src (P:=P) w t t ty e i z d hi hz A n n xs hold _ m news h ae (by grind[maxLen]) (growslice_fits ae hbytes);have f:=grownCap_ge w (n+m) n e;have g:=grownCap_le_maxLen w _ n e h63;refine⟨_,_,_,hrun,⟨aG,b3 ⟨_,_,_,aa,fl,heap_alloc_new _ _,f,g,?_,?_⟩⟩,ao.trans (aq.drew _) (aq.alloc _ _),cp _⟩;·grind[Builtin.zeroCells]
 .grind
def ajP {s x} {t e n m c2:Nat} {A aK xs news} bytes (j:o.op=.call {callee:=.builtin .append,args:=#[s,x],argTypes:=#[t,t]}) (k:a.eval s=ad A n n) (hx:a.eval x=ad aK m c2) (hown:Cells w 1 A n xs) (hr:Cells w 1 aK m news) (h1:∀u∈news,u.oneCell'=aB) (h:0<m) (hbytes:(n+m)*bytes<=140737488355328) (hb0:0<bytes) (l:P.underlying t=ab (hU e))
 (kZ:(P.info? e).map (λi=>(i.zero.isSome,(i.zero.map (·.cells.size)).getD 0,i.size,i.bytes))=ab (aB,1,1,bytes)):
 ∃c b w',(bw a.eval o).run P w=.ok (c8 (ad c (n+m) b)) w'/\b5 w w' (bp c (n+m) b e 1 (xs++news)):=by
 cases hq:P.info? e with
 |none=>grind
 |some i=>
  rw[hq]at kZ;simp only[oT,wC,Prod.mk.injEq]at kZ;obtain⟨bD,b9,d,f⟩:=kZ;obtain⟨z,hz⟩:=Option.isSome_iff_exists.1 bD;rw[hz]at b9;simp only[oT,Option.getD_some]at b9;subst f;have hle:(n+m)<=(n+m)*i.bytes:=Nat.le_mul_of_pos_right _ hb0;obtain⟨B,b,w',hrun,h1,g,p⟩:=atA (P:=P) w w.heap.size t o.type e i z l hq hz d b9 A n xs hown aK m c2 news hr h1 h (by grind[maxLen]) hbytes (cp _);refine⟨_,b,w',?_,b5.acD g h1⟩;unfold bw;simp only[j,resolve,invoke,builtin,gl,Sem.run_pure,Result.andThen_ok,List.map_toArray,jx,kC,k,hx,hrun]
def ar4 {ops:Array Oper} {rest:List Oper} {Q:Exit->Act->aN->Prop} {an:aN} {FX:Nat->Prop} {l:List bu} {d:Option bW->Nat->Act} {b:Option bW->Nat->Value} {t:Option bW->Nat->bu} (e:ai an FX w l) (hr:∃A c w',(bw a.eval o).run P w=.ok (c8 (b A c)) w'/\b5 w w' (t A c)) (h:∀A c w',ai an FX w' (t A c::l)->cH P ops Q rest (d A c) w')
 (hw:c4 o (yielded ops a.tmps)=true:=by kernel_rfl) (ha:∀A c,a.put o.dst (b A c)=d A c:=by(intro _ _;(try simp only[Act.put,List.setIfInBounds_toArray,List.set_cons_zero,List.set_cons_succ]);rfl)):cH P ops Q (o::rest) a w:=by
 obtain⟨A,c,w',h1,f⟩:=hr;refine wpList_step λK g=>?_;rw[if_pos hw];unfold Oper.wp;rw[h1];show K _ _;rw[ha];exact g _ _ (h A c w' (e.new _ f))
def apQ(t e sz m:Nat)(x c)j(f:o.op=C4 t x c)(g:P.underlying t=ab (.array m e))(p:(P.info? e).map (·.size)=ab sz)(b off i k:Nat)(hx:a.eval x=ay (ab ⟨b,off,af⟩))(hi:a.eval c=J j (i:Int))(h:i<m)(hk:off+i*sz=k):
 (bw a.eval o).run P w=.ok (c8 (ay (ab ⟨b,k,af⟩))) w:=by
 cases hq:P.info? e with
 |none=>grind
 |some l=>
  have hsz:l.size=sz:=aG;subst hk;have d:(⟨b,off,_⟩:bW).add (i*sz)=⟨b,_,_⟩:=Addr.add_mid _ _ _;unfold bw;simp[f,hx,hi,Instr.indexAt,Instr.sureAddr,asIntOf,gl,gG g,sizeOf,typeInfo,hq,hsz,d];intro n;omega
def ac0 {ops:Array Oper} {rest:List Oper} {Q:Exit->Act->aN->Prop} {d:Act} (h:cH P ops Q rest d w) {f:IntKind} {t e m b i:Nat} {x c:Operand} (j:o.op=C4 t x c:=by rfl) (l:P.underlying t=ab (.array m e):=by rfl) (k:(P.info? e).map (·.size)=ab 1:=by kernel_rfl) (hx:a.eval x=ay (ab ⟨b,0,af⟩):=by rfl) (hi:a.eval c=J f (i:Int):=by rfl) (g:i<m:=by omega) (n:c4 o (yielded ops a.tmps)=true:=by kernel_rfl)
 (ha:a.put o.dst (ay (ab ⟨b,i,af⟩))=d:=by((try simp only[Act.put,List.setIfInBounds_toArray,List.set_cons_zero,List.set_cons_succ]);rfl)):cH P ops Q (o::rest) a w:=ag h n (apQ t e 1 m x c f j l k b 0 i i hx hi g ae) ha
end
end
open Go.RowKit Go.MapKept
def aco(x:Int):Int:=vV.wrap (0 -x)
def ET(x:Int):Int:=kt 4294967295 x
def Ci(x:Int):Nat:=(nt 32 x&&& nt 32 15).toNat
theorem S4 x:Ci x<16:=by grind[Ci,Nat.and_le_right]
def acn x:n32 x 15=((Ci x:Nat):Int):=by grind[S4,n32,Ci,IntKind.wrap,IntKind.bits]
def aln(x:Int):Int:=kt (kb x 1) (n32 3988292384 (aco (n32 x 1)))
def Bt(x:Int):Nat->Int
 |0=>x
 |i+1=>aln (Bt x i)
def yS:Nat->List Int
 |0=>fu 16 0
 |i+1=>(yS i).set i (Bt (j8 (i:Int)) 4)
def TU:∀q,(yS q).length=16
 |0=>ry ..
 |q+1=>by rw[yS,List.length_set];exact TU q
def zF:List Int:=yS 16
def DP:zF.length=16:=TU 16
def alo{q}(h:q=16):yS q=zF:=by rw[h];rfl
attribute [irreducible] zF
def auJ w:
 aD ax 357 #[] w λe w'=>e=aA (.agg (aY cb zF []))/\ao w w':=by
 go_enter func357,ntmps357;have a:=bg w;go_upto_region 0 with fail;refine ar ?_;refine bA a (aY cb (fu 16 0) []) (λd w1 a=>?_);refine aF ?_;refine bA a (aY cb (yS 0) []) (λf r a=>?_);refine aF ?_;refine ag ?_;refine ak ?_;go_wp2_with fail;go_loopw [4] (λb wr=>∃q:Nat,q<=16/\b=J R q/\ai w (λ_=>False) wr [ah f (aY cb (yS q) []) 434,ah d (aY cb (fu 16 0) []) 434]) (λb wr=>16 -(cx b).toNat);case atStart=>grind
 case round=>
  clear a;obtain⟨q,o,rfl,a⟩:=hrel;by_cases hlt:q<16
  .have l:(q:Int)<16:=ae;go_upto_region 4 with fail;refine ar ?_;refine CN ?_;refine pk (cb (j8 (q:Int))) ?_;refine ag ?_;refine aF ?_;refine ag ?_;refine ak ?_;go_wp2_with fail;go_loopw [3,9] (λh c wr=>∃j:Nat,j<=4/\c=J R j/\Hid (h=cb (Bt (j8 (q:Int)) j))/\ai w (λ_=>False) wr [ah f (aY cb (yS q) []) 434,ah d (aY cb (fu 16 0) []) 434]) (λh c wr=>4 -(cx c).toNat);case atStart=>exact⟨0,ae,aa,hid aa,a⟩
   case round=>
    clear a;obtain⟨j,m,rfl,i,a⟩:=hrel;obtain rfl:=i.out;by_cases n:j<4
    .have k:(j:Int)<4:=ae;go_upto_region 8 with fail;refine ar ?_;refine ag ?_;refine pk (cb (kb (Bt (j8 (q:Int)) j) 1)) ?_;refine ag ?_;refine pu ?_;refine pk (cb (aco (n32 (Bt (j8 (q:Int)) j) 1))) ?_;iterate 2 refine pu ?_
     refine dR ?_;refine pad (j:Int) 1 ((j+1:Nat):Int) ?_;refine bR ?_;go_wp2_with fail;go_roundw;case rel=>exact⟨j+1,ae,aa,hid aa,a⟩
     case measure=>simp[cx]<;>omega
    .have k:¬(j:Int)<4:=ae;obtain⟨oH,g⟩:=ex (Bt (j8 (q:Int)) j);have p:Bt (j8 (q:Int)) 4=oH:=by rw[<-g,show j=4 by omega]
     rw[g];go_upto_region 10 with fail;refine ar ?_;refine v2 ?_;refine mM ?_;refine E1 a 0 (TU ..) (λs a=>?_);refine ak ?_;go_wp2_with fail;go_roundw;case rel=>exact⟨q+1,ae,by go_num,by grind[yS]⟩
     case measure=>grind[cx]
  .have l:¬(q:Int)<16:=ae;rw[alo (show q=16 by omega)]at a;go_upto_region 12 with fail;refine ar ?_;refine MC a 0 DP ?_;refine Cq a 1 (ry ..) DP (λt a=>?_);refine ak ?_;go_wp2_with fail;refine bodyPost_ret (v:=_) (results_cell_row aa _ _ _ _ _ _ _ aa (a.a1 1) underlying434 aa (by rw[j7,DP];rfl)) aa (⟨aa,a.only⟩)
def KI(r:Int):Int:=kt (kb r 4) (zF[Ci r]?.getD 0)
def Yl(r c:Int):Int:=KI (KI (kt r (j8 c)))
def KJ(r:Int)(bs:List Int):Nat->Int
 |0=>r
 |i+1=>Yl (KJ r bs i) (bs[i]?.getD 0)
def QQ(s:Int)(bs:List Int):Int:=ET (KJ (ET s) bs bs.length)
def GQ(bs:List Int):Int:=QQ 0 bs
def amV s(o i C)aK c2 bs w(O:bs.length<=35184372088832)(hcell:w.cell? ⟨o,i,af⟩=ab (ad aK bs.length c2))(hb:bT w aK bs):
 aD ax 323 #[cb s,ad (ab ⟨o,i,af⟩) 1 C] w λe w'=>e=aA (cb (QQ s bs))/\ao w w':=by
 have z:=hid hb;have l:=hid hcell;obtain⟨fU,hbl⟩:=ex bs.length;have I:fU<=35184372088832:=ae;rw[hbl]at l;have d:=hid hbl;clear hcell hb hbl;go_enter func323,ntmps323;have a:=bg w;go_upto_region 0 with fail;refine ar ?_;refine dR ?_;refine bC (auJ _) a (λw1 a=>?_);refine bA a (aY cb (fu 16 0) []) (λk Q a=>?_);refine Cq a 0 (ry ..) DP (λS a=>?_);refine b6 ?_;refine pk (cb (ET s)) ?_;refine ag ?_;refine aF ?_;refine v3 ?_;refine ak ?_;go_wp2_with fail;go_loopw [6,16] (λv f wr=>∃q:Nat,q<=1/\f=J R q/\∃r,v=cb r/\Hid (q=0/\r=ET s\/q=1/\ET r=QQ s bs)/\ai w (λ_=>False) wr [ah k (aY cb (zF) []) 434]) (λv f wr=>1 -(cx f).toNat);case atStart=>grind[hid]
 case round=>
  clear a;obtain⟨q,P,rfl,r,rfl,m,a⟩:=hrel;by_cases hlt:q<1
  .have F:(q:Int)<1:=ae;obtain⟨rfl,t⟩:=m.out.resolve_right (λh=>ae);have B:=hid t;clear t;go_upto_region 5 with fail;refine ar ?_;refine aJ _ (cI _ 22 1 _ _ aa underlying193 aw _ _ _ _ _ i aa aa bj ae) ?_;refine ME l a.only ?_;refine ag ?_;refine aF ?_;refine v3 ?_;refine ak ?_;go_wp2_with fail;go_loopw [6,22] (λx g wr=>∃j:Nat,j<=fU/\g=J R j/\∃b,x=cb b/\Hid (b=KJ r bs j)/\ai w (λ_=>False) wr [ah k (aY cb (zF) []) 434]) (λx g wr=>fU -(cx g).toNat);case atStart=>exact⟨0,ae,aa,_,aa,hid aa,a⟩
   case round=>
    clear a;obtain⟨j,N,rfl,b,rfl,n,a⟩:=hrel;by_cases p:j<fU
    .have E:(j:Int)<(fU:Int):=ae;obtain⟨H,G,rfl,D⟩:=z (by rw[d];omega);obtain⟨c,hc⟩:=ex (bs[j]?.getD 0);have y:=D j (by rw[d];exact p);rw[hc]at y;have A:=hid hc;clear hc;go_upto_region 8 with fail;refine ar ?_;refine aJ _ (cI 22 5 1 _ _ aa dJ aw _ _ _ _ _ ((G+j)) aa aa p ae) ?_;refine ME y a.only ?_;refine ku ?_;refine pk (cb (j8 c)) ?_;refine pu ?_;refine bR ?_;obtain⟨dc,hx1⟩:=ex (Ci (kt b (j8 c)));have K:dc<16:=by rw[<-hx1];exact S4 _
     refine b6 ?_;refine pk (cb (kb (kt b (j8 c)) 4)) ?_;refine ag ?_;refine aJ (J vV (dc:Int)) (by(rw[<-hx1,<-acn];show _=_;kernel_rfl)) ?_;refine ac0 ?_;refine o7 a 0 DP ?_;refine pu ?_;refine bR ?_;obtain⟨u,hr2⟩:=ex (kt (kb (kt b (j8 c)) 4) (zF[dc]?.getD 0));rw[hr2];obtain⟨bo,hx2⟩:=ex (Ci u);have L:bo<16:=by rw[<-hx2];exact S4 _
     refine b6 ?_;refine pk (cb (kb u 4)) ?_;refine ag ?_;refine aJ (J vV (bo:Int)) (by(rw[<-hx2,<-acn];show _=_;kernel_rfl)) ?_;refine ac0 ?_;refine o7 a 0 DP ?_;refine pu ?_;refine dR ?_;refine pad (j:Int) 1 ((j+1:Nat):Int) ?_;refine bR ?_;go_wp2_with fail;go_roundw;case rel=>exact⟨j+1,ae,aa,_,aa,hid (by rw[KJ,Yl,A,<-n,KI,KI,hx1,hr2,hx2]),a⟩
     case measure=>simp[cx]<;>omega
    .have E:¬(j:Int)<(fU:Int):=ae;go_upto_region 13 with fail;refine ar ?_;refine pad 0 1 ((1:Nat):Int) ?_;refine bR ?_;go_wp2_with fail;go_roundw;case rel=>exact⟨1,ae,aa,_,aa,hid (b3 ⟨aa,by rw[n,show j=bs.length by rw[d];omega,B];rfl⟩),a⟩
     case measure=>simp[cx]<;>omega
  .have F:¬(q:Int)<1:=ae;have M:=(m.out.resolve_left (λh=>ae)).2;go_upto_region 14 with fail;refine ar ?_;refine ag ?_;refine pk (cb (ET r)) ?_;refine bR ?_;go_wp2_with fail;go_ret;exact⟨aT,a.only⟩
def Ym(b c d)aK c2 bs w(f:bs.length<=35184372088832)(hcell:w.cell? ⟨b,c,af⟩=ab (ad aK bs.length c2))(hb:bT w aK bs):
 aD ax 284 #[ad (ab ⟨b,c,af⟩) 1 d] w λe w'=>e=aA (cb (GQ bs))/\ao w w':=by
 go_enter func284,ntmps284;have a:=bg w;go_step;refine aF ?_;refine cK ?_;refine bC (amV 0 b c d aK c2 bs _ f hcell hb) a (λw1 a=>?_);refine bR ?_;go_wp2_with fail;go_ret;exact⟨aa,a.only⟩
def x4(s:Int)(i:Nat):Int:=ea.wrap (s.fdiv (2^(8*i)))
def akw s:x4 s 0=ea.wrap s:=by simp[x4]
def KK(s:Int):List Int:=[x4 s 0,x4 s 1,x4 s 2,x4 s 3]
def Ar(bs:List Int):List Int:=bs++KK (GQ bs)
def ad5 bs:(Ar bs).length=bs.length+4:=by simp[Ar,KK]
def at0 A c bs w(p:bs.length<=17592186044416)(hc:bs.length<=c)(hb:bT w A bs):
 aD ax 325 #[ad A bs.length c] w λe w'=>∃d g,e=aA (ad d (Ar bs).length g)/\e3 w.heap.size w' d g (Ar bs)/\ao w w':=by
 have f:=hid hb;obtain⟨s,b⟩:=ex (GQ bs);have j:=hid b;have h:=hid (Ym (bs:=bs));rw[b]at h;clear b hb;go_enter func325,ntmps325;have a:=bg w;go_step;refine aF ?_;refine cK ?_;refine ga a #[ad A bs.length c] 22 (λn w1 a=>?_);refine bC (h _ 0 1 A c _ ae ((a.a1 0).cell 0 aa) (f.out.aI a.only)) a (λq a=>?_);refine ag ?_;refine aF ?_;refine v5 ?_;refine aJ _ (aen 22 5 1 _ _ _ aa dJ aw A _ c _ _ aa aa aa (cp _) hc) ?_;refine ag ?_;refine pk (a' (ea.wrap s)) ?_;refine ag ?_;refine pk (cb (kb s 8)) ?_;refine pk (a' (ea.wrap (kb s 8))) ?_;refine ag ?_;refine pk (cb (kb s 16)) ?_;refine pk (a' (ea.wrap (kb s 16))) ?_;refine ag ?_;refine pk (cb (kb s 24)) ?_;refine pk (a' (ea.wrap (kb s 24))) ?_;refine ga a #[a' (ea.wrap s),a' (ea.wrap (kb s 8)),a' (ea.wrap (kb s 16)),a' (ea.wrap (kb s 24))] 5 (λsc r a=>?_);refine ar4 a (ajP 1 aa aa aa (bT.cells (f.out.aI a.only)) (aX.cellsOf (m:=4) (a.a1 0) aa) (by intro u i;simp at i;rcases i with rfl|rfl|rfl|rfl<;>rfl) bj ae bj dJ aw) (λl o t a=>?_);refine bR ?_;go_wp2_with fail;go_ret;have k:bs.map a'++[a' (ea.wrap s),a' (ea.wrap (kb s 8)),a' (ea.wrap (kb s 16)),a' (ea.wrap (kb s 24))]=(Ar bs).map a':=by rw[Ar,j,KK,akw,gy];rfl
 rw[k,<-ad5]at a;exact⟨_,_,by rw[ad5];rfl,Row.nS (a.fresh 0).row,a.only⟩
def sX(bs:List Int):Option (List Int):=if 4<=bs.length/\∀i,i<4->bs[bs.length -4+i]?.getD 0=x4 (GQ (bs.take (bs.length -4))) i then ab (bs.take (bs.length -4))else af
def arA A c bs w(Y:bs.length<=17592186044416)(hc:bs.length<=c)(hb:bT w A bs):
 aD ax 213 #[ad A bs.length c] w λe w'=>(∃d t B,sX bs=ab d/\e=aA (bh #[ad t d.length B,aj aB])/\e3 w.heap.size w' t B d/\ao w w')\/(sX bs=af/\e=aA (bh #[ad af 0 0,aj false])/\ao w w'):=by
 have L:=hid hb;by_cases P:4<=bs.length
 .obtain⟨n,G⟩:∃n,bs.length=n+4:=⟨bs.length -4,ae⟩;obtain⟨g,f,rfl,E⟩:=hb ae;have M:=hid E;have x:=hid G;have X:n+4<=c:=ae;have LQ:fF (ab ⟨g,f,af⟩) c n 1=ab ⟨g,f+n,af⟩:=by grind[fF,nD]
  have H:(bs.take n).length=n:=aG;have y:=hid (bT.Fo L (show n<=bs.length by omega));have l:=hid H;obtain⟨s,p⟩:=ex (GQ (bs.take n));have z:=hid p;have Q:Hid (∀o W,W.cell? ⟨o,0,af⟩=ab (ad (ab ⟨g,f,af⟩) n c)->bT W (ab ⟨g,f,af⟩) (bs.take n)->aD ax 284 _ W λe w'=>e=aA (cb s)/\ao W w'):=hid (λo W h1 k=>by rw[<-p];exact Ym o 0 1 _ c _ W ae aG k);rw[G];clear E p hb H;go_enter agj,ag8;have a:=bg w;go_upto_region 0 with fail;refine ar ?_;refine v2 ?_;refine jb ?_;refine mN ((n+4:Nat):Int) 4 ((n:Nat):Int) ?_;refine ag ?_;refine aF ?_;refine v2 ?_;refine jb ?_;refine aJ (ad (ab ⟨g,f,af⟩) n c) (qV 22 5 1 (.tmp 13) (.tmp 14) aa dJ aw (ab ⟨g,f,af⟩) (n+4) c n aa aa ae) ?_;refine ga a #[ad (ab ⟨g,f,af⟩) n c] 22 (λU w1 a=>?_);refine bC (Q.out _ _ ((a.a1 0).cell 0 aa) (y.out.aI a.only)) a (λaS a=>?_);refine bR ?_;have T:ad (ab ⟨g,(f+n),af⟩) 4 (c -n)=ad (fF (ab ⟨g,f,af⟩) c n 1) ((n+4) -n) (c -n):=aG;refine jb ?_;refine aJ (ad (ab ⟨g,(f+n),af⟩) 4 (c -n)) (by(rw[T];exact TP 22 5 1 _ _ aa dJ aw _ _ c n aa aa ae ae)) ?_;refine dQ ?_;have N:=a.only;go_wp2_with fail;go_loopw [22] (λr wr=>∃q:Nat,q<=4/\r=J R q/\Hid (∀i,i<q->bs[n+i]?.getD 0=x4 s i)/\ai w (λ_=>False) wr []) (λr wr=>4 -(cx r).toNat);case atStart=>exact⟨0,ae,aa,hid (λi hi=>absurd hi ae),a.drop 0⟩
  case round=>
   clear a N;obtain⟨q,hq,rfl,u,a⟩:=hrel;by_cases hlt:q<4
   .have Z:(q:Int)<4:=ae;have I:=M (n+q) ae;obtain⟨b,hb⟩:=ex (bs[n+q]?.getD 0);rw[hb,<-Nat.add_assoc]at I;have v:=hid hb;clear hb;obtain⟨d,F⟩:=ex (x4 s q);have j:=hid F;have C:8*q<=32:=ae;clear F;go_upto_region 7 with fail;refine ar ?_;refine ag ?_;refine aJ _ (cI 22 5 1 _ _ aa dJ aw _ _ 4 _ _ ((f+n+q)) aa aa hlt ae) ?_;refine ME I a.only ?_;refine dQ ?_;by_cases D:b=d
    .subst D;refine jt ?_;refine Io 8 (q:Int) ((8*q:Nat):Int) ?_;refine aJ (cb _) (Bm _ _ _ 3 aa _ _ _ _ aa aa C) ?_;refine aJ (a' b) (by(rw[<-j];show _=_;kernel_rfl)) ?_;refine dR ?_;refine pad (q:Int) 1 ((q+1:Nat):Int) ?_;refine bR ?_;go_wp2_with fail;go_roundw;case rel=>exact⟨q+1,ae,aa,hid (λi hi=>by rcases Nat.lt_succ_iff_lt_or_eq.1 hi with h|rfl;exact u i h;rw[v];exact j.out.symm),a⟩
     case measure=>grind[cx]
    .have S:=D;refine jt ?_;refine Io 8 (q:Int) ((8*q:Nat):Int) ?_;refine aJ (cb _) (Bm _ _ _ 3 aa _ _ _ _ aa aa C) ?_;refine aJ (a' d) (by(rw[<-j];show _=_;kernel_rfl)) ?_;refine ag ?_;refine aF ?_;refine dQ ?_;go_wp2_with fail;go_ret2;refine b3 ⟨?_,aa,a.only⟩;refine if_neg (λh=>S ?_);have k:=h.2 q hlt;rw[x,show n+4 -4=n by omega,z,v]at k;rw[k,j]
   .obtain rfl:q=4:=ae;go_upto_region 11 with fail;refine ar ?_;refine v2 ?_;refine aJ _ (qV 22 5 1 _ _ aa dJ aw _ _ c n aa aa ae) ?_;replace a:=a.new (bp _ 0 0 5 1 []) (b5.acD (aq.refl _ _) (Row.nil _ _ _ _));refine np (m:=n) a 0 1 (by have q:=bT.cells (y.out.aI a.only);rw[l.out]at q;exact q) XO (λK O bN a=>?_) (hby:=by omega);refine dQ ?_;go_wp2_with fail;go_ret2;refine .inl ⟨_,K,O,?_,by rw[l];simp,Row.nS (by rw[l];have q:=(a.fresh 0).row;simpa using q),a.only⟩;unfold sX;rw[x,show n+4 -4=n by omega,z];exact if_pos ⟨ae,u⟩
 .have V:((bs.length:Nat):Int) -4<0:=ae;go_enter agj,ag8;have a:=bg w;go_upto_region 0 with fail;refine ar ?_;refine v2 ?_;refine jb ?_;refine mN (bs.length:Int) 4 ((bs.length:Int) -4) ?_;refine ag ?_;refine aF ?_;refine v2 ?_;refine aF ?_;refine dQ ?_;go_wp2_with fail;go_ret2;exact b3 ⟨if_neg (λh=>P h.1),aa,a.only⟩
def at8{v s:Nat}(h:v<2^s)(b:1<=s):((v:Int).fdiv (2^(s -1))).fdiv (2^1)=0:=by
 have bD:(v:Int).fdiv (2^(s -1))=((v/2^(s -1):Nat):Int):=aG;rw[bD,show((2:Int)^1)=((2:Nat):Int) by rfl];have b9:((v/2^(s -1):Nat):Int).fdiv ((2:Nat):Int)=((v/2^(s -1)/2:Nat):Int):=aG;rw[b9,Nat.div_div_eq_div_mul];have a:2^(s -1)*2=2^s:=by rw[<-Nat.pow_succ];congr 1;omega
 rw[a,Nat.div_eq_of_lt h];rfl
def ye(f:Nat×Nat):Prop:=(f.2=1\/f.2=4\/f.2=8)/\f.1<2^(8*f.2)
def anc f(h:ye f)w:
 aD ax 205 #[.agg #[J aH (f.1:Int),J R (f.2:Int)]] w λe w'=>e=aA (aj aB)/\ao w w':=by
 obtain⟨v,s⟩:=f;obtain⟨rfl|rfl|rfl,hv⟩:=h
 all_goals
  dsimp only at hv⊢;have hz:=at8 hv bj;clear hv;go_enter func205,ntmps205;have a:=bg w;go_step;refine aF ?_;refine bO a _ (λda w1 a=>?_);refine cK ?_;refine pl a 0 1 ?_;refine v3 ?_;refine pl a 0 1 ?_;refine v4 ?_;refine pl a 0 0 ?_;refine ag ?_;refine pl a 0 1 ?_;refine v2 ?_;refine aJ _ (Bm _ _ _ _ aa aH R _ _ aa aa bj) ?_;refine aJ (J aH 0) (by(rw[<-hz];show _=_;kernel_rfl)) ?_;refine v3 ?_;refine ak ?_;go_wp2_with fail;go_ret;exact⟨aa,a.only⟩
def rD(v s r:Nat):List Int:=(List.range (s -r)).map (λj=>w5 v (s -1 -j))
def aka{v s i}(h:i<s):rD v s i=rD v s (i+1)++[w5 v i]:=by unfold rD;rw[show s -i=(s -(i+1))+1 by omega,List.range_succ,gy,jx,kC,show s -1 -(s -(i+1))=i by omega]
theorem XP(v s r):(rD v s r).length=s -r:=by simp[rD]
def iT(fs:List (Nat×Nat)):List Int:=fs.flatMap (λf=>rD f.1 f.2 0)
def ajT fs f:iT (fs++[f])=iT fs++rD f.1 f.2 0:=by simp[iT]
def ajR{fs}(h:∀f∈fs,ye f):(iT fs).length<=fs.length*8:=by
 induction fs with
 |nil=>simp[iT]
 |cons f l b=>
  have h1:=b (λg a=>h g (List.mem_cons_of_mem _ a));have c:=(h f (List.mem_cons_self ..)).1;grind[iT,XP]
def ae9 A c bs(p C gZ)fs w(W:bs.length<=8796093022208/\fs.length<=1048576)(hb:bT w A bs)(Z:∀f∈fs,ye f)(I:∀i f,fs[i]?=ab f->w.cell? ⟨p,C+i*2,af⟩=ab (J aH (f.1:Int))/\w.cell? ⟨p,C+i*2+1,af⟩=ab (J R (f.2:Int))):
 aD ax 126 #[ad A bs.length c,ad (ab ⟨p,C,af⟩) fs.length gZ] w λe w'=>∃D H,e=aA (bh #[ad D (bs++iT fs).length H,aj aB])/\Row w.heap.size w' D (bs++iT fs).length H 5 1 ((bs++iT fs).map a')/\ao w w':=by
 have O:=hid hb;have P:=hid I;have F:=hid Z;have cw:=hid W;clear hb I;go_enter func126,ntmps126;have a:=bg w;go_upto_region 0 with fail;refine ar ?_;refine CN ?_;refine a7 (wI A c bs _ (O.out.aI a.only) ae) ?_;rintro e w1 ⟨awd,axu,rfl,hrow,g⟩;replace a:=a.k8 g hrow;refine bb ?_;refine ag ?_;refine aF ?_;refine v3 ?_;refine ak ?_;go_wp2_with fail;go_loopw [6,14] (λev y wr=>∃(q L:Nat) (b:Option bW) (d:Nat),q<=fs.length/\y=J R q/\ev=ad b L d/\Hid (L=(bs++iT (fs.take q)).length)/\ai w (λ_=>False) wr [bp b L d 5 1 ((bs++iT (fs.take q)).map a')]) (λev y wr=>fs.length -(cx y).toNat);case atStart=>exact⟨0,_,_,_,ae,aa,aa,hid (by simp[iT]),by grind[iT]⟩
 case round=>
  clear a;obtain⟨q,L,b,d,hq,rfl,rfl,o,a⟩:=hrel;have ax7:L<=8796093022208+8388608:=by have U:=ajR (fs:=fs.take q) (λf j=>F f (List.mem_of_mem_take j));rw[List.length_take]at U;rw[o,dw];omega
  by_cases hlt:q<fs.length
  .have X:(q:Int)<(fs.length:Int):=ae;obtain⟨⟨v,s⟩,j⟩:∃f,fs[q]?=ab f:=⟨_,List.getElem?_eq_getElem hlt⟩;obtain⟨M,N⟩:=P q (v,s) j;have n:=F _ (List.mem_of_getElem? j);have Q:=hid (anc _ n);have vy:s<=8:=by have:=n.1;simp only at this;omega
   have hs1:1<=s:=by have:=n.1;simp only at this;omega
   have T:=hid j;have G:=hid (And.intro M N);clear j n M N;go_upto_region 4 with fail;refine ar ?_;refine aJ _ (cI _ _ 2 _ _ aa underlying229 aw _ _ _ _ q _ aa aa hlt aa) ?_;refine aJ _ (ab2 _ aa aa (a.only.cell G.1 (λh=>h)) (a.only.cell G.2 (λh=>h)) underlying227 aa aw) ?_;refine bA a #[J _ 0,J _ 0] (λE aS a=>?_);refine ba a 0 (.agg _) (λbN a=>?_);refine aF ?_;refine bt a 0 #[J aH (v:Int),J R (s:Int)] ?_;refine bC (Q _) a (λcc a=>?_);refine cK ?_;refine pl a 0 1 ?_;refine mN _ 1 ((s:Int) -1) ?_;refine bR ?_;replace a:=a.pk [1,0];replace a:ai w (λ_=>False) cc [bp b (L+0) d 5 1 (((bs++iT (fs.take q))++rD v s s).map a'),ah E #[J aH (v:Int),J R (s:Int)] 227]:=by simpa [rD]using a
   go_wp2_with fail;go_loopw [6,9] (λev B wr=>∃(r z:Nat) (k:Int) (Y:Option bW) (l:Nat),(r<=s/\z+r=s/\k+1=(r:Int))/\B=J R k/\ev=ad Y (L+z) l/\ai w (λ_=>False) wr [bp Y (L+z) l 5 1 (((bs++iT (fs.take q))++rD v s r).map a'),ah E #[J aH (v:Int),J R (s:Int)] 227]) (λev B wr=>(cx B+1).toNat);case atStart=>exact⟨s,0,_,b,d,ae,aa,aa,a⟩
   case round=>
    clear a;obtain⟨r,z,k,Y,l,⟨ao2,abx,aom⟩,rfl,rfl,a⟩:=hrel;obtain rfl|⟨i,rfl⟩:r=0\/∃i,r=i+1:=by cases r;exact .inl aa;exact b3 ⟨_,aa⟩
    .obtain rfl:k=-1:=ae;obtain rfl:z=s:=ae;go_upto_region 11 with fail;refine ar ?_;refine pad _ 1 ((q+1:Nat):Int) ?_;refine bR ?_;go_wp2_with fail;have qI:fs.take (q+1)=fs.take q++[(v,z)]:=by rw[List.take_add_one,T];rfl
     have hap:bs++iT (fs.take (q+1))=bs++iT (fs.take q)++rD v z 0:=by rw[qI,ajT,j5]
     go_roundw;case rel=>exact⟨q+1,_,Y,l,ae,aa,aa,hid (by rw[hap,dw,XP,<-o];omega),by rw[hap];exact a.drop 1⟩
     case measure=>simp[cx]<;>omega
    .obtain rfl:k=(i:Int):=ae;have V:8*i<=64:=ae;go_upto_region 10 with fail;refine ar ?_;refine v2 ?_;refine pl a 1 0 ?_;refine ag ?_;refine Io 8 _ ((8*i:Nat):Int) ?_;refine aJ _ (Bm 42 _ _ 3 aa _ _ _ _ aa aa V) ?_;refine pk (a' (w5 v i)) ?_;refine ga a #[a' (w5 v i)] 5 (λgS cG a=>?_);refine np (m:=1) a 1 1 (aX.cellsOf (m:=1) (a.a1 0) aa) (by intro u hu;rw[List.mem_singleton.1 hu];rfl) (λUq XZ c6 a=>?_);refine cK ?_;refine mN (i:Int) 1 ((i:Int) -1) ?_;refine bR ?_;go_wp2_with fail;go_roundw;case rel=>exact⟨i,z+1,_,_,_,ae,aa,aa,by rw[aka ae,<-j5,gy];exact a.pick [1,2]⟩
     case measure=>simp[cx]<;>omega
  .have X:¬(q:Int)<(fs.length:Int):=ae;have K:fs.take q=fs:=List.take_of_length_le ae;have x:=o.out;rw[K]at x;have S:=hid x;rw[K]at a;clear x;go_upto_region 12 with fail;refine ar ?_;refine v3 ?_;refine ak ?_;go_wp2_with fail;go_ret2;have t:=S.out;rw[dw]at t;exact⟨b,d,by rw[<-t];rfl,by rw[<-t,<-gy];exact(a.fresh 0).row,a.only⟩
end Go.Proofs.YtcmhplknoglbkaaGreat
