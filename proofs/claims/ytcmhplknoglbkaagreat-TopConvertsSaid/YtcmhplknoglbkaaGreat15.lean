/- Part 15 of the proof of TopConvertsSaid. -/
import Derived.StillTailTactics
import Derived.Deep.RegionHeld3
import Derived.Deep.AppendLies
import Derived.Deep.DeepCutAuto
import Derived.Test.YtcmhplknoglbkaaGreat0
import Derived.Test.YtcmhplknoglbkaaGreat6
import Derived.Test.YtcmhplknoglbkaaGreat10
import Derived.Test.YtcmhplknoglbkaaGreat12
import Derived.Test.YtcmhplknoglbkaaGreat14
set_option linter.all false
set_option maxRecDepth 100000
set_option maxHeartbeats 4000000
open Go.Proofs.Tryz
open Array renaming ext'->afr,toList_extract->afu
open Bool renaming false->au
open Go renaming Calls->aD,bodyPost_ret->dp,cell_of_row->eC,execOp->bw,heap_alloc_new->ff,isAgg->ts,maxLen->dO,results_cell_row->je,run_underlying->gG,step_append_lies->ahO,wpList_nil->ak,wp_region_lit->ar
open Go.Ending renaming returned->aA
open Go.Instr renaming lookup->qg,mapUpdate->C1
open Go.IntKind renaming i64->R
open Go.Obj renaming cells->bf
open Go.Op renaming equalIn->Oi
open Go.Proofs.Tryz renaming prog->ax,underlying23->tn,underlying302->OF,underlying303->AQ,underlying82->ik
open Go.Result renaming andThen_ok->ji,ok->a8
open Go.RowKit renaming Hid->aE,intOf->cx
open Go.Sem renaming run_bind->gl
open Go.Value renaming agg->av,bool->aj,int->J,map->dF,oneCell'->wh,pointer->ay,slice->ad
open Go.World renaming news_of_block->V8
open List renaming all_cons->J6,append_nil->j6,drop_succ_cons->W7,extract->ajd,getElem?_eq_getElem->cm,length_replicate->ry,mem_map->gN,range'->ajj,replicate->fu,take_left'->ajk
open Nat renaming add_sub_cancel_left->tD
open Option renaming none->af,some->ab
open Option.some renaming injEq->wC
open Or renaming inl->bJ,inr->b3
open Std.Legacy.Range renaming forIn_eq_forIn_range'->axp,size->axq
namespace Go.Proofs.YtcmhplknoglbkaaGreat
open Go.RowKit Go.MapKept
theorem auF(B t)A msg w(l:msg.length<=35184372088832)(hst:(iO t B A msg).p w)(c:∀b,(iO t B A msg).c5 b->b<w.heap.size):
 aD ax 164 #[ay (ab ⟨B,0,af⟩)] w λe w'=>e=aA (av (aY a' (ic msg) []))/\ao w w':=by
 have i:=hid (λW (g:ao w W)=>bu.only _ hst c g (λ_ _ h=>h));clear hst c;go_enter func164,ntmps164;have a:=bg w;go_upto_region 0 with fail;refine ar ?_;refine bA a (aY a' (fu 32 0) []) (λm w1 a=>?_);refine aF ?_;refine v2 ?_;refine jt ?_;refine a7 (alf B t A msg _ ae (i.out _ a.only)) ?_;rintro e o ⟨d,n,rfl,k⟩;replace a:=a.new _ k;refine bb ?_;refine bA a (aY cb (fu 8 0) _) (λf q a=>?_);refine Mz a 0 (ry ..) (Cv _).1 (λr a=>?_);refine ak ?_;replace a:=iO.close (t:=_) bj a;refine aF ?_;refine a7 (finish_at f 354 d msg _ l (a.has 0)) ?_;rintro e s ⟨rfl,j⟩;replace a:=a.eG 0 j;refine bb ?_;refine Cq a 1 (ry ..) (sG _) (λu a=>?_);refine ak ?_;go_wp2_with fail;refine dp (v:=_) (je aa _ _ _ _ _ _ _ aa (a.a1 1) tn aa (by rw[j7,(sG _)];rfl)) aa (⟨aa,a.only⟩)
theorem iO.low{w t B A msg}(h:(iO t B A msg).p w):∀b,(iO t B A msg).c5 b->b<w.heap.size:=λb hb=>by
 obtain⟨_,c,h1,a⟩:=h;rcases hb with rfl|hb;·grind
 .exact(eY.lt a hb).2
def yR B A msg w(a:msg.length<=35184372088832)(h:(iu B A msg).p w):
 aD ax 164 #[ay (ab ⟨B,0,af⟩)] w λe w'=>e=aA (av (aY a' (ic msg) []))/\ao w w':=by grind[auF,iO.low]
def afm(B o l D)(A aK)c2(msg bs)w(G:msg.length+bs.length<=70368744177664)(hst:Has w (iu B A msg))(hcell:w.cell? ⟨o,l,af⟩=ab (ad aK bs.length c2))(hb:bT w aK bs)(hne:∀b off,aK=ab ⟨b,off,af⟩->¬(iu B A msg).c5 b):
 aD ax 163 #[ay (ab ⟨B,0,af⟩),ad (ab ⟨o,l,af⟩) 1 D] w λe w'=>∃d,e=aA (J R (bs.length:Int))/\Turned w w' (iu B A msg) (iu B d (msg++bs)):=by
 have v:=hid hcell;have s:=hid hb;have z:=hid hne;obtain⟨f,p⟩:=ex ((msg.length:Int));have M:0<=f/\f<=70368744177664:=ae;obtain⟨K,r⟩:=ex (((msg++bs).length:Int));have E:K -f=(bs.length:Int):=aG;have C:=hid r;have y:=hid p;clear hcell hb hne r p;go_enter func163,ntmps163;have a:=ai.start hst;go_upto_region 0 with fail;refine ar ?_;refine ag ?_;refine aF ?_;refine dQ ?_;obtain⟨_,b1,c,_⟩:=a.at (t:=iO 357 B _ _) 0;rw[y.out]at c;refine oJ ?_;refine aJ (J R f) (fz aa aa c (sx (k:=1) (Cv msg).1 aa) aw) ?_;refine bR ?_;clear c;refine aF ?_;refine v3 ?_;refine ak ?_;go_wp2_with fail;go_loopw [17] (λi wr=>∃(q:Nat) (d:Option Addr) (j:List Int),q<=1/\i=J R q/\aE (q=0/\d=A/\j=msg/\wr=w\/q=1/\j=msg++bs)/\ai w (iu B A msg).c5 wr [iu B d j]) (λi _=>1 -(cx i).toNat);case atStart=>grind[hid]
 case round=>
  clear a;obtain⟨q,m,I,N,rfl,n,a⟩:=hrel;by_cases hlt:q<1
  .have H:(q:Int)<1:=ae;obtain⟨rfl,rfl,rfl,g⟩:=n.out.resolve_right (λh=>ae);have x:=hid (g.symm▸v.out);have u:=hid (g.symm▸s.out);clear g;go_upto_region 6 with fail;refine ar ?_;refine aJ _ (cI 193 22 1 _ _ aa underlying193 aw _ _ _ _ _ l aa aa bj ae) ?_;refine aJ _ (nk aa aa x.out aw) ?_;refine AF ?_;refine a7 (take_at B 357 m aK c2 I bs _ G (a.has 0) u.out z.out) ?_;rintro e w1 ⟨rfl,L,F⟩;replace a:=a.eG 0 F;refine AE ?_;go_wp2_with fail;go_roundw;case rel=>grind[hid]
   case measure=>grind[cx]
  .have H:¬(q:Int)<1:=ae;obtain⟨rfl,rfl⟩:=n.out.resolve_left (λh=>ae);obtain⟨_,b1,c,_⟩:=a.at (t:=iO 357 B _ _) 0;rw[C.out]at c;go_upto_region 9 with fail;refine ar ?_;refine v4 ?_;refine aJ _ (fz aa aa c (sx (k:=1) (Cv _).1 aa) aw) ?_;refine ag ?_;refine aJ _ (pH 3 _ _ 3 aa _ _ _ aa aa E ae ae) ?_;refine bR ?_;go_wp2_with fail;go_ret;exact⟨aa,m,a.gj 0⟩
def T'(B a c d)(A aK)c2(msg bs)w(g:msg.length+bs.length<=70368744177664)(hst:Has w (iu B A msg))(hcell:w.cell? ⟨a,c,af⟩=ab (ad aK bs.length c2))(hb:bT w aK bs)(hne:∀b,dV aK b->¬(iu B A msg).c5 b):
 aD ax 163 #[ay (ab ⟨B,0,af⟩),ad (ab ⟨a,c,af⟩) 1 d] w λe w'=>∃f,e=aA (J R (bs.length:Int))/\Turned w w' (iu B A msg) (iu B f (msg++bs)):=afm B a c d A aK c2 msg bs w g hst hcell hb λb off e=>hne b ⟨off,af,e⟩
def aef(c d g)aK c2 bs w(p:bs.length<=35184372088832)(hcell:w.cell? ⟨c,d,af⟩=ab (ad aK bs.length c2))(hb:bT w aK bs)(i:∀b off,aK=ab ⟨b,off,af⟩->b<w.heap.size):
 aD ax 76 #[ad (ab ⟨c,d,af⟩) 1 g] w λe w'=>e=aA (av (aY a' (ic bs) []))/\ao w w':=by
 have l:=hid hb;have m:=hid hcell;have k:=hid i;have hl2:=p;clear hcell hb i;go_enter func76,ntmps76;have a:=bg w;go_upto_region 0 with fail;refine ar ?_;refine bA a (aY a' (fu 32 0) []) (λq w1 a=>?_);refine aF ?_;refine a7 (Af _) ?_;rintro e s ⟨f,rfl,o⟩;replace a:=a.new _ o;refine bb ?_;refine ku ?_;refine a7 (afm f c d g af aK c2 [] bs _ aG (a.has 0) (a.only.cell m.out (λh=>h)) (l.out.aI a.only) (λb off e h=>(a.low _ (List.mem_cons_self ..) _ h).2.elim (λr=>absurd (k.out b off e) ae) id)) ?_;rintro e t ⟨j,rfl,n⟩;replace a:=a.eG 0 n;refine bb ?_;refine b6 ?_;refine bC (yR f j bs _ ae (a.at 0)) a (λu a=>?_);refine Cq a 1 (ry ..) (sG bs) (λx a=>?_);refine ak ?_;go_wp2_with fail;refine dp (v:=_) (je aa _ _ _ _ _ _ _ aa (a.a1 1) tn aa (by rw[j7,(sG bs)];rfl)) aa (⟨aa,a.only⟩)
namespace G
def canAdd(n:Int)(E:List (Int×Int))(e:Int×Int):Bool:=pZ n e.1&&pZ n e.2&&decide (e.1≠e.2)&&!decide (e∈E)
def pF(n:Int)(E:List (Int×Int))(e:Int×Int):List (Int×Int):=if canAdd n E e then E++[e]else E
def jj(n:Int)(E l:List (Int×Int)):List (Int×Int):=l.foldl (pF n) E
def z7:(ax.info? 3).map (λi=>(i.zero,i.size,i.bytes))=ab (ab (J R 0),1,8):=aw
def ajC n(E l:List (Int×Int)){k e}(h:l[k]?=ab e):jj n E (l.take (k+1))=pF n (jj n E (l.take k)) e:=by grind[jj,List.take_add_one]
def ajB n(E l):E.length<=(jj n E l).length/\(jj n E l).length<=E.length+l.length:=by
 unfold jj;induction l generalizing E with
 |nil=>simp
 |cons e r a=>grind[pF]
set_option maxHeartbeats 400000 in
def Xw b n E F A c l w(dU:gV w F b n E)(hl:jy w A l)(ka:∀e∈l,qN e)(eV:E.length+l.length<=1099511627776)(bx:∀blk off,A=ab ⟨blk,off,af⟩->¬F blk):
 aD ax 182 #[ay (ab ⟨b,0,af⟩),ad A l.length c] w λe w'=>e=aA (J R ((jj n E l).length -E.length:Nat))/\
  gV w' (λk=>F k\/(w.heap.size<=k/\k<w'.heap.size)) b n (jj n E l)/\aq F w w':=by
 go_enter func182,ntmps182;go_wp2
 go_loopw [5,10] (λs i wr=>∃k:Nat,k<=l.length/\i=J R k/\s=J R ((jj n E (l.take k)).length -E.length:Nat)/\
  gV wr (λk=>F k\/w.heap.size<=k) b n (jj n E (l.take k))/\aq F w wr) (λ_ i _=>l.length -(cx i).toNat);case atStart=>exact⟨0,Nat.zero_le _,aa,by simp[jj],by simpa [jj]using dU.mono (λi _ h=>bJ h),aq.refl _ _⟩
 case round=>
  obtain⟨k,hk,rfl,rfl,D2,hO⟩:=hrel;by_cases hlt:k<l.length
  .have HA:=hl.only hO bx;obtain⟨fU,off,rfl,hcell⟩:=HA ae;obtain⟨h1,h2⟩:=hcell k hlt;obtain⟨⟨u,x⟩,k2⟩:∃p,l[k]?=ab p:=⟨l[k],aU⟩;have c':qN (u,x):=ka _ (List.mem_of_getElem? k2);have hst:=ajC n E l k2;have hle:=ajB n E (l.take k);have qI:(l.take k).length=k:=aG;simp only[k2,Option.getD_some]at h1 h2;clear hcell hl ka HA;have eK:=hid hst;have J3:=hid k2;clear hst k2;rw[qI]at hle;clear qI;generalize jj n E (l.take k)=gw at*;have hb0:(k:Int)<(l.length:Int):=ae;obtain⟨⟨fJ,cW,fA,eQ,eO,g⟩,eh,hval⟩:=D2;have aas:aq (λ_=>False) wr (wr.alloc (bf #[J R u,J R x] 192)):=aq.alloc _ _;have g1:=g.only aas (λ_ _ h=>h);have hblk:=ff wr (bf #[J R u,J R x] 192);have b1:(wr.alloc (bf #[J R u,J R x] 192)).cell? ⟨wr.heap.size,0,af⟩=ab (J R u):=eC _ _ 0 _ _ _ (ff wr _);have c1:(wr.alloc (bf #[J R u,J R x] 192)).cell? ⟨wr.heap.size,1,af⟩=ab (J R x):=eC _ _ 1 _ _ _ (ff wr _);have lS:wr.heap.size<(wr.alloc (bf #[J R u,J R x] 192)).heap.size:=aU;go_wp2_with fail;generalize ie:wr.heap.size=B at*;generalize c3:wr.alloc (bf #[J R u,J R x] 192)=W at*;clear c3 ie h1 h2;have kn:=eC _ _ 0 _ _ _ g1.blk;have ei:=eC _ _ 1 _ _ _ g1.blk;have fo:=eC _ _ 2 _ _ _ g1.blk;have ly:=eC _ _ 3 _ _ _ g1.blk;simp at kn ei fo ly
   have fY:aE (∀nq,gV (W.drewN nq) (λk=>F k\/w.heap.size<=k) b n gw/\aq F w (W.drewN nq)):=
    hid λnq=>⟨⟨⟨fJ,cW,fA,eQ,eO,g1.only (aq.drewN (F:=λ_=>False) W nq) (λ_ _ h=>h)⟩,eh,hval⟩,(hO.trans aas (λ_ _ h=>h.elim)).trans (aq.drewN (F:=F) W nq) (λ_ _ h=>h)⟩;by_cases nI:canAdd n gw (u,x)=true
   .have ZI:=nI;simp only[canAdd,Bool.and_eq_true,Bool.not_eq_true',decide_eq_true_eq,decide_eq_false_iff_not]at ZI;obtain⟨⟨⟨o3,hv2⟩,k2⟩,wW⟩:=ZI;have hq:(u==x)=false:=by simpa using k2
    have hlk:∀nq,(qg 302 (dF (ab fJ)) (av #[J R u,J R x]) au).run ax (W.drewN nq)=a8 (aj au) (W.drewN nq):=λnq=>by have h:=((g1.mB.only (aq.drewN (F:=λ_=>False) W nq) (λh=>h)).lookup L0 OF Uf c').1;rw[Mg.2 (λp hp e=>by obtain⟨km,BM,rfl⟩:=gN.1 hp;exact wW (e▸BM))]at h;exact h
    have Wf:aE (pF n gw (u,x)=gw++[(u,x)]):=hid (by unfold pF;rw[if_pos nI])
    have WL:aE ((gw++[(u,x)]).Nodup/\∀e∈gw++[(u,x)],(0<=e.1/\e.1<n)/\(0<=e.2/\e.2<n)/\e.1≠e.2):=hid (by
     refine⟨List.nodup_append.2 ⟨eh,aU,λa ha c hc e=>?_⟩,λe he=>?_⟩;·simp at hc;exact wW (hc▸e▸ha)
     .rcases List.mem_append.1 he with he|he;·exact hval e he
      .simp only[List.mem_singleton]at he;subst he;exact⟨by simpa [pZ]using o3,by simpa [pZ]using hv2,k2⟩);have zi:=hid wW;have J3:=hid k2;clear k2 wW nI;go_quiet ((go_at_call 253;(first|exact Ct (yY _ _ _ _ kn)|exact E5 (yY _ _ _ _ kn))));clear hlk hq o3 hv2;go_wp2_with fail;have D1:(W.drewN nq).heap[B]?=ab (bf #[J R u,J R x] 192 (0,0)):=hblk;have g2:kz (W.drewN nq) (λk=>F k\/w.heap.size<=k) b n gw gw gw fJ cW fA eQ eO:=g1.only (aq.drewN (F:=λ_=>False) W nq) (λ_ _ h=>h);have kH:aq F w (W.drewN nq):=(fY.out nq).2;clear fY kn ei fo ly b1 c1 g1 hblk;generalize W.drewN nq=hZ at*;have b1:=eC _ _ 0 _ _ _ D1;have c1:=eC _ _ 1 _ _ _ D1;have ei:=eC _ _ 1 _ _ _ g2.blk;simp at b1 c1 ei;go_still_tail 5,aw;change wpList _ _ _ _ _ hZ.drew;refine IS aa _ _ _ aa L0 OF (g2.mB.only (aq.drew (F:=λ_=>False) hZ) (λh=>h)) (by unfold dO;simp;omega) aa c' aa (aj _) aa ?_;intro fw jo hg2 hs2;have g3:=(g2.only (aq.drew (F:=λ_=>False) hZ) (λ_ _ h=>h)).KT hg2 jo zi.out;obtain⟨YP,axH,aaH⟩:=g2.mB.t';obtain⟨axQ,axI,aoO⟩:=g2.out.t';obtain⟨axR,axJ,aoM⟩:=g2.mL.t';have oY:aq (λk=>F k\/w.heap.size<=k) hZ.drew fw:=aq.of_grownBy hg2 (λi e=>by cases e;exact bJ g2.CU);have qA:fw.heap[B]?=ab (bf #[J R u,J R x] 192 (0,0)):=(aq.of_grownBy (F:=λi=>i=fJ) hg2 (λi e=>by cases e;exact bJ aa)).heap (show hZ.drew.heap[B]?=_ from D1) (Bn D1 aaH);have Sw:w.heap.size<=hZ.heap.size:=kH.size;have oZ:aq F w fw:=kH.trans oY.au2 (λi hi h=>by rcases h with h|h;exact h;omega);have ax2:aE (hZ.heap[B]?=ab (bf #[J R u,J R x] 192 (0,0))):=hid D1;obtain⟨axS,axK,vt⟩:=g3.out.t';clear jo hg2 oY b1 c1 ei aaH aoO aoM D1 kH hs2 Sw g2;have b1:=eC _ _ 0 _ _ _ qA;have c1:=eC _ _ 1 _ _ _ qA;have fo:=eC _ _ 2 _ _ _ g3.blk;simp at b1 c1 fo;go_wp2_with fail;go_frame;go_cut []from 46 to 62 (λCK=>∃PW,kz CK (λk=>F k\/w.heap.size<=k) b n (gw++[(u,x)]) (gw++[(u,x)]) gw fJ cW fA PW eO/\aq F w CK/\CK.heap[B]?=ab (bf #[J R u,J R x] 192 (0,0)))
    case first=>
     have hrow:=g3.Ij u;have aoC:=IE gw u
     have BW:∀w',aq (λi=>((ed eQ u).getD (ad af 0 0)).ownBlock=ab i) fw w'->(qg 303 (dF (ab cW)) (J R u) au).run ax w'=a8 ((ed eQ u).getD (ad af 0 0)) w':=λw' hw'=>
      ((g3.out.only hw' (λe=>sY hrow vt e)).lookup o4 AQ Ft c'.1).1;have k7:=EZ hrow g3.blk bj;have yG:=EZ hrow qA bj
     have uT:aE (∀i,((ed eQ u).getD (ad af 0 0)).ownBlock=ab i->F i\/w.heap.size<=i):=hid λi hi=>by
      cases hm:ed eQ u with
      |none=>rw[hm]at hi;cases hi
      |some v=>rw[hm]at hi;exact g3.xA _ (rV hm) i hi
     have Pk:=hid (λ(w' w1:World) (v':Value)=>g3.outs (w':=w') (w1:=w1) (u:=u) (x:=x) (v':=v'));generalize eo:(ed eQ u).getD (ad af 0 0)=ej at*;have mX:=hid eo;clear eo;have b1:=eC _ _ 0 _ _ _ qA;have c1:=eC _ _ 1 _ _ _ qA;have fo:=eC _ _ 2 _ _ _ g3.blk;simp at b1 c1 fo
     have I:aE (∀w',aq (λi=>ej.ownBlock=ab i) fw w'->w'.cell? ⟨b,2,af⟩=ab (dF (ab cW))/\w'.cell? ⟨B,0,af⟩=ab (J R u)/\w'.cell? ⟨B,1,af⟩=ab (J R x)):=
      hid λw' hw'=>⟨hw'.cell fo k7,hw'.cell b1 yG,hw'.cell c1 yG⟩;have aoD:=BW fw.drew (aq.drew _);have aoE:=λo=>BW (fw.alloc o).drew ((aq.alloc _ _).trans (aq.drew _) (λ_ _ h=>h));have bX:aE (∀w',aq (λi=>ej.ownBlock=ab i) fw w'->dZ w' cW encI db eQ):=hid λw' hw'=>g3.out.only hw' (λe=>sY hrow vt e);have aoF:=g3.lo;have so:=hid (And.intro (Bn g3.blk vt) (Bn qA vt));have zj:=hid yG;clear BW k7 yG vt;obtain⟨i0,gQ,hz0,hz1,hz2⟩:=info_parts z7
     go_region_held3 (λw'=>w'.cell? ⟨b,2,af⟩=ab (dF (ab cW))/\w'.cell? ⟨B,0,af⟩=ab (J R u)/\w'.cell? ⟨B,1,af⟩=ab (J R x))
      (first
        |exact I.out _ (aq.drew _)
        |exact I.out _ ((aq.alloc _ _).trans (aq.drew _) (λ_ _ h=>h))
        |exact I.out _ (((aq.alloc _ _).trans (aq.drew _) (λ_ _ h=>h)).trans (aq.of_grownBy hgrow (λi e=>bJ e)) (λ_ _ h=>h))
        |exact ql.out)
      (first
        |(refine ahO _ aT _ _ _ aT 0 3 i0 _ 1 8 ik gQ hz0 hz1 hz2 aa ae ej _ _ aT ((hrow.alloc _).drew)
           ⟨fw.heap.size,0,af⟩ 1 1 [J R x] aT aT (V8 (cs:=#[J R x]) (t:=3) (fr:=(0,0)) (ff fw _)) (by simp[wh])
           ae (by unfold dO;omega) ae aU (fw.heap.size+1) aU ?_;intro rL cap w1 hown1 hgrow hat HC;obtain⟨h9,HS,R1,hg3,hs3⟩:=(bX.out _ (((aq.alloc _ _).trans (aq.drew _) (λ_ _ h=>h)).trans (aq.of_grownBy hgrow (λi e=>bJ e)) (λ_ _ h=>h))).update o4 AQ (by unfold dO;omega) c'.1 (ad (ab ⟨rL,0,af⟩) ((succ gw u).length+1) cap);replace HS:(C1 303 (dF (ab cW)) (J R u) (ad (ab ⟨rL,0,af⟩) ((succ gw u).length+1) cap)).run ax w1=a8 () h9:=HS
          have ql:aE (h9.cell? ⟨b,2,af⟩=ab (dF (ab cW))/\h9.cell? ⟨B,0,af⟩=ab (J R u)/\h9.cell? ⟨B,1,af⟩=ab (J R x)):=hid (by have hs1:=I.out _ (((aq.alloc _ _).trans (aq.drew _) (λ_ _ h=>h)).trans (aq.of_grownBy hgrow (λi e=>bJ e)) (λ_ _ h=>h));have ly:aq (λi=>i=cW) w1 h9:=aq.of_grownBy hg3 (λi e=>by cases e;exact bJ aa);exact⟨ly.cell hs1.1 so.out.1,ly.cell hs1.2.1 so.out.2,ly.cell hs1.2.2 so.out.2⟩)))
     all_goals
      go_wp2_with fail;go_meet;have gi:aq (λi=>ej.ownBlock=ab i) fw w1:=((aq.alloc _ _).trans (aq.drew _) (λ_ _ h=>h)).trans (aq.of_grownBy hgrow (λi e=>bJ e)) (λ_ _ h=>h);have iM:aq (λi=>i=cW) w1 h9:=aq.of_grownBy hg3 (λi e=>by cases e;exact bJ aa);have Sw:w.heap.size<=fw.heap.size:=oZ.size
      have hloc:(ad (ab ⟨rL,0,af⟩) ((succ gw u).length+1) cap).ownBlock=ej.ownBlock\/∃g,(ad (ab ⟨rL,0,af⟩) ((succ gw u).length+1) cap).ownBlock=ab g/\fw.heap.size<=g:=by
       rcases hat with h|h;·exact bJ h.symm
       .exact b3 ⟨rL,aa,ae⟩
      have eH:=Pk.out h9 w1 _ gi hown1 hloc iM R1 (λi hi=>b3 ae);refine⟨_,eH,(oZ.trans gi ?_).trans iM ?_,iM.heap (gi.heap qA zj.out) so.out.2⟩
      .intro i hi h;have h2:=uT.out i h;rcases h2 with h2|h2;·exact h2
       .omega
      .intro i hi h;rcases(g3.CW:_)with h2|h2;·exact h▸h2
       .omega
    case rest=>
     obtain⟨PW,g4,oZ,qA⟩:=hcut;obtain⟨axT,axL,vt⟩:=g4.mL.t';go_wp2_with fail;go_cut []from 63 to 79 (λCK=>∃W5,kz CK (λk=>F k\/w.heap.size<=k) b n (gw++[(u,x)]) (gw++[(u,x)]) (gw++[(u,x)]) fJ cW fA PW W5/\aq F w CK/\CK.heap[B]?=ab (bf #[J R u,J R x] 192 (0,0)))
     case first=>
      have hrow:=g4.SE x;have aoC:=Tr gw x
      have BW:∀w',aq (λi=>((ed eO x).getD (ad af 0 0)).ownBlock=ab i) wc w'->(qg 303 (dF (ab fA)) (J R x) au).run ax w'=a8 ((ed eO x).getD (ad af 0 0)) w':=λw' hw'=>
       ((g4.mL.only hw' (λe=>sY hrow vt e)).lookup o4 AQ Ft c'.2).1;have k7:=EZ hrow g4.blk bj;have yG:=EZ hrow qA bj
      have uT:aE (∀i,((ed eO x).getD (ad af 0 0)).ownBlock=ab i->F i\/w.heap.size<=i):=hid λi hi=>by
       cases hm:ed eO x with
       |none=>rw[hm]at hi;cases hi
       |some v=>rw[hm]at hi;exact g4.xz _ (rV hm) i hi
      have Pk:=hid (λ(w' w1:World) (v':Value)=>g4.ins (w':=w') (w1:=w1) (u:=u) (x:=x) (v':=v'));generalize eo:(ed eO x).getD (ad af 0 0)=ej at*;have mX:=hid eo;clear eo;have b1:=eC _ _ 0 _ _ _ qA;have c1:=eC _ _ 1 _ _ _ qA;have fo:=eC _ _ 3 _ _ _ g4.blk;simp at b1 c1 fo
      have I:aE (∀w',aq (λi=>ej.ownBlock=ab i) wc w'->w'.cell? ⟨b,3,af⟩=ab (dF (ab fA))/\w'.cell? ⟨B,0,af⟩=ab (J R u)/\w'.cell? ⟨B,1,af⟩=ab (J R x)):=
       hid λw' hw'=>⟨hw'.cell fo k7,hw'.cell b1 yG,hw'.cell c1 yG⟩;have aoD:=BW wc.drew (aq.drew _);have aoE:=λo=>BW (wc.alloc o).drew ((aq.alloc _ _).trans (aq.drew _) (λ_ _ h=>h));have bX:aE (∀w',aq (λi=>ej.ownBlock=ab i) wc w'->dZ w' fA encI db eO):=hid λw' hw'=>g4.mL.only hw' (λe=>sY hrow vt e);have aoF:=g4.li;have so:=hid (And.intro (Bn g4.blk vt) (Bn qA vt));have zj:=hid yG;clear BW k7 yG vt;obtain⟨i0,gQ,hz0,hz1,hz2⟩:=info_parts z7
      go_region_held3 (λw'=>w'.cell? ⟨b,3,af⟩=ab (dF (ab fA))/\w'.cell? ⟨B,0,af⟩=ab (J R u)/\w'.cell? ⟨B,1,af⟩=ab (J R x))
       (first
         |exact I.out _ (aq.drew _)
         |exact I.out _ ((aq.alloc _ _).trans (aq.drew _) (λ_ _ h=>h))
         |exact I.out _ (((aq.alloc _ _).trans (aq.drew _) (λ_ _ h=>h)).trans (aq.of_grownBy hgrow (λi e=>bJ e)) (λ_ _ h=>h))
         |exact ql.out)
       (first
         |(refine ahO _ aT _ _ _ aT 0 3 i0 _ 1 8 ik gQ hz0 hz1 hz2 aa ae ej _ _ aT ((hrow.alloc _).drew)
            ⟨wc.heap.size,0,af⟩ 1 1 [J R u] aT aT (V8 (cs:=#[J R u]) (t:=3) (fr:=(0,0)) (ff wc _)) (by simp[wh])
            ae (by unfold dO;omega) ae aU (wc.heap.size+1) aU ?_;intro rL cap w1 hown1 hgrow hat HC;obtain⟨h9,HS,R1,hg4,hs3⟩:=(bX.out _ (((aq.alloc _ _).trans (aq.drew _) (λ_ _ h=>h)).trans (aq.of_grownBy hgrow (λi e=>bJ e)) (λ_ _ h=>h))).update o4 AQ (by unfold dO;omega) c'.2 (ad (ab ⟨rL,0,af⟩) ((pred gw x).length+1) cap);replace HS:(C1 303 (dF (ab fA)) (J R x) (ad (ab ⟨rL,0,af⟩) ((pred gw x).length+1) cap)).run ax w1=a8 () h9:=HS
           have ql:aE (h9.cell? ⟨b,3,af⟩=ab (dF (ab fA))/\h9.cell? ⟨B,0,af⟩=ab (J R u)/\h9.cell? ⟨B,1,af⟩=ab (J R x)):=hid (by have hs1:=I.out _ (((aq.alloc _ _).trans (aq.drew _) (λ_ _ h=>h)).trans (aq.of_grownBy hgrow (λi e=>bJ e)) (λ_ _ h=>h));have ly:aq (λi=>i=fA) w1 h9:=aq.of_grownBy hg4 (λi e=>by cases e;exact bJ aa);exact⟨ly.cell hs1.1 so.out.1,ly.cell hs1.2.1 so.out.2,ly.cell hs1.2.2 so.out.2⟩)))
      all_goals
       go_wp2_with fail;go_meet;have gi:aq (λi=>ej.ownBlock=ab i) wc w1:=((aq.alloc _ _).trans (aq.drew _) (λ_ _ h=>h)).trans (aq.of_grownBy hgrow (λi e=>bJ e)) (λ_ _ h=>h);have iM:aq (λi=>i=fA) w1 h9:=aq.of_grownBy hg4 (λi e=>by cases e;exact bJ aa);have Sw:w.heap.size<=wc.heap.size:=oZ.size
       have hloc:(ad (ab ⟨rL,0,af⟩) ((pred gw x).length+1) cap).ownBlock=ej.ownBlock\/∃g,(ad (ab ⟨rL,0,af⟩) ((pred gw x).length+1) cap).ownBlock=ab g/\wc.heap.size<=g:=by
        rcases hat with h|h;·exact bJ h.symm
        .exact b3 ⟨rL,aa,ae⟩
       have eH:=Pk.out h9 w1 _ gi hown1 hloc iM R1 (λi hi=>b3 ae);refine⟨_,eH,(oZ.trans gi ?_).trans iM ?_,iM.heap (gi.heap qA zj.out) so.out.2⟩
       .intro i hi h;have h2:=uT.out i h;rcases h2 with h2|h2;·exact h2
        .omega
       .intro i hi h;rcases(g4.CV:_)with h2|h2;·exact h▸h2
        .omega
     case rest=>
      obtain⟨W5,g5,oZ,qA⟩:=hcut;clear qA;go_wp2;go_roundw
      case rel=>
       refine⟨k+1,ae,by go_num,?_,?_,oZ⟩;·rw[eK.out,Wf.out];have bD:((gw++[(u,x)]).length -E.length:Nat)=(gw.length -E.length)+1:=aG;rw[bD];go_num
       .rw[eK.out,Wf.out];exact⟨⟨_,_,_,_,_,g5⟩,WL.out.1,WL.out.2⟩
      case measure=>grind[cx]
   .have Eu:pF n gw (u,x)=gw:=by unfold pF;rw[if_neg nI]
    have zm:=hid Eu;have ahR:=hid nI;clear Eu nI;cases o3:pZ n u with
    |false=>
     go_quiet ((go_at_call 253;exact Ct (yY _ _ _ _ kn)));go_wp2;go_roundw;case rel=>exact⟨k+1,ae,by go_num,by rw[eK.out,zm.out],by rw[eK.out,zm.out];exact(fY.out _).1,(fY.out _).2⟩
     case measure=>simp[cx];omega
    |true=>
     cases hv2:pZ n x with
     |false=>
      go_quiet ((go_at_call 253;(first|exact Ct (yY _ _ _ _ kn)|exact E5 (yY _ _ _ _ kn))));go_wp2;go_roundw;case rel=>exact⟨k+1,ae,by go_num,by rw[eK.out,zm.out],by rw[eK.out,zm.out];exact(fY.out _).1,(fY.out _).2⟩
      case measure=>simp[cx];omega
     |true=>
      by_cases k2:u=x
      .have hq:(u==x)=true:=by simpa using k2
       have gU:=hid k2;clear k2;go_quiet ((go_at_call 253;(first|exact Ct (yY _ _ _ _ kn)|exact E5 (yY _ _ _ _ kn))));go_wp2;go_roundw;case rel=>exact⟨k+1,ae,by go_num,by rw[eK.out,zm.out],by rw[eK.out,zm.out];exact(fY.out _).1,(fY.out _).2⟩
       case measure=>simp[cx];omega
      .have hq:(u==x)=false:=by simpa using k2
       have wW:(u,x)∈gw:=by have:=ahR.out;simpa [canAdd,o3,hv2,k2]using this
       have hlk:∀nq,(qg 302 (dF (ab fJ)) (av #[J R u,J R x]) au).run ax (W.drewN nq)=a8 (aj true) (W.drewN nq):=λnq=>by have h:=((g1.mB.only (aq.drewN (F:=λ_=>False) W nq) (λh=>h)).lookup L0 OF Uf c').1;rw[w8 g1.mB.nodup (gN.2 ⟨(u,x),wW,aa⟩)]at h;exact h
       clear k2 wW;go_quiet ((go_at_call 253;(first|exact Ct (yY _ _ _ _ kn)|exact E5 (yY _ _ _ _ kn))));go_wp2;go_roundw;case rel=>exact⟨k+1,ae,by go_num,by rw[eK.out,zm.out],by rw[eK.out,zm.out];exact(fY.out _).1,(fY.out _).2⟩
       case measure=>simp[cx];omega
  .obtain rfl:k=l.length:=ae;rw[List.take_length]at*;have A0:=hid D2;have dv:=hid hO;clear D2 hO dU ka eV bx hl;go_wp2;go_ret;exact⟨aa,A0.out.mono (λi hi h=>by rcases h with h|h;exact bJ h;exact b3 ⟨h,hi⟩),dv.out⟩
end G
section
def Xz:∀(xs cq:List Int),xs.length=cq.length->((List.range xs.length).all λi=>xs.getD i 0==cq.getD i 0)=(xs==cq)
 |[],[],_=>aa
 |x::xs,y::cq,h=>by have a:=Xz xs cq aG;rw[List.length_cons,List.range_succ_eq_map,J6,List.all_map];grind
 |[],_::_,h=>by grind
 |_::_,[],h=>by grind
section
variable {P:Program}
def atL w d (t e) n (c:P.underlying t=ab (.array n e)) (a:P.underlying e=ab (.int .u8)) (hsz:∀w,(sizeOf e).run P w=a8 1 w)
 (xs cq) (hx:xs.length=n) (hy:cq.length=n):(Oi (d+2) t (av (aY a' xs [])) (av (aY a' cq []))).run P w=a8 (xs==cq) w:=by
 rw[<-Xz xs cq (hx.trans hy.symm),hx,List.range_eq_range',Oi];simp only[gl,gG c,ji,hsz,axp,axq,Nat.sub_zero,Nat.add_sub_cancel,Nat.div_one];have b:∀i∈ajj 0 n 1,i<n:=λi hi=>by grind
 generalize ajj 0 n 1=l at b⊢;induction l with
 |nil=>simp
 |cons i l h=>
  have hi:i<n:=b i aU
  have f:(part e (aY a' xs []) (i*1)).run P w=a8 (a' (xs.getD i 0)) w:=by simp[aY,part,ts,gG a,cm (show i<xs.length by omega)]
  have g:(part e (aY a' cq []) (i*1)).run P w=a8 (a' (cq.getD i 0)) w:=by simp[aY,part,ts,gG a,cm (show i<cq.length by omega)]
  have aJ:(Oi (d+1) e (a' (xs.getD i 0)) (a' (cq.getD i 0))).run P w=a8 (xs.getD i 0==cq.getD i 0) w:=by show(Oi (d+1) e (J .u8 _) (J .u8 _)).run P w=_;rw[run_equalIn_int w d e _ _ _ _ a]
  simp only[List.forIn_cons,gl,f,g,aJ,ji,J6];cases hb:(xs.getD i 0==cq.getD i 0);·simp
  .grind[Sem.run_pure,ji]
def x2 {o} {a:Act} {w} (t e) n (x y) g (d:o.op=.binOp .neq t x y g) (f:P.underlying t=ab (.array n e)) (b:P.underlying e=ab (.int .u8)) (j:(P.info? e).map (·.size)=ab 1) (c:P.eqGuardType P.depth t=au)
 (xs cq) (hx:a.eval x=av (aY a' xs [])) (hy:a.eval y=av (aY a' cq [])) (iJ:xs.length=n) (apq:cq.length=n):
 (bw a.eval o).run P w=a8 (.value (aj (!(xs==cq)))) w:=by
 have hsz:∀w,(sizeOf e).run P w=a8 1 w:=λw=>by
  cases hi:P.info? e with
  |none=>grind
  |some i=>grind[run_sizeOf,Program.cellsOf]
 have h:=atL (P:=P) w 9998 t e n f b hsz xs cq iJ apq;unfold bw;simp[d,hx,hy,run_eqGuard_agg w _ _ _ _ _ _ c,run_neq_struct w,h]
def acL{o}{a:Act}{w cs v}{ft k:Nat}ty x f(g:o.op=.field ty x f)(hx:a.eval x=av cs)(b:(match P.underlying ty with|some (.struct fs)=>(fs[f]?).map (λf=>(f.type,f.offset))|_=>af)=ab (ft,k))(h:(P.underlying ft).map (λd=>d.isRow)=ab au)(hv:cs[k]?=ab v):
 (bw a.eval o).run P w=a8 (.value v) w:=by
 cases hu:P.underlying ty with
 |none=>grind
 |some d=>
  cases d with
  |struct fs=>
   rw[hu]at b;cases hf:fs[f]? with
   |none=>grind
   |some c=>
    simp only[hf,Option.map_some,wC,Prod.mk.injEq]at b;obtain⟨rfl,rfl⟩:=b;cases hd:P.underlying c.type with
    |none=>grind
    |some e=>
     have hagg:(ts c.type).run P w=a8 au w:=by unfold ts;rw[gl,gG hd w];cases e<;>simp_all
     unfold bw;simp[g,hx,Instr.field,gG hu,hf,part,hagg,hv,asAgg]
  |_=>simp[hu]at b
end
def alJ{o n g h S}:(a6 o n g h S).extract 2 (2+(aY a' g.l []).size)=aY a' g.l []:=by
 have h1:(aY a' g.l []).size=32:=by simp[aY,g.len]
 have a:(g.l.map a').length=32:=by simp[g.len]
 rw[h1];apply afr;rw[afu];simp only[a6,aY,ajd,j6,tD,W7,List.drop_zero];rw[ajk a]
def alK{o n g h S}:(a6 o n g h S).extract 34 (34+(aY a' h.l []).size)=aY a' h.l []:=by
 have h1:(aY a' h.l []).size=32:=by simp[aY,h.len]
 have a:(h.l.map a').length=32:=by simp[h.len]
 have b:(g.l.map a').length=32:=by simp[g.len]
 rw[h1];apply afr;rw[afu];simp only[a6,aY,ajd,j6,tD];rw[show(34:Nat)=32+1+1 from aa,W7,W7,List.drop_left' b,ajk a]
def nB(w:World)(A:Option Addr):Prop:=∀b,dV A b->b<w.heap.size
def nB.aI{w w' A}(h:nB w A)(g:ao w w'):nB w' A:=λb hb=>Nat.lt_of_lt_of_le (h b hb) g.size
def S9 a aK c2 bs w ty(d:bs.length<=35184372088832)(hcell:aX w a #[ad aK bs.length c2] ty)(hb:bT w aK bs)(c:nB w aK):
 aD ax 76 #[ad (ab ⟨a,0,af⟩) 1 1] w λe w'=>e=aA (av (aY a' (ic bs) []))/\ao w w':=
 aef a 0 1 aK c2 bs w d (hcell.cell 0 aa) hb (λb off e=>c b ⟨off,af,e⟩)
end
end Go.Proofs.YtcmhplknoglbkaaGreat
