/- Part 1 of the proof of TopConvertsSaid. -/
import Derived.Deep.LoopGhost
import Derived.Maps.AppendAt
import Derived.Lib.LazyBuf
import Derived.Shelf.Spec.SlicesGrow
import Derived.Ground.Names7Prog
import Derived.Test.YtcmhplknoglbkaaGreatProg
import Derived.Deep.AppendLies
import Derived.Test.YtcmhplknoglbkaaGreat0
set_option linter.all false
set_option maxRecDepth 100000
set_option maxHeartbeats 4000000
open Go.Proofs.Tryz
open Bool renaming false->au,true->aB
open Go.Builtin renaming append->vS,append_->oK,firstCells->q8,lenOf->vT
open Go.Callee renaming builtin->nY
open Go renaming Calls->aD,World->aN,bodyPost_ret->dp,callFunc->kj,cell_of_row->eC,grownCap->xG,heap_alloc_new->ff,info_parts->ra,maxLen->dO,results_cell_tmp->AV,rounds_succ->OV,run_underlying->gG,wpList->cH,wpList_plain->C8,wp_loop_rounds->ahQ
open Go.Ending renaming returned->aA
open Go.IntKind renaming i64->R
open Go.Obj renaming cells->bf
open Go.Oper renaming wp->hC
open Go.Proofs.Any8 renaming slices_Grow_grow->awW,slices_Grow_room->awX
open Go.Proofs.Lays8 renaming n4->aw6
open Go.Proofs.Tryz renaming func200->agh,func220->agn,func247->U2,func297->agz,func360->agG,func65->agL,func79->agM,ntmps200->ag6,ntmps220->ahb,ntmps247->Vv,ntmps297->ahk,ntmps360->ahn,ntmps65->ahq,ntmps79->ahr,prog->ax,underlying22->dJ
open Go.Result renaming andThen_ok->ji
open Go.RowKit renaming Hid->aE
open Go.Sem renaming run_bind->gl,run_pure->jR
open Go.TypeDesc renaming slice->hU
open Go.Value renaming agg->av,bool->aj,int->J,slice->ad,tuple->bh
open Go.World.ownsRow renaming lt->wi
open Go.World renaming ownsRow_nil->AT
open List renaming eq_nil_of_length_eq_zero->jH,getElem?_eq_getElem->cm,map_cons->jx,map_nil->kC,map_toArray->ob,mem_map->gN,mem_of_getElem?->cM
open Nat renaming eq_zero_or_pos->lJ,le_refl->cp
open Option renaming none->af,some->ab
namespace Go.Proofs.YtcmhplknoglbkaaGreat
open Go.RowKit Go.MapKept
def bT(w:aN)(A:Option Addr)(bs:List Int):Prop:=
 0<bs.length->∃b off,A=ab ⟨b,off,af⟩/\∀j,j<bs.length->w.cell? ⟨b,off+j,af⟩=ab (J .u8 (bs[j]?.getD 0))
theorem bT.nil{w A}:bT w A []:=λh=>absurd h aU
def bT.only{F w w' A bs}(h:bT w A bs)(k:aq F w w')(hn:∀b off,A=ab ⟨b,off,af⟩->¬F b):bT w' A bs:=λhp=>by obtain⟨b,off,rfl,hc⟩:=h hp;exact⟨b,_,rfl,λj hj=>k.cell (hc j hj) (hn b _ aa)⟩
def bT.aI{w w' A bs}(h:bT w A bs)(k:ao w w'):bT w' A bs:=h.only k (λ_ _ _ hf=>hf)
structure bI where
 k:Int
 to:Int
 fr:Int
 n:Int
 data:List Int
abbrev mz(m:bI)(A:Option Addr)(c:Nat):Value:=av #[J R m.k,J R m.to,J R m.fr,J R m.n,ad A m.data.length c]
def cS(m:bI):Int:=if m.k=1 then m.n else(m.data.length:Int)
def b'(m:bI):Int×Int:=(m.to,cS m)
def src(m:bI):Int×Int:=(m.fr,m.n)
def X3(w:aN)(a b c d e)t:(w.alloc (bf #[a,b,c,d,e] t)).cell? ⟨w.heap.size,0,af⟩=ab a/\(w.alloc (bf #[a,b,c,d,e] t)).cell? ⟨w.heap.size,1,af⟩=ab b/\(w.alloc (bf #[a,b,c,d,e] t)).cell? ⟨w.heap.size,2,af⟩=ab c/\(w.alloc (bf #[a,b,c,d,e] t)).cell? ⟨w.heap.size,3,af⟩=ab d/\(w.alloc (bf #[a,b,c,d,e] t)).cell? ⟨w.heap.size,4,af⟩=ab e:=
 ⟨eC _ _ 0 _ _ _ (ff w _),eC _ _ 1 _ _ _ (ff w _),eC _ _ 2 _ _ _ (ff w _),eC _ _ 3 _ _ _ (ff w _),eC _ _ 4 _ _ _ (ff w _)⟩
def Z7(w:aN)B(ie:w.heap.size=B)o:(w.alloc o).heap[B]?=ab o:=by grind[ff]
def M6{an w' B x y t}(h:an.heap[B]?=ab (bf #[x,y] t (0,0)))(g:ao an w'):
 w'.cell? ⟨B,0,af⟩=ab x/\w'.cell? ⟨B,1,af⟩=ab y/\w'.frozen? ⟨B,0,af⟩=au/\w'.frozen? ⟨B,1,af⟩=false:=by
 have h2:=g.heap h (λh=>h);grind[World.cell?,World.frozen?]
def asC{CH an w' B x y t}(h:an.heap[B]?=ab (bf #[x,y] t (0,0)))(g0:ao CH an)(g:ao an w')(ie:CH.heap.size<=B)(u v):
 ((w'.setCell ⟨B,0,af⟩ u).setCell ⟨B,1,af⟩ v).cell? ⟨B,0,af⟩=ab u/\((w'.setCell ⟨B,0,af⟩ u).setCell ⟨B,1,af⟩ v).cell? ⟨B,1,af⟩=ab v/\ao CH ((w'.setCell ⟨B,0,af⟩ u).setCell ⟨B,1,af⟩ v):=by
 obtain⟨h1,h2,_,_⟩:=M6 h g;obtain⟨a,b⟩:=TN w' B x y u v h1 h2;refine⟨a,b,?_⟩;have q:=((ao.trans g0 g).mono (G:=λi=>i=B) (λ_ _ h=>h.elim)).trans ((aq.setCell (F:=λi=>i=B) w' (p:=⟨B,0,af⟩) aa u).trans (aq.setCell (F:=λi=>i=B) _ (p:=⟨B,1,af⟩) aa v) (λ_ _ h=>h)) (λ_ _ h=>h);exact q.mono (λi hi h=>ae)
def fc(k n:Int)(m:Nat):Int:=if k=1 then n else(m:Int)
def Mn(k to fr n)A(m c)w:
 aD ax 220 #[av #[J R k,J R to,J R fr,J R n,ad A m c]] w λe w'=>e=aA (av #[J R to,J R (fc k n m)])/\ao w w':=by
 by_cases hk:k=1;·subst hk;show aD _ _ _ _ λe w'=>e=aA (av #[J R to,J R n])/\ao w w';go_enter agn,ahb;go_wp2;refine dp (v:=_) ?_ aa ⟨aa,ao.trans (aq.alloc _ _) (aq.alloc _ _)⟩;rw[xj aa];go_simp
 .have hd:(k==1)=false:=aG;have ht:fc k n m=(m:Int):=if_neg hk;rw[ht];clear hk ht;go_enter agn,ahb;go_wp2;refine dp (v:=_) ?_ aa ⟨aa,ao.trans (aq.alloc _ _) (aq.alloc _ _)⟩;rw[xj aa];go_simp
def uB(k to fr n)A(m c)w:
 aD ax 136 #[av #[J R k,J R to,J R fr,J R n,ad A m c]] w λe w'=>e=aA (av #[J R to,J R (fc k n m)])/\ao w w':=by
 obtain⟨r,hr⟩:=ex (fc k n m);have c0:=hid (λW=>Mn k to fr n A m c W);simp only[hr]at c0⊢;clear hr;have qE:∀w:aN,(Instr.field 338 (av #[J R to,J R r]) 0).run ax w=.ok (av #[J R to,J R r]) w:=λ_=>by rfl
 go_enter func136,ntmps136;have fg:=hid (Z7 (w.alloc (bf #[J R k,J R to,J R fr,J R n,ad A m c] 73)) (w.heap.size+1) aU (bf #[J R 0,J R 0] 35));have eH:aE (ao w ((w.alloc (bf #[J R k,J R to,J R fr,J R n,ad A m c] 73)).alloc (bf #[J R 0,J R 0] 35))):=hid (ao.trans (aq.alloc _ _) (aq.alloc _ _));go_wp2_with (go_at_call 220;refine(c0.out _).mono ?_;rintro e w1 ⟨rfl,hg⟩;obtain⟨e',z2,z3,z4⟩:=M6 fg.out hg);obtain⟨iw,br,c7⟩:=asC fg.out eH.out hg ae (J R to) (J R r);refine dp (v:=_) ?_ aa ⟨aa,c7⟩;rw[xj aa];go_simp
def yP(to fr n)A(m c)w:
 aD ax 79 #[av #[J R 1,J R to,J R fr,J R n,ad A m c]] w λe w'=>e=aA (bh #[av #[J R fr,J R n],aj aB])/\ao w w':=by
 go_enter agM,ahr;go_wp2;refine dp (v:=_) ?_ aa ⟨aa,ao.trans (aq.alloc _ _) (aq.alloc _ _)⟩;rw[AV aa];go_simp
def yQ(k to fr n)A(m c)w(hk:k≠1):
 aD ax 79 #[av #[J R k,J R to,J R fr,J R n,ad A m c]] w λe w'=>e=aA (bh #[av #[J R 0,J R 0],aj au])/\ao w w':=by
 have hd:(k !=1)=true:=aG;clear hk;go_enter agM,ahr;go_wp2;refine dp (v:=_) ?_ aa ⟨aa,ao.trans (aq.alloc _ _) (aq.alloc _ _)⟩;rw[AV aa];go_simp
def Ye(to fr n)w:
 aD ax 101 #[J R to,J R fr,J R n] w λe w'=>e=aA (av #[J R 1,J R to,J R fr,J R n,ad af 0 0])/\ao w w':=by
 go_enter func101,ntmps101;go_wp2;refine dp (v:=_) ?_ aa ⟨aa,aq.alloc _ _⟩;rw[xj aa];go_simp
def wE(k to fr n:Int)(m:Nat):Prop:=(k=1/\eE (to,n)/\eE (fr,n)/\0<n/\m=0)\/(k=2/\eE (to,(m:Int))/\fr=0/\n=0/\0<m)
def xm(a b)w(h:eE (a,b)):
 aD ax 115 #[av #[J R a,J R b]] w λe w'=>e=aA (aj aB)/\ao w w':=by
 obtain⟨h1,h2,h3⟩:=h;simp only at h1 h2 h3;have hx:=ae3 a b w ⟨ae,ae⟩ ⟨ae,ae⟩;grind[Fl,eE]
theorem wE.b'{k to fr n m}(h:wE k to fr n m):eE (to,fc k n m)/\0<fc k n m:=by
 rcases h with⟨rfl,h1,h2,h3,rfl⟩|⟨rfl,h1,rfl,rfl,h3⟩;·exact⟨h1,h3⟩
 .exact⟨h1,by show(0:Int)<(m:Int);omega⟩
set_option maxHeartbeats 2000000 in
def akK(k to fr n)A(m c)w(h:wE k to fr n m):
 aD ax 200 #[av #[J R k,J R to,J R fr,J R n,ad A m c]] w λe w'=>e=aA (J R 0)/\ao w w':=by
 have eN:=hid h.b';have PB:=hid (λW=>Mn k to fr n A m c W);obtain⟨r,hr⟩:=ex (fc k n m);simp only[hr]at PB eN;have PE:=eN.out.2;have ug:(r==0)=false:=aG;have cB:=hid (λW=>xm to r W eN.out.1);have hb:=X3 w (J R k) (J R to) (J R fr) (J R n) (ad A m c) 73;have bm:=hid hb;have I:aE (∀w',ao _ w'->w'.cell? _=ab _/\w'.cell? _=ab _/\w'.cell? _=ab _/\w'.cell? _=ab _):=hid (λw' g=>⟨g.cell bm.out.1 (λh=>h),g.cell bm.out.2.2.1 (λh=>h),g.cell bm.out.2.2.2.1 (λh=>h),g.cell bm.out.2.2.2.2 (λh=>h)⟩);have eH:aE (ao w (w.alloc (bf #[J R k,J R to,J R fr,J R n,ad A m c] 73))):=hid (aq.alloc _ _);have cP:=hid h;clear hb hr h PE;rcases cP.out with⟨rfl,h1,h2,h3,rfl⟩|⟨rfl,h1,rfl,rfl,h3⟩
 .have J4:=hid (λW=>xm fr n W h2);clear h1 h2 h3 cP;go_enter agh,ag6
  go_wp2_with (first
   |(go_at_call 115;have b2:=J4.out aS;with_reducible refine b2.mono ?_;clear b2;rintro e bN ⟨rfl,hg3⟩)
   |(go_at_call 115;go_loud (refine(cB.out _).mono ?_);rintro e aS ⟨rfl,hg2⟩;obtain⟨iw,br,c7,ix⟩:=I.out aS (ao.trans hg1 (ao.trans (aq.alloc _ _) hg2)))
   |(go_at_call 220;refine(PB.out _).mono ?_;rintro e w1 ⟨rfl,hg1⟩;obtain⟨e',z2,z3,z4⟩:=I.out w1 hg1));go_ret;exact⟨aa,ao.trans eH.out (ao.trans hg1 (ao.trans (aq.alloc _ _) (ao.trans hg2 hg3)))⟩
 .clear h1 h3 cP;go_enter agh,ag6
  go_wp2_with (first
   |(go_at_call 115;go_loud (refine(cB.out _).mono ?_);rintro e aS ⟨rfl,hg2⟩;obtain⟨iw,br,c7,ix⟩:=I.out aS (ao.trans hg1 (ao.trans (aq.alloc _ _) hg2)))
   |(go_at_call 220;refine(PB.out _).mono ?_;rintro e w1 ⟨rfl,hg1⟩;obtain⟨e',z2,z3,z4⟩:=I.out w1 hg1));go_ret;exact⟨aa,ao.trans eH.out (ao.trans hg1 (ao.trans (aq.alloc _ _) hg2))⟩
set_option maxHeartbeats 2000000 in
def arU(k to fr n)A(m c)w(hk:k≠1):
 aD ax 297 #[av #[J R k,J R to,J R fr,J R n,ad A m c]] w λe w'=>e=aA (aj au)/\ao w w':=by
 have c0:=hid (λW=>yQ k to fr n A m c W hk);clear hk;go_enter agz,ahk;go_wp2_with (go_at_call 79;refine(c0.out _).mono ?_;rintro e w1 ⟨rfl,hg1⟩);go_ret;exact⟨aa,ao.trans (aq.alloc _ _) (ao.trans hg1 (aq.alloc _ _))⟩
set_option maxHeartbeats 4000000 in
def arT(to fr n)A(m c)w(h1:eE (to,n))(h2:eE (fr,n)):
 aD ax 297 #[av #[J R 1,J R to,J R fr,J R n,ad A m c]] w λe w'=>e=aA (aj (meets (fr,n) (to,n)))/\ao w w':=by
 have c0:=hid (λW=>yP to fr n A m c W);have eN:aE (∀W,aD _ _ _ W λe w'=>e=aA (av #[J _ to,J _ n])/\ao W w'):=hid (λW=>uB 1 to fr n A m c W);obtain⟨r,hr⟩:=ex (meets (fr,n) (to,n));obtain⟨fb,eu,eo⟩:∃fb eu,kM (fr,n) (to,n)=(fb,eu):=⟨_,_,aa⟩
 have dv:aE (∀W,aD _ _ _ W λe w'=>e=aA (bh #[av #[J _ fb,J _ eu],aj r])/\ao W w'):=hid (λW=>by have h:=Mw fr n to n W h2 h1;rw[eo,hr]at h;exact h);rw[hr];have bm:=hid (X3 w (J R 1) (J R to) (J R fr) (J R n) (ad A m c) 73);have eH:aE (ao w (w.alloc (bf #[J R 1,J R to,J R fr,J R n,ad A m c] 73))):=hid (aq.alloc _ _);clear hr eo h1 h2;go_enter agz,ahk;go_wp2_with (go_at_call 79;refine(c0.out _).mono ?_;rintro e w1 ⟨rfl,hg1⟩)
 have I:aE (∀w',ao (w1.alloc _) w'->w'.cell? _=ab _/\w'.cell? _=ab _/\w'.cell? _=ab _/\w'.cell? _=ab _/\w'.cell? _=ab _/\w'.cell? _=ab _/\w'.cell? _=ab _):=hid (λw' g=>by have g1:=ao.trans hg1 (ao.trans (aq.alloc _ _) g);obtain⟨eS,eZ,sA,XM,XN⟩:=bm.out;obtain⟨bD,b9⟩:=x5 w1 (J R fr) (J R n) 35;exact⟨g1.cell eS (λh=>h),g1.cell eZ (λh=>h),g1.cell sA (λh=>h),g1.cell XM (λh=>h),g1.cell XN (λh=>h),g.cell bD (λh=>h),g.cell b9 (λh=>h)⟩);have uU:aE (ao w (w1.alloc (bf #[J R fr,J R n] 35))):=hid (ao.trans eH.out (ao.trans hg1 (aq.alloc _ _)));clear hg1;generalize w1.alloc (bf #[J R fr,J R n] 35)=hZ at*;generalize w1.heap.size=da at*;generalize ie:w.heap.size=B at*;have uT:aE (∀w',ao _ w'->w'.cell? _=ab (J R 0)/\w'.cell? _=ab (J R 0)/\w'.frozen? _=au/\w'.frozen? ⟨hZ.heap.size,1,_⟩=au):=hid (λw' g=>M6 (ff hZ.drew (bf _ 35)) g)
 have eK:aE (∀w1 B u v,ao hZ w1->hZ.heap.size<=B->ao hZ _):=hid (λw1 B u v h ie=>by have q:=(h.mono (G:=λi=>i=B) (λ_ _ h=>h.elim)).trans ((aq.setCell (F:=λi=>i=B) w1 (p:=⟨B,0,af⟩) aa u).trans (aq.setCell (F:=λi=>i=B) _ (p:=⟨B,1,af⟩) aa v) (λ_ _ h=>h)) (λ_ _ h=>h);exact q.mono (λi hi h=>ae))
 go_region_held3 (λw'=>w'.cell? ⟨B,0,af⟩=ab (J R 1)/\w'.cell? ⟨B,1,af⟩=ab (J R to)/\w'.cell? ⟨B,2,af⟩=ab (J R fr)/\w'.cell? ⟨B,3,af⟩=ab (J R n)/\w'.cell? ⟨B,4,af⟩=ab (ad A m c)/\w'.cell? ⟨da,0,af⟩=ab (J R fr)/\w'.cell? ⟨da,1,af⟩=ab (J R n))
  (first
    |exact I.out _ (aq.drew _)
    |exact I.out _ (ao.trans (aq.drew _) (aq.alloc _ _))
    |exact I.out _ hb
    |exact I.out _ (ao.trans hb (aq.alloc _ _))
    |exact I.out _ ha
    |exact I.out _ (ao.trans ha (aq.alloc _ _))
    |exact I.out _ (eK.out _ _ _ _ hb (cp _))
    |exact I.out _ (eK.out _ _ _ _ hb ha.size)
    |exact I.out _ (eK.out _ _ _ _ (ao.trans hb (aq.alloc _ _)) hb.size))
  (first
    |(go_at_call 202;refine(dv.out _).mono ?_;rintro e pb ⟨rfl,hb0⟩;(have hb:ao hZ pb:=(by first|exact ao.trans ha hb0|exact ao.trans ha (ao.trans (aq.alloc _ _) hb0)));(try(have hz:=uT.out pb (ao.trans ha0 hb0);obtain⟨e',z2,z3,z4⟩:=hz));(try(have hz:=M6 (ff ja (bf #[J R 0,J R 0] 35)) hb0;obtain⟨e',z2,z3,z4⟩:=hz)))
    |(go_at_call 136;refine(eN.out _).mono ?_;rintro e ja ⟨rfl,ha0⟩;(have ha:ao hZ ja:=(by first|exact ao.trans (aq.drew _) ha0|exact ao.trans (aq.drew _) (ao.trans (aq.alloc _ _) ha0)))))
 all_goals
  go_wp2;go_ret
  first
   |exact⟨aa,ao.trans uU.out (eK.out _ _ _ _ hb (cp _))⟩
   |exact⟨aa,ao.trans uU.out (eK.out _ _ _ _ hb ha.size)⟩
   |exact⟨aa,ao.trans uU.out (ao.trans hb (aq.alloc _ _))⟩
section
def Cells(w:aN)(size:Nat)(A:Option Addr)(m:Nat)(xs:List Value):Prop:=
 xs.length=m*size/\(0<m->∃fx,A=ab fx/\∀j u,xs[j]?=ab u->w.cell? (fx.add j)=ab u)
theorem nD(b off j):(⟨b,off,af⟩:Addr).add j=⟨b,off+j,af⟩:=by grind[Addr.add]
def im(E:List (Int×Int)):List Value:=E.flatMap λe=>[J R e.1,J R e.2]
def X5 E:(im E).length=E.length*2:=by
 unfold im;induction E with
 |nil=>rfl
 |cons e r bY=>grind
def X4 E j:(im E)[j]?=(E[j/2]?).map λe=>if j%2=0 then J R e.1 else J R e.2:=by
 unfold im;induction E generalizing j with
 |nil=>simp
 |cons e r bY=>
  match j with
  |0=>simp
  |1=>simp
  |j+2=>
   have h1:(j+2)/2=j/2+1:=ae;grind[List.getElem?_cons_succ]
def jy.of_cells{w b off E}(h:∀j u,(im E)[j]?=ab u->w.cell? ⟨b,off+j,af⟩=ab u):jy w (ab ⟨b,off,af⟩) E:=λ_=>by
 refine⟨b,_,rfl,λj hj=>?_⟩;have dy:=cm hj;constructor
 .have:=h (j*2) (J R (E[j]?.getD (0,0)).1) (by rw[X4,show j*2/2=j by omega,dy,show j*2%2=0 by omega];rfl);exact this
 .have:=h _ (J _ (E[j]?.getD (0,0)).2) (by rw[X4,show(j*2+1)/2=j by omega,dy,show(j*2+1)%2=1 by omega];rfl);rw[<-Nat.add_assoc]at this;exact this
theorem jy.lW{w}{base e n c:Nat}{A E}(h:w.ownsRow base e 2 (ad A n c) n (im E)):jy w A E:=λhp=>by
 have hn:n=E.length:=by have:=h.1;rw[X5]at this;omega
 rcases h.2 with⟨hv,h0⟩|⟨g,cap,cur,hv,hb,hg,iI,hcm,hcs,ht⟩;·omega
 .injection hv with h1 h2 h3;subst h1;exact jy.of_cells (λj u hu=>by have:=h.cells (g:=g) aa j u hu;rw[nD]at this;exact this) hp
def cX.cells{w A xs}(h:cX w A xs):Cells w 1 A xs.length (xs.map (J R)):=by refine⟨aU,λhp=>?_⟩;obtain⟨b,off,rfl,hc⟩:=h hp;grind[nD]
def arq E:∀u∈im E,u.oneCell'=true:=by intro u hu;unfold im at hu;obtain⟨e,_,hu⟩:=List.mem_flatMap.1 hu;simp at hu;rcases hu with rfl|rfl<;>rfl
def S'(xs:List Int):∀u∈xs.map (J R),u.oneCell'=true:=by intro u hu;obtain⟨e,_,rfl⟩:=gN.1 hu;rfl
section
variable {P:Program} (w:aN)
def TI base (t ty e) i z (size bytes) (ht:P.underlying t=ab (hU e)) (hi:P.info? e=ab i) (hz:i.zero=ab z)
 (hsize:i.size=size) (hby:i.bytes=bytes) (hzs:z.cells.size=size) (hsz:0<size)
 v n xs (hown:w.ownsRow base e size v n xs) A (m c) news (hr:Cells w size A m news) (h1:∀u∈news,u.oneCell'=aB)
 (h63:n+m<=dO) (hbytes:(n+m)*bytes<=140737488355328) (hbase:base<=w.heap.size):
 ∃v' w',(oK #[t,t] ty #[v,ad A m c]).run P w=.ok v' w'/\w'.ownsRow base e size v' (n+m) (xs++news)/\w.grownBy w' v.ownBlock/\
  (v'=ad af 0 0↔v=ad af 0 0/\m=0)/\(v'.ownBlock=v.ownBlock\/v'.ownBlock=ab w.heap.size):=by
 rcases A with _|fx
 .have hm:m=0:=by
   rcases lJ m with h0|h0;·omega
   .obtain⟨fx,h,_⟩:=hr.2 h0;cases h
  subst hm;have hn:=jH (by simpa using hr.1);subst hn;refine⟨v,w,?_,aG,⟨aa,aa,aa,cp _,λ_ _ _=>aa⟩,aU,.inl aa⟩;rcases hown.2 with⟨rfl,rfl⟩|⟨g,cap,cur,rfl,_,_,iI,_⟩;·simp[oK,gG ht,sizeOf,typeInfo,hi,vT,q8]
  .simp[oK,gG ht,sizeOf,typeInfo,hi,vT,q8,iI,storeCells]
 .have Z2:∀j u,news[j]?=ab u->w.cell? (fx.add j)=ab u:=by
   intro j u hu;rcases lJ m with h0|h0;·subst h0;have hn:=jH (by simpa using hr.1);subst hn;simp at hu
   .obtain⟨axr,h,hc⟩:=hr.2 h0;grind
  exact run_append_own_at (P:=P) w _ t ty e i z _ _ ht hi hz hsize hby hzs hsz v n xs hown fx m c _ hr.1 Z2 h1 h63 hbytes hbase
def avE {o a K Q} (s x) t
 (ho:o.op=.call {callee:=nY vS,args:=#[s,x],argTypes:=#[t,t]})
 base e i z (size bytes) (ht:P.underlying t=ab (hU e)) (hi:P.info? e=ab i) (hz:i.zero=ab z)
 (hsize:i.size=size) (hby:i.bytes=bytes) (hzs:z.cells.size=size) (hsz:0<size)
 (g n cap) xs (hs:a.eval s=ad (ab ⟨g,0,af⟩) n cap) (hown:w.ownsRow base e size (ad (ab ⟨g,0,af⟩) n cap) n xs)
 A (m c) news (hx:a.eval x=ad A m c) (hr:Cells w size A m news) (h1:∀u∈news,u.oneCell'=aB)
 (h63:n+m<=dO) (hbytes:(n+m)*bytes<=140737488355328) (hbase:base<=w.heap.size)
 (h:∀fI kX w',w'.ownsRow base e size (ad (ab ⟨fI,0,af⟩) (n+m) kX) (n+m) (xs++news)->w.grownBy w' (ab g)->(fI=g\/fI=w.heap.size)->fI<w'.heap.size->K (a.put o.dst (ad (ab ⟨fI,0,af⟩) (n+m) kX)) w'):
 hC P o a w K Q:=by
 obtain⟨v',w',hrun,h2,h3,h4,h5⟩:=TI (P:=P) w base t o.type e i z size bytes ht hi hz hsize hby hzs hsz _ n xs hown A m c news hr h1 h63 hbytes hbase
 have hv:∃fI kX,v'=ad (ab ⟨fI,0,af⟩) (n+m) kX:=by
  rcases h2.2 with⟨hv,_⟩|⟨fI,kX,cur,hv,_⟩;·grind
  .grind
 obtain⟨fI,kX,rfl⟩:=hv;unfold hC execOp;simp only[ho,resolve,invoke,builtin,gl,jR,ji,ob,jx,kC,hs,hx,hrun];refine h fI _ w' h2 h3 ?_ (h2.lt fI aa).2;simpa [Value.ownBlock]using h5
def afe {ops rest o a Q} (hgd:o.guard=af) (s x) t
 (ho:o.op=.call {callee:=nY vS,args:=#[s,x],argTypes:=#[t,t]})
 base e i z (size bytes) (ht:P.underlying t=ab (hU e)) (hi:P.info? e=ab i) (hz:i.zero=ab z)
 (hsize:i.size=size) (hby:i.bytes=bytes) (hzs:z.cells.size=size) (hsz:0<size)
 (g n cap) xs (hs:a.eval s=ad (ab ⟨g,0,af⟩) n cap) (hown:w.ownsRow base e size (ad (ab ⟨g,0,af⟩) n cap) n xs)
 A (m c) news (hx:a.eval x=ad A m c) (hr:Cells w size A m news) (h1:∀u∈news,u.oneCell'=aB)
 (h63:n+m<=dO) (hbytes:(n+m)*bytes<=140737488355328) (hbase:base<=w.heap.size)
 (h:∀fI kX w',w'.ownsRow base e size (ad (ab ⟨fI,0,af⟩) (n+m) kX) (n+m) (xs++news)->w.grownBy w' (ab g)->(fI=g\/fI=w.heap.size)->fI<w'.heap.size->cH P ops Q rest (a.put o.dst (ad (ab ⟨fI,0,af⟩) (n+m) kX)) w'):
 cH P ops Q (o::rest) a w:=
 C8 hgd λ_ hK=>avE w s x t ho base e i z size bytes ht hi hz hsize hby hzs hsz g n cap xs hs hown A m c news hx hr h1 h63 hbytes hbase λfI kX w' gp a2 a3 a4=>hK _ _ (h fI kX w' gp a2 a3 a4)
end
end
def SD:(ax.info? 5).map (λi=>(i.zero,i.size,i.bytes))=ab (ab (J .u8 0),1,1):=aw
abbrev a'(b:Int):Value:=J .u8 b
def bT.cells{w A xs}(h:bT w A xs):Cells w 1 A xs.length (xs.map a'):=by refine⟨aU,λhp=>?_⟩;obtain⟨b,off,rfl,hc⟩:=h hp;grind[nD]
theorem bT.lW{w}{base e n c:Nat}{A xs}(h:w.ownsRow base e 1 (ad A n c) n (xs.map a')):bT w A xs:=λhp=>by
 have hn:=by simpa using h.1.symm
 rcases h.2 with⟨hv,h0⟩|⟨g,cap,cur,hv,hb,hg,iI,hcm,hcs,ht⟩;·omega
 .injection hv with h1 h2 h3;subst h1;refine⟨g,0,rfl,λj hj=>?_⟩;have hc:=h.cells (g:=g) aa j (J .u8 (xs[j]?.getD 0)) aG;rw[nD]at hc;exact hc
def vG(xs:List Int):∀u∈xs.map a',u.oneCell'=true:=by intro u hu;obtain⟨e,_,rfl⟩:=gN.1 hu;rfl
def arX{w:aN}{g e size:Nat}(h:w.heap[g]?=ab (bf #[] e (0,0))):w.ownsRow g e size (ad (ab ⟨g,0,af⟩) 0 0) 0 []:=
 ⟨aU,.inr ⟨g,0,#[],aa,cp _,h,cp _,ae,aU,aU⟩⟩
def wI A c bs w(hx:bT w A bs)(h1:bs.length<=140737488355328):
 aD ax 65 #[ad A bs.length c] w λe w'=>∃az aC,e=aA (ad az bs.length aC)/\w'.ownsRow w.heap.size 5 1 (ad az bs.length aC) bs.length (bs.map a')/\ao w w':=by
 have azl:∀(w) a (n c uq aC),(binOp _ 22 _ _).run _ w=.ok _ w:=λw a n c uq aC=>Lib.run_eql_slice_nil w _ _ a n c uq aC dJ;rcases A with _|a
 .obtain rfl:bs=[]:=by
   rcases lJ bs.length with h0|h0;·grind
   .obtain⟨_,_,h,_⟩:=hx h0;cases h
  clear hx h1;go_enter agL,ahq;go_wp2;go_ret;exact⟨_,0,aa,AT _ _ _ _,aq.refl _ _⟩
 .obtain⟨i0,gQ,hz0,hz1,hz2⟩:=ra SD;have de:=hid (And.intro gQ (And.intro hz0 (And.intro hz1 hz2)));have c0:=hid (bT.cells (hx.aI (aq.alloc (F:=λ_=>False) w (bf #[] 5))));have cw:=hid h1;clear hx gQ hz0 hz1 hz2 h1;go_enter agL,ahq;go_wp2_with (at_builtin;go_loud (refine afe _ aa _ _ 22 aa _ 5 i0 _ 1 1 dJ de.out.1 de.out.2.1 de.out.2.2.1 de.out.2.2.2 aa ae _ 0 0 [] aa (arX (ff _ _)) _ _ c _ aa c0.out (vG _) (by have:=cw.out;unfold dO;omega) (by have:=cw.out;omega) aU ?_);intro g4 axF cc HI RM ayd ayJ;simp at HI⊢);go_ret;exact⟨_,_,aa,HI,((aq.alloc (F:=λi=>w.heap.size<=i) w _).trans (aq.of_grownBy (F:=λi=>w.heap.size<=i) RM (λi e=>aG)) (λ_ _ h=>h)).mono (λi hi h=>ae)⟩
open Go.Shelf
def Tryz.aqh:Go.Shelf.Ren:=⟨λ|4=>185|n=>n,λ|22=>22|25=>5|3=>3|4=>4|9=>9|20=>20|0=>0|n=>n,λ|n=>n⟩
def Tryz.abW:aw6 ax Tryz.aqh:={
 mixed:=aT
 f4:=⟨f185.name,bj,func185.trans (congrArg ab aT)⟩
 t0:=Tryz.underlying0
 a0:=Tryz.isAgg0
 z0:=Tryz.sizeOf0
 v0:=Tryz.zeroValue0
 t3:=Tryz.underlying3
 a3:=Tryz.isAgg3
 z3:=Tryz.sizeOf3
 v3:=Tryz.zeroValue3
 t4:=Tryz.underlying4
 a4:=Tryz.isAgg4
 z4:=Tryz.sizeOf4
 v4:=Tryz.zeroValue4
 t9:=Tryz.underlying9
 a9:=Tryz.isAgg9
 z9:=Tryz.sizeOf9
 v9:=Tryz.zeroValue9
 t20:=underlying20
 a20:=isAgg20
 z20:=sizeOf20
 v20:=zeroValue20
 t22:=dJ
 a22:=isAgg22
 z22:=sizeOf22
 v22:=zeroValue22}
section
section
variable {P:Program} (w:aN)
def avA {ops rest o a Q} (hgd:o.guard=af) (s x) t
 (ho:o.op=.call {callee:=nY vS,args:=#[s,x],argTypes:=#[t,t]})
 base e i z (size bytes) (ht:P.underlying t=ab (hU e)) (hi:P.info? e=ab i) (hz:i.zero=ab z)
 (hsize:i.size=size) (hby:i.bytes=bytes) (hzs:z.cells.size=size) (hsz:0<size)
 v n xs (hs:a.eval s=v) (hown:w.ownsRow base e size v n xs)
 A (m c) news (hx:a.eval x=ad A m c) (hr:Cells w size A m news) (h1:∀u∈news,u.oneCell'=aB)
 (h63:n+m<=dO) (hbytes:(n+m)*bytes<=140737488355328) (hbase:base<=w.heap.size)
 (h:∀v' w',w'.ownsRow base e size v' (n+m) (xs++news)->w.grownBy w' v.ownBlock->cH P ops Q rest (a.put o.dst v') w'):
 cH P ops Q (o::rest) a w:=
 C8 hgd λ_ hK=>by obtain⟨v',w',hrun,h2,h3,_,_⟩:=TI (P:=P) w base t o.type e i z size bytes ht hi hz hsize hby hzs hsz v n xs hown A m c news hr h1 h63 hbytes hbase;unfold hC execOp;simp only[ho,resolve,invoke,builtin,gl,jR,ji,ob,jx,kC,hs,hx,hrun];exact hK _ _ (h v' w' h2 h3)
end
def arZ{w base n v xs}(h:w.ownsRow base 5 1 v n (xs.map a')):∃A c,v=ad A xs.length c/\bT w A xs:=by
 have hn:n=xs.length:=by have:=h.1;simp at this;omega
 subst hn;rcases h.2 with⟨rfl,h0⟩|⟨g,cap,cur,rfl,_⟩;·refine⟨_,0,by rw[h0],?_⟩;intro hp;omega
 .grind[bT.lW]
def Zi(n:Nat)w(hn:n<=140737488355328):
 aD ax 185 #[ad af 0 0,J R n] w λe w'=>∃v,e=aA v/\w'.ownsRow w.heap.size 5 1 v 0 []/\ao w w':=by
 obtain⟨i0,gQ,hz0,hz1,hz2⟩:=ra SD;rcases lJ n with rfl|h0;·exact(awX Tryz.abW _ 0 0 0 w (cp _) ae ae ae).mono λ_ _ ⟨a,b⟩=>⟨_,a,AT _ _ _ _,b▸aq.refl _ _⟩
 .refine(awW Tryz.abW i0 (J .u8 0) gQ hz0 ae af 0 0 n [] w (cp _) ae aG ae aU (λ_=>aa) (λa h=>aU)).mono λe w' ⟨a,b⟩=>⟨_,a,?_,?_⟩;·rw[b];have h1:=grownCap_ge w (0+n) 0 5;refine World.ownsRow_made w.drew _ _ (cp _) (grownCap_le_maxLen w (0+n) 0 5 (by grind[dO])) ?_;simp only[Array.size_append,size_zeroCells];show _+_*1+_*1=_*1;simp only[List.size_toArray,List.length_nil];change xG w (0+n) 0 5>=0+n at h1;change 0+(0+n -0)*1+(xG w (0+n) 0 5 -(0+n))*1=xG w (0+n) 0 5*1;omega
  .rw[b];exact ao.trans (aq.drew _) (aq.alloc _ _)
set_option maxHeartbeats 2000000 in
def GM p A c bs w(hp:w.cell? ⟨p,0,af⟩=ab (ad A bs.length c))(hx:bT w A bs)(h1:bs.length<=140737488355328):
 aD ax 93 #[ad (ab ⟨p,0,af⟩) 1 1] w λe w'=>∃az aC,e=aA (ad az bs.length aC)/\w'.ownsRow w.heap.size 5 1 (ad az bs.length aC) bs.length (bs.map a')/\ao w w':=by
 obtain⟨i0,gQ,hz0,hz1,hz2⟩:=ra SD;have de:=hid (And.intro gQ (And.intro hz0 (And.intro hz1 hz2)));have dP:=hid hx;have HD:(0:Int)<=(bs.length:Int):=ae;have ayK:(bs.length:Int)<=140737488355328:=ae;clear gQ hz0 hz1 hz2 hx;go_enter func93,ntmps93;go_wp2_with fail;refine ahQ 2 ?_;rw[OV];go_wp2_with fail;rw[OV];go_wp2_with (go_at_call 185;refine(Zi _ w h1).mono ?_;rintro e w1 ⟨v1,rfl,hr1,hg1⟩;have ud:=hg1.cell hp (λh=>h);have hs1:=hg1.size);have bL:=hid hr1;have eH:=hid hg1;have A8:=hid (dP.out.aI hg1);clear hr1 hg1;refine ahQ 2 ?_;rw[OV];go_wp2_with (at_builtin;go_loud (refine avA _ aa (.tmp 31) (.tmp 32) 22 aa w.heap.size 5 i0 _ 1 1 dJ de.out.1 de.out.2.1 de.out.2.2.1 de.out.2.2.2 aa ae v1 0 [] aa bL.out A bs.length c (bs.map a') aa (bT.cells A8.out) (vG _) (by grind[dO]) ae hs1 ?_);intro v4 cc HI RM;simp at HI⊢;(have oZ:ao w cc:=((ao.to eH.out).trans (aq.of_grownBy (F:=λi=>w.heap.size<=i) RM (λi e=>.inl (wi bL.out i e).1)) (λ_ _ h=>h)).mono (λi hi h=>ae));have hV:=hid (And.intro HI oZ));rw[OV];go_wp2;go_ret;obtain⟨az,aC,rfl,_⟩:=arZ hV.out.1;exact⟨az,aC,aa,hV.out.1,hV.out.2⟩
end
def apA (g:Nat) dC A c l p w (gq:∀args w,(kj g args).run ax w=.ok (.enter g args) w)
 (hf:∀(W) x,x∈l->ao w W->aD ax g (#[av #[J R x.1,J R x.2]]++dC) W λe w'=>e=aA (aj (p x))/\ao W w') (hl:jy w A l) (gd:l.length<=1048576):
 aD ax 300 #[ad A l.length c,.func (.func g) #[] dC] w λe w'=>∃r,e=aA (J R r)/\((0<=r/\l.any p=aB)\/(r<0/\l.any p=au))/\ao w w':=by
 have cr:=hid hf;have cw:=hid hl;clear hf hl;go_enter func300,ntmps300;go_wp2_with fail;go_loopw [8] (λi wr=>∃k:Nat,k<=l.length/\i=J R k/\aE (∀x∈l.take k,p x=au)/\ao w wr) (λi _=>l.length -(intOf i).toNat);case atStart=>grind[hid,aq.refl]
 case round=>
  obtain⟨k,hk,rfl,hno,hO⟩:=hrel;have dv:=hid hO;clear hO;by_cases hlt:k<l.length
  .have hb0:(k:Int)<(l.length:Int):=ae;obtain⟨fU,o,rfl,hcell⟩:=(cw.out.aI dv.out) ae;obtain⟨c1,c2⟩:=hcell k hlt;obtain⟨x,hx⟩:∃x,l[k]?=ab x:=⟨_,cm hlt⟩;simp only[hx,Option.getD_some]at c1 c2;have dP:=hid hx;have c0:=cr.out wr x (cM hx) dv.out;obtain⟨a,b⟩:=x;simp only at c1 c2 c0;cases hp:p (a,b)with
   |true=>
    rw[hp]at c0;have bK:=hid hp;clear hp hx hcell;go_wp2_with (go_at_fn g;refine c0.mono ?_;clear c0;rintro e w1 ⟨rfl,hg1⟩);go_ret;exact⟨k,aa,.inl ⟨ae,List.any_eq_true.2 ⟨_,cM dP.out,bK.out⟩⟩,ao.trans dv.out hg1⟩
   |false=>
    rw[hp]at c0;have bK:=hid hp;clear hp hx hcell;go_wp2_with (go_at_fn g;refine c0.mono ?_;clear c0;rintro e w1 ⟨rfl,hg1⟩);go_roundw
    case rel=>
     refine⟨k+1,ae,by go_num,hid (λy hy=>?_),ao.trans dv.out hg1⟩;rw[List.take_add_one,dP.out]at hy;rcases List.mem_append.1 hy with hy|hy;·exact hno.out y hy
     .obtain rfl:y=(a,b):=aG;exact bK.out
    case measure=>grind[intOf]
  .obtain rfl:k=l.length:=ae;go_wp2;go_ret;refine⟨-1,aa,.inr ⟨ae,?_⟩,dv.out⟩;have h:=hno.out;grind
def ak5 (g:Nat) dC A c l p w (gq:∀args w,(kj g args).run ax w=.ok (.enter g args) w)
 (hf:∀(W) x,x∈l->ao w W->aD ax g (#[av #[J R x.1,J R x.2]]++dC) W λe w'=>e=aA (aj (p x))/\ao W w') (hl:jy w A l) (gd:l.length<=1048576):
 aD ax 247 #[ad A l.length c,.func (.func g) #[] dC] w λe w'=>e=aA (aj (l.any p))/\ao w w':=by
 have c0:=hid (apA g dC A c l p w gq hf hl gd);clear hf hl;cases hp:l.any p with
 |true=>
  rw[hp]at c0;clear hp;go_enter U2,Vv;go_wp2_with (go_at_call 300;have b2:=c0.out;with_reducible refine b2.mono ?_;clear b2;rintro e w1 ⟨r,rfl,hr,hg1⟩;have hd:decide (0<=r)=true:=aG);go_ret;exact⟨aa,hg1⟩
 |false=>
  rw[hp]at c0;clear hp;go_enter U2,Vv;go_wp2_with (go_at_call 300;have b2:=c0.out;with_reducible refine b2.mono ?_;clear b2;rintro e w1 ⟨r,rfl,hr,hg1⟩;have hd:decide (0<=r)=false:=aG);go_ret;exact⟨aa,hg1⟩
def Ah(e x:Int×Int):Bool:=decide (x.1<e.1)||decide (e.1+e.2<x.1+x.2)
set_option maxHeartbeats 2000000 in
def ak6 B(a b p q)W(h1:W.cell? ⟨B,0,af⟩=ab (J R a))(h2:W.cell? ⟨B,1,af⟩=ab (J R b))(hab:eE (a,b))(LG:eE (p,q)):
 aD ax 360 (#[av #[J R p,J R q]]++#[.pointer (ab ⟨B,0,af⟩)]) W λyc cL=>yc=aA (aj (Ah (a,b) (p,q)))/\ao W cL:=by
 have ax3:=World.block_lt_of_cell? W _ h1
 have ca:aE (∀w',ao (W.alloc (bf _ 35)) w'->w'.cell? _=ab _/\w'.cell? _=ab _/\w'.cell? _=ab (J R p)/\w'.cell? _=ab (J R q)):=
  hid (λw' h=>⟨(ao.trans (aq.alloc _ _) h).cell h1 (λh=>h),(ao.trans (aq.alloc _ _) h).cell h2 (λh=>h),h.cell (x5 _ _ _ _).1 (λh=>h),h.cell (x5 _ _ _ _).2 (λh=>h)⟩);have JN:aE (ao W (W.alloc (bf #[J R p,J R q] 35))):=hid (aq.alloc _ _);obtain⟨dW,hr1⟩:=ex (a+b);obtain⟨eA,hr2⟩:=ex (p+q);have Wr:aE (∀w,aD _ _ _ w λe w'=>e=aA (J _ dW)/\ao w w'):=hid (λw=>by rw[<-hr1];exact lN a b w hab.1 hab.2.1 hab.2.2);have Ws:aE (∀w,aD _ _ _ w λe w'=>e=aA (J _ eA)/\ao w w'):=hid (λw=>by rw[<-hr2];exact lN p q w LG.1 LG.2.1 LG.2.2);have bL:aE (Ah (a,b) (p,q)=(decide (p<a)||decide (dW<eA))):=hid (by grind[Ah]);clear h1 h2 hr1 hr2 hab LG;by_cases Ep:p<a;·have hd:decide (p<a)=true:=aG;have Gf:aE (Ah _ _=aB):=hid (by rw[bL.out,hd];rfl);rw[Gf.out];clear Ep bL Gf;go_enter agG,ahn;go_wp2_with fail;generalize W.alloc (bf #[J R p,J R q] 35)=an at*;generalize W.heap.size=C at*;obtain⟨e',z2,z3,z4⟩:=ca.out an (aq.refl _ _);go_quiet (fail);go_wp2;go_ret;exact⟨aa,ao.trans JN.out (aq.drewN _ _)⟩
 .have hd:decide (p<a)=false:=aG;have Gf:aE (Ah _ _=decide (dW<eA)):=hid (by rw[bL.out,hd];rfl);rw[Gf.out];clear Ep bL Gf;go_enter agG,ahn;go_wp2_with fail;generalize W.alloc (bf #[J R p,J R q] 35)=an at*;generalize W.heap.size=C at*
  go_region_held3 (λw'=>w'.cell? ⟨B,0,af⟩=ab (J R a)/\w'.cell? ⟨B,1,af⟩=ab (J R b)/\w'.cell? ⟨C,0,af⟩=ab (J R p)/\w'.cell? ⟨C,1,af⟩=ab (J R q))
   (first
     |exact ca.out _ (aq.drew _)
     |exact ca.out _ hb
     |exact ca.out _ ha)
   (first
     |(go_at_call 117;have b2:=Ws.out ja;with_reducible refine b2.mono ?_;clear b2;rintro e pb ⟨rfl,hb0⟩;have hb:ao an pb:=ao.trans ha hb0)
     |(go_at_call 117;have b2:=Wr.out ja;with_reducible refine b2.mono ?_;clear b2;rintro e pb ⟨rfl,hb0⟩;have hb:=ao.trans ha hb0)
     |(go_at_call 117;have b2:=Wr.out an.drew;with_reducible refine b2.mono ?_;clear b2;rintro e ja ⟨rfl,ha0⟩;have ha:ao an ja:=ao.trans (aq.drew _) ha0)
     |(go_at_call 117;have b2:=Ws.out an.drew;with_reducible refine b2.mono ?_;clear b2;rintro e ja ⟨rfl,ha0⟩;have ha:=ao.trans (aq.drew _) ha0))
  all_goals
   go_wp2;go_ret;exact⟨aa,ao.trans JN.out hb⟩
def amt args w:(kj 360 args).run ax w=.ok (.enter 360 args) w:=aT
theorem GN(a b)A c l w(hab:eE (a,b))(hv:∀x∈l,eE x)(hl:jy w A l)(gd:l.length<=1048576)r(hr:l.any (Ah (a,b))=!r):
 aD ax 330 #[av #[J R a,J R b],ad A l.length c] w λe w'=>e=aA (aj r)/\ao w w':=by
 have eH:aE (ao w (w.alloc (bf #[J R a,J R b] 35))):=hid (aq.alloc _ _);have hcc:=x5 w (J R a) (J R b) 35;have c0:=hid (ak5 360 _ A c l (Ah _) _ amt (λW x hx c3=>ak6 _ a b _ _ W (c3.cell hcc.1 (λh=>h)) (c3.cell hcc.2 (λh=>h)) hab (hv x hx)) (hl.aI eH.out) gd);rw[hr]at c0;clear hab hv hl hr hcc;go_enter func330,ntmps330;go_wp2_with (go_at_call 247;have b2:=c0.out;with_reducible refine b2.mono ?_;clear b2;rintro e w1 ⟨rfl,hg⟩);go_ret;exact⟨aU,ao.trans eH.out hg⟩
def ZQ(to n a b)w(ht:eE (to,n))(he:eE (a,b))(hb:0<b)(h1:to<=a)(h2:a+b<=to+n):
 aD ax 298 #[av #[J R to,J R n],av #[J R a,J R b]] w λe w'=>e=aA (aj aB)/\ao w w':=by
 have hk:=x5 w (J R to) (J R n) 338;have hd:decide (0<b)=true:=aG;have uV:aE (ao w ((w.alloc (bf #[J R to,J R n] 338)).alloc (bf #[J R a,J R b] 35))):=hid (ao.trans (aq.alloc _ _) (aq.alloc _ _))
 have c0:aE (∀W B,W.heap[B]?=ab (bf #[J R a,J R b] 35 (0,0))->aD _ 330 #[av _,ad (ab ⟨B,0,af⟩) 1 1] W λe w'=>e=aA _/\ao W w'):=hid (λW B ie=>
  GN to n (ab ⟨B,0,af⟩) 1 [(a,b)] W ht (λx hx=>(show x=(a,b) by grind)▸he) (λ_=>⟨B,0,rfl,λj hj=>by obtain rfl:j=0:=aG;exact⟨eC _ _ 0 _ _ _ ie,eC _ _ 1 _ _ _ ie⟩⟩) aU aB (by grind[Ah]));clear ht he hb h1 h2;go_enter func298,ntmps298;go_wp2_with (go_at_call 330;refine(c0.out _ _ (Z7 _ _ ?hh _)).mono ?_;(case hh=>simp);rintro e w1 ⟨rfl,hg⟩);go_ret;exact⟨aa,ao.trans uV.out (ao.trans (aq.alloc _ _) hg)⟩
end Go.Proofs.YtcmhplknoglbkaaGreat
