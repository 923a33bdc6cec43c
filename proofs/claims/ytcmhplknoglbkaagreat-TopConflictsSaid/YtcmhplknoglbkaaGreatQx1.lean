/- Part 1 of the proof of TopConflictsSaid. -/
import Derived.Deep.LoopGhost
import Derived.Maps.AppendAt
import Derived.Lib.LazyBuf
import Derived.Shelf.Spec.SlicesGrow
import Derived.Ground.Names7Prog
import Derived.Test.YtcmhplknoglbkaaGreatProg
import Derived.Deep.AppendLies
import Derived.Test.YtcmhplknoglbkaaGreatQx0
set_option linter.all false
set_option maxRecDepth 100000
set_option maxHeartbeats 4000000
open Go.Proofs.Tryz
open Bool renaming false->ao,true->az
open Go.Builtin renaming append->x0,append_->oQ,firstCells->rr,lenOf->we
open Go.Callee renaming builtin->oR
open Go renaming Calls->aD,World->aM,bodyPost_ret->dp,callFunc->km,cell_of_row->fu,grownCap->x9,heap_alloc_new->fz,info_parts->u5,maxLen->eh,results_cell_tmp->By,rounds_succ->Pw,run_underlying->gE,wpList->cL,wpList_plain->DT,wp_loop_rounds->aiL
open Go.Ending renaming returned->aB
open Go.IntKind renaming i64->R
open Go.Obj renaming cells->bl
open Go.Oper renaming wp->ih
open Go.Proofs.Any8 renaming slices_Grow_grow->ax7,slices_Grow_room->ax8
open Go.Proofs.Lays8 renaming n4->ayh
open Go.Proofs.Tryz renaming prog->aw,underlying22->dL
open Go.Result renaming andThen_ok->jc
open Go.RowKit renaming Hid->aE
open Go.Sem renaming run_bind->ga,run_pure->jK
open Go.TypeDesc renaming slice->iF
open Go.Value renaming agg->av,bool->ai,int->J,slice->ae,tuple->bm
open Go.World.ownsRow renaming lt->wB
open Go.World renaming ownsRow_nil->Bw
open List renaming eq_nil_of_length_eq_zero->j2,getElem?_eq_getElem->cC,map_cons->jM,map_nil->kp,map_toArray->oo,mem_map->fL,mem_of_getElem?->cY
open Nat renaming eq_zero_or_pos->lL,le_refl->b4
open Option renaming none->af,some->ab
namespace Go.Proofs.YtcmhplknoglbkaaGreat
open Go.RowKit Go.MapKept
def bX(w:aM)(A:Option Addr)(bs:List Int):Prop:=
 0<bs.length->∃b off,A=ab ⟨b,off,af⟩/\∀j,j<bs.length->w.cell? ⟨b,off+j,af⟩=ab (J .u8 (bs[j]?.getD 0))
theorem bX.nil{w A}:bX w A []:=λh=>absurd h a8
def bX.only{F w w' A bs}(h:bX w A bs)(k:au F w w')(hn:∀b off,A=ab ⟨b,off,af⟩->¬F b):bX w' A bs:=λhp=>by obtain⟨b,off,rfl,hc⟩:=h hp;exact⟨b,_,rfl,λj hj=>k.cell (hc j hj) (hn b _ aa)⟩
def bX.aG{w w' A bs}(h:bX w A bs)(k:ar w w'):bX w' A bs:=h.only k (λ_ _ _ hf=>hf)
structure bJ where
 k:Int
 to:Int
 fr:Int
 n:Int
 data:List Int
abbrev l6(m:bJ)(A:Option Addr)(c:Nat):Value:=av #[J R m.k,J R m.to,J R m.fr,J R m.n,ae A m.data.length c]
def b5(m:bJ):Int:=if m.k=1 then m.n else(m.data.length:Int)
def ck(m:bJ):Int×Int:=(m.to,b5 m)
def src(m:bJ):Int×Int:=(m.fr,m.n)
def YO(w:aM)(a b c d e)t:(w.alloc (bl #[a,b,c,d,e] t)).cell? ⟨w.heap.size,0,af⟩=ab a/\(w.alloc (bl #[a,b,c,d,e] t)).cell? ⟨w.heap.size,1,af⟩=ab b/\(w.alloc (bl #[a,b,c,d,e] t)).cell? ⟨w.heap.size,2,af⟩=ab c/\(w.alloc (bl #[a,b,c,d,e] t)).cell? ⟨w.heap.size,3,af⟩=ab d/\(w.alloc (bl #[a,b,c,d,e] t)).cell? ⟨w.heap.size,4,af⟩=ab e:=
 ⟨fu _ _ 0 _ _ _ (fz w _),fu _ _ 1 _ _ _ (fz w _),fu _ _ 2 _ _ _ (fz w _),fu _ _ 3 _ _ _ (fz w _),fu _ _ 4 _ _ _ (fz w _)⟩
def aaT(w:aM)B(kd:w.heap.size=B)o:(w.alloc o).heap[B]?=ab o:=by grind[fz]
def NF{aq w' B x y t}(h:aq.heap[B]?=ab (bl #[x,y] t (0,0)))(g:ar aq w'):
 w'.cell? ⟨B,0,af⟩=ab x/\w'.cell? ⟨B,1,af⟩=ab y/\w'.frozen? ⟨B,0,af⟩=ao/\w'.frozen? ⟨B,1,af⟩=false:=by
 have h2:=g.heap h (λh=>h);grind[World.cell?,World.frozen?]
def atD{Dj aq w' B x y t}(h:aq.heap[B]?=ab (bl #[x,y] t (0,0)))(g0:ar Dj aq)(g:ar aq w')(kd:Dj.heap.size<=B)(u v):
 ((w'.setCell ⟨B,0,af⟩ u).setCell ⟨B,1,af⟩ v).cell? ⟨B,0,af⟩=ab u/\((w'.setCell ⟨B,0,af⟩ u).setCell ⟨B,1,af⟩ v).cell? ⟨B,1,af⟩=ab v/\ar Dj ((w'.setCell ⟨B,0,af⟩ u).setCell ⟨B,1,af⟩ v):=by
 obtain⟨h1,h2,_,_⟩:=NF h g;obtain⟨a,b⟩:=Uq w' B x y u v h1 h2;refine⟨a,b,?_⟩;have q:=((ar.trans g0 g).mono (G:=λi=>i=B) (λ_ _ h=>h.elim)).trans ((au.setCell (F:=λi=>i=B) w' (p:=⟨B,0,af⟩) aa u).trans (au.setCell (F:=λi=>i=B) _ (p:=⟨B,1,af⟩) aa v) (λ_ _ h=>h)) (λ_ _ h=>h);exact q.mono (λi hi h=>ad)
def fg(k n:Int)(m:Nat):Int:=if k=1 then n else(m:Int)
def MW(k to fr n)A(m c)w:
 aD aw 220 #[av #[J R k,J R to,J R fr,J R n,ae A m c]] w λe w'=>e=aB (av #[J R to,J R (fg k n m)])/\ar w w':=by
 by_cases hk:k=1;·subst hk;show aD _ _ _ _ λe w'=>e=aB (av #[J R to,J R n])/\ar w w';go_enter Tryz.func220,Tryz.ntmps220;go_wp2;refine dp (v:=_) ?_ aa ⟨aa,ar.trans (au.alloc _ _) (au.alloc _ _)⟩;rw[xL aa];go_simp
 .have hd:(k==1)=false:=aF;have ht:fg k n m=(m:Int):=if_neg hk;rw[ht];clear hk ht;go_enter Tryz.func220,Tryz.ntmps220;go_wp2;refine dp (v:=_) ?_ aa ⟨aa,ar.trans (au.alloc _ _) (au.alloc _ _)⟩;rw[xL aa];go_simp
def uN(k to fr n)A(m c)w:
 aD aw 136 #[av #[J R k,J R to,J R fr,J R n,ae A m c]] w λe w'=>e=aB (av #[J R to,J R (fg k n m)])/\ar w w':=by
 obtain⟨r,hr⟩:=ex (fg k n m);have c7:=hid (λW=>MW k to fr n A m c W);simp only[hr]at c7⊢;clear hr;have qZ:∀w:aM,(Instr.field 338 (av #[J R to,J R r]) 0).run aw w=.ok (av #[J R to,J R r]) w:=λ_=>by rfl
 go_enter func136,ntmps136;have fV:=hid (aaT (w.alloc (bl #[J R k,J R to,J R fr,J R n,ae A m c] 73)) (w.heap.size+1) a8 (bl #[J R 0,J R 0] 35));have fa:aE (ar w ((w.alloc (bl #[J R k,J R to,J R fr,J R n,ae A m c] 73)).alloc (bl #[J R 0,J R 0] 35))):=hid (ar.trans (au.alloc _ _) (au.alloc _ _));go_wp2_with (go_at_call 220;refine(c7.out _).mono ?_;rintro e w1 ⟨rfl,hg⟩;obtain⟨f',z2,z3,z4⟩:=NF fV.out hg);obtain⟨mN,bF,da⟩:=atD fV.out fa.out hg ad (J R to) (J R r);refine dp (v:=_) ?_ aa ⟨aa,da⟩;rw[xL aa];go_simp
def A4(to fr n)A(m c)w:
 aD aw 79 #[av #[J R 1,J R to,J R fr,J R n,ae A m c]] w λe w'=>e=aB (bm #[av #[J R fr,J R n],ai az])/\ar w w':=by
 go_enter Tryz.func79,Tryz.ntmps79;go_wp2;refine dp (v:=_) ?_ aa ⟨aa,ar.trans (au.alloc _ _) (au.alloc _ _)⟩;rw[By aa];go_simp
def A5(k to fr n)A(m c)w(hk:k≠1):
 aD aw 79 #[av #[J R k,J R to,J R fr,J R n,ae A m c]] w λe w'=>e=aB (bm #[av #[J R 0,J R 0],ai ao])/\ar w w':=by
 have hd:(k !=1)=true:=aF;clear hk;go_enter Tryz.func79,Tryz.ntmps79;go_wp2;refine dp (v:=_) ?_ aa ⟨aa,ar.trans (au.alloc _ _) (au.alloc _ _)⟩;rw[By aa];go_simp
def Y0(to fr n)w:
 aD aw 101 #[J R to,J R fr,J R n] w λe w'=>e=aB (av #[J R 1,J R to,J R fr,J R n,ae af 0 0])/\ar w w':=by
 go_enter func101,ntmps101;go_wp2;refine dp (v:=_) ?_ aa ⟨aa,au.alloc _ _⟩;rw[xL aa];go_simp
def wU(k to fr n:Int)(m:Nat):Prop:=(k=1/\et (to,n)/\et (fr,n)/\0<n/\m=0)\/(k=2/\et (to,(m:Int))/\fr=0/\n=0/\0<m)
def xP(a b)w(h:et (a,b)):
 aD aw 115 #[av #[J R a,J R b]] w λe w'=>e=aB (ai az)/\ar w w':=by
 obtain⟨h1,h2,h3⟩:=h;simp only at h1 h2 h3;have hx:=afQ a b w ⟨ad,ad⟩ ⟨ad,ad⟩;grind[Ga,et]
theorem wU.ck{k to fr n m}(h:wU k to fr n m):et (to,fg k n m)/\0<fg k n m:=by
 rcases h with⟨rfl,h1,h2,h3,rfl⟩|⟨rfl,h1,rfl,rfl,h3⟩;·exact⟨h1,h3⟩
 .exact⟨h1,by show(0:Int)<(m:Int);omega⟩
set_option maxHeartbeats 2000000 in
def alU(k to fr n)A(m c)w(h:wU k to fr n m):
 aD aw 200 #[av #[J R k,J R to,J R fr,J R n,ae A m c]] w λe w'=>e=aB (J R 0)/\ar w w':=by
 have e4:=hid h.ck;have Qi:=hid (λW=>MW k to fr n A m c W);obtain⟨r,hr⟩:=ex (fg k n m);simp only[hr]at Qi e4;have Qm:=e4.out.2;have uw:(r==0)=false:=aF;have cB:=hid (λW=>xP to r W e4.out.1);have hb:=YO w (J R k) (J R to) (J R fr) (J R n) (ae A m c) 73;have HB:=hid hb;have I:aE (∀w',ar _ w'->w'.cell? _=ab _/\w'.cell? _=ab _/\w'.cell? _=ab _/\w'.cell? _=ab _):=hid (λw' g=>⟨g.cell HB.out.1 (λh=>h),g.cell HB.out.2.2.1 (λh=>h),g.cell HB.out.2.2.2.1 (λh=>h),g.cell HB.out.2.2.2.2 (λh=>h)⟩);have fa:aE (ar w (w.alloc (bl #[J R k,J R to,J R fr,J R n,ae A m c] 73))):=hid (au.alloc _ _);have dT:=hid h;clear hb hr h Qm;rcases dT.out with⟨rfl,h1,h2,h3,rfl⟩|⟨rfl,h1,rfl,rfl,h3⟩
 .have KC:=hid (λW=>xP fr n W h2);clear h1 h2 h3 dT;go_enter Tryz.func200,Tryz.ntmps200
  go_wp2_with (first
   |(go_at_call 115;have b2:=KC.out aW;with_reducible refine b2.mono ?_;clear b2;rintro e bI ⟨rfl,hg3⟩)
   |(go_at_call 115;go_loud (refine(cB.out _).mono ?_);rintro e aW ⟨rfl,hg2⟩;obtain⟨mN,bF,da,hD⟩:=I.out aW (ar.trans hg1 (ar.trans (au.alloc _ _) hg2)))
   |(go_at_call 220;refine(Qi.out _).mono ?_;rintro e w1 ⟨rfl,hg1⟩;obtain⟨f',z2,z3,z4⟩:=I.out w1 hg1));go_ret;exact⟨aa,ar.trans fa.out (ar.trans hg1 (ar.trans (au.alloc _ _) (ar.trans hg2 hg3)))⟩
 .clear h1 h3 dT;go_enter Tryz.func200,Tryz.ntmps200
  go_wp2_with (first
   |(go_at_call 115;go_loud (refine(cB.out _).mono ?_);rintro e aW ⟨rfl,hg2⟩;obtain⟨mN,bF,da,hD⟩:=I.out aW (ar.trans hg1 (ar.trans (au.alloc _ _) hg2)))
   |(go_at_call 220;refine(Qi.out _).mono ?_;rintro e w1 ⟨rfl,hg1⟩;obtain⟨f',z2,z3,z4⟩:=I.out w1 hg1));go_ret;exact⟨aa,ar.trans fa.out (ar.trans hg1 (ar.trans (au.alloc _ _) hg2))⟩
set_option maxHeartbeats 2000000 in
def asV(k to fr n)A(m c)w(hk:k≠1):
 aD aw 297 #[av #[J R k,J R to,J R fr,J R n,ae A m c]] w λe w'=>e=aB (ai ao)/\ar w w':=by
 have c7:=hid (λW=>A5 k to fr n A m c W hk);clear hk;go_enter Tryz.func297,Tryz.ntmps297;go_wp2_with (go_at_call 79;refine(c7.out _).mono ?_;rintro e w1 ⟨rfl,hg1⟩);go_ret;exact⟨aa,ar.trans (au.alloc _ _) (ar.trans hg1 (au.alloc _ _))⟩
set_option maxHeartbeats 4000000 in
def asU(to fr n)A(m c)w(h1:et (to,n))(h2:et (fr,n)):
 aD aw 297 #[av #[J R 1,J R to,J R fr,J R n,ae A m c]] w λe w'=>e=aB (ai (meets (fr,n) (to,n)))/\ar w w':=by
 have c7:=hid (λW=>A4 to fr n A m c W);have e4:aE (∀W,aD _ _ _ W λe w'=>e=aB (av #[J _ to,J _ n])/\ar W w'):=hid (λW=>uN 1 to fr n A m c W);obtain⟨r,hr⟩:=ex (meets (fr,n) (to,n));obtain⟨fB,ef,ei⟩:∃fB ef,kR (fr,n) (to,n)=(fB,ef):=⟨_,_,aa⟩
 have er:aE (∀W,aD _ _ _ W λe w'=>e=aB (bm #[av #[J _ fB,J _ ef],ai r])/\ar W w'):=hid (λW=>by have h:=M6 fr n to n W h2 h1;rw[ei,hr]at h;exact h);rw[hr];have HB:=hid (YO w (J R 1) (J R to) (J R fr) (J R n) (ae A m c) 73);have fa:aE (ar w (w.alloc (bl #[J R 1,J R to,J R fr,J R n,ae A m c] 73))):=hid (au.alloc _ _);clear hr ei h1 h2;go_enter Tryz.func297,Tryz.ntmps297;go_wp2_with (go_at_call 79;refine(c7.out _).mono ?_;rintro e w1 ⟨rfl,hg1⟩)
 have I:aE (∀w',ar (w1.alloc _) w'->w'.cell? _=ab _/\w'.cell? _=ab _/\w'.cell? _=ab _/\w'.cell? _=ab _/\w'.cell? _=ab _/\w'.cell? _=ab _/\w'.cell? _=ab _):=hid (λw' g=>by have g1:=ar.trans hg1 (ar.trans (au.alloc _ _) g);obtain⟨eF,eV,sL,Yv,Yw⟩:=HB.out;obtain⟨bB,bY⟩:=yB w1 (J R fr) (J R n) 35;exact⟨g1.cell eF (λh=>h),g1.cell eV (λh=>h),g1.cell sL (λh=>h),g1.cell Yv (λh=>h),g1.cell Yw (λh=>h),g.cell bB (λh=>h),g.cell bY (λh=>h)⟩);have zJ:aE (ar w (w1.alloc (bl #[J R fr,J R n] 35))):=hid (ar.trans fa.out (ar.trans hg1 (au.alloc _ _)));clear hg1;generalize w1.alloc (bl #[J R fr,J R n] 35)=hW at*;generalize w1.heap.size=cT at*;generalize kd:w.heap.size=B at*;have yf:aE (∀w',ar _ w'->w'.cell? _=ab (J R 0)/\w'.cell? _=ab (J R 0)/\w'.frozen? _=ao/\w'.frozen? ⟨hW.heap.size,1,_⟩=ao):=hid (λw' g=>NF (fz hW.drew (bl _ 35)) g)
 have ey:aE (∀w1 B u v,ar hW w1->hW.heap.size<=B->ar hW _):=hid (λw1 B u v h kd=>by have q:=(h.mono (G:=λi=>i=B) (λ_ _ h=>h.elim)).trans ((au.setCell (F:=λi=>i=B) w1 (p:=⟨B,0,af⟩) aa u).trans (au.setCell (F:=λi=>i=B) _ (p:=⟨B,1,af⟩) aa v) (λ_ _ h=>h)) (λ_ _ h=>h);exact q.mono (λi hi h=>ad))
 go_region_held3 (λw'=>w'.cell? ⟨B,0,af⟩=ab (J R 1)/\w'.cell? ⟨B,1,af⟩=ab (J R to)/\w'.cell? ⟨B,2,af⟩=ab (J R fr)/\w'.cell? ⟨B,3,af⟩=ab (J R n)/\w'.cell? ⟨B,4,af⟩=ab (ae A m c)/\w'.cell? ⟨cT,0,af⟩=ab (J R fr)/\w'.cell? ⟨cT,1,af⟩=ab (J R n))
  (first
    |exact I.out _ (au.drew _)
    |exact I.out _ (ar.trans (au.drew _) (au.alloc _ _))
    |exact I.out _ hb
    |exact I.out _ (ar.trans hb (au.alloc _ _))
    |exact I.out _ ha
    |exact I.out _ (ar.trans ha (au.alloc _ _))
    |exact I.out _ (ey.out _ _ _ _ hb (b4 _))
    |exact I.out _ (ey.out _ _ _ _ hb ha.size)
    |exact I.out _ (ey.out _ _ _ _ (ar.trans hb (au.alloc _ _)) hb.size))
  (first
    |(go_at_call 202;refine(er.out _).mono ?_;rintro e px ⟨rfl,hb0⟩;(have hb:ar hW px:=(by first|exact ar.trans ha hb0|exact ar.trans ha (ar.trans (au.alloc _ _) hb0)));(try(have hz:=yf.out px (ar.trans ha0 hb0);obtain⟨f',z2,z3,z4⟩:=hz));(try(have hz:=NF (fz i' (bl #[J R 0,J R 0] 35)) hb0;obtain⟨f',z2,z3,z4⟩:=hz)))
    |(go_at_call 136;refine(e4.out _).mono ?_;rintro e i' ⟨rfl,ha0⟩;(have ha:ar hW i':=(by first|exact ar.trans (au.drew _) ha0|exact ar.trans (au.drew _) (ar.trans (au.alloc _ _) ha0)))))
 all_goals
  go_wp2;go_ret
  first
   |exact⟨aa,ar.trans zJ.out (ey.out _ _ _ _ hb (b4 _))⟩
   |exact⟨aa,ar.trans zJ.out (ey.out _ _ _ _ hb ha.size)⟩
   |exact⟨aa,ar.trans zJ.out (ar.trans hb (au.alloc _ _))⟩
section
def Cells(w:aM)(size:Nat)(A:Option Addr)(m:Nat)(xs:List Value):Prop:=
 xs.length=m*size/\(0<m->∃fG,A=ab fG/\∀j u,xs[j]?=ab u->w.cell? (fG.add j)=ab u)
theorem nL(b off j):(⟨b,off,af⟩:Addr).add j=⟨b,off+j,af⟩:=by grind[Addr.add]
def jN(E:List (Int×Int)):List Value:=E.flatMap λe=>[J R e.1,J R e.2]
def YQ E:(jN E).length=E.length*2:=by
 unfold jN;induction E with
 |nil=>rfl
 |cons e r ca=>grind
def YP E j:(jN E)[j]?=(E[j/2]?).map λe=>if j%2=0 then J R e.1 else J R e.2:=by
 unfold jN;induction E generalizing j with
 |nil=>simp
 |cons e r ca=>
  match j with
  |0=>simp
  |1=>simp
  |j+2=>
   have h1:(j+2)/2=j/2+1:=ad;grind[List.getElem?_cons_succ]
def kI.of_cells{w b off E}(h:∀j u,(jN E)[j]?=ab u->w.cell? ⟨b,off+j,af⟩=ab u):kI w (ab ⟨b,off,af⟩) E:=λ_=>by
 refine⟨b,_,rfl,λj hj=>?_⟩;have dH:=cC hj;constructor
 .have:=h (j*2) (J R (E[j]?.getD (0,0)).1) (by rw[YP,show j*2/2=j by omega,dH,show j*2%2=0 by omega];rfl);exact this
 .have:=h _ (J _ (E[j]?.getD (0,0)).2) (by rw[YP,show(j*2+1)/2=j by omega,dH,show(j*2+1)%2=1 by omega];rfl);rw[<-Nat.add_assoc]at this;exact this
theorem kI.nU{w}{base e n c:Nat}{A E}(h:w.ownsRow base e 2 (ae A n c) n (jN E)):kI w A E:=λhp=>by
 have hn:n=E.length:=by have:=h.1;rw[YQ]at this;omega
 rcases h.2 with⟨hv,h0⟩|⟨g,cap,cur,hv,hb,hg,j9,hcm,hcs,ht⟩;·omega
 .injection hv with h1 h2 h3;subst h1;exact kI.of_cells (λj u hu=>by have:=h.cells (g:=g) aa j u hu;rw[nL]at this;exact this) hp
def c8.cells{w A xs}(h:c8 w A xs):Cells w 1 A xs.length (xs.map (J R)):=by refine⟨a8,λhp=>?_⟩;obtain⟨b,off,rfl,hc⟩:=h hp;grind[nL]
def TQ(xs:List Int):∀u∈xs.map (J R),u.oneCell'=true:=by intro u hu;obtain⟨e,_,rfl⟩:=fL.1 hu;rfl
section
variable {P:Program} (w:aM)
def aeR base (t ty e) i z (size bytes) (ht:P.underlying t=ab (iF e)) (hi:P.info? e=ab i) (hz:i.zero=ab z)
 (hsize:i.size=size) (hby:i.bytes=bytes) (hzs:z.cells.size=size) (hsz:0<size)
 v n xs (hown:w.ownsRow base e size v n xs) A (m c) news (hr:Cells w size A m news) (h1:∀u∈news,u.oneCell'=az)
 (h63:n+m<=eh) (hbytes:(n+m)*bytes<=140737488355328) (hbase:base<=w.heap.size):
 ∃v' w',(oQ #[t,t] ty #[v,ae A m c]).run P w=.ok v' w'/\w'.ownsRow base e size v' (n+m) (xs++news)/\w.grownBy w' v.ownBlock/\
  (v'=ae af 0 0↔v=ae af 0 0/\m=0)/\(v'.ownBlock=v.ownBlock\/v'.ownBlock=ab w.heap.size):=by
 rcases A with _|fG
 .have hm:m=0:=by
   rcases lL m with h0|h0;·omega
   .obtain⟨fG,h,_⟩:=hr.2 h0;cases h
  subst hm;have hn:=j2 (by simpa using hr.1);subst hn;refine⟨v,w,?_,aF,⟨aa,aa,aa,b4 _,λ_ _ _=>aa⟩,a8,.inl aa⟩;rcases hown.2 with⟨rfl,rfl⟩|⟨g,cap,cur,rfl,_,_,j9,_⟩;·simp[oQ,gE ht,sizeOf,typeInfo,hi,we,rr]
  .simp[oQ,gE ht,sizeOf,typeInfo,hi,we,rr,j9,storeCells]
 .have aaN:∀j u,news[j]?=ab u->w.cell? (fG.add j)=ab u:=by
   intro j u hu;rcases lL m with h0|h0;·subst h0;have hn:=j2 (by simpa using hr.1);subst hn;simp at hu
   .obtain⟨ayB,h,hc⟩:=hr.2 h0;grind
  exact run_append_own_at (P:=P) w _ t ty e i z _ _ ht hi hz hsize hby hzs hsz v n xs hown fG m c _ hr.1 aaN h1 h63 hbytes hbase
def awM {o a K Q} (s x) t
 (ho:o.op=.call {callee:=oR x0,args:=#[s,x],argTypes:=#[t,t]})
 base e i z (size bytes) (ht:P.underlying t=ab (iF e)) (hi:P.info? e=ab i) (hz:i.zero=ab z)
 (hsize:i.size=size) (hby:i.bytes=bytes) (hzs:z.cells.size=size) (hsz:0<size)
 (g n cap) xs (hs:a.eval s=ae (ab ⟨g,0,af⟩) n cap) (hown:w.ownsRow base e size (ae (ab ⟨g,0,af⟩) n cap) n xs)
 A (m c) news (hx:a.eval x=ae A m c) (hr:Cells w size A m news) (h1:∀u∈news,u.oneCell'=az)
 (h63:n+m<=eh) (hbytes:(n+m)*bytes<=140737488355328) (hbase:base<=w.heap.size)
 (h:∀il ou w',w'.ownsRow base e size (ae (ab ⟨il,0,af⟩) (n+m) ou) (n+m) (xs++news)->w.grownBy w' (ab g)->(il=g\/il=w.heap.size)->il<w'.heap.size->K (a.put o.dst (ae (ab ⟨il,0,af⟩) (n+m) ou)) w'):
 ih P o a w K Q:=by
 obtain⟨v',w',hrun,h2,h3,h4,h5⟩:=aeR (P:=P) w base t o.type e i z size bytes ht hi hz hsize hby hzs hsz _ n xs hown A m c news hr h1 h63 hbytes hbase
 have hv:∃il ou,v'=ae (ab ⟨il,0,af⟩) (n+m) ou:=by
  rcases h2.2 with⟨hv,_⟩|⟨il,ou,cur,hv,_⟩;·grind
  .grind
 obtain⟨il,ou,rfl⟩:=hv;unfold ih execOp;simp only[ho,resolve,invoke,builtin,ga,jK,jc,oo,jM,kp,hs,hx,hrun];refine h il _ w' h2 h3 ?_ (h2.lt il aa).2;simpa [Value.ownBlock]using h5
def af0 {ops rest o a Q} (hgd:o.guard=af) (s x) t
 (ho:o.op=.call {callee:=oR x0,args:=#[s,x],argTypes:=#[t,t]})
 base e i z (size bytes) (ht:P.underlying t=ab (iF e)) (hi:P.info? e=ab i) (hz:i.zero=ab z)
 (hsize:i.size=size) (hby:i.bytes=bytes) (hzs:z.cells.size=size) (hsz:0<size)
 (g n cap) xs (hs:a.eval s=ae (ab ⟨g,0,af⟩) n cap) (hown:w.ownsRow base e size (ae (ab ⟨g,0,af⟩) n cap) n xs)
 A (m c) news (hx:a.eval x=ae A m c) (hr:Cells w size A m news) (h1:∀u∈news,u.oneCell'=az)
 (h63:n+m<=eh) (hbytes:(n+m)*bytes<=140737488355328) (hbase:base<=w.heap.size)
 (h:∀il ou w',w'.ownsRow base e size (ae (ab ⟨il,0,af⟩) (n+m) ou) (n+m) (xs++news)->w.grownBy w' (ab g)->(il=g\/il=w.heap.size)->il<w'.heap.size->cL P ops Q rest (a.put o.dst (ae (ab ⟨il,0,af⟩) (n+m) ou)) w'):
 cL P ops Q (o::rest) a w:=
 DT hgd λ_ hK=>awM w s x t ho base e i z size bytes ht hi hz hsize hby hzs hsz g n cap xs hs hown A m c news hx hr h1 h63 hbytes hbase λil ou w' fX a2 a3 a4=>hK _ _ (h il ou w' fX a2 a3 a4)
end
end
def Tg:(aw.info? 5).map (λi=>(i.zero,i.size,i.bytes))=ab (ab (J .u8 0),1,1):=ay
abbrev bb(b:Int):Value:=J .u8 b
def bX.cells{w A xs}(h:bX w A xs):Cells w 1 A xs.length (xs.map bb):=by refine⟨a8,λhp=>?_⟩;obtain⟨b,off,rfl,hc⟩:=h hp;grind[nL]
theorem bX.nU{w}{base e n c:Nat}{A xs}(h:w.ownsRow base e 1 (ae A n c) n (xs.map bb)):bX w A xs:=λhp=>by
 have hn:=by simpa using h.1.symm
 rcases h.2 with⟨hv,h0⟩|⟨g,cap,cur,hv,hb,hg,j9,hcm,hcs,ht⟩;·omega
 .injection hv with h1 h2 h3;subst h1;refine⟨g,0,rfl,λj hj=>?_⟩;have hc:=h.cells (g:=g) aa j (J .u8 (xs[j]?.getD 0)) aF;rw[nL]at hc;exact hc
def xE(xs:List Int):∀u∈xs.map bb,u.oneCell'=true:=by intro u hu;obtain⟨e,_,rfl⟩:=fL.1 hu;rfl
def asY{w:aM}{g e size:Nat}(h:w.heap[g]?=ab (bl #[] e (0,0))):w.ownsRow g e size (ae (ab ⟨g,0,af⟩) 0 0) 0 []:=
 ⟨a8,.inr ⟨g,0,#[],aa,b4 _,h,b4 _,ad,a8,a8⟩⟩
def wZ A c bs w(hx:bX w A bs)(h1:bs.length<=140737488355328):
 aD aw 65 #[ae A bs.length c] w λe w'=>∃aA aC,e=aB (ae aA bs.length aC)/\w'.ownsRow w.heap.size 5 1 (ae aA bs.length aC) bs.length (bs.map bb)/\ar w w':=by
 have aAx:∀(w) a (n c CW aC),(binOp _ 22 _ _).run _ w=.ok _ w:=λw a n c CW aC=>Lib.run_eql_slice_nil w _ _ a n c CW aC dL;rcases A with _|a
 .obtain rfl:bs=[]:=by
   rcases lL bs.length with h0|h0;·grind
   .obtain⟨_,_,h,_⟩:=hx h0;cases h
  clear hx h1;go_enter Tryz.func65,Tryz.ntmps65;go_wp2;go_ret;exact⟨_,0,aa,Bw _ _ _ _,au.refl _ _⟩
 .obtain⟨i0,iX,hz0,hz1,hz2⟩:=u5 Tg;have dy:=hid (And.intro iX (And.intro hz0 (And.intro hz1 hz2)));have c7:=hid (bX.cells (hx.aG (au.alloc (F:=λ_=>False) w (bl #[] 5))));have cH:=hid h1;clear hx iX hz0 hz1 hz2 h1;go_enter Tryz.func65,Tryz.ntmps65;go_wp2_with (at_builtin;go_loud (refine af0 _ aa _ _ 22 aa _ 5 i0 _ 1 1 dL dy.out.1 dy.out.2.1 dy.out.2.2.1 dy.out.2.2.2 aa ad _ 0 0 [] aa (asY (fz _ _)) _ _ c _ aa c7.out (xE _) (by have:=cH.out;unfold eh;omega) (by have:=cH.out;omega) a8 ?_);intro g4 ayQ cc Ij St azn azT;simp at Ij⊢);go_ret;exact⟨_,_,aa,Ij,((au.alloc (F:=λi=>w.heap.size<=i) w _).trans (au.of_grownBy (F:=λi=>w.heap.size<=i) St (λi e=>aF)) (λ_ _ h=>h)).mono (λi hi h=>ad)⟩
open Go.Shelf
def Tryz.ari:Go.Shelf.Ren:=⟨λ|4=>185|n=>n,λ|22=>22|25=>5|3=>3|4=>4|9=>9|20=>20|0=>0|n=>n,λ|n=>n⟩
def Tryz.acX:ayh aw Tryz.ari:={
 mixed:=aY
 f4:=⟨f185.name,bf,func185.trans (congrArg ab aY)⟩
 t0:=Tryz.underlying0
 a0:=Tryz.isAgg0
 z0:=Tryz.sizeOf0
 v0:=Tryz.zeroValue0
 t3:=Tryz.underlying3
 a3:=Tryz.isAgg3
 z3:=Tryz.sizeOf3
 v3:=Tryz.zeroValue3
 t4:=Tryz.underlying4
 a4:=Tryz.isAgg4
 z4:=Tryz.sizeOf4
 v4:=Tryz.zeroValue4
 t9:=Tryz.underlying9
 a9:=Tryz.isAgg9
 z9:=Tryz.sizeOf9
 v9:=Tryz.zeroValue9
 t20:=underlying20
 a20:=isAgg20
 z20:=sizeOf20
 v20:=zeroValue20
 t22:=dL
 a22:=isAgg22
 z22:=sizeOf22
 v22:=zeroValue22}
section
section
variable {P:Program} (w:aM)
def awJ {ops rest o a Q} (hgd:o.guard=af) (s x) t
 (ho:o.op=.call {callee:=oR x0,args:=#[s,x],argTypes:=#[t,t]})
 base e i z (size bytes) (ht:P.underlying t=ab (iF e)) (hi:P.info? e=ab i) (hz:i.zero=ab z)
 (hsize:i.size=size) (hby:i.bytes=bytes) (hzs:z.cells.size=size) (hsz:0<size)
 v n xs (hs:a.eval s=v) (hown:w.ownsRow base e size v n xs)
 A (m c) news (hx:a.eval x=ae A m c) (hr:Cells w size A m news) (h1:∀u∈news,u.oneCell'=az)
 (h63:n+m<=eh) (hbytes:(n+m)*bytes<=140737488355328) (hbase:base<=w.heap.size)
 (h:∀v' w',w'.ownsRow base e size v' (n+m) (xs++news)->w.grownBy w' v.ownBlock->cL P ops Q rest (a.put o.dst v') w'):
 cL P ops Q (o::rest) a w:=
 DT hgd λ_ hK=>by obtain⟨v',w',hrun,h2,h3,_,_⟩:=aeR (P:=P) w base t o.type e i z size bytes ht hi hz hsize hby hzs hsz v n xs hown A m c news hr h1 h63 hbytes hbase;unfold ih execOp;simp only[ho,resolve,invoke,builtin,ga,jK,jc,oo,jM,kp,hs,hx,hrun];exact hK _ _ (h v' w' h2 h3)
end
def as0{w base n v xs}(h:w.ownsRow base 5 1 v n (xs.map bb)):∃A c,v=ae A xs.length c/\bX w A xs:=by
 have hn:n=xs.length:=by have:=h.1;simp at this;omega
 subst hn;rcases h.2 with⟨rfl,h0⟩|⟨g,cap,cur,rfl,_⟩;·refine⟨_,0,by rw[h0],?_⟩;intro hp;omega
 .grind[bX.nU]
def Z7(n:Nat)w(hn:n<=140737488355328):
 aD aw 185 #[ae af 0 0,J R n] w λe w'=>∃v,e=aB v/\w'.ownsRow w.heap.size 5 1 v 0 []/\ar w w':=by
 obtain⟨i0,iX,hz0,hz1,hz2⟩:=u5 Tg;rcases lL n with rfl|h0;·exact(ax8 Tryz.acX _ 0 0 0 w (b4 _) ad ad ad).mono λ_ _ ⟨a,b⟩=>⟨_,a,Bw _ _ _ _,b▸au.refl _ _⟩
 .refine(ax7 Tryz.acX i0 (J .u8 0) iX hz0 ad af 0 0 n [] w (b4 _) ad aF ad a8 (λ_=>aa) (λa h=>a8)).mono λe w' ⟨a,b⟩=>⟨_,a,?_,?_⟩;·rw[b];have h1:=grownCap_ge w (0+n) 0 5;refine World.ownsRow_made w.drew _ _ (b4 _) (grownCap_le_maxLen w (0+n) 0 5 (by grind[eh])) ?_;simp only[Array.size_append,size_zeroCells];show _+_*1+_*1=_*1;simp only[List.size_toArray,List.length_nil];change x9 w (0+n) 0 5>=0+n at h1;change 0+(0+n -0)*1+(x9 w (0+n) 0 5 -(0+n))*1=x9 w (0+n) 0 5*1;omega
  .rw[b];exact ar.trans (au.drew _) (au.alloc _ _)
set_option maxHeartbeats 2000000 in
def Hw p A c bs w(hp:w.cell? ⟨p,0,af⟩=ab (ae A bs.length c))(hx:bX w A bs)(h1:bs.length<=140737488355328):
 aD aw 93 #[ae (ab ⟨p,0,af⟩) 1 1] w λe w'=>∃aA aC,e=aB (ae aA bs.length aC)/\w'.ownsRow w.heap.size 5 1 (ae aA bs.length aC) bs.length (bs.map bb)/\ar w w':=by
 obtain⟨i0,iX,hz0,hz1,hz2⟩:=u5 Tg;have dy:=hid (And.intro iX (And.intro hz0 (And.intro hz1 hz2)));have dP:=hid hx;have Ib:(0:Int)<=(bs.length:Int):=ad;have azU:(bs.length:Int)<=140737488355328:=ad;clear iX hz0 hz1 hz2 hx;go_enter func93,ntmps93;go_wp2_with fail;refine aiL 2 ?_;rw[Pw];go_wp2_with fail;rw[Pw];go_wp2_with (go_at_call 185;refine(Z7 _ w h1).mono ?_;rintro e w1 ⟨v1,rfl,hr1,hg1⟩;have qd:=hg1.cell hp (λh=>h);have hs1:=hg1.size);have bO:=hid hr1;have fa:=hid hg1;have BM:=hid (dP.out.aG hg1);clear hr1 hg1;refine aiL 2 ?_;rw[Pw];go_wp2_with (at_builtin;go_loud (refine awJ _ aa (.tmp 31) (.tmp 32) 22 aa w.heap.size 5 i0 _ 1 1 dL dy.out.1 dy.out.2.1 dy.out.2.2.1 dy.out.2.2.2 aa ad v1 0 [] aa bO.out A bs.length c (bs.map bb) aa (bX.cells BM.out) (xE _) (by grind[eh]) ad hs1 ?_);intro v4 cc Ij St;simp at Ij⊢;(have pc:ar w cc:=((ar.to fa.out).trans (au.of_grownBy (F:=λi=>w.heap.size<=i) St (λi e=>.inl (wB bO.out i e).1)) (λ_ _ h=>h)).mono (λi hi h=>ad));have hT:=hid (And.intro Ij pc));rw[Pw];go_wp2;go_ret;obtain⟨aA,aC,rfl,_⟩:=as0 hT.out.1;exact⟨aA,aC,aa,hT.out.1,hT.out.2⟩
end
def aqz (g:Nat) dB A c l p w (gq:∀args w,(km g args).run aw w=.ok (.enter g args) w)
 (hf:∀(W) x,x∈l->ar w W->aD aw g (#[av #[J R x.1,J R x.2]]++dB) W λe w'=>e=aB (ai (p x))/\ar W w') (hl:kI w A l) (gl:l.length<=1048576):
 aD aw 300 #[ae A l.length c,.func (.func g) #[] dB] w λe w'=>∃r,e=aB (J R r)/\((0<=r/\l.any p=az)\/(r<0/\l.any p=ao))/\ar w w':=by
 have cr:=hid hf;have cH:=hid hl;clear hf hl;go_enter func300,ntmps300;go_wp2_with fail;go_loopw [8] (λi wr=>∃k:Nat,k<=l.length/\i=J R k/\aE (∀x∈l.take k,p x=ao)/\ar w wr) (λi _=>l.length -(intOf i).toNat);case atStart=>grind[hid,au.refl]
 case round=>
  obtain⟨k,hk,rfl,hno,hO⟩:=hrel;have er:=hid hO;clear hO;by_cases hlt:k<l.length
  .have hb0:(k:Int)<(l.length:Int):=ad;obtain⟨gN,o,rfl,hcell⟩:=(cH.out.aG er.out) ad;obtain⟨c1,c2⟩:=hcell k hlt;obtain⟨x,hx⟩:∃x,l[k]?=ab x:=⟨_,cC hlt⟩;simp only[hx,Option.getD_some]at c1 c2;have dP:=hid hx;have c7:=cr.out wr x (cY hx) er.out;obtain⟨a,b⟩:=x;simp only at c1 c2 c7;cases hp:p (a,b)with
   |true=>
    rw[hp]at c7;have bR:=hid hp;clear hp hx hcell;go_wp2_with (go_at_fn g;refine c7.mono ?_;clear c7;rintro e w1 ⟨rfl,hg1⟩);go_ret;exact⟨k,aa,.inl ⟨ad,List.any_eq_true.2 ⟨_,cY dP.out,bR.out⟩⟩,ar.trans er.out hg1⟩
   |false=>
    rw[hp]at c7;have bR:=hid hp;clear hp hx hcell;go_wp2_with (go_at_fn g;refine c7.mono ?_;clear c7;rintro e w1 ⟨rfl,hg1⟩);go_roundw
    case rel=>
     refine⟨k+1,ad,by go_num,hid (λy hy=>?_),ar.trans er.out hg1⟩;rw[List.take_add_one,dP.out]at hy;rcases List.mem_append.1 hy with hy|hy;·exact hno.out y hy
     .obtain rfl:y=(a,b):=aF;exact bR.out
    case measure=>grind[intOf]
  .obtain rfl:k=l.length:=ad;go_wp2;go_ret;refine⟨-1,aa,.inr ⟨ad,?_⟩,er.out⟩;have h:=hno.out;grind
def amd (g:Nat) dB A c l p w (gq:∀args w,(km g args).run aw w=.ok (.enter g args) w)
 (hf:∀(W) x,x∈l->ar w W->aD aw g (#[av #[J R x.1,J R x.2]]++dB) W λe w'=>e=aB (ai (p x))/\ar W w') (hl:kI w A l) (gl:l.length<=1048576):
 aD aw 247 #[ae A l.length c,.func (.func g) #[] dB] w λe w'=>e=aB (ai (l.any p))/\ar w w':=by
 have c7:=hid (aqz g dB A c l p w gq hf hl gl);clear hf hl;cases hp:l.any p with
 |true=>
  rw[hp]at c7;clear hp;go_enter Tryz.func247,Tryz.ntmps247;go_wp2_with (go_at_call 300;have b2:=c7.out;with_reducible refine b2.mono ?_;clear b2;rintro e w1 ⟨r,rfl,hr,hg1⟩;have hd:decide (0<=r)=true:=aF);go_ret;exact⟨aa,hg1⟩
 |false=>
  rw[hp]at c7;clear hp;go_enter Tryz.func247,Tryz.ntmps247;go_wp2_with (go_at_call 300;have b2:=c7.out;with_reducible refine b2.mono ?_;clear b2;rintro e w1 ⟨r,rfl,hr,hg1⟩;have hd:decide (0<=r)=false:=aF);go_ret;exact⟨aa,hg1⟩
def AU(e x:Int×Int):Bool:=decide (x.1<e.1)||decide (e.1+e.2<x.1+x.2)
set_option maxHeartbeats 2000000 in
def ame B(a b p q)W(h1:W.cell? ⟨B,0,af⟩=ab (J R a))(h2:W.cell? ⟨B,1,af⟩=ab (J R b))(hab:et (a,b))(Md:et (p,q)):
 aD aw 360 (#[av #[J R p,J R q]]++#[.pointer (ab ⟨B,0,af⟩)]) W λsW cP=>sW=aB (ai (AU (a,b) (p,q)))/\ar W cP:=by
 have azd:=World.block_lt_of_cell? W _ h1
 have cj:aE (∀w',ar (W.alloc (bl _ 35)) w'->w'.cell? _=ab _/\w'.cell? _=ab _/\w'.cell? _=ab (J R p)/\w'.cell? _=ab (J R q)):=
  hid (λw' h=>⟨(ar.trans (au.alloc _ _) h).cell h1 (λh=>h),(ar.trans (au.alloc _ _) h).cell h2 (λh=>h),h.cell (yB _ _ _ _).1 (λh=>h),h.cell (yB _ _ _ _).2 (λh=>h)⟩);have Kp:aE (ar W (W.alloc (bl #[J R p,J R q] 35))):=hid (au.alloc _ _);obtain⟨eJ,hr1⟩:=ex (a+b);obtain⟨fp,hr2⟩:=ex (p+q);have W1:aE (∀w,aD _ _ _ w λe w'=>e=aB (J _ eJ)/\ar w w'):=hid (λw=>by rw[<-hr1];exact lO a b w hab.1 hab.2.1 hab.2.2);have W2:aE (∀w,aD _ _ _ w λe w'=>e=aB (J _ fp)/\ar w w'):=hid (λw=>by rw[<-hr2];exact lO p q w Md.1 Md.2.1 Md.2.2);have bO:aE (AU (a,b) (p,q)=(decide (p<a)||decide (eJ<fp))):=hid (by grind[AU]);clear h1 h2 hr1 hr2 hab Md;by_cases E7:p<a;·have hd:decide (p<a)=true:=aF;have G7:aE (AU _ _=az):=hid (by rw[bO.out,hd];rfl);rw[G7.out];clear E7 bO G7;go_enter Tryz.func360,Tryz.ntmps360;go_wp2_with fail;generalize W.alloc (bl #[J R p,J R q] 35)=aq at*;generalize W.heap.size=C at*;obtain⟨f',z2,z3,z4⟩:=cj.out aq (au.refl _ _);go_quiet (fail);go_wp2;go_ret;exact⟨aa,ar.trans Kp.out (au.drewN _ _)⟩
 .have hd:decide (p<a)=false:=aF;have G7:aE (AU _ _=decide (eJ<fp)):=hid (by rw[bO.out,hd];rfl);rw[G7.out];clear E7 bO G7;go_enter Tryz.func360,Tryz.ntmps360;go_wp2_with fail;generalize W.alloc (bl #[J R p,J R q] 35)=aq at*;generalize W.heap.size=C at*
  go_region_held3 (λw'=>w'.cell? ⟨B,0,af⟩=ab (J R a)/\w'.cell? ⟨B,1,af⟩=ab (J R b)/\w'.cell? ⟨C,0,af⟩=ab (J R p)/\w'.cell? ⟨C,1,af⟩=ab (J R q))
   (first
     |exact cj.out _ (au.drew _)
     |exact cj.out _ hb
     |exact cj.out _ ha)
   (first
     |(go_at_call 117;have b2:=W2.out i';with_reducible refine b2.mono ?_;clear b2;rintro e px ⟨rfl,hb0⟩;have hb:ar aq px:=ar.trans ha hb0)
     |(go_at_call 117;have b2:=W1.out i';with_reducible refine b2.mono ?_;clear b2;rintro e px ⟨rfl,hb0⟩;have hb:=ar.trans ha hb0)
     |(go_at_call 117;have b2:=W1.out aq.drew;with_reducible refine b2.mono ?_;clear b2;rintro e i' ⟨rfl,ha0⟩;have ha:ar aq i':=ar.trans (au.drew _) ha0)
     |(go_at_call 117;have b2:=W2.out aq.drew;with_reducible refine b2.mono ?_;clear b2;rintro e i' ⟨rfl,ha0⟩;have ha:=ar.trans (au.drew _) ha0))
  all_goals
   go_wp2;go_ret;exact⟨aa,ar.trans Kp.out hb⟩
def ans args w:(km 360 args).run aw w=.ok (.enter 360 args) w:=aY
theorem Hy(a b)A c l w(hab:et (a,b))(hv:∀x∈l,et x)(hl:kI w A l)(gl:l.length<=1048576)r(hr:l.any (AU (a,b))=!r):
 aD aw 330 #[av #[J R a,J R b],ae A l.length c] w λe w'=>e=aB (ai r)/\ar w w':=by
 have fa:aE (ar w (w.alloc (bl #[J R a,J R b] 35))):=hid (au.alloc _ _);have hcc:=yB w (J R a) (J R b) 35;have c7:=hid (amd 360 _ A c l (AU _) _ ans (λW x hx dc=>ame _ a b _ _ W (dc.cell hcc.1 (λh=>h)) (dc.cell hcc.2 (λh=>h)) hab (hv x hx)) (hl.aG fa.out) gl);rw[hr]at c7;clear hab hv hl hr hcc;go_enter func330,ntmps330;go_wp2_with (go_at_call 247;have b2:=c7.out;with_reducible refine b2.mono ?_;clear b2;rintro e w1 ⟨rfl,hg⟩);go_ret;exact⟨a8,ar.trans fa.out hg⟩
def aaC(to n a b)w(ht:et (to,n))(he:et (a,b))(hb:0<b)(h1:to<=a)(h2:a+b<=to+n):
 aD aw 298 #[av #[J R to,J R n],av #[J R a,J R b]] w λe w'=>e=aB (ai az)/\ar w w':=by
 have hk:=yB w (J R to) (J R n) 338;have hd:decide (0<b)=true:=aF;have GU:aE (ar w ((w.alloc (bl #[J R to,J R n] 338)).alloc (bl #[J R a,J R b] 35))):=hid (ar.trans (au.alloc _ _) (au.alloc _ _))
 have c7:aE (∀W B,W.heap[B]?=ab (bl #[J R a,J R b] 35 (0,0))->aD _ 330 #[av _,ae (ab ⟨B,0,af⟩) 1 1] W λe w'=>e=aB _/\ar W w'):=hid (λW B kd=>
  Hy to n (ab ⟨B,0,af⟩) 1 [(a,b)] W ht (λx hx=>(show x=(a,b) by grind)▸he) (λ_=>⟨B,0,rfl,λj hj=>by obtain rfl:j=0:=aF;exact⟨fu _ _ 0 _ _ _ kd,fu _ _ 1 _ _ _ kd⟩⟩) a8 az (by grind[AU]));clear ht he hb h1 h2;go_enter func298,ntmps298;go_wp2_with (go_at_call 330;refine(c7.out _ _ (aaT _ _ ?hh _)).mono ?_;(case hh=>simp);rintro e w1 ⟨rfl,hg⟩);go_ret;exact⟨aa,ar.trans GU.out (ar.trans (au.alloc _ _) hg)⟩
end Go.Proofs.YtcmhplknoglbkaaGreat
