/- Part 1 of the proof of TopMemorySaid. -/
import Derived.Deep.LoopGhost
import Derived.Maps.AppendAt
import Derived.Lib.LazyBuf
import Derived.Shelf.Spec.SlicesGrow
import Derived.Ground.Names7Prog
import Derived.Test.YtcmhplknoglbkaaGreatProg
import Derived.Deep.AppendLies
import Derived.Test.YtcmhplknoglbkaaGreatQm0
set_option linter.all false
set_option maxRecDepth 100000
set_option maxHeartbeats 4000000
open Go.Proofs.Tryz
open Bool renaming false->ao,true->az
open Go.Builtin renaming append->x0,append_->pa,firstCells->rT,lenOf->wz
open Go.Callee renaming builtin->pb
open Go renaming Calls->aD,World->aQ,bodyPost_ret->c',callFunc->kB,cell_of_row->fE,grownCap->x',heap_alloc_new->fL,info_parts->vf,maxLen->eB,results_cell_tmp->BT,rounds_succ->PB,run_underlying->gN,wpList->cN,wpList_plain->D2,wp_loop_rounds->aki
open Go.Ending renaming returned->aB
open Go.IntKind renaming i64->R
open Go.Obj renaming cells->bo
open Go.Oper renaming wp->iy
open Go.Proofs.Any8 renaming slices_Grow_grow->azy,slices_Grow_room->azz
open Go.Proofs.Lays8 renaming n4->azI
open Go.Proofs.Tryz renaming prog->ax,underlying22->dW
open Go.Result renaming andThen_ok->jE
open Go.RowKit renaming Hid->aE
open Go.Sem renaming run_bind->gx,run_pure->kh
open Go.TypeDesc renaming slice->iJ
open Go.Value renaming agg->ar,bool->ai,int->J,slice->ae,tuple->bn
open Go.World.ownsRow renaming lt->wN
open Go.World renaming ownsRow_nil->BR
open List renaming eq_nil_of_length_eq_zero->j3,getElem?_eq_getElem->cE,map_cons->j5,map_nil->ln,map_toArray->oI,mem_map->gP,mem_of_getElem?->cX
open Nat renaming eq_zero_or_pos->lX,le_refl->b9
open Option renaming none->af,some->ab
namespace Go.Proofs.YtcmhplknoglbkaaGreat
open Go.RowKit Go.MapKept
def b2(w:aQ)(A:Option Addr)(bs:List Int):Prop:=
 0<bs.length->∃b off,A=ab ⟨b,off,af⟩/\∀j,j<bs.length->w.cell? ⟨b,off+j,af⟩=ab (J .u8 (bs[j]?.getD 0))
theorem b2.nil{w A}:b2 w A []:=λh=>absurd h bg
def b2.only{F w w' A bs}(h:b2 w A bs)(k:av F w w')(hn:∀b off,A=ab ⟨b,off,af⟩->¬F b):b2 w' A bs:=λhp=>by obtain⟨b,off,rfl,hc⟩:=h hp;exact⟨b,_,rfl,λj hj=>k.cell (hc j hj) (hn b _ aa)⟩
def b2.aI{w w' A bs}(h:b2 w A bs)(k:au w w'):b2 w' A bs:=h.only k (λ_ _ _ hf=>hf)
structure bO where
 k:Int
 to:Int
 fr:Int
 n:Int
 data:List Int
abbrev kW(m:bO)(A:Option Addr)(c:Nat):Value:=ar #[J R m.k,J R m.to,J R m.fr,J R m.n,ae A m.data.length c]
def cG(m:bO):Int:=if m.k=1 then m.n else(m.data.length:Int)
def ck(m:bO):Int×Int:=(m.to,cG m)
def src(m:bO):Int×Int:=(m.fr,m.n)
def Y2(w:aQ)(a b c d e)t:(w.alloc (bo #[a,b,c,d,e] t)).cell? ⟨w.heap.size,0,af⟩=ab a/\(w.alloc (bo #[a,b,c,d,e] t)).cell? ⟨w.heap.size,1,af⟩=ab b/\(w.alloc (bo #[a,b,c,d,e] t)).cell? ⟨w.heap.size,2,af⟩=ab c/\(w.alloc (bo #[a,b,c,d,e] t)).cell? ⟨w.heap.size,3,af⟩=ab d/\(w.alloc (bo #[a,b,c,d,e] t)).cell? ⟨w.heap.size,4,af⟩=ab e:=
 ⟨fE _ _ 0 _ _ _ (fL w _),fE _ _ 1 _ _ _ (fL w _),fE _ _ 2 _ _ _ (fL w _),fE _ _ 3 _ _ _ (fL w _),fE _ _ 4 _ _ _ (fL w _)⟩
def abr(w:aQ)B(kp:w.heap.size=B)o:(w.alloc o).heap[B]?=ab o:=by grind[fL]
def Ob{aq w' B x y t}(h:aq.heap[B]?=ab (bo #[x,y] t (0,0)))(g:au aq w'):
 w'.cell? ⟨B,0,af⟩=ab x/\w'.cell? ⟨B,1,af⟩=ab y/\w'.frozen? ⟨B,0,af⟩=ao/\w'.frozen? ⟨B,1,af⟩=false:=by
 have h2:=g.heap h (λh=>h);grind[World.cell?,World.frozen?]
def avf{zy aq w' B x y t}(h:aq.heap[B]?=ab (bo #[x,y] t (0,0)))(g0:au zy aq)(g:au aq w')(kp:zy.heap.size<=B)(u v):
 ((w'.setCell ⟨B,0,af⟩ u).setCell ⟨B,1,af⟩ v).cell? ⟨B,0,af⟩=ab u/\((w'.setCell ⟨B,0,af⟩ u).setCell ⟨B,1,af⟩ v).cell? ⟨B,1,af⟩=ab v/\au zy ((w'.setCell ⟨B,0,af⟩ u).setCell ⟨B,1,af⟩ v):=by
 obtain⟨h1,h2,_,_⟩:=Ob h g;obtain⟨a,b⟩:=Uu w' B x y u v h1 h2;refine⟨a,b,?_⟩;have q:=((au.trans g0 g).mono (G:=λi=>i=B) (λ_ _ h=>h.elim)).trans ((av.setCell (F:=λi=>i=B) w' (p:=⟨B,0,af⟩) aa u).trans (av.setCell (F:=λi=>i=B) _ (p:=⟨B,1,af⟩) aa v) (λ_ _ h=>h)) (λ_ _ h=>h);exact q.mono (λi hi h=>ad)
def fD(k n:Int)(m:Nat):Int:=if k=1 then n else(m:Int)
def Nv(k to fr n)A(m c)w:
 aD ax 220 #[ar #[J R k,J R to,J R fr,J R n,ae A m c]] w λe w'=>e=aB (ar #[J R to,J R (fD k n m)])/\au w w':=by
 by_cases hk:k=1;·subst hk;show aD _ _ _ _ λe w'=>e=aB (ar #[J R to,J R n])/\au w w';go_enter Tryz.func220,Tryz.ntmps220;go_wp2;refine c' (v:=_) ?_ aa ⟨aa,au.trans (av.alloc _ _) (av.alloc _ _)⟩;rw[xH aa];go_simp
 .have hd:(k==1)=false:=aH;have ht:fD k n m=(m:Int):=if_neg hk;rw[ht];clear hk ht;go_enter Tryz.func220,Tryz.ntmps220;go_wp2;refine c' (v:=_) ?_ aa ⟨aa,au.trans (av.alloc _ _) (av.alloc _ _)⟩;rw[xH aa];go_simp
def tt(k to fr n)A(m c)w:
 aD ax 136 #[ar #[J R k,J R to,J R fr,J R n,ae A m c]] w λe w'=>e=aB (ar #[J R to,J R (fD k n m)])/\au w w':=by
 obtain⟨r,hr⟩:=ex (fD k n m);have c6:=hid (λW=>Nv k to fr n A m c W);simp only[hr]at c6⊢;clear hr;have rq:∀w:aQ,(Instr.field 338 (ar #[J R to,J R r]) 0).run ax w=.ok (ar #[J R to,J R r]) w:=λ_=>by rfl
 go_enter func136,ntmps136;have e3:=hid (abr (w.alloc (bo #[J R k,J R to,J R fr,J R n,ae A m c] 73)) (w.heap.size+1) bg (bo #[J R 0,J R 0] 35));have ef:aE (au w ((w.alloc (bo #[J R k,J R to,J R fr,J R n,ae A m c] 73)).alloc (bo #[J R 0,J R 0] 35))):=hid (au.trans (av.alloc _ _) (av.alloc _ _));go_wp2_with (go_at_call 220;refine(c6.out _).mono ?_;rintro e w1 ⟨rfl,hg⟩;obtain⟨gn,z2,z3,z4⟩:=Ob e3.out hg);obtain⟨ml,bG,da⟩:=avf e3.out ef.out hg ad (J R to) (J R r);refine c' (v:=_) ?_ aa ⟨aa,da⟩;rw[xH aa];go_simp
def Bk(to fr n)A(m c)w:
 aD ax 79 #[ar #[J R 1,J R to,J R fr,J R n,ae A m c]] w λe w'=>e=aB (bn #[ar #[J R fr,J R n],ai az])/\au w w':=by
 go_enter Tryz.func79,Tryz.ntmps79;go_wp2;refine c' (v:=_) ?_ aa ⟨aa,au.trans (av.alloc _ _) (av.alloc _ _)⟩;rw[BT aa];go_simp
def Bl(k to fr n)A(m c)w(hk:k≠1):
 aD ax 79 #[ar #[J R k,J R to,J R fr,J R n,ae A m c]] w λe w'=>e=aB (bn #[ar #[J R 0,J R 0],ai ao])/\au w w':=by
 have hd:(k !=1)=true:=aH;clear hk;go_enter Tryz.func79,Tryz.ntmps79;go_wp2;refine c' (v:=_) ?_ aa ⟨aa,au.trans (av.alloc _ _) (av.alloc _ _)⟩;rw[BT aa];go_simp
def Ze(to fr n)w:
 aD ax 101 #[J R to,J R fr,J R n] w λe w'=>e=aB (ar #[J R 1,J R to,J R fr,J R n,ae af 0 0])/\au w w':=by
 go_enter func101,ntmps101;go_wp2;refine c' (v:=_) ?_ aa ⟨aa,av.alloc _ _⟩;rw[xH aa];go_simp
def w3(k to fr n:Int)(m:Nat):Prop:=(k=1/\eY (to,n)/\eY (fr,n)/\0<n/\m=0)\/(k=2/\eY (to,(m:Int))/\fr=0/\n=0/\0<m)
def xM(a b)w(h:eY (a,b)):
 aD ax 115 #[ar #[J R a,J R b]] w λe w'=>e=aB (ai az)/\au w w':=by
 obtain⟨h1,h2,h3⟩:=h;simp only at h1 h2 h3;have hx:=agP a b w ⟨ad,ad⟩ ⟨ad,ad⟩;grind[Gd,eY]
theorem w3.ck{k to fr n m}(h:w3 k to fr n m):eY (to,fD k n m)/\0<fD k n m:=by
 rcases h with⟨rfl,h1,h2,h3,rfl⟩|⟨rfl,h1,rfl,rfl,h3⟩;·exact⟨h1,h3⟩
 .exact⟨h1,by show(0:Int)<(m:Int);omega⟩
set_option maxHeartbeats 2000000 in
def anA(k to fr n)A(m c)w(h:w3 k to fr n m):
 aD ax 200 #[ar #[J R k,J R to,J R fr,J R n,ae A m c]] w λe w'=>e=aB (J R 0)/\au w w':=by
 have eb:=hid h.ck;have Qj:=hid (λW=>Nv k to fr n A m c W);obtain⟨r,hr⟩:=ex (fD k n m);simp only[hr]at Qj eb;have Ql:=eb.out.2;have uC:(r==0)=false:=aH;have cJ:=hid (λW=>xM to r W eb.out.1);have hb:=Y2 w (J R k) (J R to) (J R fr) (J R n) (ae A m c) 73;have HB:=hid hb;have I:aE (∀w',au _ w'->w'.cell? _=ab _/\w'.cell? _=ab _/\w'.cell? _=ab _/\w'.cell? _=ab _):=hid (λw' g=>⟨g.cell HB.out.1 (λh=>h),g.cell HB.out.2.2.1 (λh=>h),g.cell HB.out.2.2.2.1 (λh=>h),g.cell HB.out.2.2.2.2 (λh=>h)⟩);have ef:aE (au w (w.alloc (bo #[J R k,J R to,J R fr,J R n,ae A m c] 73))):=hid (av.alloc _ _);have dS:=hid h;clear hb hr h Ql;rcases dS.out with⟨rfl,h1,h2,h3,rfl⟩|⟨rfl,h1,rfl,rfl,h3⟩
 .have Lh:=hid (λW=>xM fr n W h2);clear h1 h2 h3 dS;go_enter Tryz.func200,Tryz.ntmps200
  go_wp2_with (first
   |(go_at_call 115;have cd:=Lh.out aT;with_reducible refine cd.mono ?_;clear cd;rintro e bF ⟨rfl,hg3⟩)
   |(go_at_call 115;go_loud (refine(cJ.out _).mono ?_);rintro e aT ⟨rfl,hg2⟩;obtain⟨ml,bG,da,hW⟩:=I.out aT (au.trans hg1 (au.trans (av.alloc _ _) hg2)))
   |(go_at_call 220;refine(Qj.out _).mono ?_;rintro e w1 ⟨rfl,hg1⟩;obtain⟨gn,z2,z3,z4⟩:=I.out w1 hg1));go_ret;exact⟨aa,au.trans ef.out (au.trans hg1 (au.trans (av.alloc _ _) (au.trans hg2 hg3)))⟩
 .clear h1 h3 dS;go_enter Tryz.func200,Tryz.ntmps200
  go_wp2_with (first
   |(go_at_call 115;go_loud (refine(cJ.out _).mono ?_);rintro e aT ⟨rfl,hg2⟩;obtain⟨ml,bG,da,hW⟩:=I.out aT (au.trans hg1 (au.trans (av.alloc _ _) hg2)))
   |(go_at_call 220;refine(Qj.out _).mono ?_;rintro e w1 ⟨rfl,hg1⟩;obtain⟨gn,z2,z3,z4⟩:=I.out w1 hg1));go_ret;exact⟨aa,au.trans ef.out (au.trans hg1 (au.trans (av.alloc _ _) hg2))⟩
set_option maxHeartbeats 2000000 in
def auC(k to fr n)A(m c)w(hk:k≠1):
 aD ax 297 #[ar #[J R k,J R to,J R fr,J R n,ae A m c]] w λe w'=>e=aB (ai ao)/\au w w':=by
 have c6:=hid (λW=>Bl k to fr n A m c W hk);clear hk;go_enter Tryz.func297,Tryz.ntmps297;go_wp2_with (go_at_call 79;refine(c6.out _).mono ?_;rintro e w1 ⟨rfl,hg1⟩);go_ret;exact⟨aa,au.trans (av.alloc _ _) (au.trans hg1 (av.alloc _ _))⟩
set_option maxHeartbeats 4000000 in
def auB(to fr n)A(m c)w(h1:eY (to,n))(h2:eY (fr,n)):
 aD ax 297 #[ar #[J R 1,J R to,J R fr,J R n,ae A m c]] w λe w'=>e=aB (ai (meets (fr,n) (to,n)))/\au w w':=by
 have c6:=hid (λW=>Bk to fr n A m c W);have eb:aE (∀W,aD _ _ _ W λe w'=>e=aB (ar #[J _ to,J _ n])/\au W w'):=hid (λW=>tt 1 to fr n A m c W);obtain⟨r,hr⟩:=ex (meets (fr,n) (to,n));obtain⟨gC,eZ,eS⟩:∃gC eZ,me (fr,n) (to,n)=(gC,eZ):=⟨_,_,aa⟩
 have fc:aE (∀W,aD _ _ _ W λe w'=>e=aB (bn #[ar #[J _ gC,J _ eZ],ai r])/\au W w'):=hid (λW=>by have h:=ND fr n to n W h2 h1;rw[eS,hr]at h;exact h);rw[hr];have HB:=hid (Y2 w (J R 1) (J R to) (J R fr) (J R n) (ae A m c) 73);have ef:aE (au w (w.alloc (bo #[J R 1,J R to,J R fr,J R n,ae A m c] 73))):=hid (av.alloc _ _);clear hr eS h1 h2;go_enter Tryz.func297,Tryz.ntmps297;go_wp2_with (go_at_call 79;refine(c6.out _).mono ?_;rintro e w1 ⟨rfl,hg1⟩)
 have I:aE (∀w',au (w1.alloc _) w'->w'.cell? _=ab _/\w'.cell? _=ab _/\w'.cell? _=ab _/\w'.cell? _=ab _/\w'.cell? _=ab _/\w'.cell? _=ab _/\w'.cell? _=ab _):=hid (λw' g=>by have g1:=au.trans hg1 (au.trans (av.alloc _ _) g);obtain⟨eF,eK,pt,YL,YM⟩:=HB.out;obtain⟨bE,cr⟩:=yH w1 (J R fr) (J R n) 35;exact⟨g1.cell eF (λh=>h),g1.cell eK (λh=>h),g1.cell pt (λh=>h),g1.cell YL (λh=>h),g1.cell YM (λh=>h),g.cell bE (λh=>h),g.cell cr (λh=>h)⟩);have zQ:aE (au w (w1.alloc (bo #[J R fr,J R n] 35))):=hid (au.trans ef.out (au.trans hg1 (av.alloc _ _)));clear hg1;generalize w1.alloc (bo #[J R fr,J R n] 35)=ic at*;generalize w1.heap.size=cM at*;generalize kp:w.heap.size=B at*;have yh:aE (∀w',au _ w'->w'.cell? _=ab (J R 0)/\w'.cell? _=ab (J R 0)/\w'.frozen? _=ao/\w'.frozen? ⟨ic.heap.size,1,_⟩=ao):=hid (λw' g=>Ob (fL ic.drew (bo _ 35)) g)
 have eg:aE (∀w1 B u v,au ic w1->ic.heap.size<=B->au ic _):=hid (λw1 B u v h kp=>by have q:=(h.mono (G:=λi=>i=B) (λ_ _ h=>h.elim)).trans ((av.setCell (F:=λi=>i=B) w1 (p:=⟨B,0,af⟩) aa u).trans (av.setCell (F:=λi=>i=B) _ (p:=⟨B,1,af⟩) aa v) (λ_ _ h=>h)) (λ_ _ h=>h);exact q.mono (λi hi h=>ad))
 go_region_held3 (λw'=>w'.cell? ⟨B,0,af⟩=ab (J R 1)/\w'.cell? ⟨B,1,af⟩=ab (J R to)/\w'.cell? ⟨B,2,af⟩=ab (J R fr)/\w'.cell? ⟨B,3,af⟩=ab (J R n)/\w'.cell? ⟨B,4,af⟩=ab (ae A m c)/\w'.cell? ⟨cM,0,af⟩=ab (J R fr)/\w'.cell? ⟨cM,1,af⟩=ab (J R n))
  (first
    |exact I.out _ (av.drew _)
    |exact I.out _ (au.trans (av.drew _) (av.alloc _ _))
    |exact I.out _ hb
    |exact I.out _ (au.trans hb (av.alloc _ _))
    |exact I.out _ ha
    |exact I.out _ (au.trans ha (av.alloc _ _))
    |exact I.out _ (eg.out _ _ _ _ hb (b9 _))
    |exact I.out _ (eg.out _ _ _ _ hb ha.size)
    |exact I.out _ (eg.out _ _ _ _ (au.trans hb (av.alloc _ _)) hb.size))
  (first
    |(go_at_call 202;refine(fc.out _).mono ?_;rintro e pP ⟨rfl,hb0⟩;(have hb:au ic pP:=(by first|exact au.trans ha hb0|exact au.trans ha (au.trans (av.alloc _ _) hb0)));(try(have hz:=yh.out pP (au.trans ha0 hb0);obtain⟨gn,z2,z3,z4⟩:=hz));(try(have hz:=Ob (fL jj (bo #[J R 0,J R 0] 35)) hb0;obtain⟨gn,z2,z3,z4⟩:=hz)))
    |(go_at_call 136;refine(eb.out _).mono ?_;rintro e jj ⟨rfl,ha0⟩;(have ha:au ic jj:=(by first|exact au.trans (av.drew _) ha0|exact au.trans (av.drew _) (au.trans (av.alloc _ _) ha0)))))
 all_goals
  go_wp2;go_ret
  first
   |exact⟨aa,au.trans zQ.out (eg.out _ _ _ _ hb (b9 _))⟩
   |exact⟨aa,au.trans zQ.out (eg.out _ _ _ _ hb ha.size)⟩
   |exact⟨aa,au.trans zQ.out (au.trans hb (av.alloc _ _))⟩
section
def Cells(w:aQ)(size:Nat)(A:Option Addr)(m:Nat)(xs:List Value):Prop:=
 xs.length=m*size/\(0<m->∃eC,A=ab eC/\∀j u,xs[j]?=ab u->w.cell? (eC.add j)=ab u)
theorem mW(b off j):(⟨b,off,af⟩:Addr).add j=⟨b,off+j,af⟩:=by grind[Addr.add]
def mx(E:List (Int×Int)):List Value:=E.flatMap λe=>[J R e.1,J R e.2]
def Y4 E:(mx E).length=E.length*2:=by
 unfold mx;induction E with
 |nil=>rfl
 |cons e r cn=>grind
def Y3 E j:(mx E)[j]?=(E[j/2]?).map λe=>if j%2=0 then J R e.1 else J R e.2:=by
 unfold mx;induction E generalizing j with
 |nil=>simp
 |cons e r cn=>
  match j with
  |0=>simp
  |1=>simp
  |j+2=>
   have h1:(j+2)/2=j/2+1:=ad;grind[List.getElem?_cons_succ]
def kU.of_cells{w b off E}(h:∀j u,(mx E)[j]?=ab u->w.cell? ⟨b,off+j,af⟩=ab u):kU w (ab ⟨b,off,af⟩) E:=λ_=>by
 refine⟨b,_,rfl,λj hj=>?_⟩;have ea:=cE hj;constructor
 .have:=h (j*2) (J R (E[j]?.getD (0,0)).1) (by rw[Y3,show j*2/2=j by omega,ea,show j*2%2=0 by omega];rfl);exact this
 .have:=h _ (J _ (E[j]?.getD (0,0)).2) (by rw[Y3,show(j*2+1)/2=j by omega,ea,show(j*2+1)%2=1 by omega];rfl);rw[<-Nat.add_assoc]at this;exact this
theorem kU.ot{w}{base e n c:Nat}{A E}(h:w.ownsRow base e 2 (ae A n c) n (mx E)):kU w A E:=λhp=>by
 have hn:n=E.length:=by have:=h.1;rw[Y4]at this;omega
 rcases h.2 with⟨hv,h0⟩|⟨g,cap,cur,hv,hb,hg,j9,hcm,hcs,ht⟩;·omega
 .injection hv with h1 h2 h3;subst h1;exact kU.of_cells (λj u hu=>by have:=h.cells (g:=g) aa j u hu;rw[mW]at this;exact this) hp
def dA.cells{w A xs}(h:dA w A xs):Cells w 1 A xs.length (xs.map (J R)):=by refine⟨bg,λhp=>?_⟩;obtain⟨b,off,rfl,hc⟩:=h hp;grind[mW]
def TQ(xs:List Int):∀u∈xs.map (J R),u.oneCell'=true:=by intro u hu;obtain⟨e,_,rfl⟩:=gP.1 hu;rfl
section
variable {P:Program} (w:aQ)
def afz base (t ty e) i z (size bytes) (ht:P.underlying t=ab (iJ e)) (hi:P.info? e=ab i) (hz:i.zero=ab z)
 (hsize:i.size=size) (hby:i.bytes=bytes) (hzs:z.cells.size=size) (hsz:0<size)
 v n xs (hown:w.ownsRow base e size v n xs) A (m c) news (hr:Cells w size A m news) (h1:∀u∈news,u.oneCell'=az)
 (h63:n+m<=eB) (hbytes:(n+m)*bytes<=140737488355328) (hbase:base<=w.heap.size):
 ∃v' w',(pa #[t,t] ty #[v,ae A m c]).run P w=.ok v' w'/\w'.ownsRow base e size v' (n+m) (xs++news)/\w.grownBy w' v.ownBlock/\
  (v'=ae af 0 0↔v=ae af 0 0/\m=0)/\(v'.ownBlock=v.ownBlock\/v'.ownBlock=ab w.heap.size):=by
 rcases A with _|eC
 .have hm:m=0:=by
   rcases lX m with h0|h0;·omega
   .obtain⟨eC,h,_⟩:=hr.2 h0;cases h
  subst hm;have hn:=j3 (by simpa using hr.1);subst hn;refine⟨v,w,?_,aH,⟨aa,aa,aa,b9 _,λ_ _ _=>aa⟩,bg,.inl aa⟩;rcases hown.2 with⟨rfl,rfl⟩|⟨g,cap,cur,rfl,_,_,j9,_⟩;·simp[pa,gN ht,sizeOf,typeInfo,hi,wz,rT]
  .simp[pa,gN ht,sizeOf,typeInfo,hi,wz,rT,j9,storeCells]
 .have abj:∀j u,news[j]?=ab u->w.cell? (eC.add j)=ab u:=by
   intro j u hu;rcases lX m with h0|h0;·subst h0;have hn:=j3 (by simpa using hr.1);subst hn;simp at hu
   .obtain⟨az3,h,hc⟩:=hr.2 h0;grind
  exact run_append_own_at (P:=P) w _ t ty e i z _ _ ht hi hz hsize hby hzs hsz v n xs hown eC m c _ hr.1 abj h1 h63 hbytes hbase
def ayw {o a K Q} (s x) t
 (ho:o.op=.call {callee:=pb x0,args:=#[s,x],argTypes:=#[t,t]})
 base e i z (size bytes) (ht:P.underlying t=ab (iJ e)) (hi:P.info? e=ab i) (hz:i.zero=ab z)
 (hsize:i.size=size) (hby:i.bytes=bytes) (hzs:z.cells.size=size) (hsz:0<size)
 (g n cap) xs (hs:a.eval s=ae (ab ⟨g,0,af⟩) n cap) (hown:w.ownsRow base e size (ae (ab ⟨g,0,af⟩) n cap) n xs)
 A (m c) news (hx:a.eval x=ae A m c) (hr:Cells w size A m news) (h1:∀u∈news,u.oneCell'=az)
 (h63:n+m<=eB) (hbytes:(n+m)*bytes<=140737488355328) (hbase:base<=w.heap.size)
 (h:∀il oN w',w'.ownsRow base e size (ae (ab ⟨il,0,af⟩) (n+m) oN) (n+m) (xs++news)->w.grownBy w' (ab g)->(il=g\/il=w.heap.size)->il<w'.heap.size->K (a.put o.dst (ae (ab ⟨il,0,af⟩) (n+m) oN)) w'):
 iy P o a w K Q:=by
 obtain⟨v',w',hrun,h2,h3,h4,h5⟩:=afz (P:=P) w base t o.type e i z size bytes ht hi hz hsize hby hzs hsz _ n xs hown A m c news hr h1 h63 hbytes hbase
 have hv:∃il oN,v'=ae (ab ⟨il,0,af⟩) (n+m) oN:=by
  rcases h2.2 with⟨hv,_⟩|⟨il,oN,cur,hv,_⟩;·grind
  .grind
 obtain⟨il,oN,rfl⟩:=hv;unfold iy execOp;simp only[ho,resolve,invoke,builtin,gx,kh,jE,oI,j5,ln,hs,hx,hrun];refine h il _ w' h2 h3 ?_ (h2.lt il aa).2;simpa [Value.ownBlock]using h5
def agY {ops rest o a Q} (hgd:o.guard=af) (s x) t
 (ho:o.op=.call {callee:=pb x0,args:=#[s,x],argTypes:=#[t,t]})
 base e i z (size bytes) (ht:P.underlying t=ab (iJ e)) (hi:P.info? e=ab i) (hz:i.zero=ab z)
 (hsize:i.size=size) (hby:i.bytes=bytes) (hzs:z.cells.size=size) (hsz:0<size)
 (g n cap) xs (hs:a.eval s=ae (ab ⟨g,0,af⟩) n cap) (hown:w.ownsRow base e size (ae (ab ⟨g,0,af⟩) n cap) n xs)
 A (m c) news (hx:a.eval x=ae A m c) (hr:Cells w size A m news) (h1:∀u∈news,u.oneCell'=az)
 (h63:n+m<=eB) (hbytes:(n+m)*bytes<=140737488355328) (hbase:base<=w.heap.size)
 (h:∀il oN w',w'.ownsRow base e size (ae (ab ⟨il,0,af⟩) (n+m) oN) (n+m) (xs++news)->w.grownBy w' (ab g)->(il=g\/il=w.heap.size)->il<w'.heap.size->cN P ops Q rest (a.put o.dst (ae (ab ⟨il,0,af⟩) (n+m) oN)) w'):
 cN P ops Q (o::rest) a w:=
 D2 hgd λ_ hK=>ayw w s x t ho base e i z size bytes ht hi hz hsize hby hzs hsz g n cap xs hs hown A m c news hx hr h1 h63 hbytes hbase λil oN w' fM a2 a3 a4=>hK _ _ (h il oN w' fM a2 a3 a4)
end
end
def Th:(ax.info? 5).map (λi=>(i.zero,i.size,i.bytes))=ab (ab (J .u8 0),1,1):=aw
abbrev a6(b:Int):Value:=J .u8 b
def b2.cells{w A xs}(h:b2 w A xs):Cells w 1 A xs.length (xs.map a6):=by refine⟨bg,λhp=>?_⟩;obtain⟨b,off,rfl,hc⟩:=h hp;grind[mW]
theorem b2.ot{w}{base e n c:Nat}{A xs}(h:w.ownsRow base e 1 (ae A n c) n (xs.map a6)):b2 w A xs:=λhp=>by
 have hn:=by simpa using h.1.symm
 rcases h.2 with⟨hv,h0⟩|⟨g,cap,cur,hv,hb,hg,j9,hcm,hcs,ht⟩;·omega
 .injection hv with h1 h2 h3;subst h1;refine⟨g,0,rfl,λj hj=>?_⟩;have hc:=h.cells (g:=g) aa j (J .u8 (xs[j]?.getD 0)) aH;rw[mW]at hc;exact hc
def xB(xs:List Int):∀u∈xs.map a6,u.oneCell'=true:=by intro u hu;obtain⟨e,_,rfl⟩:=gP.1 hu;rfl
def auG{w:aQ}{g e size:Nat}(h:w.heap[g]?=ab (bo #[] e (0,0))):w.ownsRow g e size (ae (ab ⟨g,0,af⟩) 0 0) 0 []:=
 ⟨bg,.inr ⟨g,0,#[],aa,b9 _,h,b9 _,ad,bg,bg⟩⟩
def w6 A c bs w(hx:b2 w A bs)(h1:bs.length<=140737488355328):
 aD ax 65 #[ae A bs.length c] w λe w'=>∃aA aC,e=aB (ae aA bs.length aC)/\w'.ownsRow w.heap.size 5 1 (ae aA bs.length aC) bs.length (bs.map a6)/\au w w':=by
 have aB4:∀(w) a (n c Dh aC),(binOp _ 22 _ _).run _ w=.ok _ w:=λw a n c Dh aC=>Lib.run_eql_slice_nil w _ _ a n c Dh aC dW;rcases A with _|a
 .obtain rfl:bs=[]:=by
   rcases lX bs.length with h0|h0;·grind
   .obtain⟨_,_,h,_⟩:=hx h0;cases h
  clear hx h1;go_enter Tryz.func65,Tryz.ntmps65;go_wp2;go_ret;exact⟨_,0,aa,BR _ _ _ _,av.refl _ _⟩
 .obtain⟨i0,jd,hz0,hz1,hz2⟩:=vf Th;have dt:=hid (And.intro jd (And.intro hz0 (And.intro hz1 hz2)));have c6:=hid (b2.cells (hx.aI (av.alloc (F:=λ_=>False) w (bo #[] 5))));have cK:=hid h1;clear hx jd hz0 hz1 hz2 h1;go_enter Tryz.func65,Tryz.ntmps65;go_wp2_with (at_builtin;go_loud (refine agY _ aa _ _ 22 aa _ 5 i0 _ 1 1 dW dt.out.1 dt.out.2.1 dt.out.2.2.1 dt.out.2.2.2 aa ad _ 0 0 [] aa (auG (fL _ _)) _ _ c _ aa c6.out (xB _) (by have:=cK.out;unfold eB;omega) (by have:=cK.out;omega) bg ?_);intro g4 aAk b8 Iq St aAS aBl;simp at Iq⊢);go_ret;exact⟨_,_,aa,Iq,((av.alloc (F:=λi=>w.heap.size<=i) w _).trans (av.of_grownBy (F:=λi=>w.heap.size<=i) St (λi e=>aH)) (λ_ _ h=>h)).mono (λi hi h=>ad)⟩
open Go.Shelf
def Tryz.as2:Go.Shelf.Ren:=⟨λ|4=>185|n=>n,λ|22=>22|25=>5|3=>3|4=>4|9=>9|20=>20|0=>0|n=>n,λ|n=>n⟩
def Tryz.ady:azI ax Tryz.as2:={
 mixed:=bc
 f4:=⟨f185.name,aS,func185.trans (congrArg ab bc)⟩
 t0:=Tryz.underlying0
 a0:=Tryz.isAgg0
 z0:=Tryz.sizeOf0
 v0:=Tryz.zeroValue0
 t3:=Tryz.underlying3
 a3:=Tryz.isAgg3
 z3:=Tryz.sizeOf3
 v3:=Tryz.zeroValue3
 t4:=Tryz.underlying4
 a4:=Tryz.isAgg4
 z4:=Tryz.sizeOf4
 v4:=Tryz.zeroValue4
 t9:=Tryz.underlying9
 a9:=Tryz.isAgg9
 z9:=Tryz.sizeOf9
 v9:=Tryz.zeroValue9
 t20:=underlying20
 a20:=isAgg20
 z20:=sizeOf20
 v20:=zeroValue20
 t22:=dW
 a22:=Tryz.isAgg22
 z22:=Tryz.sizeOf22
 v22:=Tryz.zeroValue22}
section
section
variable {P:Program} (w:aQ)
def ayt {ops rest o a Q} (hgd:o.guard=af) (s x) t
 (ho:o.op=.call {callee:=pb x0,args:=#[s,x],argTypes:=#[t,t]})
 base e i z (size bytes) (ht:P.underlying t=ab (iJ e)) (hi:P.info? e=ab i) (hz:i.zero=ab z)
 (hsize:i.size=size) (hby:i.bytes=bytes) (hzs:z.cells.size=size) (hsz:0<size)
 v n xs (hs:a.eval s=v) (hown:w.ownsRow base e size v n xs)
 A (m c) news (hx:a.eval x=ae A m c) (hr:Cells w size A m news) (h1:∀u∈news,u.oneCell'=az)
 (h63:n+m<=eB) (hbytes:(n+m)*bytes<=140737488355328) (hbase:base<=w.heap.size)
 (h:∀v' w',w'.ownsRow base e size v' (n+m) (xs++news)->w.grownBy w' v.ownBlock->cN P ops Q rest (a.put o.dst v') w'):
 cN P ops Q (o::rest) a w:=
 D2 hgd λ_ hK=>by obtain⟨v',w',hrun,h2,h3,_,_⟩:=afz (P:=P) w base t o.type e i z size bytes ht hi hz hsize hby hzs hsz v n xs hown A m c news hr h1 h63 hbytes hbase;unfold iy execOp;simp only[ho,resolve,invoke,builtin,gx,kh,jE,oI,j5,ln,hs,hx,hrun];exact hK _ _ (h v' w' h2 h3)
end
def auI{w base n v xs}(h:w.ownsRow base 5 1 v n (xs.map a6)):∃A c,v=ae A xs.length c/\b2 w A xs:=by
 have hn:n=xs.length:=by have:=h.1;simp at this;omega
 subst hn;rcases h.2 with⟨rfl,h0⟩|⟨g,cap,cur,rfl,_⟩;·refine⟨_,0,by rw[h0],?_⟩;intro hp;omega
 .grind[b2.ot]
def aap(n:Nat)w(hn:n<=140737488355328):
 aD ax 185 #[ae af 0 0,J R n] w λe w'=>∃v,e=aB v/\w'.ownsRow w.heap.size 5 1 v 0 []/\au w w':=by
 obtain⟨i0,jd,hz0,hz1,hz2⟩:=vf Th;rcases lX n with rfl|h0;·exact(azz Tryz.ady _ 0 0 0 w (b9 _) ad ad ad).mono λ_ _ ⟨a,b⟩=>⟨_,a,BR _ _ _ _,b▸av.refl _ _⟩
 .refine(azy Tryz.ady i0 (J .u8 0) jd hz0 ad af 0 0 n [] w (b9 _) ad aH ad bg (λ_=>aa) (λa h=>bg)).mono λe w' ⟨a,b⟩=>⟨_,a,?_,?_⟩;·rw[b];have h1:=grownCap_ge w (0+n) 0 5;refine World.ownsRow_made w.drew _ _ (b9 _) (grownCap_le_maxLen w (0+n) 0 5 (by grind[eB])) ?_;simp only[Array.size_append,size_zeroCells];show _+_*1+_*1=_*1;simp only[List.size_toArray,List.length_nil];change x' w (0+n) 0 5>=0+n at h1;change 0+(0+n -0)*1+(x' w (0+n) 0 5 -(0+n))*1=x' w (0+n) 0 5*1;omega
  .rw[b];exact au.trans (av.drew _) (av.alloc _ _)
set_option maxHeartbeats 2000000 in
def Hv p A c bs w(hp:w.cell? ⟨p,0,af⟩=ab (ae A bs.length c))(hx:b2 w A bs)(h1:bs.length<=140737488355328):
 aD ax 93 #[ae (ab ⟨p,0,af⟩) 1 1] w λe w'=>∃aA aC,e=aB (ae aA bs.length aC)/\w'.ownsRow w.heap.size 5 1 (ae aA bs.length aC) bs.length (bs.map a6)/\au w w':=by
 obtain⟨i0,jd,hz0,hz1,hz2⟩:=vf Th;have dt:=hid (And.intro jd (And.intro hz0 (And.intro hz1 hz2)));have dG:=hid hx;have Ii:(0:Int)<=(bs.length:Int):=ad;have aBm:(bs.length:Int)<=140737488355328:=ad;clear jd hz0 hz1 hz2 hx;go_enter func93,ntmps93;go_wp2_with fail;refine aki 2 ?_;rw[PB];go_wp2_with fail;rw[PB];go_wp2_with (go_at_call 185;refine(aap _ w h1).mono ?_;rintro e w1 ⟨v1,rfl,hr1,hg1⟩;have uz:=hg1.cell hp (λh=>h);have hs1:=hg1.size);have bV:=hid hr1;have ef:=hid hg1;have B9:=hid (dG.out.aI hg1);clear hr1 hg1;refine aki 2 ?_;rw[PB];go_wp2_with (at_builtin;go_loud (refine ayt _ aa (.tmp 31) (.tmp 32) 22 aa w.heap.size 5 i0 _ 1 1 dW dt.out.1 dt.out.2.1 dt.out.2.2.1 dt.out.2.2.2 aa ad v1 0 [] aa bV.out A bs.length c (bs.map a6) aa (b2.cells B9.out) (xB _) (by grind[eB]) ad hs1 ?_);intro v4 b8 Iq St;simp at Iq⊢;(have pz:au w b8:=((au.to ef.out).trans (av.of_grownBy (F:=λi=>w.heap.size<=i) St (λi e=>.inl (wN bV.out i e).1)) (λ_ _ h=>h)).mono (λi hi h=>ad));have hZ:=hid (And.intro Iq pz));rw[PB];go_wp2;go_ret;obtain⟨aA,aC,rfl,_⟩:=auI hZ.out.1;exact⟨aA,aC,aa,hZ.out.1,hZ.out.2⟩
end
def asm (g:Nat) du A c l p w (gz:∀args w,(kB g args).run ax w=.ok (.enter g args) w)
 (hf:∀(W) x,x∈l->au w W->aD ax g (#[ar #[J R x.1,J R x.2]]++du) W λe w'=>e=aB (ai (p x))/\au W w') (hl:kU w A l) (fY:l.length<=1048576):
 aD ax 300 #[ae A l.length c,.func (.func g) #[] du] w λe w'=>∃r,e=aB (J R r)/\((0<=r/\l.any p=az)\/(r<0/\l.any p=ao))/\au w w':=by
 have cF:=hid hf;have cK:=hid hl;clear hf hl;go_enter func300,ntmps300;go_wp2_with fail;go_loopw [8] (λi wr=>∃k:Nat,k<=l.length/\i=J R k/\aE (∀x∈l.take k,p x=ao)/\au w wr) (λi _=>l.length -(intOf i).toNat);case atStart=>grind[hid,av.refl]
 case round=>
  obtain⟨k,hk,rfl,hno,hO⟩:=hrel;have fc:=hid hO;clear hO;by_cases hlt:k<l.length
  .have hb0:(k:Int)<(l.length:Int):=ad;obtain⟨hD,o,rfl,hcell⟩:=(cK.out.aI fc.out) ad;obtain⟨c1,c2⟩:=hcell k hlt;obtain⟨x,hx⟩:∃x,l[k]?=ab x:=⟨_,cE hlt⟩;simp only[hx,Option.getD_some]at c1 c2;have dG:=hid hx;have c6:=cF.out wr x (cX hx) fc.out;obtain⟨a,b⟩:=x;simp only at c1 c2 c6;cases hp:p (a,b)with
   |true=>
    rw[hp]at c6;have bZ:=hid hp;clear hp hx hcell;go_wp2_with (go_at_fn g;refine c6.mono ?_;clear c6;rintro e w1 ⟨rfl,hg1⟩);go_ret;exact⟨k,aa,.inl ⟨ad,List.any_eq_true.2 ⟨_,cX dG.out,bZ.out⟩⟩,au.trans fc.out hg1⟩
   |false=>
    rw[hp]at c6;have bZ:=hid hp;clear hp hx hcell;go_wp2_with (go_at_fn g;refine c6.mono ?_;clear c6;rintro e w1 ⟨rfl,hg1⟩);go_roundw
    case rel=>
     refine⟨k+1,ad,by go_num,hid (λy hy=>?_),au.trans fc.out hg1⟩;rw[List.take_add_one,dG.out]at hy;rcases List.mem_append.1 hy with hy|hy;·exact hno.out y hy
     .obtain rfl:y=(a,b):=aH;exact bZ.out
    case measure=>grind[intOf]
  .obtain rfl:k=l.length:=ad;go_wp2;go_ret;refine⟨-1,aa,.inr ⟨ad,?_⟩,fc.out⟩;have h:=hno.out;grind
def anZ (g:Nat) du A c l p w (gz:∀args w,(kB g args).run ax w=.ok (.enter g args) w)
 (hf:∀(W) x,x∈l->au w W->aD ax g (#[ar #[J R x.1,J R x.2]]++du) W λe w'=>e=aB (ai (p x))/\au W w') (hl:kU w A l) (fY:l.length<=1048576):
 aD ax 247 #[ae A l.length c,.func (.func g) #[] du] w λe w'=>e=aB (ai (l.any p))/\au w w':=by
 have c6:=hid (asm g du A c l p w gz hf hl fY);clear hf hl;cases hp:l.any p with
 |true=>
  rw[hp]at c6;clear hp;go_enter Tryz.func247,Tryz.ntmps247;go_wp2_with (go_at_call 300;have cd:=c6.out;with_reducible refine cd.mono ?_;clear cd;rintro e w1 ⟨r,rfl,hr,hg1⟩;have hd:decide (0<=r)=true:=aH);go_ret;exact⟨aa,hg1⟩
 |false=>
  rw[hp]at c6;clear hp;go_enter Tryz.func247,Tryz.ntmps247;go_wp2_with (go_at_call 300;have cd:=c6.out;with_reducible refine cd.mono ?_;clear cd;rintro e w1 ⟨r,rfl,hr,hg1⟩;have hd:decide (0<=r)=false:=aH);go_ret;exact⟨aa,hg1⟩
def A5(e x:Int×Int):Bool:=decide (x.1<e.1)||decide (e.1+e.2<x.1+x.2)
set_option maxHeartbeats 2000000 in
def an0 B(a b p q)W(h1:W.cell? ⟨B,0,af⟩=ab (J R a))(h2:W.cell? ⟨B,1,af⟩=ab (J R b))(hab:eY (a,b))(MQ:eY (p,q)):
 aD ax 360 (#[ar #[J R p,J R q]]++#[.pointer (ab ⟨B,0,af⟩)]) W λyP cP=>yP=aB (ai (A5 (a,b) (p,q)))/\au W cP:=by
 have aAH:=World.block_lt_of_cell? W _ h1
 have bJ:aE (∀w',au (W.alloc (bo _ 35)) w'->w'.cell? _=ab _/\w'.cell? _=ab _/\w'.cell? _=ab (J R p)/\w'.cell? _=ab (J R q)):=
  hid (λw' h=>⟨(au.trans (av.alloc _ _) h).cell h1 (λh=>h),(au.trans (av.alloc _ _) h).cell h2 (λh=>h),h.cell (yH _ _ _ _).1 (λh=>h),h.cell (yH _ _ _ _).2 (λh=>h)⟩);have K4:aE (au W (W.alloc (bo #[J R p,J R q] 35))):=hid (av.alloc _ _);obtain⟨e0,hr1⟩:=ex (a+b);obtain⟨fJ,hr2⟩:=ex (p+q);have Xm:aE (∀w,aD _ _ _ w λe w'=>e=aB (J _ e0)/\au w w'):=hid (λw=>by rw[<-hr1];exact l1 a b w hab.1 hab.2.1 hab.2.2);have Xn:aE (∀w,aD _ _ _ w λe w'=>e=aB (J _ fJ)/\au w w'):=hid (λw=>by rw[<-hr2];exact l1 p q w MQ.1 MQ.2.1 MQ.2.2);have bV:aE (A5 (a,b) (p,q)=(decide (p<a)||decide (e0<fJ))):=hid (by grind[A5]);clear h1 h2 hr1 hr2 hab MQ;by_cases Fh:p<a;·have hd:decide (p<a)=true:=aH;have G5:aE (A5 _ _=az):=hid (by rw[bV.out,hd];rfl);rw[G5.out];clear Fh bV G5;go_enter Tryz.func360,Tryz.ntmps360;go_wp2_with fail;generalize W.alloc (bo #[J R p,J R q] 35)=aq at*;generalize W.heap.size=C at*;obtain⟨gn,z2,z3,z4⟩:=bJ.out aq (av.refl _ _);go_quiet (fail);go_wp2;go_ret;exact⟨aa,au.trans K4.out (av.drewN _ _)⟩
 .have hd:decide (p<a)=false:=aH;have G5:aE (A5 _ _=decide (e0<fJ)):=hid (by rw[bV.out,hd];rfl);rw[G5.out];clear Fh bV G5;go_enter Tryz.func360,Tryz.ntmps360;go_wp2_with fail;generalize W.alloc (bo #[J R p,J R q] 35)=aq at*;generalize W.heap.size=C at*
  go_region_held3 (λw'=>w'.cell? ⟨B,0,af⟩=ab (J R a)/\w'.cell? ⟨B,1,af⟩=ab (J R b)/\w'.cell? ⟨C,0,af⟩=ab (J R p)/\w'.cell? ⟨C,1,af⟩=ab (J R q))
   (first
     |exact bJ.out _ (av.drew _)
     |exact bJ.out _ hb
     |exact bJ.out _ ha)
   (first
     |(go_at_call 117;have cd:=Xn.out jj;with_reducible refine cd.mono ?_;clear cd;rintro e pP ⟨rfl,hb0⟩;have hb:au aq pP:=au.trans ha hb0)
     |(go_at_call 117;have cd:=Xm.out jj;with_reducible refine cd.mono ?_;clear cd;rintro e pP ⟨rfl,hb0⟩;have hb:=au.trans ha hb0)
     |(go_at_call 117;have cd:=Xm.out aq.drew;with_reducible refine cd.mono ?_;clear cd;rintro e jj ⟨rfl,ha0⟩;have ha:au aq jj:=au.trans (av.drew _) ha0)
     |(go_at_call 117;have cd:=Xn.out aq.drew;with_reducible refine cd.mono ?_;clear cd;rintro e jj ⟨rfl,ha0⟩;have ha:=au.trans (av.drew _) ha0))
  all_goals
   go_wp2;go_ret;exact⟨aa,au.trans K4.out hb⟩
def apk args w:(kB 360 args).run ax w=.ok (.enter 360 args) w:=bc
theorem Hw(a b)A c l w(hab:eY (a,b))(hv:∀x∈l,eY x)(hl:kU w A l)(fY:l.length<=1048576)r(hr:l.any (A5 (a,b))=!r):
 aD ax 330 #[ar #[J R a,J R b],ae A l.length c] w λe w'=>e=aB (ai r)/\au w w':=by
 have ef:aE (au w (w.alloc (bo #[J R a,J R b] 35))):=hid (av.alloc _ _);have hcc:=yH w (J R a) (J R b) 35;have c6:=hid (anZ 360 _ A c l (A5 _) _ apk (λW x hx dg=>an0 _ a b _ _ W (dg.cell hcc.1 (λh=>h)) (dg.cell hcc.2 (λh=>h)) hab (hv x hx)) (hl.aI ef.out) fY);rw[hr]at c6;clear hab hv hl hr hcc;go_enter func330,ntmps330;go_wp2_with (go_at_call 247;have cd:=c6.out;with_reducible refine cd.mono ?_;clear cd;rintro e w1 ⟨rfl,hg⟩);go_ret;exact⟨bg,au.trans ef.out hg⟩
def aa4(to n a b)w(ht:eY (to,n))(he:eY (a,b))(hb:0<b)(h1:to<=a)(h2:a+b<=to+n):
 aD ax 298 #[ar #[J R to,J R n],ar #[J R a,J R b]] w λe w'=>e=aB (ai az)/\au w w':=by
 have hk:=yH w (J R to) (J R n) 338;have hd:decide (0<b)=true:=aH;have GX:aE (au w ((w.alloc (bo #[J R to,J R n] 338)).alloc (bo #[J R a,J R b] 35))):=hid (au.trans (av.alloc _ _) (av.alloc _ _))
 have c6:aE (∀W B,W.heap[B]?=ab (bo #[J R a,J R b] 35 (0,0))->aD _ 330 #[ar _,ae (ab ⟨B,0,af⟩) 1 1] W λe w'=>e=aB _/\au W w'):=hid (λW B kp=>
  Hw to n (ab ⟨B,0,af⟩) 1 [(a,b)] W ht (λx hx=>(show x=(a,b) by grind)▸he) (λ_=>⟨B,0,rfl,λj hj=>by obtain rfl:j=0:=aH;exact⟨fE _ _ 0 _ _ _ kp,fE _ _ 1 _ _ _ kp⟩⟩) bg az (by grind[A5]));clear ht he hb h1 h2;go_enter func298,ntmps298;go_wp2_with (go_at_call 330;refine(c6.out _ _ (abr _ _ ?hh _)).mono ?_;(case hh=>simp);rintro e w1 ⟨rfl,hg⟩);go_ret;exact⟨aa,au.trans GX.out (au.trans (av.alloc _ _) hg)⟩
end Go.Proofs.YtcmhplknoglbkaaGreat
