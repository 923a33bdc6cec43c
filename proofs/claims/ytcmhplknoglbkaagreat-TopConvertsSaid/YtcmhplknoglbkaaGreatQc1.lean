/- Part 1 of the proof of TopConvertsSaid. -/
import Derived.Deep.LoopGhost
import Derived.Maps.AppendAt
import Derived.Lib.LazyBuf
import Derived.Shelf.Spec.SlicesGrow
import Derived.Ground.Names7Prog
import Derived.Test.YtcmhplknoglbkaaGreatProg
import Derived.Deep.AppendLies
import Derived.Test.YtcmhplknoglbkaaGreatQc0
set_option linter.all false
set_option maxRecDepth 100000
set_option maxHeartbeats 4000000
open Go.Proofs.Tryz
open Bool renaming false->au,true->aB
open Go.Builtin renaming append->wg,append_->oN,firstCells->ra,lenOf->wh
open Go.Callee renaming builtin->n2
open Go renaming Calls->aD,World->aM,bodyPost_ret->dn,callFunc->kj,cell_of_row->eB,grownCap->xV,heap_alloc_new->fe,info_parts->rf,maxLen->dN,results_cell_tmp->Ba,rounds_succ->Pl,run_underlying->gF,wpList->cG,wpList_plain->Dq,wp_loop_rounds->aiw
open Go.Ending renaming returned->aA
open Go.IntKind renaming i64->R
open Go.Obj renaming cells->bc
open Go.Oper renaming wp->hB
open Go.Proofs.Any8 renaming slices_Grow_grow->axH,slices_Grow_room->axI
open Go.Proofs.Lays8 renaming n4->axR
open Go.Proofs.Tryz renaming prog->ax,underlying22->dI
open Go.Result renaming andThen_ok->ji
open Go.RowKit renaming Hid->aE
open Go.Sem renaming run_bind->gj,run_pure->jR
open Go.TypeDesc renaming slice->hT
open Go.Value renaming agg->av,bool->ak,int->J,slice->ad,tuple->bg
open Go.World.ownsRow renaming lt->wC
open Go.World renaming ownsRow_nil->A9
open List renaming eq_nil_of_length_eq_zero->jH,getElem?_eq_getElem->cj,map_cons->jx,map_nil->kC,map_toArray->og,mem_map->gV,mem_of_getElem?->cL
open Nat renaming eq_zero_or_pos->lJ,le_refl->cm
open Option renaming none->af,some->ab
namespace Go.Proofs.YtcmhplknoglbkaaGreat
open Go.RowKit Go.MapKept
def bR(w:aM)(A:Option Addr)(bs:List Int):Prop:=
 0<bs.length->∃b off,A=ab ⟨b,off,af⟩/\∀j,j<bs.length->w.cell? ⟨b,off+j,af⟩=ab (J .u8 (bs[j]?.getD 0))
theorem bR.nil{w A}:bR w A []:=λh=>absurd h aT
def bR.only{F w w' A bs}(h:bR w A bs)(k:ar F w w')(hn:∀b off,A=ab ⟨b,off,af⟩->¬F b):bR w' A bs:=λhp=>by obtain⟨b,off,rfl,hc⟩:=h hp;exact⟨b,_,rfl,λj hj=>k.cell (hc j hj) (hn b _ aa)⟩
def bR.aH{w w' A bs}(h:bR w A bs)(k:aq w w'):bR w' A bs:=h.only k (λ_ _ _ hf=>hf)
structure bG where
 k:Int
 to:Int
 fr:Int
 n:Int
 data:List Int
abbrev mz(m:bG)(A:Option Addr)(c:Nat):Value:=av #[J R m.k,J R m.to,J R m.fr,J R m.n,ad A m.data.length c]
def cS(m:bG):Int:=if m.k=1 then m.n else(m.data.length:Int)
def b8(m:bG):Int×Int:=(m.to,cS m)
def src(m:bG):Int×Int:=(m.fr,m.n)
def Yw(w:aM)(a b c d e)t:(w.alloc (bc #[a,b,c,d,e] t)).cell? ⟨w.heap.size,0,af⟩=ab a/\(w.alloc (bc #[a,b,c,d,e] t)).cell? ⟨w.heap.size,1,af⟩=ab b/\(w.alloc (bc #[a,b,c,d,e] t)).cell? ⟨w.heap.size,2,af⟩=ab c/\(w.alloc (bc #[a,b,c,d,e] t)).cell? ⟨w.heap.size,3,af⟩=ab d/\(w.alloc (bc #[a,b,c,d,e] t)).cell? ⟨w.heap.size,4,af⟩=ab e:=
 ⟨eB _ _ 0 _ _ _ (fe w _),eB _ _ 1 _ _ _ (fe w _),eB _ _ 2 _ _ _ (fe w _),eB _ _ 3 _ _ _ (fe w _),eB _ _ 4 _ _ _ (fe w _)⟩
def aaA(w:aM)B(ic:w.heap.size=B)o:(w.alloc o).heap[B]?=ab o:=by grind[fe]
def Nu{ao w' B x y t}(h:ao.heap[B]?=ab (bc #[x,y] t (0,0)))(g:aq ao w'):
 w'.cell? ⟨B,0,af⟩=ab x/\w'.cell? ⟨B,1,af⟩=ab y/\w'.frozen? ⟨B,0,af⟩=au/\w'.frozen? ⟨B,1,af⟩=false:=by
 have h2:=g.heap h (λh=>h);grind[World.cell?,World.frozen?]
def atn{CY ao w' B x y t}(h:ao.heap[B]?=ab (bc #[x,y] t (0,0)))(g0:aq CY ao)(g:aq ao w')(ic:CY.heap.size<=B)(u v):
 ((w'.setCell ⟨B,0,af⟩ u).setCell ⟨B,1,af⟩ v).cell? ⟨B,0,af⟩=ab u/\((w'.setCell ⟨B,0,af⟩ u).setCell ⟨B,1,af⟩ v).cell? ⟨B,1,af⟩=ab v/\aq CY ((w'.setCell ⟨B,0,af⟩ u).setCell ⟨B,1,af⟩ v):=by
 obtain⟨h1,h2,_,_⟩:=Nu h g;obtain⟨a,b⟩:=Ub w' B x y u v h1 h2;refine⟨a,b,?_⟩;have q:=((aq.trans g0 g).mono (G:=λi=>i=B) (λ_ _ h=>h.elim)).trans ((ar.setCell (F:=λi=>i=B) w' (p:=⟨B,0,af⟩) aa u).trans (ar.setCell (F:=λi=>i=B) _ (p:=⟨B,1,af⟩) aa v) (λ_ _ h=>h)) (λ_ _ h=>h);exact q.mono (λi hi h=>ae)
def fb(k n:Int)(m:Nat):Int:=if k=1 then n else(m:Int)
def MK(k to fr n)A(m c)w:
 aD ax 220 #[av #[J R k,J R to,J R fr,J R n,ad A m c]] w λe w'=>e=aA (av #[J R to,J R (fb k n m)])/\aq w w':=by
 by_cases hk:k=1;·subst hk;show aD _ _ _ _ λe w'=>e=aA (av #[J R to,J R n])/\aq w w';go_enter Tryz.func220,Tryz.ntmps220;go_wp2;refine dn (v:=_) ?_ aa ⟨aa,aq.trans (ar.alloc _ _) (ar.alloc _ _)⟩;rw[xy aa];go_simp
 .have hd:(k==1)=false:=aF;have ht:fb k n m=(m:Int):=if_neg hk;rw[ht];clear hk ht;go_enter Tryz.func220,Tryz.ntmps220;go_wp2;refine dn (v:=_) ?_ aa ⟨aa,aq.trans (ar.alloc _ _) (ar.alloc _ _)⟩;rw[xy aa];go_simp
def uE(k to fr n)A(m c)w:
 aD ax 136 #[av #[J R k,J R to,J R fr,J R n,ad A m c]] w λe w'=>e=aA (av #[J R to,J R (fb k n m)])/\aq w w':=by
 obtain⟨r,hr⟩:=ex (fb k n m);have c0:=hid (λW=>MK k to fr n A m c W);simp only[hr]at c0⊢;clear hr;have qH:∀w:aM,(Instr.field 338 (av #[J R to,J R r]) 0).run ax w=.ok (av #[J R to,J R r]) w:=λ_=>by rfl
 go_enter func136,ntmps136;have ff:=hid (aaA (w.alloc (bc #[J R k,J R to,J R fr,J R n,ad A m c] 73)) (w.heap.size+1) aT (bc #[J R 0,J R 0] 35));have eG:aE (aq w ((w.alloc (bc #[J R k,J R to,J R fr,J R n,ad A m c] 73)).alloc (bc #[J R 0,J R 0] 35))):=hid (aq.trans (ar.alloc _ _) (ar.alloc _ _));go_wp2_with (go_at_call 220;refine(c0.out _).mono ?_;rintro e w1 ⟨rfl,hg⟩;obtain⟨e9,z2,z3,z4⟩:=Nu ff.out hg);obtain⟨iv,bp,c7⟩:=atn ff.out eG.out hg ae (J R to) (J R r);refine dn (v:=_) ?_ aa ⟨aa,c7⟩;rw[xy aa];go_simp
def y4(to fr n)A(m c)w:
 aD ax 79 #[av #[J R 1,J R to,J R fr,J R n,ad A m c]] w λe w'=>e=aA (bg #[av #[J R fr,J R n],ak aB])/\aq w w':=by
 go_enter Tryz.func79,Tryz.ntmps79;go_wp2;refine dn (v:=_) ?_ aa ⟨aa,aq.trans (ar.alloc _ _) (ar.alloc _ _)⟩;rw[Ba aa];go_simp
def y5(k to fr n)A(m c)w(hk:k≠1):
 aD ax 79 #[av #[J R k,J R to,J R fr,J R n,ad A m c]] w λe w'=>e=aA (bg #[av #[J R 0,J R 0],ak au])/\aq w w':=by
 have hd:(k !=1)=true:=aF;clear hk;go_enter Tryz.func79,Tryz.ntmps79;go_wp2;refine dn (v:=_) ?_ aa ⟨aa,aq.trans (ar.alloc _ _) (ar.alloc _ _)⟩;rw[Ba aa];go_simp
def YI(to fr n)w:
 aD ax 101 #[J R to,J R fr,J R n] w λe w'=>e=aA (av #[J R 1,J R to,J R fr,J R n,ad af 0 0])/\aq w w':=by
 go_enter func101,ntmps101;go_wp2;refine dn (v:=_) ?_ aa ⟨aa,ar.alloc _ _⟩;rw[xy aa];go_simp
def wS(k to fr n:Int)(m:Nat):Prop:=(k=1/\eD (to,n)/\eD (fr,n)/\0<n/\m=0)\/(k=2/\eD (to,(m:Int))/\fr=0/\n=0/\0<m)
def xB(a b)w(h:eD (a,b)):
 aD ax 115 #[av #[J R a,J R b]] w λe w'=>e=aA (ak aB)/\aq w w':=by
 obtain⟨h1,h2,h3⟩:=h;simp only at h1 h2 h3;have hx:=afx a b w ⟨ae,ae⟩ ⟨ae,ae⟩;grind[FF,eD]
theorem wS.b8{k to fr n m}(h:wS k to fr n m):eD (to,fb k n m)/\0<fb k n m:=by
 rcases h with⟨rfl,h1,h2,h3,rfl⟩|⟨rfl,h1,rfl,rfl,h3⟩;·exact⟨h1,h3⟩
 .exact⟨h1,by show(0:Int)<(m:Int);omega⟩
set_option maxHeartbeats 2000000 in
def alx(k to fr n)A(m c)w(h:wS k to fr n m):
 aD ax 200 #[av #[J R k,J R to,J R fr,J R n,ad A m c]] w λe w'=>e=aA (J R 0)/\aq w w':=by
 have eM:=hid h.b8;have P1:=hid (λW=>MK k to fr n A m c W);obtain⟨r,hr⟩:=ex (fb k n m);simp only[hr]at P1 eM;have P4:=eM.out.2;have uj:(r==0)=false:=aF;have cA:=hid (λW=>xB to r W eM.out.1);have hb:=Yw w (J R k) (J R to) (J R fr) (J R n) (ad A m c) 73;have HB:=hid hb;have I:aE (∀w',aq _ w'->w'.cell? _=ab _/\w'.cell? _=ab _/\w'.cell? _=ab _/\w'.cell? _=ab _):=hid (λw' g=>⟨g.cell HB.out.1 (λh=>h),g.cell HB.out.2.2.1 (λh=>h),g.cell HB.out.2.2.2.1 (λh=>h),g.cell HB.out.2.2.2.2 (λh=>h)⟩);have eG:aE (aq w (w.alloc (bc #[J R k,J R to,J R fr,J R n,ad A m c] 73))):=hid (ar.alloc _ _);have cP:=hid h;clear hb hr h P4;rcases cP.out with⟨rfl,h1,h2,h3,rfl⟩|⟨rfl,h1,rfl,rfl,h3⟩
 .have Ko:=hid (λW=>xB fr n W h2);clear h1 h2 h3 cP;go_enter Tryz.func200,Tryz.ntmps200
  go_wp2_with (first
   |(go_at_call 115;have b0:=Ko.out aR;with_reducible refine b0.mono ?_;clear b0;rintro e bL ⟨rfl,hg3⟩)
   |(go_at_call 115;go_loud (refine(cA.out _).mono ?_);rintro e aR ⟨rfl,hg2⟩;obtain⟨iv,bp,c7,iw⟩:=I.out aR (aq.trans hg1 (aq.trans (ar.alloc _ _) hg2)))
   |(go_at_call 220;refine(P1.out _).mono ?_;rintro e w1 ⟨rfl,hg1⟩;obtain⟨e9,z2,z3,z4⟩:=I.out w1 hg1));go_ret;exact⟨aa,aq.trans eG.out (aq.trans hg1 (aq.trans (ar.alloc _ _) (aq.trans hg2 hg3)))⟩
 .clear h1 h3 cP;go_enter Tryz.func200,Tryz.ntmps200
  go_wp2_with (first
   |(go_at_call 115;go_loud (refine(cA.out _).mono ?_);rintro e aR ⟨rfl,hg2⟩;obtain⟨iv,bp,c7,iw⟩:=I.out aR (aq.trans hg1 (aq.trans (ar.alloc _ _) hg2)))
   |(go_at_call 220;refine(P1.out _).mono ?_;rintro e w1 ⟨rfl,hg1⟩;obtain⟨e9,z2,z3,z4⟩:=I.out w1 hg1));go_ret;exact⟨aa,aq.trans eG.out (aq.trans hg1 (aq.trans (ar.alloc _ _) hg2))⟩
set_option maxHeartbeats 2000000 in
def asH(k to fr n)A(m c)w(hk:k≠1):
 aD ax 297 #[av #[J R k,J R to,J R fr,J R n,ad A m c]] w λe w'=>e=aA (ak au)/\aq w w':=by
 have c0:=hid (λW=>y5 k to fr n A m c W hk);clear hk;go_enter Tryz.func297,Tryz.ntmps297;go_wp2_with (go_at_call 79;refine(c0.out _).mono ?_;rintro e w1 ⟨rfl,hg1⟩);go_ret;exact⟨aa,aq.trans (ar.alloc _ _) (aq.trans hg1 (ar.alloc _ _))⟩
set_option maxHeartbeats 4000000 in
def asG(to fr n)A(m c)w(h1:eD (to,n))(h2:eD (fr,n)):
 aD ax 297 #[av #[J R 1,J R to,J R fr,J R n,ad A m c]] w λe w'=>e=aA (ak (meets (fr,n) (to,n)))/\aq w w':=by
 have c0:=hid (λW=>y4 to fr n A m c W);have eM:aE (∀W,aD _ _ _ W λe w'=>e=aA (av #[J _ to,J _ n])/\aq W w'):=hid (λW=>uE 1 to fr n A m c W);obtain⟨r,hr⟩:=ex (meets (fr,n) (to,n));obtain⟨fa,et,en⟩:∃fa et,kM (fr,n) (to,n)=(fa,et):=⟨_,_,aa⟩
 have du:aE (∀W,aD _ _ _ W λe w'=>e=aA (bg #[av #[J _ fa,J _ et],ak r])/\aq W w'):=hid (λW=>by have h:=MT fr n to n W h2 h1;rw[en,hr]at h;exact h);rw[hr];have HB:=hid (Yw w (J R 1) (J R to) (J R fr) (J R n) (ad A m c) 73);have eG:aE (aq w (w.alloc (bc #[J R 1,J R to,J R fr,J R n,ad A m c] 73))):=hid (ar.alloc _ _);clear hr en h1 h2;go_enter Tryz.func297,Tryz.ntmps297;go_wp2_with (go_at_call 79;refine(c0.out _).mono ?_;rintro e w1 ⟨rfl,hg1⟩)
 have I:aE (∀w',aq (w1.alloc _) w'->w'.cell? _=ab _/\w'.cell? _=ab _/\w'.cell? _=ab _/\w'.cell? _=ab _/\w'.cell? _=ab _/\w'.cell? _=ab _/\w'.cell? _=ab _):=hid (λw' g=>by have g1:=aq.trans hg1 (aq.trans (ar.alloc _ _) g);obtain⟨eR,eY,sC,Yf,Yg⟩:=HB.out;obtain⟨bB,b7⟩:=yj w1 (J R fr) (J R n) 35;exact⟨g1.cell eR (λh=>h),g1.cell eY (λh=>h),g1.cell sC (λh=>h),g1.cell Yf (λh=>h),g1.cell Yg (λh=>h),g.cell bB (λh=>h),g.cell b7 (λh=>h)⟩);have uY:aE (aq w (w1.alloc (bc #[J R fr,J R n] 35))):=hid (aq.trans eG.out (aq.trans hg1 (ar.alloc _ _)));clear hg1;generalize w1.alloc (bc #[J R fr,J R n] 35)=hY at*;generalize w1.heap.size=da at*;generalize ic:w.heap.size=B at*;have uX:aE (∀w',aq _ w'->w'.cell? _=ab (J R 0)/\w'.cell? _=ab (J R 0)/\w'.frozen? _=au/\w'.frozen? ⟨hY.heap.size,1,_⟩=au):=hid (λw' g=>Nu (fe hY.drew (bc _ 35)) g)
 have eJ:aE (∀w1 B u v,aq hY w1->hY.heap.size<=B->aq hY _):=hid (λw1 B u v h ic=>by have q:=(h.mono (G:=λi=>i=B) (λ_ _ h=>h.elim)).trans ((ar.setCell (F:=λi=>i=B) w1 (p:=⟨B,0,af⟩) aa u).trans (ar.setCell (F:=λi=>i=B) _ (p:=⟨B,1,af⟩) aa v) (λ_ _ h=>h)) (λ_ _ h=>h);exact q.mono (λi hi h=>ae))
 go_region_held3 (λw'=>w'.cell? ⟨B,0,af⟩=ab (J R 1)/\w'.cell? ⟨B,1,af⟩=ab (J R to)/\w'.cell? ⟨B,2,af⟩=ab (J R fr)/\w'.cell? ⟨B,3,af⟩=ab (J R n)/\w'.cell? ⟨B,4,af⟩=ab (ad A m c)/\w'.cell? ⟨da,0,af⟩=ab (J R fr)/\w'.cell? ⟨da,1,af⟩=ab (J R n))
  (first
    |exact I.out _ (ar.drew _)
    |exact I.out _ (aq.trans (ar.drew _) (ar.alloc _ _))
    |exact I.out _ hb
    |exact I.out _ (aq.trans hb (ar.alloc _ _))
    |exact I.out _ ha
    |exact I.out _ (aq.trans ha (ar.alloc _ _))
    |exact I.out _ (eJ.out _ _ _ _ hb (cm _))
    |exact I.out _ (eJ.out _ _ _ _ hb ha.size)
    |exact I.out _ (eJ.out _ _ _ _ (aq.trans hb (ar.alloc _ _)) hb.size))
  (first
    |(go_at_call 202;refine(du.out _).mono ?_;rintro e pe ⟨rfl,hb0⟩;(have hb:aq hY pe:=(by first|exact aq.trans ha hb0|exact aq.trans ha (aq.trans (ar.alloc _ _) hb0)));(try(have hz:=uX.out pe (aq.trans ha0 hb0);obtain⟨e9,z2,z3,z4⟩:=hz));(try(have hz:=Nu (fe i' (bc #[J R 0,J R 0] 35)) hb0;obtain⟨e9,z2,z3,z4⟩:=hz)))
    |(go_at_call 136;refine(eM.out _).mono ?_;rintro e i' ⟨rfl,ha0⟩;(have ha:aq hY i':=(by first|exact aq.trans (ar.drew _) ha0|exact aq.trans (ar.drew _) (aq.trans (ar.alloc _ _) ha0)))))
 all_goals
  go_wp2;go_ret
  first
   |exact⟨aa,aq.trans uY.out (eJ.out _ _ _ _ hb (cm _))⟩
   |exact⟨aa,aq.trans uY.out (eJ.out _ _ _ _ hb ha.size)⟩
   |exact⟨aa,aq.trans uY.out (aq.trans hb (ar.alloc _ _))⟩
section
def Cells(w:aM)(size:Nat)(A:Option Addr)(m:Nat)(xs:List Value):Prop:=
 xs.length=m*size/\(0<m->∃fw,A=ab fw/\∀j u,xs[j]?=ab u->w.cell? (fw.add j)=ab u)
theorem nG(b off j):(⟨b,off,af⟩:Addr).add j=⟨b,off+j,af⟩:=by grind[Addr.add]
def il(E:List (Int×Int)):List Value:=E.flatMap λe=>[J R e.1,J R e.2]
def Yy E:(il E).length=E.length*2:=by
 unfold il;induction E with
 |nil=>rfl
 |cons e r bW=>grind
def Yx E j:(il E)[j]?=(E[j/2]?).map λe=>if j%2=0 then J R e.1 else J R e.2:=by
 unfold il;induction E generalizing j with
 |nil=>simp
 |cons e r bW=>
  match j with
  |0=>simp
  |1=>simp
  |j+2=>
   have h1:(j+2)/2=j/2+1:=ae;grind[List.getElem?_cons_succ]
def jy.of_cells{w b off E}(h:∀j u,(il E)[j]?=ab u->w.cell? ⟨b,off+j,af⟩=ab u):jy w (ab ⟨b,off,af⟩) E:=λ_=>by
 refine⟨b,_,rfl,λj hj=>?_⟩;have dx:=cj hj;constructor
 .have:=h (j*2) (J R (E[j]?.getD (0,0)).1) (by rw[Yx,show j*2/2=j by omega,dx,show j*2%2=0 by omega];rfl);exact this
 .have:=h _ (J _ (E[j]?.getD (0,0)).2) (by rw[Yx,show(j*2+1)/2=j by omega,dx,show(j*2+1)%2=1 by omega];rfl);rw[<-Nat.add_assoc]at this;exact this
theorem jy.lW{w}{base e n c:Nat}{A E}(h:w.ownsRow base e 2 (ad A n c) n (il E)):jy w A E:=λhp=>by
 have hn:n=E.length:=by have:=h.1;rw[Yy]at this;omega
 rcases h.2 with⟨hv,h0⟩|⟨g,cap,cur,hv,hb,hg,iH,hcm,hcs,ht⟩;·omega
 .injection hv with h1 h2 h3;subst h1;exact jy.of_cells (λj u hu=>by have:=h.cells (g:=g) aa j u hu;rw[nG]at this;exact this) hp
def cX.cells{w A xs}(h:cX w A xs):Cells w 1 A xs.length (xs.map (J R)):=by refine⟨aT,λhp=>?_⟩;obtain⟨b,off,rfl,hc⟩:=h hp;grind[nG]
def asc E:∀u∈il E,u.oneCell'=true:=by intro u hu;unfold il at hu;obtain⟨e,_,hu⟩:=List.mem_flatMap.1 hu;simp at hu;rcases hu with rfl|rfl<;>rfl
def Ty(xs:List Int):∀u∈xs.map (J R),u.oneCell'=true:=by intro u hu;obtain⟨e,_,rfl⟩:=gV.1 hu;rfl
section
variable {P:Program} (w:aM)
def T7 base (t ty e) i z (size bytes) (ht:P.underlying t=ab (hT e)) (hi:P.info? e=ab i) (hz:i.zero=ab z)
 (hsize:i.size=size) (hby:i.bytes=bytes) (hzs:z.cells.size=size) (hsz:0<size)
 v n xs (hown:w.ownsRow base e size v n xs) A (m c) news (hr:Cells w size A m news) (h1:∀u∈news,u.oneCell'=aB)
 (h63:n+m<=dN) (hbytes:(n+m)*bytes<=140737488355328) (hbase:base<=w.heap.size):
 ∃v' w',(oN #[t,t] ty #[v,ad A m c]).run P w=.ok v' w'/\w'.ownsRow base e size v' (n+m) (xs++news)/\w.grownBy w' v.ownBlock/\
  (v'=ad af 0 0↔v=ad af 0 0/\m=0)/\(v'.ownBlock=v.ownBlock\/v'.ownBlock=ab w.heap.size):=by
 rcases A with _|fw
 .have hm:m=0:=by
   rcases lJ m with h0|h0;·omega
   .obtain⟨fw,h,_⟩:=hr.2 h0;cases h
  subst hm;have hn:=jH (by simpa using hr.1);subst hn;refine⟨v,w,?_,aF,⟨aa,aa,aa,cm _,λ_ _ _=>aa⟩,aT,.inl aa⟩;rcases hown.2 with⟨rfl,rfl⟩|⟨g,cap,cur,rfl,_,_,iH,_⟩;·simp[oN,gF ht,sizeOf,typeInfo,hi,wh,ra]
  .simp[oN,gF ht,sizeOf,typeInfo,hi,wh,ra,iH,storeCells]
 .have aav:∀j u,news[j]?=ab u->w.cell? (fw.add j)=ab u:=by
   intro j u hu;rcases lJ m with h0|h0;·subst h0;have hn:=jH (by simpa using hr.1);subst hn;simp at hu
   .obtain⟨ayc,h,hc⟩:=hr.2 h0;grind
  exact run_append_own_at (P:=P) w _ t ty e i z _ _ ht hi hz hsize hby hzs hsz v n xs hown fw m c _ hr.1 aav h1 h63 hbytes hbase
def awp {o a K Q} (s x) t
 (ho:o.op=.call {callee:=n2 wg,args:=#[s,x],argTypes:=#[t,t]})
 base e i z (size bytes) (ht:P.underlying t=ab (hT e)) (hi:P.info? e=ab i) (hz:i.zero=ab z)
 (hsize:i.size=size) (hby:i.bytes=bytes) (hzs:z.cells.size=size) (hsz:0<size)
 (g n cap) xs (hs:a.eval s=ad (ab ⟨g,0,af⟩) n cap) (hown:w.ownsRow base e size (ad (ab ⟨g,0,af⟩) n cap) n xs)
 A (m c) news (hx:a.eval x=ad A m c) (hr:Cells w size A m news) (h1:∀u∈news,u.oneCell'=aB)
 (h63:n+m<=dN) (hbytes:(n+m)*bytes<=140737488355328) (hbase:base<=w.heap.size)
 (h:∀fH kX w',w'.ownsRow base e size (ad (ab ⟨fH,0,af⟩) (n+m) kX) (n+m) (xs++news)->w.grownBy w' (ab g)->(fH=g\/fH=w.heap.size)->fH<w'.heap.size->K (a.put o.dst (ad (ab ⟨fH,0,af⟩) (n+m) kX)) w'):
 hB P o a w K Q:=by
 obtain⟨v',w',hrun,h2,h3,h4,h5⟩:=T7 (P:=P) w base t o.type e i z size bytes ht hi hz hsize hby hzs hsz _ n xs hown A m c news hr h1 h63 hbytes hbase
 have hv:∃fH kX,v'=ad (ab ⟨fH,0,af⟩) (n+m) kX:=by
  rcases h2.2 with⟨hv,_⟩|⟨fH,kX,cur,hv,_⟩;·grind
  .grind
 obtain⟨fH,kX,rfl⟩:=hv;unfold hB execOp;simp only[ho,resolve,invoke,builtin,gj,jR,ji,og,jx,kC,hs,hx,hrun];refine h fH _ w' h2 h3 ?_ (h2.lt fH aa).2;simpa [Value.ownBlock]using h5
def afI {ops rest o a Q} (hgd:o.guard=af) (s x) t
 (ho:o.op=.call {callee:=n2 wg,args:=#[s,x],argTypes:=#[t,t]})
 base e i z (size bytes) (ht:P.underlying t=ab (hT e)) (hi:P.info? e=ab i) (hz:i.zero=ab z)
 (hsize:i.size=size) (hby:i.bytes=bytes) (hzs:z.cells.size=size) (hsz:0<size)
 (g n cap) xs (hs:a.eval s=ad (ab ⟨g,0,af⟩) n cap) (hown:w.ownsRow base e size (ad (ab ⟨g,0,af⟩) n cap) n xs)
 A (m c) news (hx:a.eval x=ad A m c) (hr:Cells w size A m news) (h1:∀u∈news,u.oneCell'=aB)
 (h63:n+m<=dN) (hbytes:(n+m)*bytes<=140737488355328) (hbase:base<=w.heap.size)
 (h:∀fH kX w',w'.ownsRow base e size (ad (ab ⟨fH,0,af⟩) (n+m) kX) (n+m) (xs++news)->w.grownBy w' (ab g)->(fH=g\/fH=w.heap.size)->fH<w'.heap.size->cG P ops Q rest (a.put o.dst (ad (ab ⟨fH,0,af⟩) (n+m) kX)) w'):
 cG P ops Q (o::rest) a w:=
 Dq hgd λ_ hK=>awp w s x t ho base e i z size bytes ht hi hz hsize hby hzs hsz g n cap xs hs hown A m c news hx hr h1 h63 hbytes hbase λfH kX w' gn a2 a3 a4=>hK _ _ (h fH kX w' gn a2 a3 a4)
end
end
def S4:(ax.info? 5).map (λi=>(i.zero,i.size,i.bytes))=ab (ab (J .u8 0),1,1):=aw
abbrev a8(b:Int):Value:=J .u8 b
def bR.cells{w A xs}(h:bR w A xs):Cells w 1 A xs.length (xs.map a8):=by refine⟨aT,λhp=>?_⟩;obtain⟨b,off,rfl,hc⟩:=h hp;grind[nG]
theorem bR.lW{w}{base e n c:Nat}{A xs}(h:w.ownsRow base e 1 (ad A n c) n (xs.map a8)):bR w A xs:=λhp=>by
 have hn:=by simpa using h.1.symm
 rcases h.2 with⟨hv,h0⟩|⟨g,cap,cur,hv,hb,hg,iH,hcm,hcs,ht⟩;·omega
 .injection hv with h1 h2 h3;subst h1;refine⟨g,0,rfl,λj hj=>?_⟩;have hc:=h.cells (g:=g) aa j (J .u8 (xs[j]?.getD 0)) aF;rw[nG]at hc;exact hc
def vT(xs:List Int):∀u∈xs.map a8,u.oneCell'=true:=by intro u hu;obtain⟨e,_,rfl⟩:=gV.1 hu;rfl
def asK{w:aM}{g e size:Nat}(h:w.heap[g]?=ab (bc #[] e (0,0))):w.ownsRow g e size (ad (ab ⟨g,0,af⟩) 0 0) 0 []:=
 ⟨aT,.inr ⟨g,0,#[],aa,cm _,h,cm _,ae,aT,aT⟩⟩
def wW A c bs w(hx:bR w A bs)(h1:bs.length<=140737488355328):
 aD ax 65 #[ad A bs.length c] w λe w'=>∃az aC,e=aA (ad az bs.length aC)/\w'.ownsRow w.heap.size 5 1 (ad az bs.length aC) bs.length (bs.map a8)/\aq w w':=by
 have az6:∀(w) a (n c uv aC),(binOp _ 22 _ _).run _ w=.ok _ w:=λw a n c uv aC=>Lib.run_eql_slice_nil w _ _ a n c uv aC dI;rcases A with _|a
 .obtain rfl:bs=[]:=by
   rcases lJ bs.length with h0|h0;·grind
   .obtain⟨_,_,h,_⟩:=hx h0;cases h
  clear hx h1;go_enter Tryz.func65,Tryz.ntmps65;go_wp2;go_ret;exact⟨_,0,aa,A9 _ _ _ _,ar.refl _ _⟩
 .obtain⟨i0,gO,hz0,hz1,hz2⟩:=rf S4;have de:=hid (And.intro gO (And.intro hz0 (And.intro hz1 hz2)));have c0:=hid (bR.cells (hx.aH (ar.alloc (F:=λ_=>False) w (bc #[] 5))));have cv:=hid h1;clear hx gO hz0 hz1 hz2 h1;go_enter Tryz.func65,Tryz.ntmps65;go_wp2_with (at_builtin;go_loud (refine afI _ aa _ _ 22 aa _ 5 i0 _ 1 1 dI de.out.1 de.out.2.1 de.out.2.2.1 de.out.2.2.2 aa ae _ 0 0 [] aa (asK (fe _ _)) _ _ c _ aa c0.out (vT _) (by have:=cv.out;unfold dN;omega) (by have:=cv.out;omega) aT ?_);intro g4 ayq ca H3 Sa ayY azu;simp at H3⊢);go_ret;exact⟨_,_,aa,H3,((ar.alloc (F:=λi=>w.heap.size<=i) w _).trans (ar.of_grownBy (F:=λi=>w.heap.size<=i) Sa (λi e=>aF)) (λ_ _ h=>h)).mono (λi hi h=>ae)⟩
open Go.Shelf
def Tryz.aq2:Go.Shelf.Ren:=⟨λ|4=>185|n=>n,λ|22=>22|25=>5|3=>3|4=>4|9=>9|20=>20|0=>0|n=>n,λ|n=>n⟩
def Tryz.acs:axR ax Tryz.aq2:={
 mixed:=aS
 f4:=⟨f185.name,bh,func185.trans (congrArg ab aS)⟩
 t0:=Tryz.underlying0
 a0:=Tryz.isAgg0
 z0:=Tryz.sizeOf0
 v0:=Tryz.zeroValue0
 t3:=Tryz.underlying3
 a3:=Tryz.isAgg3
 z3:=Tryz.sizeOf3
 v3:=Tryz.zeroValue3
 t4:=Tryz.underlying4
 a4:=Tryz.isAgg4
 z4:=Tryz.sizeOf4
 v4:=Tryz.zeroValue4
 t9:=Tryz.underlying9
 a9:=Tryz.isAgg9
 z9:=Tryz.sizeOf9
 v9:=Tryz.zeroValue9
 t20:=underlying20
 a20:=isAgg20
 z20:=sizeOf20
 v20:=zeroValue20
 t22:=dI
 a22:=isAgg22
 z22:=sizeOf22
 v22:=zeroValue22}
section
section
variable {P:Program} (w:aM)
def awl {ops rest o a Q} (hgd:o.guard=af) (s x) t
 (ho:o.op=.call {callee:=n2 wg,args:=#[s,x],argTypes:=#[t,t]})
 base e i z (size bytes) (ht:P.underlying t=ab (hT e)) (hi:P.info? e=ab i) (hz:i.zero=ab z)
 (hsize:i.size=size) (hby:i.bytes=bytes) (hzs:z.cells.size=size) (hsz:0<size)
 v n xs (hs:a.eval s=v) (hown:w.ownsRow base e size v n xs)
 A (m c) news (hx:a.eval x=ad A m c) (hr:Cells w size A m news) (h1:∀u∈news,u.oneCell'=aB)
 (h63:n+m<=dN) (hbytes:(n+m)*bytes<=140737488355328) (hbase:base<=w.heap.size)
 (h:∀v' w',w'.ownsRow base e size v' (n+m) (xs++news)->w.grownBy w' v.ownBlock->cG P ops Q rest (a.put o.dst v') w'):
 cG P ops Q (o::rest) a w:=
 Dq hgd λ_ hK=>by obtain⟨v',w',hrun,h2,h3,_,_⟩:=T7 (P:=P) w base t o.type e i z size bytes ht hi hz hsize hby hzs hsz v n xs hown A m c news hr h1 h63 hbytes hbase;unfold hB execOp;simp only[ho,resolve,invoke,builtin,gj,jR,ji,og,jx,kC,hs,hx,hrun];exact hK _ _ (h v' w' h2 h3)
end
def asM{w base n v xs}(h:w.ownsRow base 5 1 v n (xs.map a8)):∃A c,v=ad A xs.length c/\bR w A xs:=by
 have hn:n=xs.length:=by have:=h.1;simp at this;omega
 subst hn;rcases h.2 with⟨rfl,h0⟩|⟨g,cap,cur,rfl,_⟩;·refine⟨_,0,by rw[h0],?_⟩;intro hp;omega
 .grind[bR.lW]
def ZM(n:Nat)w(hn:n<=140737488355328):
 aD ax 185 #[ad af 0 0,J R n] w λe w'=>∃v,e=aA v/\w'.ownsRow w.heap.size 5 1 v 0 []/\aq w w':=by
 obtain⟨i0,gO,hz0,hz1,hz2⟩:=rf S4;rcases lJ n with rfl|h0;·exact(axI Tryz.acs _ 0 0 0 w (cm _) ae ae ae).mono λ_ _ ⟨a,b⟩=>⟨_,a,A9 _ _ _ _,b▸ar.refl _ _⟩
 .refine(axH Tryz.acs i0 (J .u8 0) gO hz0 ae af 0 0 n [] w (cm _) ae aF ae aT (λ_=>aa) (λa h=>aT)).mono λe w' ⟨a,b⟩=>⟨_,a,?_,?_⟩;·rw[b];have h1:=grownCap_ge w (0+n) 0 5;refine World.ownsRow_made w.drew _ _ (cm _) (grownCap_le_maxLen w (0+n) 0 5 (by grind[dN])) ?_;simp only[Array.size_append,size_zeroCells];show _+_*1+_*1=_*1;simp only[List.size_toArray,List.length_nil];change xV w (0+n) 0 5>=0+n at h1;change 0+(0+n -0)*1+(xV w (0+n) 0 5 -(0+n))*1=xV w (0+n) 0 5*1;omega
  .rw[b];exact aq.trans (ar.drew _) (ar.alloc _ _)
set_option maxHeartbeats 2000000 in
def G6 p A c bs w(hp:w.cell? ⟨p,0,af⟩=ab (ad A bs.length c))(hx:bR w A bs)(h1:bs.length<=140737488355328):
 aD ax 93 #[ad (ab ⟨p,0,af⟩) 1 1] w λe w'=>∃az aC,e=aA (ad az bs.length aC)/\w'.ownsRow w.heap.size 5 1 (ad az bs.length aC) bs.length (bs.map a8)/\aq w w':=by
 obtain⟨i0,gO,hz0,hz1,hz2⟩:=rf S4;have de:=hid (And.intro gO (And.intro hz0 (And.intro hz1 hz2)));have dO:=hid hx;have HX:(0:Int)<=(bs.length:Int):=ae;have azv:(bs.length:Int)<=140737488355328:=ae;clear gO hz0 hz1 hz2 hx;go_enter func93,ntmps93;go_wp2_with fail;refine aiw 2 ?_;rw[Pl];go_wp2_with fail;rw[Pl];go_wp2_with (go_at_call 185;refine(ZM _ w h1).mono ?_;rintro e w1 ⟨v1,rfl,hr1,hg1⟩;have ug:=hg1.cell hp (λh=>h);have hs1:=hg1.size);have bJ:=hid hr1;have eG:=hid hg1;have Bo:=hid (dO.out.aH hg1);clear hr1 hg1;refine aiw 2 ?_;rw[Pl];go_wp2_with (at_builtin;go_loud (refine awl _ aa (.tmp 31) (.tmp 32) 22 aa w.heap.size 5 i0 _ 1 1 dI de.out.1 de.out.2.1 de.out.2.2.1 de.out.2.2.2 aa ae v1 0 [] aa bJ.out A bs.length c (bs.map a8) aa (bR.cells Bo.out) (vT _) (by grind[dN]) ae hs1 ?_);intro v4 ca H3 Sa;simp at H3⊢;(have o2:aq w ca:=((aq.to eG.out).trans (ar.of_grownBy (F:=λi=>w.heap.size<=i) Sa (λi e=>.inl (wC bJ.out i e).1)) (λ_ _ h=>h)).mono (λi hi h=>ae));have hU:=hid (And.intro H3 o2));rw[Pl];go_wp2;go_ret;obtain⟨az,aC,rfl,_⟩:=asM hU.out.1;exact⟨az,aC,aa,hU.out.1,hU.out.2⟩
end
def aql (g:Nat) dB A c l p w (gp:∀args w,(kj g args).run ax w=.ok (.enter g args) w)
 (hf:∀(W) x,x∈l->aq w W->aD ax g (#[av #[J R x.1,J R x.2]]++dB) W λe w'=>e=aA (ak (p x))/\aq W w') (hl:jy w A l) (gb:l.length<=1048576):
 aD ax 300 #[ad A l.length c,.func (.func g) #[] dB] w λe w'=>∃r,e=aA (J R r)/\((0<=r/\l.any p=aB)\/(r<0/\l.any p=au))/\aq w w':=by
 have cp:=hid hf;have cv:=hid hl;clear hf hl;go_enter func300,ntmps300;go_wp2_with fail;go_loopw [8] (λi wr=>∃k:Nat,k<=l.length/\i=J R k/\aE (∀x∈l.take k,p x=au)/\aq w wr) (λi _=>l.length -(intOf i).toNat);case atStart=>grind[hid,ar.refl]
 case round=>
  obtain⟨k,hk,rfl,hno,hO⟩:=hrel;have du:=hid hO;clear hO;by_cases hlt:k<l.length
  .have hb0:(k:Int)<(l.length:Int):=ae;obtain⟨fT,o,rfl,hcell⟩:=(cv.out.aH du.out) ae;obtain⟨c1,c2⟩:=hcell k hlt;obtain⟨x,hx⟩:∃x,l[k]?=ab x:=⟨_,cj hlt⟩;simp only[hx,Option.getD_some]at c1 c2;have dO:=hid hx;have c0:=cp.out wr x (cL hx) du.out;obtain⟨a,b⟩:=x;simp only at c1 c2 c0;cases hp:p (a,b)with
   |true=>
    rw[hp]at c0;have bI:=hid hp;clear hp hx hcell;go_wp2_with (go_at_fn g;refine c0.mono ?_;clear c0;rintro e w1 ⟨rfl,hg1⟩);go_ret;exact⟨k,aa,.inl ⟨ae,List.any_eq_true.2 ⟨_,cL dO.out,bI.out⟩⟩,aq.trans du.out hg1⟩
   |false=>
    rw[hp]at c0;have bI:=hid hp;clear hp hx hcell;go_wp2_with (go_at_fn g;refine c0.mono ?_;clear c0;rintro e w1 ⟨rfl,hg1⟩);go_roundw
    case rel=>
     refine⟨k+1,ae,by go_num,hid (λy hy=>?_),aq.trans du.out hg1⟩;rw[List.take_add_one,dO.out]at hy;rcases List.mem_append.1 hy with hy|hy;·exact hno.out y hy
     .obtain rfl:y=(a,b):=aF;exact bI.out
    case measure=>grind[intOf]
  .obtain rfl:k=l.length:=ae;go_wp2;go_ret;refine⟨-1,aa,.inr ⟨ae,?_⟩,du.out⟩;have h:=hno.out;grind
def alS (g:Nat) dB A c l p w (gp:∀args w,(kj g args).run ax w=.ok (.enter g args) w)
 (hf:∀(W) x,x∈l->aq w W->aD ax g (#[av #[J R x.1,J R x.2]]++dB) W λe w'=>e=aA (ak (p x))/\aq W w') (hl:jy w A l) (gb:l.length<=1048576):
 aD ax 247 #[ad A l.length c,.func (.func g) #[] dB] w λe w'=>e=aA (ak (l.any p))/\aq w w':=by
 have c0:=hid (aql g dB A c l p w gp hf hl gb);clear hf hl;cases hp:l.any p with
 |true=>
  rw[hp]at c0;clear hp;go_enter Tryz.func247,Tryz.ntmps247;go_wp2_with (go_at_call 300;have b0:=c0.out;with_reducible refine b0.mono ?_;clear b0;rintro e w1 ⟨r,rfl,hr,hg1⟩;have hd:decide (0<=r)=true:=aF);go_ret;exact⟨aa,hg1⟩
 |false=>
  rw[hp]at c0;clear hp;go_enter Tryz.func247,Tryz.ntmps247;go_wp2_with (go_at_call 300;have b0:=c0.out;with_reducible refine b0.mono ?_;clear b0;rintro e w1 ⟨r,rfl,hr,hg1⟩;have hd:decide (0<=r)=false:=aF);go_ret;exact⟨aa,hg1⟩
def Ay(e x:Int×Int):Bool:=decide (x.1<e.1)||decide (e.1+e.2<x.1+x.2)
set_option maxHeartbeats 2000000 in
def alT B(a b p q)W(h1:W.cell? ⟨B,0,af⟩=ab (J R a))(h2:W.cell? ⟨B,1,af⟩=ab (J R b))(hab:eD (a,b))(L4:eD (p,q)):
 aD ax 360 (#[av #[J R p,J R q]]++#[.pointer (ab ⟨B,0,af⟩)]) W λyr cK=>yr=aA (ak (Ay (a,b) (p,q)))/\aq W cK:=by
 have ayO:=World.block_lt_of_cell? W _ h1
 have b9:aE (∀w',aq (W.alloc (bc _ 35)) w'->w'.cell? _=ab _/\w'.cell? _=ab _/\w'.cell? _=ab (J R p)/\w'.cell? _=ab (J R q)):=
  hid (λw' h=>⟨(aq.trans (ar.alloc _ _) h).cell h1 (λh=>h),(aq.trans (ar.alloc _ _) h).cell h2 (λh=>h),h.cell (yj _ _ _ _).1 (λh=>h),h.cell (yj _ _ _ _).2 (λh=>h)⟩);have J8:aE (aq W (W.alloc (bc #[J R p,J R q] 35))):=hid (ar.alloc _ _);obtain⟨dV,hr1⟩:=ex (a+b);obtain⟨ez,hr2⟩:=ex (p+q);have WV:aE (∀w,aD _ _ _ w λe w'=>e=aA (J _ dV)/\aq w w'):=hid (λw=>by rw[<-hr1];exact lN a b w hab.1 hab.2.1 hab.2.2);have WW:aE (∀w,aD _ _ _ w λe w'=>e=aA (J _ ez)/\aq w w'):=hid (λw=>by rw[<-hr2];exact lN p q w L4.1 L4.2.1 L4.2.2);have bJ:aE (Ay (a,b) (p,q)=(decide (p<a)||decide (dV<ez))):=hid (by grind[Ay]);clear h1 h2 hr1 hr2 hab L4;by_cases EI:p<a;·have hd:decide (p<a)=true:=aF;have Gz:aE (Ay _ _=aB):=hid (by rw[bJ.out,hd];rfl);rw[Gz.out];clear EI bJ Gz;go_enter Tryz.func360,Tryz.ntmps360;go_wp2_with fail;generalize W.alloc (bc #[J R p,J R q] 35)=ao at*;generalize W.heap.size=C at*;obtain⟨e9,z2,z3,z4⟩:=b9.out ao (ar.refl _ _);go_quiet (fail);go_wp2;go_ret;exact⟨aa,aq.trans J8.out (ar.drewN _ _)⟩
 .have hd:decide (p<a)=false:=aF;have Gz:aE (Ay _ _=decide (dV<ez)):=hid (by rw[bJ.out,hd];rfl);rw[Gz.out];clear EI bJ Gz;go_enter Tryz.func360,Tryz.ntmps360;go_wp2_with fail;generalize W.alloc (bc #[J R p,J R q] 35)=ao at*;generalize W.heap.size=C at*
  go_region_held3 (λw'=>w'.cell? ⟨B,0,af⟩=ab (J R a)/\w'.cell? ⟨B,1,af⟩=ab (J R b)/\w'.cell? ⟨C,0,af⟩=ab (J R p)/\w'.cell? ⟨C,1,af⟩=ab (J R q))
   (first
     |exact b9.out _ (ar.drew _)
     |exact b9.out _ hb
     |exact b9.out _ ha)
   (first
     |(go_at_call 117;have b0:=WW.out i';with_reducible refine b0.mono ?_;clear b0;rintro e pe ⟨rfl,hb0⟩;have hb:aq ao pe:=aq.trans ha hb0)
     |(go_at_call 117;have b0:=WV.out i';with_reducible refine b0.mono ?_;clear b0;rintro e pe ⟨rfl,hb0⟩;have hb:=aq.trans ha hb0)
     |(go_at_call 117;have b0:=WV.out ao.drew;with_reducible refine b0.mono ?_;clear b0;rintro e i' ⟨rfl,ha0⟩;have ha:aq ao i':=aq.trans (ar.drew _) ha0)
     |(go_at_call 117;have b0:=WW.out ao.drew;with_reducible refine b0.mono ?_;clear b0;rintro e i' ⟨rfl,ha0⟩;have ha:=aq.trans (ar.drew _) ha0))
  all_goals
   go_wp2;go_ret;exact⟨aa,aq.trans J8.out hb⟩
def anf args w:(kj 360 args).run ax w=.ok (.enter 360 args) w:=aS
theorem G7(a b)A c l w(hab:eD (a,b))(hv:∀x∈l,eD x)(hl:jy w A l)(gb:l.length<=1048576)r(hr:l.any (Ay (a,b))=!r):
 aD ax 330 #[av #[J R a,J R b],ad A l.length c] w λe w'=>e=aA (ak r)/\aq w w':=by
 have eG:aE (aq w (w.alloc (bc #[J R a,J R b] 35))):=hid (ar.alloc _ _);have hcc:=yj w (J R a) (J R b) 35;have c0:=hid (alS 360 _ A c l (Ay _) _ anf (λW x hx c3=>alT _ a b _ _ W (c3.cell hcc.1 (λh=>h)) (c3.cell hcc.2 (λh=>h)) hab (hv x hx)) (hl.aH eG.out) gb);rw[hr]at c0;clear hab hv hl hr hcc;go_enter func330,ntmps330;go_wp2_with (go_at_call 247;have b0:=c0.out;with_reducible refine b0.mono ?_;clear b0;rintro e w1 ⟨rfl,hg⟩);go_ret;exact⟨aT,aq.trans eG.out hg⟩
def aaj(to n a b)w(ht:eD (to,n))(he:eD (a,b))(hb:0<b)(h1:to<=a)(h2:a+b<=to+n):
 aD ax 298 #[av #[J R to,J R n],av #[J R a,J R b]] w λe w'=>e=aA (ak aB)/\aq w w':=by
 have hk:=yj w (J R to) (J R n) 338;have hd:decide (0<b)=true:=aF;have uZ:aE (aq w ((w.alloc (bc #[J R to,J R n] 338)).alloc (bc #[J R a,J R b] 35))):=hid (aq.trans (ar.alloc _ _) (ar.alloc _ _))
 have c0:aE (∀W B,W.heap[B]?=ab (bc #[J R a,J R b] 35 (0,0))->aD _ 330 #[av _,ad (ab ⟨B,0,af⟩) 1 1] W λe w'=>e=aA _/\aq W w'):=hid (λW B ic=>
  G7 to n (ab ⟨B,0,af⟩) 1 [(a,b)] W ht (λx hx=>(show x=(a,b) by grind)▸he) (λ_=>⟨B,0,rfl,λj hj=>by obtain rfl:j=0:=aF;exact⟨eB _ _ 0 _ _ _ ic,eB _ _ 1 _ _ _ ic⟩⟩) aT aB (by grind[Ay]));clear ht he hb h1 h2;go_enter func298,ntmps298;go_wp2_with (go_at_call 330;refine(c0.out _ _ (aaA _ _ ?hh _)).mono ?_;(case hh=>simp);rintro e w1 ⟨rfl,hg⟩);go_ret;exact⟨aa,aq.trans uZ.out (aq.trans (ar.alloc _ _) hg)⟩
end Go.Proofs.YtcmhplknoglbkaaGreat
