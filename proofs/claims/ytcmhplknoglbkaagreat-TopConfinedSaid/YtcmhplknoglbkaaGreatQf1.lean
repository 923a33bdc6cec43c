/- Part 1 of the proof of TopConfinedSaid. -/
import Derived.Deep.LoopGhost
import Derived.Maps.AppendAt
import Derived.Lib.LazyBuf
import Derived.Shelf.Spec.SlicesGrow
import Derived.Ground.Names7Prog
import Derived.Test.YtcmhplknoglbkaaGreatProg
import Derived.Deep.AppendLies
import Derived.Test.YtcmhplknoglbkaaGreatQf0
set_option linter.all false
set_option maxRecDepth 100000
set_option maxHeartbeats 4000000
open Go.Proofs.Tryz
open Bool renaming false->ao,true->az
open Go.Builtin renaming append->yc,append_->pa,firstCells->rV,lenOf->wx
open Go.Callee renaming builtin->pb
open Go renaming Calls->aC,World->aP,bodyPost_ret->c8,callFunc->kB,cell_of_row->fH,grownCap->ym,heap_alloc_new->fO,info_parts->vh,maxLen->eG,results_cell_tmp->BW,rounds_succ->PN,run_underlying->gO,wpList->cQ,wpList_plain->D9,wp_loop_rounds->akm
open Go.Ending renaming returned->aB
open Go.IntKind renaming i64->R
open Go.Obj renaming cells->bp
open Go.Oper renaming wp->iy
open Go.Proofs.Any8 renaming slices_Grow_grow->azH,slices_Grow_room->azI
open Go.Proofs.Lays8 renaming n4->azR
open Go.Proofs.Tryz renaming prog->ax,underlying22->dK
open Go.Result renaming andThen_ok->jI
open Go.RowKit renaming Hid->aE
open Go.Sem renaming run_bind->gC,run_pure->kg
open Go.TypeDesc renaming slice->iE
open Go.Value renaming agg->ar,bool->ai,int->J,slice->ae,tuple->bo
open Go.World.ownsRow renaming lt->wL
open Go.World renaming ownsRow_nil->BU
open List renaming eq_nil_of_length_eq_zero->j8,getElem?_eq_getElem->cF,map_cons->kj,map_nil->lJ,map_toArray->pj,mem_map->gQ,mem_of_getElem?->cW
open Nat renaming eq_zero_or_pos->l1,le_refl->b7
open Option renaming none->af,some->ab
namespace Go.Proofs.YtcmhplknoglbkaaGreat
open Go.RowKit Go.MapKept
def bX(w:aP)(A:Option Addr)(bs:List Int):Prop:=
 0<bs.length->∃b off,A=ab ⟨b,off,af⟩/\∀j,j<bs.length->w.cell? ⟨b,off+j,af⟩=ab (J .u8 (bs[j]?.getD 0))
theorem bX.nil{w A}:bX w A []:=λh=>absurd h bc
def bX.only{F w w' A bs}(h:bX w A bs)(k:av F w w')(hn:∀b off,A=ab ⟨b,off,af⟩->¬F b):bX w' A bs:=λhp=>by obtain⟨b,off,rfl,hc⟩:=h hp;exact⟨b,_,rfl,λj hj=>k.cell (hc j hj) (hn b _ aa)⟩
def bX.aH{w w' A bs}(h:bX w A bs)(k:au w w'):bX w' A bs:=h.only k (λ_ _ _ hf=>hf)
structure bO where
 k:Int
 to:Int
 fr:Int
 n:Int
 data:List Int
abbrev nC(m:bO)(A:Option Addr)(c:Nat):Value:=ar #[J R m.k,J R m.to,J R m.fr,J R m.n,ae A m.data.length c]
def cD(m:bO):Int:=if m.k=1 then m.n else(m.data.length:Int)
def cm(m:bO):Int×Int:=(m.to,cD m)
def src(m:bO):Int×Int:=(m.fr,m.n)
def Zo(w:aP)(a b c d e)t:(w.alloc (bp #[a,b,c,d,e] t)).cell? ⟨w.heap.size,0,af⟩=ab a/\(w.alloc (bp #[a,b,c,d,e] t)).cell? ⟨w.heap.size,1,af⟩=ab b/\(w.alloc (bp #[a,b,c,d,e] t)).cell? ⟨w.heap.size,2,af⟩=ab c/\(w.alloc (bp #[a,b,c,d,e] t)).cell? ⟨w.heap.size,3,af⟩=ab d/\(w.alloc (bp #[a,b,c,d,e] t)).cell? ⟨w.heap.size,4,af⟩=ab e:=
 ⟨fH _ _ 0 _ _ _ (fO w _),fH _ _ 1 _ _ _ (fO w _),fH _ _ 2 _ _ _ (fO w _),fH _ _ 3 _ _ _ (fO w _),fH _ _ 4 _ _ _ (fO w _)⟩
def abO(w:aP)B(kn:w.heap.size=B)o:(w.alloc o).heap[B]?=ab o:=by grind[fO]
def Oq{aq w' B x y t}(h:aq.heap[B]?=ab (bp #[x,y] t (0,0)))(g:au aq w'):
 w'.cell? ⟨B,0,af⟩=ab x/\w'.cell? ⟨B,1,af⟩=ab y/\w'.frozen? ⟨B,0,af⟩=ao/\w'.frozen? ⟨B,1,af⟩=false:=by
 have h2:=g.heap h (λh=>h);grind[World.cell?,World.frozen?]
def avi{zO aq w' B x y t}(h:aq.heap[B]?=ab (bp #[x,y] t (0,0)))(g0:au zO aq)(g:au aq w')(kn:zO.heap.size<=B)(u v):
 ((w'.setCell ⟨B,0,af⟩ u).setCell ⟨B,1,af⟩ v).cell? ⟨B,0,af⟩=ab u/\((w'.setCell ⟨B,0,af⟩ u).setCell ⟨B,1,af⟩ v).cell? ⟨B,1,af⟩=ab v/\au zO ((w'.setCell ⟨B,0,af⟩ u).setCell ⟨B,1,af⟩ v):=by
 obtain⟨h1,h2,_,_⟩:=Oq h g;obtain⟨a,b⟩:=UI w' B x y u v h1 h2;refine⟨a,b,?_⟩;have q:=((au.trans g0 g).mono (G:=λi=>i=B) (λ_ _ h=>h.elim)).trans ((av.setCell (F:=λi=>i=B) w' (p:=⟨B,0,af⟩) aa u).trans (av.setCell (F:=λi=>i=B) _ (p:=⟨B,1,af⟩) aa v) (λ_ _ h=>h)) (λ_ _ h=>h);exact q.mono (λi hi h=>ad)
def fG(k n:Int)(m:Nat):Int:=if k=1 then n else(m:Int)
def NH(k to fr n)A(m c)w:
 aC ax 220 #[ar #[J R k,J R to,J R fr,J R n,ae A m c]] w λe w'=>e=aB (ar #[J R to,J R (fG k n m)])/\au w w':=by
 by_cases hk:k=1;·subst hk;show aC _ _ _ _ λe w'=>e=aB (ar #[J R to,J R n])/\au w w';go_enter Tryz.func220,Tryz.ntmps220;go_wp2;refine c8 (v:=_) ?_ aa ⟨aa,au.trans (av.alloc _ _) (av.alloc _ _)⟩;rw[xP aa];go_simp
 .have hd:(k==1)=false:=aG;have ht:fG k n m=(m:Int):=if_neg hk;rw[ht];clear hk ht;go_enter Tryz.func220,Tryz.ntmps220;go_wp2;refine c8 (v:=_) ?_ aa ⟨aa,au.trans (av.alloc _ _) (av.alloc _ _)⟩;rw[xP aa];go_simp
def uZ(k to fr n)A(m c)w:
 aC ax 136 #[ar #[J R k,J R to,J R fr,J R n,ae A m c]] w λe w'=>e=aB (ar #[J R to,J R (fG k n m)])/\au w w':=by
 obtain⟨r,hr⟩:=ex (fG k n m);have c6:=hid (λW=>NH k to fr n A m c W);simp only[hr]at c6⊢;clear hr;have rr:∀w:aP,(Instr.field 338 (ar #[J R to,J R r]) 0).run ax w=.ok (ar #[J R to,J R r]) w:=λ_=>by rfl
 go_enter func136,ntmps136;have e1:=hid (abO (w.alloc (bp #[J R k,J R to,J R fr,J R n,ae A m c] 73)) (w.heap.size+1) bc (bp #[J R 0,J R 0] 35));have eh:aE (au w ((w.alloc (bp #[J R k,J R to,J R fr,J R n,ae A m c] 73)).alloc (bp #[J R 0,J R 0] 35))):=hid (au.trans (av.alloc _ _) (av.alloc _ _));go_wp2_with (go_at_call 220;refine(c6.out _).mono ?_;rintro e w1 ⟨rfl,hg⟩;obtain⟨fV,z2,z3,z4⟩:=Oq e1.out hg);obtain⟨mq,bx,c5⟩:=avi e1.out eh.out hg ad (J R to) (J R r);refine c8 (v:=_) ?_ aa ⟨aa,c5⟩;rw[xP aa];go_simp
def Bn(to fr n)A(m c)w:
 aC ax 79 #[ar #[J R 1,J R to,J R fr,J R n,ae A m c]] w λe w'=>e=aB (bo #[ar #[J R fr,J R n],ai az])/\au w w':=by
 go_enter Tryz.func79,Tryz.ntmps79;go_wp2;refine c8 (v:=_) ?_ aa ⟨aa,au.trans (av.alloc _ _) (av.alloc _ _)⟩;rw[BW aa];go_simp
def Bo(k to fr n)A(m c)w(hk:k≠1):
 aC ax 79 #[ar #[J R k,J R to,J R fr,J R n,ae A m c]] w λe w'=>e=aB (bo #[ar #[J R 0,J R 0],ai ao])/\au w w':=by
 have hd:(k !=1)=true:=aG;clear hk;go_enter Tryz.func79,Tryz.ntmps79;go_wp2;refine c8 (v:=_) ?_ aa ⟨aa,au.trans (av.alloc _ _) (av.alloc _ _)⟩;rw[BW aa];go_simp
def ZC(to fr n)w:
 aC ax 101 #[J R to,J R fr,J R n] w λe w'=>e=aB (ar #[J R 1,J R to,J R fr,J R n,ae af 0 0])/\au w w':=by
 go_enter func101,ntmps101;go_wp2;refine c8 (v:=_) ?_ aa ⟨aa,av.alloc _ _⟩;rw[xP aa];go_simp
def w2(k to fr n:Int)(m:Nat):Prop:=(k=1/\eX (to,n)/\eX (fr,n)/\0<n/\m=0)\/(k=2/\eX (to,(m:Int))/\fr=0/\n=0/\0<m)
def xY(a b)w(h:eX (a,b)):
 aC ax 115 #[ar #[J R a,J R b]] w λe w'=>e=aB (ai az)/\au w w':=by
 obtain⟨h1,h2,h3⟩:=h;simp only at h1 h2 h3;have hx:=agU a b w ⟨ad,ad⟩ ⟨ad,ad⟩;grind[Gk,eX]
theorem w2.cm{k to fr n m}(h:w2 k to fr n m):eX (to,fG k n m)/\0<fG k n m:=by
 rcases h with⟨rfl,h1,h2,h3,rfl⟩|⟨rfl,h1,rfl,rfl,h3⟩;·exact⟨h1,h3⟩
 .exact⟨h1,by show(0:Int)<(m:Int);omega⟩
set_option maxHeartbeats 2000000 in
def anH(k to fr n)A(m c)w(h:w2 k to fr n m):
 aC ax 200 #[ar #[J R k,J R to,J R fr,J R n,ae A m c]] w λe w'=>e=aB (J R 0)/\au w w':=by
 have ez:=hid h.cm;have Qy:=hid (λW=>NH k to fr n A m c W);obtain⟨r,hr⟩:=ex (fG k n m);simp only[hr]at Qy ez;have QB:=ez.out.2;have uI:(r==0)=false:=aG;have cP:=hid (λW=>xY to r W ez.out.1);have hb:=Zo w (J R k) (J R to) (J R fr) (J R n) (ae A m c) 73;have HB:=hid hb;have I:aE (∀w',au _ w'->w'.cell? _=ab _/\w'.cell? _=ab _/\w'.cell? _=ab _/\w'.cell? _=ab _):=hid (λw' g=>⟨g.cell HB.out.1 (λh=>h),g.cell HB.out.2.2.1 (λh=>h),g.cell HB.out.2.2.2.1 (λh=>h),g.cell HB.out.2.2.2.2 (λh=>h)⟩);have eh:aE (au w (w.alloc (bp #[J R k,J R to,J R fr,J R n,ae A m c] 73))):=hid (av.alloc _ _);have dW:=hid h;clear hb hr h QB;rcases dW.out with⟨rfl,h1,h2,h3,rfl⟩|⟨rfl,h1,rfl,rfl,h3⟩
 .have Lq:=hid (λW=>xY fr n W h2);clear h1 h2 h3 dW;go_enter Tryz.func200,Tryz.ntmps200
  go_wp2_with (first
   |(go_at_call 115;have ca:=Lq.out aU;with_reducible refine ca.mono ?_;clear ca;rintro e bI ⟨rfl,hg3⟩)
   |(go_at_call 115;go_loud (refine(cP.out _).mono ?_);rintro e aU ⟨rfl,hg2⟩;obtain⟨mq,bx,c5,hG⟩:=I.out aU (au.trans hg1 (au.trans (av.alloc _ _) hg2)))
   |(go_at_call 220;refine(Qy.out _).mono ?_;rintro e w1 ⟨rfl,hg1⟩;obtain⟨fV,z2,z3,z4⟩:=I.out w1 hg1));go_ret;exact⟨aa,au.trans eh.out (au.trans hg1 (au.trans (av.alloc _ _) (au.trans hg2 hg3)))⟩
 .clear h1 h3 dW;go_enter Tryz.func200,Tryz.ntmps200
  go_wp2_with (first
   |(go_at_call 115;go_loud (refine(cP.out _).mono ?_);rintro e aU ⟨rfl,hg2⟩;obtain⟨mq,bx,c5,hG⟩:=I.out aU (au.trans hg1 (au.trans (av.alloc _ _) hg2)))
   |(go_at_call 220;refine(Qy.out _).mono ?_;rintro e w1 ⟨rfl,hg1⟩;obtain⟨fV,z2,z3,z4⟩:=I.out w1 hg1));go_ret;exact⟨aa,au.trans eh.out (au.trans hg1 (au.trans (av.alloc _ _) hg2))⟩
set_option maxHeartbeats 2000000 in
def auH(k to fr n)A(m c)w(hk:k≠1):
 aC ax 297 #[ar #[J R k,J R to,J R fr,J R n,ae A m c]] w λe w'=>e=aB (ai ao)/\au w w':=by
 have c6:=hid (λW=>Bo k to fr n A m c W hk);clear hk;go_enter Tryz.func297,Tryz.ntmps297;go_wp2_with (go_at_call 79;refine(c6.out _).mono ?_;rintro e w1 ⟨rfl,hg1⟩);go_ret;exact⟨aa,au.trans (av.alloc _ _) (au.trans hg1 (av.alloc _ _))⟩
set_option maxHeartbeats 4000000 in
def auG(to fr n)A(m c)w(h1:eX (to,n))(h2:eX (fr,n)):
 aC ax 297 #[ar #[J R 1,J R to,J R fr,J R n,ae A m c]] w λe w'=>e=aB (ai (meets (fr,n) (to,n)))/\au w w':=by
 have c6:=hid (λW=>Bn to fr n A m c W);have ez:aE (∀W,aC _ _ _ W λe w'=>e=aB (ar #[J _ to,J _ n])/\au W w'):=hid (λW=>uZ 1 to fr n A m c W);obtain⟨r,hr⟩:=ex (meets (fr,n) (to,n));obtain⟨gr,eT,eS⟩:∃gr eT,mh (fr,n) (to,n)=(gr,eT):=⟨_,_,aa⟩
 have ff:aE (∀W,aC _ _ _ W λe w'=>e=aB (bo #[ar #[J _ gr,J _ eT],ai r])/\au W w'):=hid (λW=>by have h:=NQ fr n to n W h2 h1;rw[eS,hr]at h;exact h);rw[hr];have HB:=hid (Zo w (J R 1) (J R to) (J R fr) (J R n) (ae A m c) 73);have eh:aE (au w (w.alloc (bp #[J R 1,J R to,J R fr,J R n,ae A m c] 73))):=hid (av.alloc _ _);clear hr eS h1 h2;go_enter Tryz.func297,Tryz.ntmps297;go_wp2_with (go_at_call 79;refine(c6.out _).mono ?_;rintro e w1 ⟨rfl,hg1⟩)
 have I:aE (∀w',au (w1.alloc _) w'->w'.cell? _=ab _/\w'.cell? _=ab _/\w'.cell? _=ab _/\w'.cell? _=ab _/\w'.cell? _=ab _/\w'.cell? _=ab _/\w'.cell? _=ab _):=hid (λw' g=>by have g1:=au.trans hg1 (au.trans (av.alloc _ _) g);obtain⟨dX,dY,pr,Y7,Y8⟩:=HB.out;obtain⟨bF,cq⟩:=yU w1 (J R fr) (J R n) 35;exact⟨g1.cell dX (λh=>h),g1.cell dY (λh=>h),g1.cell pr (λh=>h),g1.cell Y7 (λh=>h),g1.cell Y8 (λh=>h),g.cell bF (λh=>h),g.cell cq (λh=>h)⟩);have Aa:aE (au w (w1.alloc (bp #[J R fr,J R n] 35))):=hid (au.trans eh.out (au.trans hg1 (av.alloc _ _)));clear hg1;generalize w1.alloc (bp #[J R fr,J R n] 35)=ih at*;generalize w1.heap.size=de at*;generalize kn:w.heap.size=B at*;have yu:aE (∀w',au _ w'->w'.cell? _=ab (J R 0)/\w'.cell? _=ab (J R 0)/\w'.frozen? _=ao/\w'.frozen? ⟨ih.heap.size,1,_⟩=ao):=hid (λw' g=>Oq (fO ih.drew (bp _ 35)) g)
 have ei:aE (∀w1 B u v,au ih w1->ih.heap.size<=B->au ih _):=hid (λw1 B u v h kn=>by have q:=(h.mono (G:=λi=>i=B) (λ_ _ h=>h.elim)).trans ((av.setCell (F:=λi=>i=B) w1 (p:=⟨B,0,af⟩) aa u).trans (av.setCell (F:=λi=>i=B) _ (p:=⟨B,1,af⟩) aa v) (λ_ _ h=>h)) (λ_ _ h=>h);exact q.mono (λi hi h=>ad))
 go_region_held3 (λw'=>w'.cell? ⟨B,0,af⟩=ab (J R 1)/\w'.cell? ⟨B,1,af⟩=ab (J R to)/\w'.cell? ⟨B,2,af⟩=ab (J R fr)/\w'.cell? ⟨B,3,af⟩=ab (J R n)/\w'.cell? ⟨B,4,af⟩=ab (ae A m c)/\w'.cell? ⟨de,0,af⟩=ab (J R fr)/\w'.cell? ⟨de,1,af⟩=ab (J R n))
  (first
    |exact I.out _ (av.drew _)
    |exact I.out _ (au.trans (av.drew _) (av.alloc _ _))
    |exact I.out _ hb
    |exact I.out _ (au.trans hb (av.alloc _ _))
    |exact I.out _ ha
    |exact I.out _ (au.trans ha (av.alloc _ _))
    |exact I.out _ (ei.out _ _ _ _ hb (b7 _))
    |exact I.out _ (ei.out _ _ _ _ hb ha.size)
    |exact I.out _ (ei.out _ _ _ _ (au.trans hb (av.alloc _ _)) hb.size))
  (first
    |(go_at_call 202;refine(ff.out _).mono ?_;rintro e pP ⟨rfl,hb0⟩;(have hb:au ih pP:=(by first|exact au.trans ha hb0|exact au.trans ha (au.trans (av.alloc _ _) hb0)));(try(have hz:=yu.out pP (au.trans ha0 hb0);obtain⟨fV,z2,z3,z4⟩:=hz));(try(have hz:=Oq (fO ji (bp #[J R 0,J R 0] 35)) hb0;obtain⟨fV,z2,z3,z4⟩:=hz)))
    |(go_at_call 136;refine(ez.out _).mono ?_;rintro e ji ⟨rfl,ha0⟩;(have ha:au ih ji:=(by first|exact au.trans (av.drew _) ha0|exact au.trans (av.drew _) (au.trans (av.alloc _ _) ha0)))))
 all_goals
  go_wp2;go_ret
  first
   |exact⟨aa,au.trans Aa.out (ei.out _ _ _ _ hb (b7 _))⟩
   |exact⟨aa,au.trans Aa.out (ei.out _ _ _ _ hb ha.size)⟩
   |exact⟨aa,au.trans Aa.out (au.trans hb (av.alloc _ _))⟩
section
def Cells(w:aP)(size:Nat)(A:Option Addr)(m:Nat)(xs:List Value):Prop:=
 xs.length=m*size/\(0<m->∃eH,A=ab eH/\∀j u,xs[j]?=ab u->w.cell? (eH.add j)=ab u)
theorem mW(b off j):(⟨b,off,af⟩:Addr).add j=⟨b,off+j,af⟩:=by grind[Addr.add]
def mz(E:List (Int×Int)):List Value:=E.flatMap λe=>[J R e.1,J R e.2]
def Zq E:(mz E).length=E.length*2:=by
 unfold mz;induction E with
 |nil=>rfl
 |cons e r ck=>grind
def Zp E j:(mz E)[j]?=(E[j/2]?).map λe=>if j%2=0 then J R e.1 else J R e.2:=by
 unfold mz;induction E generalizing j with
 |nil=>simp
 |cons e r ck=>
  match j with
  |0=>simp
  |1=>simp
  |j+2=>
   have h1:(j+2)/2=j/2+1:=ad;grind[List.getElem?_cons_succ]
def kS.of_cells{w b off E}(h:∀j u,(mz E)[j]?=ab u->w.cell? ⟨b,off+j,af⟩=ab u):kS w (ab ⟨b,off,af⟩) E:=λ_=>by
 refine⟨b,_,rfl,λj hj=>?_⟩;have ef:=cF hj;constructor
 .have:=h (j*2) (J R (E[j]?.getD (0,0)).1) (by rw[Zp,show j*2/2=j by omega,ef,show j*2%2=0 by omega];rfl);exact this
 .have:=h _ (J _ (E[j]?.getD (0,0)).2) (by rw[Zp,show(j*2+1)/2=j by omega,ef,show(j*2+1)%2=1 by omega];rfl);rw[<-Nat.add_assoc]at this;exact this
theorem kS.ow{w}{base e n c:Nat}{A E}(h:w.ownsRow base e 2 (ae A n c) n (mz E)):kS w A E:=λhp=>by
 have hn:n=E.length:=by have:=h.1;rw[Zq]at this;omega
 rcases h.2 with⟨hv,h0⟩|⟨g,cap,cur,hv,hb,hg,ka,hcm,hcs,ht⟩;·omega
 .injection hv with h1 h2 h3;subst h1;exact kS.of_cells (λj u hu=>by have:=h.cells (g:=g) aa j u hu;rw[mW]at this;exact this) hp
def dy.cells{w A xs}(h:dy w A xs):Cells w 1 A xs.length (xs.map (J R)):=by refine⟨bc,λhp=>?_⟩;obtain⟨b,off,rfl,hc⟩:=h hp;grind[mW]
def T4(xs:List Int):∀u∈xs.map (J R),u.oneCell'=true:=by intro u hu;obtain⟨e,_,rfl⟩:=gQ.1 hu;rfl
section
variable {P:Program} (w:aP)
def afS base (t ty e) i z (size bytes) (ht:P.underlying t=ab (iE e)) (hi:P.info? e=ab i) (hz:i.zero=ab z)
 (hsize:i.size=size) (hby:i.bytes=bytes) (hzs:z.cells.size=size) (hsz:0<size)
 v n xs (hown:w.ownsRow base e size v n xs) A (m c) news (hr:Cells w size A m news) (h1:∀u∈news,u.oneCell'=az)
 (h63:n+m<=eG) (hbytes:(n+m)*bytes<=140737488355328) (hbase:base<=w.heap.size):
 ∃v' w',(pa #[t,t] ty #[v,ae A m c]).run P w=.ok v' w'/\w'.ownsRow base e size v' (n+m) (xs++news)/\w.grownBy w' v.ownBlock/\
  (v'=ae af 0 0↔v=ae af 0 0/\m=0)/\(v'.ownBlock=v.ownBlock\/v'.ownBlock=ab w.heap.size):=by
 rcases A with _|eH
 .have hm:m=0:=by
   rcases l1 m with h0|h0;·omega
   .obtain⟨eH,h,_⟩:=hr.2 h0;cases h
  subst hm;have hn:=j8 (by simpa using hr.1);subst hn;refine⟨v,w,?_,aG,⟨aa,aa,aa,b7 _,λ_ _ _=>aa⟩,bc,.inl aa⟩;rcases hown.2 with⟨rfl,rfl⟩|⟨g,cap,cur,rfl,_,_,ka,_⟩;·simp[pa,gO ht,sizeOf,typeInfo,hi,wx,rV]
  .simp[pa,gO ht,sizeOf,typeInfo,hi,wx,rV,ka,storeCells]
 .have abI:∀j u,news[j]?=ab u->w.cell? (eH.add j)=ab u:=by
   intro j u hu;rcases l1 m with h0|h0;·subst h0;have hn:=j8 (by simpa using hr.1);subst hn;simp at hu
   .obtain⟨aAb,h,hc⟩:=hr.2 h0;grind
  exact run_append_own_at (P:=P) w _ t ty e i z _ _ ht hi hz hsize hby hzs hsz v n xs hown eH m c _ hr.1 abI h1 h63 hbytes hbase
def ayC {o a K Q} (s x) t
 (ho:o.op=.call {callee:=pb yc,args:=#[s,x],argTypes:=#[t,t]})
 base e i z (size bytes) (ht:P.underlying t=ab (iE e)) (hi:P.info? e=ab i) (hz:i.zero=ab z)
 (hsize:i.size=size) (hby:i.bytes=bytes) (hzs:z.cells.size=size) (hsz:0<size)
 (g n cap) xs (hs:a.eval s=ae (ab ⟨g,0,af⟩) n cap) (hown:w.ownsRow base e size (ae (ab ⟨g,0,af⟩) n cap) n xs)
 A (m c) news (hx:a.eval x=ae A m c) (hr:Cells w size A m news) (h1:∀u∈news,u.oneCell'=az)
 (h63:n+m<=eG) (hbytes:(n+m)*bytes<=140737488355328) (hbase:base<=w.heap.size)
 (h:∀ir oO w',w'.ownsRow base e size (ae (ab ⟨ir,0,af⟩) (n+m) oO) (n+m) (xs++news)->w.grownBy w' (ab g)->(ir=g\/ir=w.heap.size)->ir<w'.heap.size->K (a.put o.dst (ae (ab ⟨ir,0,af⟩) (n+m) oO)) w'):
 iy P o a w K Q:=by
 obtain⟨v',w',hrun,h2,h3,h4,h5⟩:=afS (P:=P) w base t o.type e i z size bytes ht hi hz hsize hby hzs hsz _ n xs hown A m c news hr h1 h63 hbytes hbase
 have hv:∃ir oO,v'=ae (ab ⟨ir,0,af⟩) (n+m) oO:=by
  rcases h2.2 with⟨hv,_⟩|⟨ir,oO,cur,hv,_⟩;·grind
  .grind
 obtain⟨ir,oO,rfl⟩:=hv;unfold iy execOp;simp only[ho,resolve,invoke,builtin,gC,kg,jI,pj,kj,lJ,hs,hx,hrun];refine h ir _ w' h2 h3 ?_ (h2.lt ir aa).2;simpa [Value.ownBlock]using h5
def ag4 {ops rest o a Q} (hgd:o.guard=af) (s x) t
 (ho:o.op=.call {callee:=pb yc,args:=#[s,x],argTypes:=#[t,t]})
 base e i z (size bytes) (ht:P.underlying t=ab (iE e)) (hi:P.info? e=ab i) (hz:i.zero=ab z)
 (hsize:i.size=size) (hby:i.bytes=bytes) (hzs:z.cells.size=size) (hsz:0<size)
 (g n cap) xs (hs:a.eval s=ae (ab ⟨g,0,af⟩) n cap) (hown:w.ownsRow base e size (ae (ab ⟨g,0,af⟩) n cap) n xs)
 A (m c) news (hx:a.eval x=ae A m c) (hr:Cells w size A m news) (h1:∀u∈news,u.oneCell'=az)
 (h63:n+m<=eG) (hbytes:(n+m)*bytes<=140737488355328) (hbase:base<=w.heap.size)
 (h:∀ir oO w',w'.ownsRow base e size (ae (ab ⟨ir,0,af⟩) (n+m) oO) (n+m) (xs++news)->w.grownBy w' (ab g)->(ir=g\/ir=w.heap.size)->ir<w'.heap.size->cQ P ops Q rest (a.put o.dst (ae (ab ⟨ir,0,af⟩) (n+m) oO)) w'):
 cQ P ops Q (o::rest) a w:=
 D9 hgd λ_ hK=>ayC w s x t ho base e i z size bytes ht hi hz hsize hby hzs hsz g n cap xs hs hown A m c news hx hr h1 h63 hbytes hbase λir oO w' fy a2 a3 a4=>hK _ _ (h ir oO w' fy a2 a3 a4)
end
end
def Tu:(ax.info? 5).map (λi=>(i.zero,i.size,i.bytes))=ab (ab (J .u8 0),1,1):=aw
abbrev a6(b:Int):Value:=J .u8 b
def bX.cells{w A xs}(h:bX w A xs):Cells w 1 A xs.length (xs.map a6):=by refine⟨bc,λhp=>?_⟩;obtain⟨b,off,rfl,hc⟩:=h hp;grind[mW]
theorem bX.ow{w}{base e n c:Nat}{A xs}(h:w.ownsRow base e 1 (ae A n c) n (xs.map a6)):bX w A xs:=λhp=>by
 have hn:=by simpa using h.1.symm
 rcases h.2 with⟨hv,h0⟩|⟨g,cap,cur,hv,hb,hg,ka,hcm,hcs,ht⟩;·omega
 .injection hv with h1 h2 h3;subst h1;refine⟨g,0,rfl,λj hj=>?_⟩;have hc:=h.cells (g:=g) aa j (J .u8 (xs[j]?.getD 0)) aG;rw[mW]at hc;exact hc
def xH(xs:List Int):∀u∈xs.map a6,u.oneCell'=true:=by intro u hu;obtain⟨e,_,rfl⟩:=gQ.1 hu;rfl
def auL{w:aP}{g e size:Nat}(h:w.heap[g]?=ab (bp #[] e (0,0))):w.ownsRow g e size (ae (ab ⟨g,0,af⟩) 0 0) 0 []:=
 ⟨bc,.inr ⟨g,0,#[],aa,b7 _,h,b7 _,ad,bc,bc⟩⟩
def w6 A c bs w(hx:bX w A bs)(h1:bs.length<=140737488355328):
 aC ax 65 #[ae A bs.length c] w λe w'=>∃aA aD,e=aB (ae aA bs.length aD)/\w'.ownsRow w.heap.size 5 1 (ae aA bs.length aD) bs.length (bs.map a6)/\au w w':=by
 have aCc:∀(w) a (n c Dq aD),(binOp _ 22 _ _).run _ w=.ok _ w:=λw a n c Dq aD=>Lib.run_eql_slice_nil w _ _ a n c Dq aD dK;rcases A with _|a
 .obtain rfl:bs=[]:=by
   rcases l1 bs.length with h0|h0;·grind
   .obtain⟨_,_,h,_⟩:=hx h0;cases h
  clear hx h1;go_enter Tryz.func65,Tryz.ntmps65;go_wp2;go_ret;exact⟨_,0,aa,BU _ _ _ _,av.refl _ _⟩
 .obtain⟨i0,jc,hz0,hz1,hz2⟩:=vh Tu;have dw:=hid (And.intro jc (And.intro hz0 (And.intro hz1 hz2)));have c6:=hid (bX.cells (hx.aH (av.alloc (F:=λ_=>False) w (bp #[] 5))));have cO:=hid h1;clear hx jc hz0 hz1 hz2 h1;go_enter Tryz.func65,Tryz.ntmps65;go_wp2_with (at_builtin;go_loud (refine ag4 _ aa _ _ 22 aa _ 5 i0 _ 1 1 dK dw.out.1 dw.out.2.1 dw.out.2.2.1 dw.out.2.2.2 aa ad _ 0 0 [] aa (auL (fO _ _)) _ _ c _ aa c6.out (xH _) (by have:=cO.out;unfold eG;omega) (by have:=cO.out;omega) bc ?_);intro g4 aAu b9 IB SG aA2 aBw;simp at IB⊢);go_ret;exact⟨_,_,aa,IB,((av.alloc (F:=λi=>w.heap.size<=i) w _).trans (av.of_grownBy (F:=λi=>w.heap.size<=i) SG (λi e=>aG)) (λ_ _ h=>h)).mono (λi hi h=>ad)⟩
open Go.Shelf
def Tryz.as4:Go.Shelf.Ren:=⟨λ|4=>185|n=>n,λ|22=>22|25=>5|3=>3|4=>4|9=>9|20=>20|0=>0|n=>n,λ|n=>n⟩
def Tryz.adR:azR ax Tryz.as4:={
 mixed:=ba
 f4:=⟨f185.name,aS,func185.trans (congrArg ab ba)⟩
 t0:=Tryz.underlying0
 a0:=Tryz.isAgg0
 z0:=Tryz.sizeOf0
 v0:=Tryz.zeroValue0
 t3:=Tryz.underlying3
 a3:=Tryz.isAgg3
 z3:=Tryz.sizeOf3
 v3:=Tryz.zeroValue3
 t4:=Tryz.underlying4
 a4:=Tryz.isAgg4
 z4:=Tryz.sizeOf4
 v4:=Tryz.zeroValue4
 t9:=Tryz.underlying9
 a9:=Tryz.isAgg9
 z9:=Tryz.sizeOf9
 v9:=Tryz.zeroValue9
 t20:=underlying20
 a20:=isAgg20
 z20:=sizeOf20
 v20:=zeroValue20
 t22:=dK
 a22:=Tryz.isAgg22
 z22:=Tryz.sizeOf22
 v22:=Tryz.zeroValue22}
section
section
variable {P:Program} (w:aP)
def ayz {ops rest o a Q} (hgd:o.guard=af) (s x) t
 (ho:o.op=.call {callee:=pb yc,args:=#[s,x],argTypes:=#[t,t]})
 base e i z (size bytes) (ht:P.underlying t=ab (iE e)) (hi:P.info? e=ab i) (hz:i.zero=ab z)
 (hsize:i.size=size) (hby:i.bytes=bytes) (hzs:z.cells.size=size) (hsz:0<size)
 v n xs (hs:a.eval s=v) (hown:w.ownsRow base e size v n xs)
 A (m c) news (hx:a.eval x=ae A m c) (hr:Cells w size A m news) (h1:∀u∈news,u.oneCell'=az)
 (h63:n+m<=eG) (hbytes:(n+m)*bytes<=140737488355328) (hbase:base<=w.heap.size)
 (h:∀v' w',w'.ownsRow base e size v' (n+m) (xs++news)->w.grownBy w' v.ownBlock->cQ P ops Q rest (a.put o.dst v') w'):
 cQ P ops Q (o::rest) a w:=
 D9 hgd λ_ hK=>by obtain⟨v',w',hrun,h2,h3,_,_⟩:=afS (P:=P) w base t o.type e i z size bytes ht hi hz hsize hby hzs hsz v n xs hown A m c news hr h1 h63 hbytes hbase;unfold iy execOp;simp only[ho,resolve,invoke,builtin,gC,kg,jI,pj,kj,lJ,hs,hx,hrun];exact hK _ _ (h v' w' h2 h3)
end
def auN{w base n v xs}(h:w.ownsRow base 5 1 v n (xs.map a6)):∃A c,v=ae A xs.length c/\bX w A xs:=by
 have hn:n=xs.length:=by have:=h.1;simp at this;omega
 subst hn;rcases h.2 with⟨rfl,h0⟩|⟨g,cap,cur,rfl,_⟩;·refine⟨_,0,by rw[h0],?_⟩;intro hp;omega
 .grind[bX.ow]
def aaL(n:Nat)w(hn:n<=140737488355328):
 aC ax 185 #[ae af 0 0,J R n] w λe w'=>∃v,e=aB v/\w'.ownsRow w.heap.size 5 1 v 0 []/\au w w':=by
 obtain⟨i0,jc,hz0,hz1,hz2⟩:=vh Tu;rcases l1 n with rfl|h0;·exact(azI Tryz.adR _ 0 0 0 w (b7 _) ad ad ad).mono λ_ _ ⟨a,b⟩=>⟨_,a,BU _ _ _ _,b▸av.refl _ _⟩
 .refine(azH Tryz.adR i0 (J .u8 0) jc hz0 ad af 0 0 n [] w (b7 _) ad aG ad bc (λ_=>aa) (λa h=>bc)).mono λe w' ⟨a,b⟩=>⟨_,a,?_,?_⟩;·rw[b];have h1:=grownCap_ge w (0+n) 0 5;refine World.ownsRow_made w.drew _ _ (b7 _) (grownCap_le_maxLen w (0+n) 0 5 (by grind[eG])) ?_;simp only[Array.size_append,size_zeroCells];show _+_*1+_*1=_*1;simp only[List.size_toArray,List.length_nil];change ym w (0+n) 0 5>=0+n at h1;change 0+(0+n -0)*1+(ym w (0+n) 0 5 -(0+n))*1=ym w (0+n) 0 5*1;omega
  .rw[b];exact au.trans (av.drew _) (av.alloc _ _)
set_option maxHeartbeats 2000000 in
def HF p A c bs w(hp:w.cell? ⟨p,0,af⟩=ab (ae A bs.length c))(hx:bX w A bs)(h1:bs.length<=140737488355328):
 aC ax 93 #[ae (ab ⟨p,0,af⟩) 1 1] w λe w'=>∃aA aD,e=aB (ae aA bs.length aD)/\w'.ownsRow w.heap.size 5 1 (ae aA bs.length aD) bs.length (bs.map a6)/\au w w':=by
 obtain⟨i0,jc,hz0,hz1,hz2⟩:=vh Tu;have dw:=hid (And.intro jc (And.intro hz0 (And.intro hz1 hz2)));have dH:=hid hx;have Iu:(0:Int)<=(bs.length:Int):=ad;have aBx:(bs.length:Int)<=140737488355328:=ad;clear jc hz0 hz1 hz2 hx;go_enter func93,ntmps93;go_wp2_with fail;refine akm 2 ?_;rw[PN];go_wp2_with fail;rw[PN];go_wp2_with (go_at_call 185;refine(aaL _ w h1).mono ?_;rintro e w1 ⟨v1,rfl,hr1,hg1⟩;have uF:=hg1.cell hp (λh=>h);have hs1:=hg1.size);have bW:=hid hr1;have eh:=hid hg1;have Ca:=hid (dH.out.aH hg1);clear hr1 hg1;refine akm 2 ?_;rw[PN];go_wp2_with (at_builtin;go_loud (refine ayz _ aa (.tmp 31) (.tmp 32) 22 aa w.heap.size 5 i0 _ 1 1 dK dw.out.1 dw.out.2.1 dw.out.2.2.1 dw.out.2.2.2 aa ad v1 0 [] aa bW.out A bs.length c (bs.map a6) aa (bX.cells Ca.out) (xH _) (by grind[eG]) ad hs1 ?_);intro v4 b9 IB SG;simp at IB⊢;(have py:au w b9:=((au.to eh.out).trans (av.of_grownBy (F:=λi=>w.heap.size<=i) SG (λi e=>.inl (wL bW.out i e).1)) (λ_ _ h=>h)).mono (λi hi h=>ad));have ib:=hid (And.intro IB py));rw[PN];go_wp2;go_ret;obtain⟨aA,aD,rfl,_⟩:=auN ib.out.1;exact⟨aA,aD,aa,ib.out.1,ib.out.2⟩
end
def asl (g:Nat) du A c l p w (gE:∀args w,(kB g args).run ax w=.ok (.enter g args) w)
 (hf:∀(W) x,x∈l->au w W->aC ax g (#[ar #[J R x.1,J R x.2]]++du) W λe w'=>e=aB (ai (p x))/\au W w') (hl:kS w A l) (gA:l.length<=1048576):
 aC ax 300 #[ae A l.length c,.func (.func g) #[] du] w λe w'=>∃r,e=aB (J R r)/\((0<=r/\l.any p=az)\/(r<0/\l.any p=ao))/\au w w':=by
 have cH:=hid hf;have cO:=hid hl;clear hf hl;go_enter func300,ntmps300;go_wp2_with fail;go_loopw [8] (λi wr=>∃k:Nat,k<=l.length/\i=J R k/\aE (∀x∈l.take k,p x=ao)/\au w wr) (λi _=>l.length -(intOf i).toNat);case atStart=>grind[hid,av.refl]
 case round=>
  obtain⟨k,hk,rfl,hno,hO⟩:=hrel;have ff:=hid hO;clear hO;by_cases hlt:k<l.length
  .have hb0:(k:Int)<(l.length:Int):=ad;obtain⟨hC,o,rfl,hcell⟩:=(cO.out.aH ff.out) ad;obtain⟨c1,c2⟩:=hcell k hlt;obtain⟨x,hx⟩:∃x,l[k]?=ab x:=⟨_,cF hlt⟩;simp only[hx,Option.getD_some]at c1 c2;have dH:=hid hx;have c6:=cH.out wr x (cW hx) ff.out;obtain⟨a,b⟩:=x;simp only at c1 c2 c6;cases hp:p (a,b)with
   |true=>
    rw[hp]at c6;have b1:=hid hp;clear hp hx hcell;go_wp2_with (go_at_fn g;refine c6.mono ?_;clear c6;rintro e w1 ⟨rfl,hg1⟩);go_ret;exact⟨k,aa,.inl ⟨ad,List.any_eq_true.2 ⟨_,cW dH.out,b1.out⟩⟩,au.trans ff.out hg1⟩
   |false=>
    rw[hp]at c6;have b1:=hid hp;clear hp hx hcell;go_wp2_with (go_at_fn g;refine c6.mono ?_;clear c6;rintro e w1 ⟨rfl,hg1⟩);go_roundw
    case rel=>
     refine⟨k+1,ad,by go_num,hid (λy hy=>?_),au.trans ff.out hg1⟩;rw[List.take_add_one,dH.out]at hy;rcases List.mem_append.1 hy with hy|hy;·exact hno.out y hy
     .obtain rfl:y=(a,b):=aG;exact b1.out
    case measure=>grind[intOf]
  .obtain rfl:k=l.length:=ad;go_wp2;go_ret;refine⟨-1,aa,.inr ⟨ad,?_⟩,ff.out⟩;have h:=hno.out;grind
def an4 (g:Nat) du A c l p w (gE:∀args w,(kB g args).run ax w=.ok (.enter g args) w)
 (hf:∀(W) x,x∈l->au w W->aC ax g (#[ar #[J R x.1,J R x.2]]++du) W λe w'=>e=aB (ai (p x))/\au W w') (hl:kS w A l) (gA:l.length<=1048576):
 aC ax 247 #[ae A l.length c,.func (.func g) #[] du] w λe w'=>e=aB (ai (l.any p))/\au w w':=by
 have c6:=hid (asl g du A c l p w gE hf hl gA);clear hf hl;cases hp:l.any p with
 |true=>
  rw[hp]at c6;clear hp;go_enter Tryz.func247,Tryz.ntmps247;go_wp2_with (go_at_call 300;have ca:=c6.out;with_reducible refine ca.mono ?_;clear ca;rintro e w1 ⟨r,rfl,hr,hg1⟩;have hd:decide (0<=r)=true:=aG);go_ret;exact⟨aa,hg1⟩
 |false=>
  rw[hp]at c6;clear hp;go_enter Tryz.func247,Tryz.ntmps247;go_wp2_with (go_at_call 300;have ca:=c6.out;with_reducible refine ca.mono ?_;clear ca;rintro e w1 ⟨r,rfl,hr,hg1⟩;have hd:decide (0<=r)=false:=aG);go_ret;exact⟨aa,hg1⟩
def Ba(e x:Int×Int):Bool:=decide (x.1<e.1)||decide (e.1+e.2<x.1+x.2)
set_option maxHeartbeats 2000000 in
def an5 B(a b p q)W(h1:W.cell? ⟨B,0,af⟩=ab (J R a))(h2:W.cell? ⟨B,1,af⟩=ab (J R b))(hab:eX (a,b))(MZ:eX (p,q)):
 aC ax 360 (#[ar #[J R p,J R q]]++#[.pointer (ab ⟨B,0,af⟩)]) W λy2 cR=>y2=aB (ai (Ba (a,b) (p,q)))/\au W cR:=by
 have aAR:=World.block_lt_of_cell? W _ h1
 have bK:aE (∀w',au (W.alloc (bp _ 35)) w'->w'.cell? _=ab _/\w'.cell? _=ab _/\w'.cell? _=ab (J R p)/\w'.cell? _=ab (J R q)):=
  hid (λw' h=>⟨(au.trans (av.alloc _ _) h).cell h1 (λh=>h),(au.trans (av.alloc _ _) h).cell h2 (λh=>h),h.cell (yU _ _ _ _).1 (λh=>h),h.cell (yU _ _ _ _).2 (λh=>h)⟩);have Ld:aE (au W (W.alloc (bp #[J R p,J R q] 35))):=hid (av.alloc _ _);obtain⟨fa,hr1⟩:=ex (a+b);obtain⟨fU,hr2⟩:=ex (p+q);have XG:aE (∀w,aC _ _ _ w λe w'=>e=aB (J _ fa)/\au w w'):=hid (λw=>by rw[<-hr1];exact l5 a b w hab.1 hab.2.1 hab.2.2);have XH:aE (∀w,aC _ _ _ w λe w'=>e=aB (J _ fU)/\au w w'):=hid (λw=>by rw[<-hr2];exact l5 p q w MZ.1 MZ.2.1 MZ.2.2);have bW:aE (Ba (a,b) (p,q)=(decide (p<a)||decide (fa<fU))):=hid (by grind[Ba]);clear h1 h2 hr1 hr2 hab MZ;by_cases Ft:p<a;·have hd:decide (p<a)=true:=aG;have Hc:aE (Ba _ _=az):=hid (by rw[bW.out,hd];rfl);rw[Hc.out];clear Ft bW Hc;go_enter Tryz.func360,Tryz.ntmps360;go_wp2_with fail;generalize W.alloc (bp #[J R p,J R q] 35)=aq at*;generalize W.heap.size=C at*;obtain⟨fV,z2,z3,z4⟩:=bK.out aq (av.refl _ _);go_quiet (fail);go_wp2;go_ret;exact⟨aa,au.trans Ld.out (av.drewN _ _)⟩
 .have hd:decide (p<a)=false:=aG;have Hc:aE (Ba _ _=decide (fa<fU)):=hid (by rw[bW.out,hd];rfl);rw[Hc.out];clear Ft bW Hc;go_enter Tryz.func360,Tryz.ntmps360;go_wp2_with fail;generalize W.alloc (bp #[J R p,J R q] 35)=aq at*;generalize W.heap.size=C at*
  go_region_held3 (λw'=>w'.cell? ⟨B,0,af⟩=ab (J R a)/\w'.cell? ⟨B,1,af⟩=ab (J R b)/\w'.cell? ⟨C,0,af⟩=ab (J R p)/\w'.cell? ⟨C,1,af⟩=ab (J R q))
   (first
     |exact bK.out _ (av.drew _)
     |exact bK.out _ hb
     |exact bK.out _ ha)
   (first
     |(go_at_call 117;have ca:=XH.out ji;with_reducible refine ca.mono ?_;clear ca;rintro e pP ⟨rfl,hb0⟩;have hb:au aq pP:=au.trans ha hb0)
     |(go_at_call 117;have ca:=XG.out ji;with_reducible refine ca.mono ?_;clear ca;rintro e pP ⟨rfl,hb0⟩;have hb:=au.trans ha hb0)
     |(go_at_call 117;have ca:=XG.out aq.drew;with_reducible refine ca.mono ?_;clear ca;rintro e ji ⟨rfl,ha0⟩;have ha:au aq ji:=au.trans (av.drew _) ha0)
     |(go_at_call 117;have ca:=XH.out aq.drew;with_reducible refine ca.mono ?_;clear ca;rintro e ji ⟨rfl,ha0⟩;have ha:=au.trans (av.drew _) ha0))
  all_goals
   go_wp2;go_ret;exact⟨aa,au.trans Ld.out hb⟩
def apo args w:(kB 360 args).run ax w=.ok (.enter 360 args) w:=ba
theorem HG(a b)A c l w(hab:eX (a,b))(hv:∀x∈l,eX x)(hl:kS w A l)(gA:l.length<=1048576)r(hr:l.any (Ba (a,b))=!r):
 aC ax 330 #[ar #[J R a,J R b],ae A l.length c] w λe w'=>e=aB (ai r)/\au w w':=by
 have eh:aE (au w (w.alloc (bp #[J R a,J R b] 35))):=hid (av.alloc _ _);have hcc:=yU w (J R a) (J R b) 35;have c6:=hid (an4 360 _ A c l (Ba _) _ apo (λW x hx df=>an5 _ a b _ _ W (df.cell hcc.1 (λh=>h)) (df.cell hcc.2 (λh=>h)) hab (hv x hx)) (hl.aH eh.out) gA);rw[hr]at c6;clear hab hv hl hr hcc;go_enter func330,ntmps330;go_wp2_with (go_at_call 247;have ca:=c6.out;with_reducible refine ca.mono ?_;clear ca;rintro e w1 ⟨rfl,hg⟩);go_ret;exact⟨bc,au.trans eh.out hg⟩
def abu(to n a b)w(ht:eX (to,n))(he:eX (a,b))(hb:0<b)(h1:to<=a)(h2:a+b<=to+n):
 aC ax 298 #[ar #[J R to,J R n],ar #[J R a,J R b]] w λe w'=>e=aB (ai az)/\au w w':=by
 have hk:=yU w (J R to) (J R n) 338;have hd:decide (0<b)=true:=aG;have G3:aE (au w ((w.alloc (bp #[J R to,J R n] 338)).alloc (bp #[J R a,J R b] 35))):=hid (au.trans (av.alloc _ _) (av.alloc _ _))
 have c6:aE (∀W B,W.heap[B]?=ab (bp #[J R a,J R b] 35 (0,0))->aC _ 330 #[ar _,ae (ab ⟨B,0,af⟩) 1 1] W λe w'=>e=aB _/\au W w'):=hid (λW B kn=>
  HG to n (ab ⟨B,0,af⟩) 1 [(a,b)] W ht (λx hx=>(show x=(a,b) by grind)▸he) (λ_=>⟨B,0,rfl,λj hj=>by obtain rfl:j=0:=aG;exact⟨fH _ _ 0 _ _ _ kn,fH _ _ 1 _ _ _ kn⟩⟩) bc az (by grind[Ba]));clear ht he hb h1 h2;go_enter func298,ntmps298;go_wp2_with (go_at_call 330;refine(c6.out _ _ (abO _ _ ?hh _)).mono ?_;(case hh=>simp);rintro e w1 ⟨rfl,hg⟩);go_ret;exact⟨aa,au.trans G3.out (au.trans (av.alloc _ _) hg)⟩
end Go.Proofs.YtcmhplknoglbkaaGreat
