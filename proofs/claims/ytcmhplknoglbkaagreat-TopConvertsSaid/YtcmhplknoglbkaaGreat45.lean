/- Part 45 of the proof of TopConvertsSaid. -/
import Derived.Test.YtcmhplknoglbkaaGreat0
import Derived.Test.YtcmhplknoglbkaaGreat6
import Derived.Test.YtcmhplknoglbkaaGreat37
import Derived.Test.YtcmhplknoglbkaaGreat43
import Derived.Test.YtcmhplknoglbkaaGreat44
set_option linter.all false
set_option maxRecDepth 100000
set_option maxHeartbeats 4000000
open Go.Proofs.Tryz
open Array renaming size->jD
open Bool renaming false->au,true->aB
open Go renaming Calls->aD,results->n1,run_loadVar_row->C7,undef->aZ,wpList_nil->ak,wp_region_lit->ar
open Go.Ending renaming returned->aA
open Go.IntKind renaming i64->R
open Go.Proofs.Tryz renaming prog->ax
open Go.Value renaming agg->av,bool->aj,int->J,pointer->ay,slice->ad,tuple->bh
open List.Pairwise renaming nil->Gn
open List.Perm renaming refl->A9,swap->Dr
open List renaming getElem?_set_ne->J',getElem?_set_self->aje,length_append->dw,length_cons->jT,mem_cons->gz,not_mem_nil->gb,range->dG
open Nat renaming le_refl->cp,zero_add->kV
open Option renaming none->af,some->ab
namespace Go.Proofs.YtcmhplknoglbkaaGreat
open Go.RowKit Go.MapKept
def aj6(C:vQ)(B c cs)(A b)(j:List (Int×Int))w:
 aD ax 71 #[di B,J R (C.bd:Int),dD (C.o:Int) (C.n:Int) C.g1 C.g2 (ad A C.ms.length c),ad b j.length cs] w λe w'=>∃bZ cC d f,e=aA (.func (.func 156) #[] #[ay (ab ⟨bZ,0,af⟩),ay (ab ⟨cC,0,af⟩),ay (ab ⟨d,0,af⟩),ay (ab ⟨f,0,af⟩)])/\b5 w w' (bQ [ah bZ #[ad b j.length cs] 65,ah cC #[(di B)] 32,ah d #[J R (C.bd:Int)] 3,ah f (a6 (C.o:Int) (C.n:Int) C.g1 C.g2 (ad A C.ms.length c)) 26]):=by
 go_enter func71,ntmps71;have a:=bg w;go_upto_region 0 with fail;refine ar ?_;refine bO a (ay _) (λg w1 a=>?_);refine bO a (J _ _) (λk l a=>?_);refine bO a (av _) (λh m a=>?_);refine bO a (ad b _ cs) (λi p a=>?_);refine ag ?_;refine aF ?_;refine dQ ?_;go_wp2_with fail;go_ret;exact⟨i,g,k,h,aa,(ai.fC 4 (a.pick (l':=[ah i _ 65,ah g _ 32,ah _ _ 3,ah h _ 26]) [0,3,2,1])).fresh 0⟩
def tH(l:List q3):List Value:=l.flatMap x1
def aj5 l x:tH (l++[x])=tH l++x1 x:=by simp[tH]
def Ig(x:q3):Bool:=decide (x.bq=0)&&decide (x.pos=0)
def tT(l:List q3):Bool:=match l.getLast? with|none=>au|some x=>Ig x
def al2 l x:tT (l++[x])=Ig x:=by simp[tT]
def aj1 x:∀u∈x1 x,u.oneCell'=true:=by intro u a;simp only[x1,gz,gb,or_false]at a;rcases a with rfl|rfl|rfl|rfl|rfl<;>rfl
def XL C:∀(l) d,(gA C l d).1.length<=l.length
 |[],_=>cp _
 |k::l,d=>by
  rw[gA];split;·have:=XL C l (oh C (sy d k.1 k.2)).2;simp only[jT];omega
  .simp
def adD(all:List q3)(A:Option Addr)(n c:Nat)(pk:Int):List Value:=[ad A n c,aj (tT all),J R pk]
def alp C(B c cs)(A j)m d f(an w)FX F(h:se C d)(y:d.down=au)(V:d.cache.length<=1000000000)(Y:∀W,aq FX an W->cD W A C.ms)(hsc:∀W,aq FX an W->Cells W 2 j f.length (l6 f))(M:f.length<=cs/\f.length<=1048576)(X:∀k∈f,db k.1)(a:ai an FX w [aO B m d,F]):
 aD ax 19 #[di B,J R (C.bd:Int),dD (C.o:Int) (C.n:Int) C.g1 C.g2 (ad A C.ms.length c),ad j f.length cs] w λe w'=>∃pk,pk<=(C.bd:Int)/\∃O S,e=aA (av (adD (gA C (f++[(-1,0)]) d).1 O (gA C (f++[(-1,0)]) d).1.length S pk).toArray)/\∃z,ai an FX w' [bp O (gA C (f++[(-1,0)]) d).1.length S 158 5 (tH (gA C (f++[(-1,0)]) d).1),aO B z (gA C (f++[(-1,0)]) d).2,F]:=by
 have v:=λbZ cC p q=>aj4 C B bZ cC p q c cs A j m d f an FX h y V Y hsc M X;have H:=XL C (f++[(-1,0)]) d;rw[dw,List.length_singleton]at H;have jf:=hid M;obtain⟨all,l8,U⟩:∃all l8,gA C (f++[(-1,0)]) d=(all,l8):=⟨_,_,aa⟩;rw[U]at v H⊢;simp only at v H⊢;clear h y V Y hsc M X U;refine Bq func19 aa ?_;simp only[ntmps19,List.size_toArray,jT,List.length_nil,Array.replicate_succ,Array.replicate_zero,List.push_toArray,List.append_toArray,List.nil_append,List.cons_append];go_upto_region 0 with fail;refine ar ?_;refine bO a (av _) (λr w1 a=>?_);refine bA a #[ad _ 0 0,aj _,J _ 0] (λs aS a=>?_);refine ak ?_;go_upto_region 1 with fail;refine ar ?_;refine bA a #[ad _ 0 0,aj _,J _ 0] (λi bN a=>?_);refine ak ?_;replace a:=a.new (bp af 0 0 158 5 []) ⟨aq.refl _ _,Row.nil _ _ _ _,λb ⟨_,_,e⟩=>aG⟩;go_upto_region 2 with fail;refine ar ?_;refine v2 ?_;refine bt a 3 (a6 (C.o:Int) (C.n:Int) C.g1 C.g2 (ad A C.ms.length c)) ?_ (hv:=(ef _)) (hk:=by omega) (hz:=(by rw[cN];rfl));refine ag ?_;refine a7 (aj6 C B c cs A j f _) ?_;rintro e cc ⟨bZ,cC,p,q,rfl,hF⟩;replace a:=a.new _ hF;refine bb ?_;refine ak ?_;replace a:ai _ _ _ [ah bZ #[ad j f.length cs] 65,ah cC #[(di B)] 32,ah p #[J R (C.bd:Int)] 3,ah q _ 26,bp af 0 0 158 5 [],ah i #[ad af 0 0,aj au,J R 0] 63,ah s #[ad af 0 0,aj au,J R 0] 63,ah r (a6 (C.o:Int) (C.n:Int) C.g1 C.g2 (ad A C.ms.length c)) 26,aO B m d,F]:=ai.kq (a.pick (l':=[bQ _,bp af 0 0 158 5 [],ah i #[ad af 0 0,aj au,J R 0] 63,ah s #[ad af 0 0,aj au,J R 0] 63,ah r _ 26,aO B m d,F]) [0,1,2,3,4,5,6]);go_wp2_with fail;have Q:ai _ _ _ [bQ [ah bZ _ 65,ah cC _ 32,ah p _ 3,ah q _ 26,aO B m d],bQ [ah i _ 63,bp af 0 0 158 5 []],bQ [ah s _ 63,ah r _ 26,F]]:=ai.XT (a.pick [0,1,2,3,8,5,4,6,7,9]);refine afi (encs:=(λx:q3×Int=>#[av #[J R x.1.st,J R x.1.nx,J R x.1.wr,J R x.1.bq,J R x.1.pos],J R x.2])) aa (enters_of func156 aT aa) (λ_=>aa) (v _ _ _ _) (λpre t=>∃g c1 pk,Hid (pk<=(C.bd:Int))/\t=bQ [ah i #[ad g pre.length c1,aj (tT (pre.map (·.1))),J R pk] 63,bp g pre.length c1 158 5 (tH (pre.map (·.1)))]) (λ_ _ _=>False) (⟨af,0,0,hid (Int.natCast_nonneg _),aa⟩) Q ?_ ?_ ?_;all_goals clear Q a
 .rintro l rd pre ⟨⟨st,nx,wr,bq,pos⟩,adr⟩ W t F L pY ⟨g,c1,pk,G,rfl⟩ a;have aiz:Hid (adr<=(C.bd:Int)):=hid (L.2 _ (List.mem_append_right _ (List.mem_singleton_self _)));have hpl:pre.length<=f.length:=by have h1:=L.1.length_le;grind
  have ay2:=jf.2;replace a:=a.lE;obtain⟨N,K⟩:=ex pre.length;rw[K]at a hpl;have wo:=hid K;obtain⟨tS,y⟩:=ex (tT (pre.map (·.1)));rw[y]at a;clear y L K v;repeat((fail_if_success (with_reducible refine at_region ?_));gi_step)
  refine ke ?_;refine bA a #[J _ 0,J _ 0,J _ 0,J _ 0,J _ 0] (λq5 cG a=>?_);refine ba a 0 (av _) (λc6 a=>?_);refine ak ?_;repeat((fail_if_success (with_reducible refine at_region ?_));gi_step)
  refine ke ?_;refine ag ?_;refine ak ?_;first|refine wpIn_skip ?_|skip
  simp only[Exit.then];refine Bk a 3 pY (λdX a=>?_);replace a:ai _ _ _ [ah _ _ 158,ah _ _ 63,bp g N c1 _ 5 _,obj l _,both _ F]:=a;repeat((fail_if_success (with_reducible refine at_region ?_));gi_step)
  refine ke ?_;refine ag ?_;refine pl a 1 0 ?_;refine bt a 0 #[J R st,J R nx,J R wr,J R bq,J R pos] ?_;refine ga a #[J R st,J R nx,J R wr,J R bq,J R pos] 158 (λawF dH a=>?_);refine np (m:=1) a 3 40 (aX.cellsOf (m:=1) (a.a1 0) aa) (aj1 ⟨st,nx,wr,bq,_⟩) (λP T e9 a=>?_) (hby:=by omega);refine ag ?_;refine ba a 2 (ad _ _ _) (λhT a=>?_);refine ak ?_;repeat((fail_if_success (with_reducible refine at_region ?_));gi_step)
  refine ke ?_;refine ag ?_;refine bt a 1 #[J R bq,J R pos] ?_;refine ag ?_;refine aJ (aj (Ig ⟨st,nx,wr,bq,pos⟩)) (by(unfold Ig;go_simp;by_cases gi:bq=0<;>by_cases fQ:pos=0<;>simp[gi,fQ])) ?_;refine ag ?_;refine ba a 2 (aj _) (λi' a=>?_);refine ak ?_;repeat((fail_if_success (with_reducible refine at_region ?_));gi_step)
  refine ke ?_;refine ag ?_;refine pl a 2 2 ?_;refine ag ?_;refine aJ _ (by(go_simp;try rfl)) ?_;refine ag ?_;refine ba a 2 (J _ _) (λks a=>?_);refine ak ?_;repeat gi_step
  have E:=a.pk [2,3,4,5];replace E:ai _ _ _ [bQ [ah i #[ad P (N+1) T,aj (Ig ⟨st,nx,wr,bq,pos⟩),J R (max pk adr)] 63,bp P (N+1) T 158 5 ((tH (pre.map (·.1)))++([J R st,J R nx,J R wr,J R bq,J R pos]))],obj l (.loop {rd with state:=.busy}),both emp F]:=E.fC 2;refine⟨_,?_,E⟩;exact⟨_,_,_,hid (Int.max_le.2 ⟨G,aiz⟩),by rw[dw,List.map_append,List.map_singleton,al2,aj5,wo.out];rfl⟩
 .rintro D xs t u W I ⟨g,c1,pk,G,rfl⟩ hu a;replace a:=a.lE;replace a:=(a.pk [4,0,1,2,3]).lE;obtain⟨z,rfl⟩:=hu;have Z:xs.length=all.length:=by rw[<-I.1,List.length_map]
  rw[I.1,Z]at a;clear I Z v;replace a:ai _ _ _ [ah bZ #[ad j f.length cs] 65,ah cC #[(di B)] 32,ah p #[J R (C.bd:Int)] 3,ah q _ 26,aO B z l8,ah s #[ad af 0 0,aj au,J R 0] 63,ah r _ 26,F,ah i #[ad g all.length c1,aj (tT all),J R pk] 63,bp g all.length c1 158 5 (tH all),obj D (.deferred (ab []))]:=ai.kq (a.pick (l':=[bQ _,ah s #[ad af 0 0,aj au,J R 0] 63,ah r _ 26,F,ah i #[ad g all.length c1,aj (tT all),J R pk] 63,bp g all.length c1 158 5 (tH all),obj D (.deferred (ab []))]) [5,0,1,2,3,4,6]);go_upto_region 8 with fail;refine ar ?_;refine bt a 8 #[ad g all.length c1,aj (tT all),J R pk] ?_;refine ba a 5 (av _) (λlf a=>?_);refine ak ?_;go_wp2_with fail;refine yF a 10 (λw' a=>⟨results_cell_row aa _ _ _ _ _ _ _ aa (a.a1 5) underlying63 aa aw,pk,G,g,c1,aa,z,a.pick [9,4,7]⟩)
 .simp
def as7 {P w e u p f ty b} {t B t2 jN:Nat} {cs c tmps v} (h:e.results=#[.tmp u,.cell p ty,.cell f b]) (hv:tmps.getD u aZ=v) (k:tmps.getD p aZ=ay (ab ⟨B,0,af⟩)) (l:tmps.getD f aZ=ay (ab ⟨jN,0,af⟩)) (hb:aX w B cs t) (hb2:aX w jN c t2)
 (hu:(P.underlying ty).map (λd=>d.isRow)=ab aB) (hi:(P.info? ty).map (·.size)=ab cs.size) (Sr:(P.underlying b).map (λd=>d.isRow)=ab aB) (ub:(P.info? b).map (·.size)=ab c.size):(n1 e tmps).run P w=.ok (bh #[v,av cs,av c]) w:=by
 cases hq:P.underlying ty with
 |none=>grind
 |some d=>
  cases mI:P.underlying b with
  |none=>grind
  |some g=>
   have r:d.isRow=true:=aG;have s:g.isRow=true:=aG;have j:=C7 (P:=P) w B t ty cs (0,0) d hb hq aG hi;have hl2:=C7 (P:=P) w jN t2 b c (0,0) g hb2 mI aG ub
   have hr:(n1 e tmps).run P w=((asAddr (tmps.getD p aZ)).run P w).andThen λa m=>((loadVar ty a).run P m).andThen λx n=>((asAddr (tmps.getD f aZ)).run P n).andThen λi o=>((loadVar b i).run P o).andThen λbo q=>.ok (bh #[tmps.getD u aZ,x,bo]) q:=by simp only[n1,h];simp;try rfl
   rw[hr,k,l,hv];simp only[asAddr,Sem.run_pure,Result.andThen_ok,j,hl2]
def Cells.aI{w w' sz n A xs}(h:Cells w sz A n xs)(g:ao w w'):Cells w' sz A n xs:=⟨h.1,λb=>by obtain⟨a,rfl,hc⟩:=h.2 b;exact⟨a,rfl,λj v hv=>g.cell (hc j v hv) (λh=>h)⟩⟩
def Cells.apart{w w' sz n N A xs F}(h:Cells w sz A n xs)(k:aq F w w')(d:∀b,dV A b->b<N)(f:∀b,F b->N<=b):Cells w' sz A n xs:=⟨h.1,λg=>by
 obtain⟨a,rfl,hc⟩:=h.2 g;refine⟨a,rfl,λj v hv=>k.cell (hc j v hv) (λc=>?_)⟩;have e:(a.add j).block=a.block:=by grind[Addr.add]
 rw[e]at c;have h1:=d _ ⟨_,_,aa⟩;have i:=f _ c;omega⟩
def alq C(B c cs)(A i)m d a W t N(h:se C d)(w:d.down=au)(E:d.cache=[])(D:hE t A c C.ms)(hsc:Cells W 2 i a.length (l6 a))(s:∀b,dV i b->b<N)(v:∀b,(aO B m d).c5 b->N<=b)(z:a.length<=cs/\a.length<=1048576)(x:∀k∈a,db k.1)(u:Has W (aO B m d))(q:Has W t)(hap:∀b,t.c5 b->¬(aO B m d).c5 b)(hdone:tT (gA C (a++[(-1,0)]) d).1=aB):
 aD ax 19 #[di B,J R (C.bd:Int),dD (C.o:Int) (C.n:Int) C.g1 C.g2 (ad A C.ms.length c),ad i a.length cs] W λe w'=>∃pk f j l,pk<=(C.bd:Int)/\e=aA (av #[ad f (gA C (a++[(-1,0)]) d).1.length j,aj aB,J R pk])/\Turned W w' (aO B m d) (both (bp f (gA C (a++[(-1,0)]) d).1.length j 158 5 (tH (gA C (a++[(-1,0)]) d).1)) (aO B l (gA C (a++[(-1,0)]) d).2)):=by
 refine(alp C B c cs A i m d a W W (aO B m d).c5 emp h w aG (λp g=>D.s6 (t.ox W p (λb hb hlt=>g.block b hlt (hap b hb)) q.2 q.1)) (λp g=>hsc.apart g s v) z x ((ai.start u).dT.perm (Dr _ _ _))).mono ?_;rintro e w' ⟨pk,y,f,j,rfl,l,r⟩;unfold adD;rw[hdone];exact⟨pk,f,j,l,y,aa,(r.star).gj 0⟩
def as8(s A X)(b1 c cs n size bd)(g1 g2)old ms S(o od)rs f w(hN:old.length<=1048576)(hc0:old.length<=b1)(hold:bT w s old)(k0:nB w s)(hl:cD w A ms)(hv:nC old.length n ms)(iH:∀m∈ms,m.data.length<=140737488355328)(hg1:g1.l=ic old)(hg2:g2.l=ic (vI old ms))(aaP:(vI old ms).length<=1048576)(hc:AI old ms S o od rs)(hsz:1<=size/\size<=1048576)(Hh:size*(k6 size bd (max old.length n)+0)<=1048576)(G:se ⟨bd,old.length,n,g1,g2,fE ms od++rs⟩ (qM size (k6 size bd (max old.length n)+0) old))(L:dS (gA ⟨bd,old.length,n,g1,g2,fE ms od++rs⟩ (f++[(-1,0)]) (qM size (k6 size bd (max old.length n)+0) old)).2)(hdone:tT (gA ⟨bd,old.length,n,g1,g2,fE ms od++rs⟩ (f++[(-1,0)]) (qM size (k6 size bd (max old.length n)+0) old)).1=aB)(K:n<=(gA ⟨bd,old.length,n,g1,g2,fE ms od++rs⟩ (f++[(-1,0)]) (qM size (k6 size bd (max old.length n)+0) old)).2.bytes.length)(hsc:Cells w 2 X f.length (l6 f))(K2:∀b,dV X b->b<w.heap.size)(e6:f.length<=cs/\f.length<=1048576)(rR:∀k∈f,db k.1):
 aD ax 43 #[ad s old.length b1,dD (old.length:Int) (n:Int) g1 g2 (ad A ms.length c),J R (size:Int),J R (bd:Int),ad X f.length cs] w λe w'=>∃ck c1 aK c2 pk,pk<=(bd:Int)/\e=aA (bh #[ad ck n c1,av #[ad aK (gA ⟨bd,old.length,n,g1,g2,fE ms od++rs⟩ (f++[(-1,0)]) (qM size (k6 size bd (max old.length n)+0) old)).1.length c2,aj aB,J R pk],av #[J R 0,J R 0]])/\b5 w w' (cf ck c1 (gA ⟨bd,old.length,n,g1,g2,fE ms od++rs⟩ (f++[(-1,0)]) (qM size (k6 size bd (max old.length n)+0) old)).2.bytes):=by
 obtain⟨N,fl⟩:∃z,max old.length n=z:=⟨_,aa⟩;have anY:old.length<=N:=ae;rw[fl]at G L hdone Hh K⊢;obtain⟨D,Y⟩:∃z,qM size (k6 size bd N+0) old=z:=⟨_,aa⟩;rw[Y]at G L hdone K⊢;have cZ:D.down=false:=by rw[<-Y];rfl
 have Hk:D.cache=[]:=by rw[<-Y];rfl
 obtain⟨x,D9⟩:∃z,fE ms od++rs=z:=⟨_,aa⟩;have zg:Hid (∀W,ao w W->aD ax 28 #[ad s old.length b1,dD (old.length:Int) (n:Int) g1 g2 (ad A ms.length c)] W λe w'=>∃H I t,e=aA (bh #[dD (old.length:Int) (n:Int) g1 g2 (ad H x.length I),av #[J R 0,J R 0]])/\b5 W w' t/\hE t H I x):=hid (λW g=>by rw[<-D9];exact Yd s A b1 c n g1 g2 old ms S o od rs W hN hc0 (hold.aI g) (k0.aI g) (hl.aI g) hv iH hg1 hg2 aaP hc)
 rw[D9]at G L hdone K⊢;have rr:Hid (∀W S,aD ax 39 #[J R (size:Int),J R (bd:Int),dD (old.length:Int) (n:Int) g1 g2 S] W λe w'=>e=aA (bh #[av (rU size bd N),J R 0])/\ao W w'):=hid (λW S=>by rw[<-fl];exact acb size bd old.length n g1 g2 S hsz G.bd hN G.sz.2 W);have WE:Hid (∀W p,W.cell? ⟨p,0,af⟩=ab (ad s old.length b1)->bT W s old->aD ax 40 #[av (rU size bd N),J R ((0:Nat):Int),ad (ab ⟨p,0,af⟩) 1 1] W λe w'=>∃B m,e=aA (bh #[di B,J R 0])/\b5 W w' (aO B m D)):=hid (λW p h1 h2=>by rw[<-Y];exact aqC size bd N 0 p s b1 old W hsz.1 Hh anY h1 h2);obtain⟨M,O,P,Q,T,U,V,hlc⟩:∃M O P Q T U V,rU size bd N=#[J R M,J R O,J R P,J R Q,J R T,J R U,J R V]:=⟨_,_,_,_,_,_,_,aa⟩;rw[hlc]at rr WE;obtain⟨C,j'⟩:∃z,(⟨bd,old.length,n,g1,g2,x⟩:vQ)=z:=⟨_,aa⟩;rw[j']at G L hdone K⊢;have zl:Hid (∀W B aK c2 m t,hE t aK c2 x->aq (λ_=>False) w W->(∀b,(aO B m D).c5 b->w.heap.size<=b)->Has W (aO B m D)->Has W t->(∀b,t.c5 b->¬(aO B m D).c5 b)->aD ax 19 #[di B,J R (bd:Int),dD (old.length:Int) (n:Int) g1 g2 (ad aK x.length c2),ad X f.length cs] W λe w'=>∃pk H I aV,pk<=(bd:Int)/\e=aA (av #[ad H (gA C (f++[(-1,0)]) D).1.length I,aj aB,J R pk])/\Turned W w' (aO B m D) (both (bp H (gA C (f++[(-1,0)]) D).1.length I 158 5 (tH (gA C (f++[(-1,0)]) D).1)) (aO B aV (gA C (f++[(-1,0)]) D).2))):=hid (λW B aK c2 m t h1 h2 h3 h4 h5 h6=>by subst j';exact alq _ B c2 cs aK X m D f W t w.heap.size G cZ Hk h1 (hsc.aI h2) K2 h3 e6 rR h4 h5 h6 hdone);have Lj:=L;obtain⟨r,F,hat⟩:∃a b,gA C (f++[(-1,0)]) D=(a,b):=⟨_,_,aa⟩;rw[hat]at zl K Lj⊢;simp only at zl K Lj⊢;have ah0:=hid Lj;have A3:=hid hold;clear hat hdone hlc Y fl hN k0 hl hv iH hg1 hg2 aaP hc D9 hold G L Lj hsc K2 e6 rR;go_enter func43,ntmps43;have d:=bg w;go_upto_region 0 with fail;refine ar ?_;refine bO d (av (a6 (old.length:Int) (n:Int) g1 g2 (ad A ms.length c))) (λeJ w1 d=>?_);refine ag ?_;refine bA d #[ad af 0 0,aj au,J R 0] (λy2 aS d=>?_);refine bA d #[J R 0,J R 0] (λq6 bN d=>?_);refine ak ?_;go_upto_region 1 with fail;refine ar ?_;refine ag ?_;refine bt d 2 (a6 (old.length:Int) (n:Int) g1 g2 (ad A ms.length c)) ?_ (hv:=(ef _)) (hk:=by show 0+_<=jD _;rw[kV];exact cp _) (hz:=(by rw[cN];rfl));refine a7 (zg _ d.only) ?_;rintro e cc ⟨aK,c2,bG,rfl,Z,j4⟩;replace d:=d.new _ Z;refine bb ?_;iterate 3 refine ag ?_
 refine bA d (a6 0 0 dY.zero dY.zero (ad af 0 0)) (λUx cG d=>?_);refine bA d #[J R 0,J R 0] (λN1 c6 d=>?_);refine ba d 1 (av (a6 (old.length:Int) (n:Int) g1 g2 (ad aK x.length c2))) (λdX d=>?_) (hk:=by show 0+jD (a6 _ _ _ _ _)<=_;simp only[cN];decide) (hz:=by show _=ab (jD (a6 _ _ _ _ _));rw[cN];rfl) (h1:=(vg aa)) (hc:=vD);refine ba d 0 (av #[J R 0,J R 0]) (λdH d=>?_);refine ak ?_;go_upto_region 2 with fail;refine ar ?_;refine bt d 0 #[J R 0,J R 0] ?_;refine aJ (av #[J R 0,J R 0]) (by(show _=_;kernel_rfl)) ?_;refine aJ (aj au) (by(show _=_;kernel_rfl)) ?_;refine ak ?_;go_upto_region 4 with fail;refine ar ?_;iterate 2 refine ag ?_
 refine bt d 1 (a6 (old.length:Int) (n:Int) g1 g2 (ad aK x.length c2)) ?_ (hv:=(ef _)) (hk:=by show 0+_<=jD _;rw[kV];exact cp _) (hz:=(by rw[cN];rfl));refine a7 (rr _ (ad aK x.length c2)) ?_;rintro e e9 ⟨rfl,g⟩;replace d:=d.aI g;refine bb ?_;iterate 3 refine ag ?_
 refine bA d #[J R 0,J R 0,J R 0,J R 0,J R 0,J R 0,J R 0] (λJb hT d=>?_);refine ba d 0 (av #[J R M,J R O,J R P,J R Q,J R T,J R U,J R V]) (λi' d=>?_);refine ag ?_;refine ak ?_;go_upto_region 5 with fail;refine ar ?_;refine ag ?_;refine aJ (aj au) (by(show _=_;kernel_rfl)) ?_;refine ak ?_;go_upto_region 7 with fail;refine ar ?_;refine bt d 0 #[J R M,J R O,J R P,J R Q,J R T,J R U,J R V] ?_;refine ag ?_;refine ga d #[ad s old.length b1] 22 (λFy ks d=>?_);refine a7 (WE _ Fy ((d.a1 0).cell 0 aa) (A3.out.aI d.only)) ?_;rintro e lf ⟨B,m,rfl,Z⟩;replace d:=d.new _ Z;refine bb ?_;iterate 5 refine ag ?_
 refine ak ?_;go_upto_region 8 with fail;refine ar ?_;refine ag ?_;refine aJ (aj au) (by(show _=_;kernel_rfl)) ?_;refine ak ?_;go_upto_region 10 with fail;refine ar ?_;iterate 2 refine ag ?_
 refine bt d 4 (a6 (old.length:Int) (n:Int) g1 g2 (ad aK x.length c2)) ?_ (hv:=(ef _)) (hk:=by show 0+_<=jD _;rw[kV];exact cp _) (hz:=(by rw[cN];rfl));refine ag ?_;refine a7 (zl.out _ B aK c2 m bG j4 d.only (λb hb=>((d.low _ (List.mem_of_getElem? (show _[0]?=ab (aO B m D)from aa)) b hb).2).elim (λh=>h) (λh=>h.elim)) (d.has 0) (d.has 5) (d.ne (i:=5) (j:=0) aa aa bj)) ?_;rintro e mm ⟨pk,y,E,m5,o2,rfl,bH⟩;replace d:=d.eG 0 bH;refine bb ?_;refine bA d #[ad af 0 0,aj au,J R 0] (λN2 nU d=>?_);refine ba d 0 (av #[ad y r.length E,aj aB,J R pk]) (λpa d=>?_);refine ak ?_;go_upto_region 11 with fail;refine ar ?_;refine ag ?_;refine pl d 0 1 ?_;refine aJ (aj au) (by(show _=_;kernel_rfl)) ?_;refine ak ?_;replace d:ai _ _ _ [bp y r.length E 158 5 (tH r),aO B m5 F,ah N2 #[ad y r.length E,aj aB,J R pk] 63,ah Fy #[ad s old.length b1] 22,ah Jb #[J R M,J R O,J R P,J R Q,J R T,J R U,J R V] 93,ah N1 #[J R 0,J R 0] 49,ah Ux (a6 (old.length:Int) (n:Int) g1 g2 (ad aK x.length c2)) 26,bG,ah q6 #[J R 0,J R 0] 49,ah y2 #[ad af 0 0,aj au,J R 0] 63,ah eJ (a6 (old.length:Int) (n:Int) g1 g2 (ad A ms.length c)) 26]:=(d.front 1).fi;go_upto_region 13 with fail;refine bP d [1,8,9] (λi u=>match i with|1=>ad u.A F.bytes.length u.c|_=>aZ) (λq=>λ|1=>cf (q 1).A (q 1).c F.bytes|8=>ah y2 #[ad y r.length E,aj aB,J R pk] 63|9=>ah q6 #[J R 0,J R 0] 49|_=>emp) (λ|8=>[9]|9=>[8]|_=>[]) (λ|1=>[1]|3=>[6]|4=>[12]|5=>[2]|_=>[]) (λ|1=>[1]|_=>[]) [0,1,2,3,4,5,6,7,10,12,19,20] (λq=>?_);refine aL ?_;refine df (λwl Fr d=>(alQ B m5 F wl (d.has 0) ah0).mono ?_) ?_;·rintro e dn ⟨H,I,rfl,Z⟩;exact⟨{A:=H,c:=I},aa,d.new _ Z⟩
 refine aL ?_;refine dl 0 1 ?_ (hv:=jh);refine aM (ad (q 1).A n (q 1).c) (λ_ _ d=>qV 22 5 1 (.tmp 73) (.tmp 75) aa Tryz.underlying22 aw (q 1).A F.bytes.length (q 1).c n aa aa (Nat.le_trans K (d.at (t:=cf (q 1).A (q 1).c F.bytes) 0).2.2)) ?_;refine eb 0 #[ad y r.length E,aj aB,J R pk] ?_;refine aM (av #[J R 0,J R 0]) (λ_ _ _=>by(show _=_;kernel_rfl)) ?_;refine aL ?_;refine fZ (av #[ad y r.length E,aj aB,J R pk]) ?_;refine fZ (av #[J R 0,J R 0]) ?_;refine o9 (λta d=>?_);replace d:ai _ _ _ [bp y r.length E 158 5 (tH r),aO B m5 F,ah N2 #[ad y r.length E,aj aB,J R pk] 63,ah Fy #[ad s old.length b1] 22,ah Jb #[J R M,J R O,J R P,J R Q,J R T,J R U,J R V] 93,ah N1 #[J R 0,J R 0] 49,ah Ux (a6 (old.length:Int) (n:Int) g1 g2 (ad aK x.length c2)) 26,bG,ah eJ (a6 (old.length:Int) (n:Int) g1 g2 (ad A ms.length c)) 26,cf (q 1).A (q 1).c F.bytes,ah y2 #[ad y r.length E,aj aB,J R pk] 63,ah q6 #[J R 0,J R 0] 49]:=d;generalize (q 1).A=afq at d⊢;generalize (q 1).c=akv at d⊢;go_wp2_with fail;refine bodyPost_ret (v:=bh #[ad afq n akv,av #[ad y r.length E,aj aB,J R pk],av #[J R 0,J R 0]]) (as7 aa aa aa aa (d.a1 10) (d.a1 11) aw aw aw aw) aa ⟨_,_,_,_,pk,o2,aa,d.fresh 9⟩
def uu:List Int:=[97,98,99,100,101,102]
def k8:List Int:=[100,101,102,120,97,98,99]
def oE:List bI:=[⟨1,0,3,3,[]⟩,⟨2,3,0,0,[120]⟩,⟨1,4,0,3,[]⟩]
def Bj:List bI:=[⟨1,4,0,3,[]⟩,⟨2,0,0,0,[100,101,102]⟩,⟨2,3,0,0,[120]⟩]
def MO:List bI:=[⟨2,0,0,0,[100,101,102]⟩,⟨2,3,0,0,[120]⟩]
def zy:List jQ:=[((0,3),0),((3,1),1),((4,3),2)]
def sf:List (Int×Int):=[(0,1),(0,2),(2,0)]
def aqH:EM uu k8 3=oE:=aw
theorem UG:sF oE zy=sf:=aw
theorem ab7:jX oE 3=[1]:=aw
def adj:vI uu oE=k8:=aw
def aes{a:Type}{pre L}{x:a}(h:pre++[x]<+:L):L[pre.length]?=ab x/\L.take pre.length=pre:=by obtain⟨t,rfl⟩:=h;simp
def auR(L:List (Nat×Int×Int)):Bool:=(dG L.length).all λj=>match L[j]? with
 |some x=>decide (x.2.1=iq (L.take j))&&decide (0<=iq (L.take j))&&decide (0<=x.2.2)&&decide (iq (L.take j)+x.2.2<=4611686018427387903)
 |none=>au
def aeQ{n:Nat}{ms}(h:auR (hR ms)=aB)(a:iq (hR ms)=(n:Int)):Kj n ms:=⟨λpre x c=>by obtain⟨b,d⟩:=aes c;have e:=List.all_eq_true.1 h _ (List.mem_range.2 (List.getElem?_eq_some_iff.1 b).1);grind,a⟩
def avc:nC 6 7 oE:=⟨bj,bj,λm a=>by simp only[oE,gz,gb,or_false]at a;rcases a with rfl|rfl|rfl<;>simp[jc,hY,wE,eE,cS],aeQ aw aw,bj⟩
def avb:nC 6 7 Bj:=⟨bj,bj,λm a=>by simp only[Bj,gz,gb,or_false]at a;rcases a with rfl|rfl|rfl<;>simp[jc,hY,wE,eE,cS],aeQ aw aw,bj⟩
def Zc:jS zy:=⟨by simp[zy],λx hx=>by grind[zy,eE]⟩
theorem Tl{E v x}(h:G.Path E v x):∃y,(v,y)∈E:=by
 induction h with
 |one h=>grind
 |more _ _ a=>omega
def alC:G.kA sf [] [0,2]:=⟨aU,λx=>by
 rw[G.GR];constructor
 .intro h;simp at h;rcases h with rfl|rfl;·exact .more (.one (x:=2) (by simp[sf])) (by simp[sf])
  .exact .more (.one (x:=0) (by simp[sf])) (by simp[sf])
 grind[Tl,sf]⟩
def alD:G.kA sf [0] []:=⟨Gn,λx=>by grind[G.cut,sf,Tl]⟩
theorem akJ:G.wx sf [3,0,3] [1] [0] []:=⟨.snoc (v:=0) .nil alC aw,alD,aa⟩
theorem arH:G.mx sf 3 [1,0] [2]:=by
 have rd:∀v out,G.va sf 3 [1,0] out v->v=2:=λv out h=>by obtain⟨h1,a,_⟩:=h;simp at a;omega
 refine⟨.snoc (out:=[]) (v:=2) .nil ⟨⟨bj,aU,aU,λu b=>?_⟩,λu b=>aG⟩,λv hv=>?_⟩;·grind[sf]
 .have h1:=rd v _ hv;subst h1;exact hv.2.2.1 aU
def ak3:FA oE:=⟨bj,ati (l:=oE.map b') (S:=zy) aT Zc,λm a hk=>by grind[oE,eE]⟩
def ak7:Conv oE zy [0] [2]:=⟨ak3,aT,Zc,by grind[oE,ab7,UG,akJ],by grind[oE,ab7,UG,arH],aw,bj⟩
def aly:AI uu oE zy [0] [2] MO:=⟨ak7,λx hx=>⟨2,aG,bj⟩,bj,λm a hk=>by
 simp only[oE,gz,gb,or_false]at a;rcases a with rfl|rfl|rfl;·exact⟨3,3,aa,aa,bj⟩
 .grind
 .exact⟨0,3,aa,aa,bj⟩,⟨aT,by simp[MO]⟩⟩
def GA:fE oE [2]++MO=Bj:=aw
def CR:vQ:=⟨2,6,7,iV uu,iV k8,Bj⟩
def Bx:dM:=qM 64 (k6 64 2 7+0) uu
def alN:dS Bx:=acq bj bj bj bj
def aeC:ey 2 Bj=[⟨1,4,0,2,[]⟩,⟨1,6,2,1,[]⟩,⟨2,0,0,0,[100,101]⟩,⟨2,2,0,0,[102]⟩,⟨2,3,0,0,[120]⟩]:=aw
def akZ:se CR Bx:=⟨alN,bj,bj,avb,bj,by show(ey 2 Bj).length<=_;rw[aeC];decide,λbF b=>by
 have a:bF∈ey 2 Bj:=b;rw[aeC]at a;simp at a;rcases a with rfl|rfl|rfl|rfl|rfl;·exact⟨4,aa,bj⟩
 .exact⟨6,aa,bj⟩
 .exact⟨0,aa,bj⟩
 .exact⟨2,aa,bj⟩
 .exact⟨3,aa,bj⟩⟩
def adE:Bool:=match gA CR ([(4,1)]++[(-1,0)]) Bx with
 |(l,d)=>decide (l.length=2)&&tT l&&decide (d.bytes.take 7=k8)&&decide (1<=d.size)&&decide (1<=d.cnt)&&decide (d.bytes.length=d.cnt*d.size)&&decide (d.cnt*d.size<=1048576)&&d.cache.isEmpty&&decide (d.writes=-1)
def as5:adE=true:=aw
section
section
variable {lt:Nat->Nat->Bool} {key:Nat->Int}
def swap_perm{L:List Nat}{j}(a:j+1<L.length):((L.set (j+1) (L[j]?.getD 0)).set j (L[j+1]?.getD 0)).Perm L:=aG
def aej:∀(j) L,j<L.length->(sink lt j L).Perm L
 |0,_,_=>A9 _
 |j+1,L,a=>by
  unfold sink;split;·exact(aej j _ (by simp;omega)).trans (swap_perm a)
  .exact A9 _
def abD L:∀i,i<=L.length->(k3 lt L i).Perm L
 |0,_=>A9 _
 |i+1,h=>(aej i _ (by grind[EB])).trans (abD L i ae)
def ko(key:Nat->Int)(L:List Nat)(a:Nat):Int:=key (L[a]?.getD 0)
def aek(hlt:∀x y,lt x y=decide (key x<key y)):∀(j) L,j<L.length->(∀a b,a<b->b<j->ko key L a<=ko key L b)->
 (∀a b,a<b->b<j+1->ko key (sink lt j L) a<=ko key (sink lt j L) b)/\(∀b,j<b->(sink lt j L)[b]?=L[b]?)/\∀f,(∀a,a<=j->ko key L a<=f)->∀a,a<=j->ko key (sink lt j L) a<=f
 |0,L,_,_=>⟨λa b h1 v=>ae,λb _=>rfl,λf h=>h⟩
 |j+1,L,s,i=>by
  unfold sink;rw[hlt];by_cases h:key (L[j+1]?.getD 0)<key (L[j]?.getD 0)
  .rw[if_pos (decide_eq_true h)];obtain⟨c,g⟩:∃z,(L.set (j+1) (L[j]?.getD 0)).set j (L[j+1]?.getD 0)=z:=⟨_,aa⟩
   have bD:∀a,a<j->c[a]?=L[a]?:=λa e=>by rw[<-g,J' ae,J' ae]
   have b9:c[j]?=ab (L[j+1]?.getD 0):=by rw[<-g,aje (by simp;omega)]
   have q:c[j+1]?=ab (L[j]?.getD 0):=by rw[<-g,J' ae,aje s]
   have r:∀a,j+1<a->c[a]?=L[a]?:=λa e=>by rw[<-g,J' ae,J' ae]
   have k:∀a,a<j->ko key c a=ko _ L a:=λa e=>by unfold ko;rw[bD a e]
   have m:ko key c j=ko key L (j+1):=by unfold ko;rw[b9];rfl
   have t:ko key c (j+1)=ko key L j:=by unfold ko;rw[q];rfl
   have hlen:c.length=L.length:=by rw[<-g];simp
   rw[g];obtain⟨u,o,p⟩:=aek hlt j c ae (λa b hab hb=>by rw[k a ae,k b ae];exact i a b hab ae);have n:ko key (sink lt j c) (j+1)=ko key L j:=by rw[<-t];unfold ko;rw[o (j+1) ae]
   have hx:ko _ L _<ko _ L j:=h
   have hb:∀a,a<=j->ko _ c a<=ko key L j:=λa e=>by
    by_cases d:a=j;·rw[d,m];omega
    .rw[k a ae];exact i a j ae ae
   refine⟨λa b hab hb2=>?_,λb hb2=>by rw[o b ae,r b ae],λf l a e=>?_⟩
   .by_cases d:b=j+1;·rw[d,n];exact p _ hb a ae
    .exact u a b hab ae
   .by_cases d:a=j+1;·rw[d,n];exact l j ae
    .refine p f (λa e=>?_) a ae;by_cases d:a=j;·rw[d,m];exact l _ ae
     .rw[k a ae];exact l a ae
  .rw[if_neg (by simpa using h)];refine⟨λa b hab hb=>?_,λb _=>rfl,λf h=>h⟩;have hx:ko _ L j<=ko _ L _:=Int.not_lt.1 h;by_cases d:b=j+1
   .subst d;by_cases e:a=j;·rw[e];exact hx
    .exact Int.le_trans (i a j ae ae) hx
   .exact i a b hab ae
def abE(hlt:∀x y,lt x y=decide (key x<key y))L:∀i,i<=L.length->∀a b,a<b->b<i->ko key (k3 lt L i) a<=ko key (k3 lt L i) b
 |0,_=>λa b _ h=>by omega
 |i+1,h=>(aek hlt i _ (by grind[EB]) (abE hlt L i ae)).1
end
def acR ms:(lX ms).Perm (dG ms.length):=abD _ _ aU
theorem acS ms:(lX ms).Pairwise (λi j=>mR ms i<=mR ms j):=by rw[List.pairwise_iff_getElem];intro i j hi b a;have c:=Mt ms;have h:=abE (lt:=λx y=>decide (pJ (mR ms x) (mR ms y)<0)) (key:=mR ms) (λx y=>by grind[pJ]) (dG ms.length) ms.length aU i j a ae;grind[ko,lX]
end
end Go.Proofs.YtcmhplknoglbkaaGreat
