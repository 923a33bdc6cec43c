/- Part 27 of the proof of TopConvertsSaid. -/
import Derived.Maps.RangeWalk
import Derived.Test.YtcmhplknoglbkaaGreat0
import Derived.Test.YtcmhplknoglbkaaGreat6
import Derived.Test.YtcmhplknoglbkaaGreat10
import Derived.Test.YtcmhplknoglbkaaGreat21
import Derived.Test.YtcmhplknoglbkaaGreat26
set_option linter.all false
set_option maxRecDepth 100000
set_option maxHeartbeats 4000000
open Go.Proofs.Tryz
open Array renaming getElem?_eq_some_iff->pf,toList_filter->afv
open Bool renaming false->au,true->aB
open Function renaming comp_def->Jf
open Go.Builtin renaming delete_->UJ
open Go renaming Calls->aD,MapEntry->Og,Value->aP,bodyPost_ret->dp,cell_of_row->eC,execOp->bw,leftOf->AU,run_underlying->gG,undef->aZ,wpList->cH,wpList_nil->ak,wpList_plain->C8
open Go.ChangeMaps renaming heap_setBlock_other->CY,heap_setBlock_same->CZ,modify_eq_set->afM,setBlock->kR
open Go.Ending renaming returned->aA
open Go.Instr renaming entry->afS,mapUpdate->C1
open Go.IntKind renaming i64->R,u64->aH
open Go.MapKept renaming heap_alloc->UO,run_getObj_map->y5,run_setObj_map->FF,stamped_iff->Oh
open Go.Obj renaming cells->bf,map->iP,mapIter->Jn
open Go.Oper renaming wp->hC
open Go.Proofs.Tryz renaming func58->agI,ntmps58->aho,prog->ax
open Go.RowKit renaming Hid->aE
open Go.TypeDesc renaming map->wg
open Go.Value renaming agg->av,bool->aj,int->J,map->dF,pointer->ay,slice->ad,tuple->bh
open List.Perm renaming refl->A9
open List renaming append_nil->j6,filter_congr->Dv,filter_cons->Dw,filter_eq_self->zo,filter_map->P1,getElem?_eq_some_iff->eR,getElem?_map->kB,length_cons->jT,map_cons->jx,map_map->Gs,mem_filter->mZ,mem_map->gN,pairwise_cons->u6,pairwise_iff_getElem->l3
open Nat renaming div_le_self->zr,le_refl->cp,le_trans->eD,sub_le->Gv,succ_le_succ->zu,zero_le->cQ
open Option renaming none->af,some->ab
namespace Go.Proofs.YtcmhplknoglbkaaGreat
open Go.RowKit Go.MapKept
def anw(n:Nat)w(h1:n<=140737488355328):
 aD ax 185 #[ad af 0 0,J R (n:Int)] w λe w'=>∃A c,e=aA (ad A 0 c)/\Row w.heap.size w' A 0 c 5 1 []/\ao w w':=
 (Zi n w h1).mono (λe w' ⟨v,h1,a,b⟩=>by
  rcases a.2 with⟨rfl,_⟩|⟨g,cap,cur,rfl,_⟩;·grind
  .grind)
def aki{P o}{a:Act}{w}t(x y)e(b:o.op=.binOp .rem t x y e)(p:Nat)(hx:a.eval x=J aH (p:Int))(d:a.eval y=J aH 2):
 (bw a.eval o).run P w=.ok (.value (J aH ((p%2:Nat):Int))) w:=by
 have c:(p:Int).tmod 2=((p%2:Nat):Int):=aT;unfold bw;simp[b,hx,d,eqGuard,binOp,Op.intDiv,c]
def ak0 w:
 aD ax 93 #[ad af 0 0] w λe w'=>∃A c,e=aA (ad A 0 c)/\Row w.heap.size w' A 0 c 5 1 []/\ao w w':=by
 go_enter func93,ntmps93;have a:=bg w;go_step;refine aF ?_;refine ag ?_;refine aF ?_;refine ag ?_;refine aF ?_;refine v3 ?_;refine ak ?_;go_wp2_with fail;go_loopw [3,11] (λd b wr=>d=J R 0/\b=J R 0/\ai w (λ_=>False) wr []) (λd b wr=>0);case atStart=>grind
 case round=>
  clear a;obtain⟨rfl,rfl,a⟩:=hrel;go_step;refine aF ?_;refine cK ?_;refine a7 (anw 0 _ ae) ?_;rintro e w1 ⟨f,bC,rfl,h,g⟩;replace a:=a.k8 g h;refine bb ?_;refine ag ?_;refine aF ?_;refine v3 ?_;refine ak ?_;go_wp2_with fail;go_loopw [6,27] (λd b wr=>d=ad f 0 bC/\b=J R 0/\ai w (λ_=>False) wr [bp f 0 bC 5 1 []]) (λd b wr=>0);case atStart=>grind
  case round=>
   clear a;obtain⟨rfl,rfl,a⟩:=hrel;go_step;refine aF ?_;refine ag ?_;refine aF ?_;refine dQ ?_;go_wp2_with fail;go_ret;exact⟨f,bC,aa,(a.fresh 0).row,a.only⟩
def SH(dx B first bound)id j A c w(b:Has w (p0 dx B first bound id j A c))(o:j.last.data.length<=140737488355328):
 aD ax 58 #[ay (ab ⟨dx,0,af⟩)] w λe w'=>match j.has with|false=>e=aA (bh #[av MJ,aj au])/\ao w w'|true=>∃d f,e=aA (bh #[av (recC j.last d f),aj aB])/\b5 w w' (cf d f j.last.data):=by
 have q:=hid b;cases hh:j.has with
 |false=>
  have i:aE (aX w dx _ 233):=hid (by have h:=b.1.1;rw[LZ,hh]at h;exact h);clear b hh;go_enter agI,aho;have a:=bg w;go_step;refine aF ?_;refine bA a #[J _ 0,J _ 0,J _ 0,J _ 0,ad _ 0 0] (λk w1 a=>?_);refine cK ?_;refine pk (aj au) ?_;refine v4 ?_;refine iL i a.only ?_;refine CN ?_;refine ba a 0 (av #[J aH 0,J aH 0,J R 0,J R 0,ad af 0 0]) (λr a=>?_);refine bR ?_;go_wp2_with fail;refine dp (v:=_) (mP aa aa aa (a.a1 0) aw aw) aa (⟨aa,a.only⟩)
 |true=>
  have i:aE (aX w dx _ 233):=hid (by have h:=b.1.1;rw[LZ,hh]at h;exact h);have l:aE (∀W,ao w W->aD _ 65 _ W λe w'=>∃d f,e=aA _/\e3 _ w' d f _/\ao W w'):=hid (λW g=>(wI A c _ W (b.1.2.1.1.aI g) o).mono (λe w' ⟨d,f,h1,m,n⟩=>⟨d,f,h1,Row.nS m,n⟩));clear b hh;go_enter agI,aho;have a:=bg w;go_step;refine aF ?_;refine bA a #[J _ 0,J _ 0,J _ 0,J _ 0,ad _ 0 0] (λk s a=>?_);refine cK ?_;refine pk (aj au) ?_;refine v4 ?_;refine iL i a.only ?_;refine v2 ?_;refine jt ?_;refine aJ (av #[J aH j.last.seq,J aH j.last.id,J R j.last.cur,J R j.last.off,ad A j.last.data.length c]) (mg (cs':=#[J aH j.last.seq,J aH j.last.id,J R j.last.cur,J R j.last.off,ad A j.last.data.length c]) aa aa (aX.aI i.out a.only) aw (of_decide_eq_true aw) aw aw) ?_;refine bA a #[J _ 0,J _ 0,J _ 0,J _ 0,ad _ 0 0] (λp t a=>?_);refine ba a 0 (av _) (λu a=>?_);refine b6 ?_;refine pl a 0 4 ?_;refine a7 (l _ a.only) ?_;rintro e x ⟨aK,c2,rfl,b,g⟩;replace a:=a.js g b;refine bb ?_;refine ag ?_;refine ba a 1 (ad aK _ c2) (λy a=>?_);refine aF ?_;refine bt a 1 #[J aH j.last.seq,J aH j.last.id,J R j.last.cur,J R j.last.off,ad aK j.last.data.length c2] ?_;refine ba a 2 (av _) (λz a=>?_);refine bR ?_;go_wp2_with fail;refine dp (v:=_) (mP aa aa aa (a.a1 2) aw aw) aa (⟨aK,c2,aa,a.fresh 0⟩)
def jz(d:dM)(first bound:Nat)(id:Nat)(j:oN)(nx cu of:Nat)(ds:List Int):Int×oN×dM:=
 let wr:=ma d (uk d first bound (nx%2)) (vj nx id cu of ds)
 if wr.1≠0 then(wr.1,j,wr.2)
 else if(l9 wr.2).1≠0 then((l9 wr.2).1,j,(l9 wr.2).2)
 else(0,⟨aH.wrap ((nx:Int)+1),⟨(nx:Int),(id:Int),(cu:Int),(of:Int),ds⟩,aB⟩,(l9 wr.2).2)
theorem ajS(a b c d e):(iT [(a,8),(b,8),(c,8),(d,8),(e,4)]).length=36:=aT
theorem YI(nx id cu of)ds:(vj nx id cu of ds).length=44+ds.length:=by unfold vj Ar E6 sU KK;grind[jT,ajS]
def Y7{d o bs}(a:dS d)(f:o+bs.length<=d.bytes.length)(b:d.down=au)(e:d.cache.length<=1000000000):dS (ma d o bs).2:=by
 have hsm:d.bytes.length<=1048576:=by rw[a.len];exact a.small
 have key:∀(l:List _) k cE,DD d cE k->d.cache.length+k+l.length<1073741824->dS (l.foldl (mn o bs) (0,cE)).2:=by
  intro l;induction l with
  |nil=>intro k cE h _;exact h.ok
  |cons x l i=>
   intro k cE h hk;rw[jT]at hk;rw[List.foldl_cons];by_cases hx:(mn o bs (0,cE) x).1=0;·have c:=h.step ae hx;grind
   .rw[Nd l _ hx];unfold mn;rw[if_neg aU];exact T9 h.ok _ _ (by have:=h.en;omega)
 refine key _ 0 d ⟨a,aa,aa,b,cp _⟩ ?_
 have g:(oF d.size o bs.length).length<=d.bytes.length+1:=by
  rw[oF,List.length_map,List.length_range];unfold fh;split;·omega
  .exact zu (eD (Gv _ _) (eD (zr _ _) ae))
 omega
def abH (dx B first bound id nx cu of:Nat) j A c m d ds ads w (hs:Has w (both (p0 dx B first bound (id:Int) j A c) (aO B m d))) (O:j.next=(nx:Int)) (r:kk d first bound) (M:d.down=au) (N:d.cache.length<=1000000000) (Ec:ds.length<=bound) (D:nx<18446744073709551616/\id<18446744073709551616/\cu<=4611686018427387903/\of<=4611686018427387903)
 (hp:∀W,aq (both (p0 dx B first bound (id:Int) j A c) (aO B m d)).c5 w W->aD ax 93 #[ads] W λe w'=>∃E F,e=aA (ad E ds.length F)/\e3 W.heap.size w' E F ds/\ao W w'):
 aD ax 227 #[ay (ab ⟨dx,0,af⟩),J R (cu:Int),J R (of:Int),ads] w λe w'=>e=aA (J R (jz d first bound id j nx cu of ds).1)/\∃E F aV,Turned w w' (both (p0 dx B first bound (id:Int) j A c) (aO B m d)) (both (p0 dx B first bound (id:Int) (jz d first bound id j nx cu of ds).2.1 E F) (aO B aV (jz d first bound id j nx cu of ds).2.2)):=by
 obtain⟨hb1,hb2,hb3⟩:=r.small;have ub:nx%2<=1:=ae;have Es:=r.room ub;obtain⟨z,P⟩:=ex (uk d first bound (nx%2));obtain⟨Q,G⟩:=ex (vB d bound);have o0:bound+44<=Q:=by rw[<-G];exact auc r.dev.mj
 rw[P,G]at Es;obtain⟨bs,Y⟩:=ex (vj nx id cu of ds);have hbl:bs.length=44+ds.length:=by grind[YI]
 obtain⟨bq,Z⟩:=ex ((ma d z bs).1);obtain⟨o,L⟩:=ex ((ma d z bs).2);obtain⟨k,hce⟩:=ex ((l9 o).1);obtain⟨n,Ea⟩:=ex ((l9 o).2);have En:dS o:=by rw[<-L];exact Y7 r.dev ae M N
 have aye:=r.eZ;have hap:jz d first bound id j nx cu of ds=if bq≠0 then(bq,j,o)else if k≠0 then(k,j,n)else(0,⟨aH.wrap ((nx:Int)+1),⟨(nx:Int),(id:Int),(cu:Int),(of:Int),ds⟩,aB⟩,n):=by grind[jz]
 have bK:=hid hp;have F1:=hid (λW ac b2 h=>by have q:=as4 nx id cu of ac b2 ds W ⟨D.1,D.2.1,D.2.2.1,D.2.2.2,ae⟩ h;rw[Y]at q;exact q);have jf:aE (∀W,Has W _->aD _ 131 _ W λe w'=>e=aA (av #[J _ (z:Int),J R (Q:Int)])/\ao W w'):=hid (λW h=>by have q:=abI B m d _ _ W h r _ ub;rw[P,G]at q;exact q);have sr:=hid (λW p fK dC h I h3 h4 h5=>by have q:=Y' B m d z p fK dC bs W h r.dev M ae N I h3 h4 h5;rw[Z,L]at q;exact q);have lH:=hid (λW S h=>by have q:=Yz B S o W h En;rw[hce,Ea]at q;exact q);have x:=hid hap;have ln:=hid hbl;clear hbl hp D P G Y Z L hce Ea hap En r M N;go_enter func227,ntmps227;have a:ai w (both (p0 dx B first bound (id:Int) j A c) (aO B m d)).c5 w [ah dx #[ay (ab ⟨B,0,af⟩),J R (first:Int),J R (bound:Int),J aH (id:Int),J aH (nx:Int),J aH j.last.seq,J aH j.last.id,J R j.last.cur,J R j.last.off,ad A j.last.data.length c,aj j.has] 233,cf A c j.last.data,aO B m d]:=by have h:=(ai.start (t:=_) hs).fi.fi;rw[LZ,O]at h;exact h
 go_step;refine aF ?_;refine cK ?_;refine pk (aj au) ?_;refine dh ?_;refine bP a [11,13,14] (λi u=>match i with|11=>ad u.A ds.length u.c|13=>ay (ab ⟨u.b,0,af⟩)|_=>aZ) (λf=>λ|11=>cf ((f 11).A) ((f 11).c) ds|13=>ah ((f 13).b) #[J aH 0,J aH 0,J R 0,J R 0,ad af 0 0] 137|14=>ah ((f 13).b) #[J aH (nx:Int),J aH (id:Int),J R (cu:Int),J R (of:Int),ad (f 11).A ds.length (f 11).c] 137|_=>emp) (λ|14=>[16]|_=>[]) (λ|3=>[0]|7=>[0]|_=>[]) (λ|11=>[11]|13=>[13]|14=>[11,13]|_=>[]) [0,1,2,14,17] (λf=>?_);refine c7 ?_;refine dl 0 4 ?_;refine c7 ?_;refine dl 0 3 ?_;refine c7 ?_;refine df (λwl Fr a=>(bK _ a.only).mono ?_) ?_;·rintro e dn ⟨ns,akB,rfl,uh,g⟩;exact⟨{A:=ns,c:=akB},aa,a.js g uh⟩
 refine aL ?_;refine qy _ ?_;refine fZ _ ?_;refine bS λw1 a=>?_;generalize (f 11).A=T at a⊢;generalize (f 11).c=V at a⊢;generalize (f 13).b=jO at a⊢;refine aF ?_;refine bt a 4 #[J aH (nx:Int),J aH (id:Int),J R (cu:Int),J R (of:Int),ad T ds.length V] ?_;refine a7 (F1 _ _ _ (a.lr 3).1) ?_;rintro e aS ⟨U,X,rfl,hF⟩;replace a:=a.new _ hF;refine bb ?_;refine v5 ?_;refine dh ?_;refine bP a [] (λ_ _=>aZ) (λ_ _=>emp) (λ_=>[]) (λ|4=>[5]|10=>[1]|_=>[]) (λ_=>[]) [0,1,2,3,4,5] (λf=>?_);refine aL ?_;refine gC (aj au) ?_;refine br ?_;refine dl 0 4 ?_;refine oI ?_;refine dl 0 2 ?_;refine aM (aj au) (λ_ _ _=>by(go_simp;try omega)) ?_;refine aL ?_;refine bS λbN a=>?_;refine dh ?_;refine bP a [15,18,19] (λi u=>match i with|15=>av #[J R (z:Int),J R (Q:Int)]|18=>ad (ab ⟨u.b,0,af⟩) 1 1|19=>J R bq|_=>aZ) (λf=>λ|18=>ah ((f 18).b) #[ad U bs.length X] 22|19=>aO B (f 19).m o|_=>emp) (λ|19=>[3]|_=>[]) (λ|4=>[1]|8=>[1]|12=>[1]|15=>[3]|19=>[0,24]|_=>[]) (λ|18=>[18]|19=>[19]|_=>[]) [0,1,2,4,5,21,24,25] (λf=>?_);refine ix ?_;refine dl 0 0 ?_;refine c7 ?_;refine eb 0 #[ay (ab ⟨B,0,af⟩),J R (first:Int),J R (bound:Int)] ?_;refine c7 ?_;refine dl 0 4 ?_;refine aM _ (λ_ _ _=>aki _ _ _ _ aa nx aa aa) ?_;refine aM (J R ((nx%2:Nat):Int)) (λ_ _ _=>by(go_simp;exact IntWalk.i64_in _ ae)) ?_;refine dE (λ_ _ a=>jf _ (a.has 0)) ?_;refine gC (J R (z:Int)) ?_;refine aL ?_;refine lM _ 22 ?_;refine df (λwl Fr a=>(sr.out _ _ U X (a.has 0) (aX.cell (a.a1 2) 0 aa) (λh=>a.ne (i:=0) (j:=2) aa aa bj _ h aa) (a.lr 1).1 (λy h1 I=>a.ne (i:=1) (j:=0) aa aa bj _ h1 I)).mono ?_) ?_;·rintro e dn ⟨rfl,S,K⟩;exact⟨{m:=S},aa,a.yV K⟩
 refine aL ?_;refine bS λcc a=>?_;generalize (f 18).b=awC at a⊢;generalize (f 19).m=azh at a⊢;replace a:=a.drop 5;by_cases hz:bq=0
 .have hc1:(if bq≠0 then(bq,j,o)else if k≠0 then(k,j,n)else(0,(⟨_,_,aB⟩:oN),n))=if k≠0 then(k,j,n)else(0,(⟨aH.wrap ((nx:Int)+1),⟨(nx:Int),(id:Int),(cu:Int),(of:Int),ds⟩,aB⟩:oN),n):=if_neg (λh=>h hz);have s:=hid hc1;clear hc1;subst hz;refine b6 ?_;refine pk (aj au) ?_;refine oJ ?_;refine pl a 1 0 ?_;refine a7 (lH _ _ (a.has 6)) ?_;rintro e cG ⟨rfl,m3,K⟩;replace a:=a.eG 6 K;refine Fu ?_;by_cases H:k=0;·have C:=hid (show(if k≠0 then(k,j,n)else(0,(⟨aH.wrap ((nx:Int)+1),⟨(nx:Int),(id:Int),(cu:Int),(of:Int),ds⟩,aB⟩:oN),n))=_ from if_neg (λh=>h H));subst H;refine b6 ?_;refine pk (aj au) ?_;refine jb ?_;refine bt a 4 #[J aH (nx:Int),J aH (id:Int),J R (cu:Int),J R (of:Int),ad T ds.length V] ?_;refine v2 ?_;refine ba a 1 (av _) (λc6 a=>?_);refine v2 ?_;refine ba a 1 (aj _) (λdX a=>?_);refine jt ?_;refine pl a 1 4 ?_;refine pk (J aH (aH.wrap ((nx:Int)+1))) ?_;refine v2 ?_;refine ba a 1 (J _ _) (λdH a=>?_);refine aF ?_;refine ag ?_;refine ak ?_;have v:=a.pk [1,3,6];go_wp2_with fail;go_ret;exact⟨by rw[x,s,C];rfl,_,_,m3,by rw[x.out,s.out,C.out];refine ai.gj (l:=[_]) (i:=0) ?_;show ai _ _ _ [both (both (ah dx _ _) (cf _ _ _)) (aO B _ _)];exact v.star.star⟩
  .have C:=hid (show(if k≠0 then(k,j,n)else(0,(⟨aH.wrap ((nx:Int)+1),⟨(nx:Int),(id:Int),(cu:Int),(of:Int),ds⟩,aB⟩:oN),n))=_ from if_pos H);have apr:=H;refine b6 ?_;refine aJ (aj aB) (by(go_simp;try simp[apr])) ?_;refine aF ?_;refine dQ ?_;have v:=a.pk [1,2,6];rw[<-O]at v;go_wp2_with fail;go_ret;exact⟨by rw[x,s,C];rfl,A,c,m3,by rw[x,s,C];refine ai.gj (l:=[_]) (i:=0) ?_;show ai _ _ _ [both (both (ah dx _ _) (cf _ _ _)) (aO B _ _)];exact v.star.star⟩
 .have s:=hid (show(if bq≠0 then(bq,j,o)else if k≠0 then(k,j,n)else(0,(⟨aH.wrap ((nx:Int)+1),⟨(nx:Int),(id:Int),(cu:Int),(of:Int),ds⟩,aB⟩:oN),n))=_ from if_pos hz);have LV:=hz;refine b6 ?_;refine aJ (aj aB) (by(go_simp;try simp[LV])) ?_;refine aF ?_;refine dQ ?_;have v:=a.pk [1,2,6];rw[<-O]at v;go_wp2_with fail;go_ret;exact⟨by rw[x,s];rfl,A,c,_,by rw[x.out,s.out];refine ai.gj (l:=[_]) (i:=0) ?_;show ai _ _ _ [both (both (ah dx _ _) (cf _ _ _)) (aO B _ _)];exact v.star.star⟩
def k6(size bound N:Nat):Nat:=(fh size 0 N).2+2*jZ size bound
def rU(size bound N:Nat):Array Value:=#[J R (size:Int),J R (bound:Int),J R 0,J R (N:Int),J R ((fh size 0 N).2:Int),J R ((2*jZ size bound:Nat):Int),J R ((k6 size bound N:Nat):Int)]
theorem at1(s N):(fh s 0 N).2<=N+1:=by
 unfold fh;split;·omega
 .exact zu (eD (Gv _ _) (eD (zr _ _) ae))
theorem aud(s b):jZ s b<=b+44:=zu (zr _ _)
def aqs(size bound o n:Nat)(h1:1<=size/\size<=1048576)(i:1<=bound/\bound<=65536)(t:o<=1048576)(u:n<=1048576)w:
 aD ax 48 #[J R (size:Int),J R (bound:Int),J R (o:Int),J R (n:Int)] w λe w'=>e=aA (bh #[av (rU size bound (max o n)),J R 0])/\ao w w':=by
 obtain⟨N,j⟩:=ex (max o n);rw[j];have k:max (o:Int) (n:Int)=(N:Int):=ae;have l:=hid k;have x:N<=1048576:=ae;obtain⟨b,d⟩:=ex ((fh size 0 N).2);obtain⟨nR,c⟩:=ex (jZ size bound);have y:b<=N+1:=by grind[at1]
 have A:nR<=bound+44:=by grind[aud]
 have hs1:1<=nR:=by rw[<-c];exact zu (cQ _)
 have hlc:rU size bound N=#[J R (size:Int),J R (bound:Int),J R 0,J R (N:Int),J R (b:Int),J R ((2*nR:Nat):Int),J R ((b+2*nR:Nat):Int)]:=by rw[rU,k6,d,c]
 rw[hlc];have p:=hid (λW=>by have q:=abL _ _ h1.1 i.1 i.2 W;rw[c]at q;exact q);have m:aE (∀W,aD _ _ #[J _ _,av #[J _ 0,J _ (N:Int)]] W λe w'=>∃z,e=aA (av #[J _ z,J _ (b:Int)])/\ao W w'):=hid (λW=>by have q:=ad6 _ 0 N ⟨h1.1,ae⟩ ae W;rw[d]at q;exact q.mono (λ_ _ h=>⟨_,h⟩));clear j k d c hlc;go_enter func48,ntmps48;have a:=bg w;go_step;refine aF ?_;refine bA a #[J _ 0,J _ 0,J _ 0,J _ 0,J _ 0,J _ 0,J _ 0] (λs w1 a=>?_);refine ku ?_;refine bC (p.out _) a (λD a=>?_);refine cK ?_;refine cd (aj au) ?_;refine jb ?_;refine bC (xm 0 (o:Int) _ ⟨ae,ae,ae⟩) a (λE a=>?_);refine v4 ?_;refine bC (xm 0 (n:Int) _ ⟨ae,ae,ae⟩) a (λF a=>?_);refine v2 ?_;refine oJ ?_;refine aJ (J R (N:Int)) (by(have h:=l.out;go_simp;try simp[h];try with_reducible rfl)) ?_;refine v2 ?_;refine bA a #[J _ 0,J _ 0,J _ 0,J _ 0,J _ 0,J _ 0,J _ 0] (λr G a=>?_);refine ba a 0 (av _) (λH a=>?_);refine jb ?_;refine bt a 0 #[J R 0,J R (N:Int)] ?_;refine a7 (m _) ?_;rintro e I ⟨M,rfl,g⟩;replace a:=a.aI g;refine bb ?_;refine pk (J R (b:Int)) ?_;refine ag ?_;refine aJ _ (nE 3 _ _ 3 aa 2 _ ((2*nR:Nat):Int) aa aa ae ae ae) ?_;refine v2 ?_;refine ba a 0 (av #[J R _,J _ ((2*nR:Nat):Int)]) (λK a=>?_);refine b6 ?_;refine bt a 0 #[J R (b:Int),J R ((2*nR:Nat):Int)] ?_;refine bC (lN (b:Int) ((2*nR:Nat):Int) _ ae ae ae) a (λL a=>?_);refine ag ?_;refine ba a 0 (J _ _) (λB a=>?_);refine aF ?_;refine bt a 0 #[J R (size:Int),J R (bound:Int),J R 0,J R (N:Int),J R (b:Int),J R ((2*nR:Nat):Int),J R ((b:Int)+((2*nR:Nat):Int))] ?_;refine ba a 1 (av _) (λC a=>?_);refine bR ?_;have f:(b:Int)+((2*nR:Nat):Int)=((b+2*nR:Nat):Int):=ae;rw[f]at a;clear f;go_wp2_with fail;refine dp (v:=_) (mP aa aa aa (a.a1 1) aw aw) aa (⟨aa,a.only⟩)
def acb(size bound o n:Nat)(g1 g2)S(h1:1<=size/\size<=1048576)(b:1<=bound/\bound<=65536)(c:o<=1048576)(d:n<=1048576)w:
 aD ax 39 #[J R (size:Int),J R (bound:Int),dD (o:Int) (n:Int) g1 g2 S] w λe w'=>e=aA (bh #[av (rU size bound (max o n)),J R 0])/\ao w w':=by
 go_enter func39,ntmps39;have a:=bg w;go_step;refine aF ?_;refine bO a (av _) (λf w1 a=>?_);refine bA a #[J _ 0,J _ 0,J _ 0,J _ 0,J _ 0,J _ 0,J _ 0] (λg h a=>?_);refine Uk ?_;refine pl a 1 0 ?_ (hv:=mA);refine ag ?_;refine pl a 1 1 ?_ (hv:=jh);refine bC (aqs _ _ o n h1 b c d _) a (λi a=>?_);refine v2 ?_;refine ba a 0 (av #[J R _,J R _,J R 0,J R _,J R _,J R _,J R _]) (λj a=>?_);refine bR ?_;go_wp2_with fail;refine dp (v:=_) (mP aa aa aa (a.a1 0) aw aw) aa (⟨aa,a.only⟩)
def ab1(size bound N B)m d w(g:Has w (aO B m d))(b:dS d)(hsz:d.size=size)(h:k6 size bound N<=d.cnt):
 aD ax 52 #[av (rU size bound N),di B] w λe w'=>e=aA (J R 0)/\ao w w':=by
 have c:=hid g;have n:=b.Bs;clear g;obtain⟨j,f⟩:=ex (k6 size bound N);rw[f]at h;have hlc:rU size bound N=#[J R (size:Int),J R (bound:Int),J R 0,J R ((N:Nat):Int),J R ((fh size 0 N).2:Int),J R ((2*jZ size bound:Nat):Int),J R (j:Int)]:=by grind[rU]
 rw[hlc];subst hsz;clear f hlc;go_enter func52,ntmps52;have a:=bg w;go_step;refine aF ?_;refine bO a (av _) (λl w1 a=>?_);refine cK ?_;refine pk (aj au) ?_;refine ih ?_;refine bP a [1] (λi _=>match i with|1=>J R (d.size:Int)|_=>aZ) (λ_ _=>emp) (λ_=>[]) (λ|3=>[0]|_=>[]) (λ_=>[]) [0,2] (λk=>?_);refine aL ?_;refine dE (λ_ _ a=>wK B m d _ (c.out.aI a.only).dev b) ?_;refine aL ?_;refine dl 0 0 ?_;refine aM (aj au) (λ_ _ _=>by(go_simp;try simp)) ?_;refine aL ?_;refine bS λo a=>?_;replace a:=a.drop 1;refine dh ?_;refine bP a [1] (λi _=>match i with|1=>J R (d.cnt:Int)|_=>aZ) (λ_ _=>emp) (λ_=>[]) (λ|3=>[0]|_=>[]) (λ_=>[]) [0,2] (λk=>?_);refine aL ?_;refine dE (λ_ _ a=>KP B m d _ (c.out.aI a.only).dev b) ?_;refine aL ?_;refine dl 0 6 ?_;refine aM (aj au) (λ_ _ _=>by(go_simp;try omega)) ?_;refine aL ?_;refine bS λp a=>?_;replace a:=a.drop 1;refine aF ?_;refine ag ?_;refine ak ?_;go_wp2_with fail;go_ret;exact⟨aa,a.only⟩
def abU{s N e x}(b:1<=s):N<=s*((fh s 0 N).2+x+e):=by
 rcases Nat.eq_zero_or_pos N with h|h;·omega
 .have h1:(fh s 0 N).2=(N -1)/s+1:=by unfold fh;rw[if_neg ae];simp
  have a:N<=s*(fh s 0 N).2:=by rw[h1,Nat.mul_succ];have c:=Nat.div_add_mod (N -1) s;have d:=Nat.mod_lt (N -1) b;omega
  exact eD a (Nat.mul_le_mul_left _ ae)
def aqC(size bound N ex p)A c b w(h1:1<=size)(hc:size*(k6 size bound N+ex)<=1048576)(hb1:b.length<=N)(l:w.cell? ⟨p,0,af⟩=ab (ad A b.length c))(hb:bT w A b):
 aD ax 40 #[av (rU size bound N),J R (ex:Int),ad (ab ⟨p,0,af⟩) 1 1] w λe w'=>∃B m,e=aA (bh #[di B,J R 0])/\b5 w w' (aO B m (qM size (k6 size bound N+ex) b)):=by
 obtain⟨d,f⟩:∃z,k6 size bound N=z:=⟨_,aa⟩;rw[f]at hc⊢;have hlc:rU size bound N=#[J R (size:Int),J R (bound:Int),J R 0,J R ((N:Nat):Int),J R ((fh size 0 N).2:Int),J R ((2*jZ size bound:Nat):Int),J R (d:Int)]:=by rw[rU,f]
 rw[hlc];have E:1<=d:=by rw[<-f,k6];have:1<=jZ size bound:=zu (cQ _);omega
 have hle:d+ex<=size*(d+ex):=Nat.le_mul_of_pos_left _ h1;have hbl:b.length<=size*(d+ex):=eD hb1 (by rw[<-f,k6];exact abU h1);have r:aE (∀W,ao w W->aD _ 93 _ W λe w'=>∃i j,e=aA _/\e3 _ w' i j b/\ao W w'):=hid (λW g=>(GM p A c b W (g.cell l (λh=>h)) (hb.aI g) ae).mono (λe w' ⟨i,j,h1,s,t⟩=>⟨i,j,h1,Row.nS s,t⟩));have o:=hid (λW q aK c2 h u=>al1 size _ q aK c2 b W h1 ae hc hbl h u);have k:=acq (size:=_) (cnt:=_) (b:=b) h1 ae hc hbl;have n:=hid (λW B m h=>by have q:=ab1 size _ N B m _ W h k aa (by rw[f];show d<=d+ex;omega);rw[hlc]at q;exact q);have y:¬size=0:=ae;have F:d+ex<=1048576:=ae;clear l hb f hlc k hle;go_enter func40,ntmps40;have a:=bg w;go_step;refine aF ?_;refine bO a (av _) (λC w1 a=>?_);iterate 2 refine ag ?_
 refine ak ?_;go_step;refine aF ?_;refine ag ?_;refine a7 (r _ a.only) ?_;rintro e G ⟨aK,c2,rfl,x,g⟩;replace a:=a.js g x;refine bb ?_;refine ag ?_;refine ak ?_;go_step;refine aF ?_;refine ag ?_;refine aJ (aj au) (by(go_simp;try omega)) ?_;iterate 5 refine ag ?_
 refine pl a 1 3 ?_;refine aJ (aj au) (by(go_simp;try omega)) ?_;refine ag ?_;refine ak ?_;go_step;refine aF ?_;refine ag ?_;refine pl a 1 0 ?_;refine ag ?_;refine pl a 1 6 ?_;refine ag ?_;refine aJ _ (lK 3 _ _ 3 aa _ _ ((d+ex:Nat):Int) aa aa ae ae ae) ?_;refine ag ?_;refine ga a #[ad aK b.length c2] 22 (λD H a=>?_);refine a7 (o _ _ aK c2 (aX.cell (a.a1 0) 0 aa) (a.lr 1).1) ?_;rintro e I ⟨B,m,rfl,v⟩;replace a:=a.new _ v;refine bb ?_;refine ag ?_;refine ak ?_;go_step;refine aF ?_;refine ag ?_;refine ak ?_;go_step;refine aF ?_;refine bt a 3 #[J R (size:Int),J R (bound:Int),J R 0,J R ((N:Nat):Int),J R ((fh size 0 N).2:Int),J R ((2*jZ size bound:Nat):Int),J R (d:Int)] ?_;refine ag ?_;refine aJ (aj au) (by(go_simp;try simp[y])) ?_;iterate 2 refine ag ?_
 refine bt a 3 #[J R (size:Int),J R (bound:Int),J R 0,J R ((N:Nat):Int),J R ((fh size 0 N).2:Int),J R ((2*jZ size bound:Nat):Int),J R (d:Int)] ?_;refine ag ?_;refine a7 (n.out _ B m (a.has 0)) ?_;rintro e K ⟨rfl,g⟩;replace a:=a.aI g;refine bb ?_;iterate 2 refine ag ?_
 refine ak ?_;go_step;refine aF ?_;iterate 3 refine ag ?_
 refine ak ?_;go_wp2_with fail;go_ret2;exact⟨B,m,aa,a.fresh 0⟩
namespace G
open Go.ChangeMaps (setBlock heap_setBlock_same heap_setBlock_other)
open Go.Maps (Keyed)
section
variable {fe:Type} [DecidableEq fe] {P:Program} {k:TypeId} {enc:fe->aP} {ok:fe->Prop} {w w':World} {b r:Nat} {bk:List (fe×aP)} {left:List fe}
def Over(w:World)(b r:Nat)(enc:fe->aP)(ok:fe->Prop)(bk:List (fe×aP))(left:List fe):Prop:=
 dZ w b enc ok bk/\left.Nodup/\(∀x∈left,∃v,ed bk x=ab v)/\∃a c since seen b1,w.heap[b]?=ab (iP a c)/\w.heap[r]?=ab (Jn (ab b) since seen b1)/\
  (∀x∈a.toList,x.born<since)/\since<=b1/\since<=c/\(AU a seen).toList.map (·.key)=left.map enc
def Over.ace(h:Over w b r enc ok bk left):dZ w b enc ok bk:=h.1
def Over.left_eq(h:Over w b r enc ok bk left):w.rangeLeft b r=left.length:=by obtain⟨_,_,_,d,c,since,seen,b1,hb,hr,_,_,_,a⟩:=h;simp only[World.rangeLeft,hb,hr];simpa using congrArg List.length a
def L2{left:List fe}(a:left.Nodup){x}(hx:x∈left):left.Perm (x::left.filter (λy=>!decide (y=x))):=aG
def Over.only{F}(h:Over w b r enc ok bk left)(k:aq F w w')(hb:¬F b)(hr:¬F r):Over w' b r enc ok bk left:=by obtain⟨h1,c,d,a,g,since,seen,b1,e,f,rest⟩:=h;exact⟨h1.only k hb,c,d,a,_,_,_,b1,k.heap e hb,k.heap f hr,rest⟩
omit [DecidableEq fe]in
def ap8{a:Array Og}(b:a.toList.map (λe=>(e.key,e.val))=bk.map (λp=>(enc p.1,p.2))):a.toList.map (·.key)=(bk.map (·.1)).map enc:=by have:=congrArg (List.map Prod.fst) b;simpa [Gs,Jf]using this
def _root_.Go.Proofs.YtcmhplknoglbkaaGreat.dZ.range{t e}(l:P.underlying t=ab (wg k e))(h:dZ w b enc ok bk):
 ∃w',(Instr.range t (dF (ab b))).run P w=.ok (ay (ab ⟨w.heap.size,0,af⟩)) w'/\Over w' b w.heap.size enc ok bk (bk.map (·.1))/\ao w w'/\w'.heap.size=w.heap.size+1:=by
 have d:=h;have g:=h.nodup;have hlt:=h.lt;obtain⟨c,a,hb,j,hz,f,m⟩:=h;refine⟨_,run_range_map w t k e b c a l hb,⟨d.only (aq.alloc (F:=λ_=>False) _ _) (λh=>h),?_,λx hx=>?_,c,a,a,#[],a,((UO w _).2 b hlt).trans hb,(UO w _).1,((Oh c a).1 j).1,cp _,cp _,?_⟩,aq.alloc _ _,aU⟩;·grind
 .obtain⟨p,i,rfl⟩:=gN.1 hx;exact⟨_,w8 g i⟩
 .have:AU c #[]=c:=by simp[AU]
  rw[this];exact ap8 f
def am3{l:List Og}{f}:(l.filter (λe=>f e.key)).map (·.key)=(l.map (·.key)).filter f:=by rw[P1];rfl
def Over.next(C:sg P k enc ok)(h:Over w b r enc ok bk left)ty:
 (left=[]/\(Instr.next (ay (ab ⟨r,0,af⟩)) au ty).run P w=.ok (bh #[aj au]) w)\/
 ∃x v w',x∈left/\ed bk x=ab v/\(Instr.next (ay (ab ⟨r,0,af⟩)) au ty).run P w=.ok (bh #[aj aB,enc x,v]) w'/\
  Over w' b r enc ok bk (left.filter (λy=>!decide (y=x)))/\aq (λi=>i=r) w w'/\w'.heap.size=w.heap.size/\(afS (ay (ab ⟨r,0,af⟩))).run P w'=.ok (bh #[enc x,v]) w':=by
 classical
 obtain⟨m,H,F,a,c,since,seen,b1,hb,hr,hold,hsc,hsk,g⟩:=h;have hne:r≠b:=aG;have B:=m;obtain⟨A,u,hb',J,hz,D,M⟩:=B;rw[hb]at hb';obtain⟨rfl,rfl⟩:a=A/\c=u:=aG;rcases run_next_at (P:=P) w ty r b since b1 seen a c hr hb hold hsc with⟨L,hrun⟩|⟨e,n,w1,d,hrun⟩;·refine .inl ⟨?_,hrun⟩;have h1:(AU a seen).toList=[]:=aG;rw[h1]at g;simpa using g.symm
 .obtain⟨o,hes⟩:=mem_left n;have G:e.key∈left.map enc:=g▸gN.2 ⟨e,n,aa⟩;obtain⟨x,hx,l⟩:=gN.1 G;have I:(e.key,e.val)∈bk.map (λp=>(enc p.1,p.2)):=D▸gN.2 ⟨e,o,aa⟩;obtain⟨p,N,q⟩:=gN.1 I;simp only[Prod.mk.injEq]at q;have O:p.1=x:=C.inj (q.1.trans l.symm);have E:ed bk x=ab e.val:=w8 m.nodup aG;have hr1:w1.heap[r]?=ab (Jn (ab b) since seen b1):=by rcases d with rfl|rfl<;>exact hr
  have hb1:w1.heap[b]?=ab (iP a c):=by rcases d with rfl|rfl<;>exact hb
  have j:=heap_set (o':=Jn (ab b) since (seen.push e.born) c) hr1;have hb2:(kR w1 r (Jn (ab b) since (seen.push e.born) c)).heap[b]?=ab (iP a c):=(j.2 b (λbD=>hne bD.symm)).trans hb1
  have t:aq (λi=>i=r) w (kR w1 r (Jn (ab b) since (seen.push e.born) c)):=by rcases d with rfl|rfl<;>exact⟨aa,aa,aa,by simp[kR],λi _ hi=>j.2 i hi⟩
  have hst:=(Oh a c).1 J;rw[<-l]at hrun;refine .inr ⟨x,_,_,hx,E,hrun,⟨m.only t (λbD=>hne bD.symm),H.filter _,λy K=>F y (mZ.1 K).1,a,_,_,_,_,hb2,j.1,hold,hsk,hsk,?_⟩,t,?_,?_⟩
  .have bD:(AU a (seen.push e.born)).toList=(AU a seen).toList.filter (λz=>!decide (z.key=e.key)):=by unfold AU;rw[afv,afv,List.filter_filter];refine Dv (λz hz=>?_);grind[entry_eq_of_key,born_inj]
   rw[bD,am3 (f:=λkey=>!decide (key=e.key)),g,P1];refine congrArg (List.map enc) (Dv (λy _=>?_));simp only[Jf,<-l];by_cases s:y=x;·grind
   .have:¬enc y=enc x:=λh=>s (C.inj h);simp[s,this]
  .rcases d with rfl|rfl<;>simp[kR]
  .rw[l];exact run_entry_at _ r b _ _ a _ e j.1 hb2 o hst.2.1
theorem YY{e f:Type}{p}{g:e->f}{x y}:∀{l:List e} {j},l[j]?=ab x->p y=p x->g y=g x->((l.set j y).filter p).map g=(l.filter p).map g
 |[],_,h,_,_=>by rfl
 |a::l,0,h,c,b=>by grind
 |a::l,j+1,h,c,b=>by
  have d:=YY (l:=l) (j:=j) (by simpa using h) c b;rw[List.set_cons_succ,Dw,Dw];split;·rw[jx,jx,d]
  .exact d
def Over.put{t e}(C:sg P k enc ok)(K:P.underlying t=ab (wg k e))(h:Over w b r enc ok bk left){x}(hx:ok x)(G:∃v,ed bk x=ab v)v:
 ∃w',(C1 t (dF (ab b)) (enc x) v).run P w=.ok () w'/\Over w' b r enc ok (jY bk x v) left/\aq (λi=>i=b) w w'/\w'.heap.size=w.heap.size:=by
 obtain⟨d,I,hall,c,g,since,seen,b1,hb,hr,hold,hsc,hsk,Q⟩:=h;have hne:r≠b:=aG;obtain⟨R,hlx⟩:=C.reads hx;have z:∀p∈bk,ok p.1:=by obtain⟨_,_,_,_,_,_,z⟩:=d;exact z
 have hzz:c.size<=maxLen:=by obtain⟨n,l,hb',_,hz,_⟩:=d;grind
 obtain⟨n,l,hb',J,hsz,D,E⟩:=d.find C hx;rw[hb]at hb';obtain⟨rfl,rfl⟩:c=n/\g=l:=aG;obtain⟨S,hv0⟩:=G;rcases E with⟨h1,o,q⟩|⟨j,dT,h1,o,q,N,B⟩;·grind
 .have hh:rW bk x=true:=by grind[Ic]
  have H:∀a,c[j]?=ab a->({a with key:=enc x,val:=v}:Og).key=a.key:=λa s=>by grind
  have O:c.toList[j]?=ab dT:=aG;have L:(c.modify j (λa=>{a with key:=enc x,val:=v})).toList=c.toList.set j {dT with key:=enc x,val:=v}:=by grind[afM]
  refine⟨kR w b (iP (c.modify j (λa=>{a with key:=enc x,val:=v})) g),?_,⟨⟨_,_,CZ hb _,stamped_modify J _ _ (λ_ _=>aa) (λa _ s=>H a s),aG,?_,?_⟩,I,λy M=>?_,
   _,_,since,seen,b1,CZ hb _,(CY hb _ hne).trans hr,λy M=>?_,hsc,hsk,?_⟩,⟨aa,aa,aa,by simp[kR],λi _ hi=>CY hb _ hi⟩,by simp[kR]⟩;·simp[C1,gG K,y5 hb,C.keyed.check w au hlx,h1,o,q,C.keyed.stays w hlx,FF _ hb,kR]
  .rw[L,List.map_set,D];unfold jY;rw[if_pos hh];apply List.ext_getElem?;intro i;rw[List.getElem?_set,kB,kB,kB];by_cases u:j=i;·grind
   .rw[if_neg u];cases hi:bk[i]? with
    |none=>rfl
    |some p=>
     have hne:p.1≠x:=λm=>by
      have li:=(eR.1 hi);have f:=(eR.1 B);rcases Nat.lt_or_gt_of_ne u with hlt|F;·have:=l3.1 d.nodup j i f.1 li.1 hlt;rw[f.2,li.2]at this;exact this m.symm
      .have:=l3.1 d.nodup i j li.1 f.1 F;rw[f.2,li.2]at this;exact this m
     simp[hne]
  .intro p A;rcases Ac A with rfl|⟨A,_⟩;·omega
   .grind
  .grind[SX]
  .grind
  .grind[AU,YY]
def SS{b c:Type}(f:b->c):∀(l:List b) j,(l.eraseIdx j).map f=(l.map f).eraseIdx j
 |[],_=>aa
 |_::_,0=>aa
 |a::l,j+1=>by simp[SS f l j]
def acf{x:fe}{v}:∀{bk j},bk.Pairwise (λp q=>p.1≠q.1)->bk[j]?=ab (x,v)->Aa bk x=bk.eraseIdx j
 |[],_,_,h=>by rfl
 |p::r,0,a,h=>by obtain rfl:p=(x,v):=aG;obtain⟨h1,_⟩:=u6.1 a;unfold Aa;grind[zo]
 |p::r,j+1,a,h=>by
  obtain⟨h1,c⟩:=u6.1 a;have hr:r[j]?=ab (x,v):=by simpa using h
  have d:p.1≠x:=h1 _ (List.mem_of_getElem? hr);have b:=acf c hr;unfold Aa at b⊢;rw[Dw];simp[d,b]
theorem acg{x:fe}{bk}(h:ed bk x=af):Aa bk x=bk:=
 zo.2 (λq a=>by grind[Mg])
def _root_.Go.Proofs.YtcmhplknoglbkaaGreat.dZ.drop{t e ty}(C:sg P k enc ok)(l:P.underlying t=ab (wg k e))(h:dZ w b enc ok bk){x}(hx:ok x):
 ∃w',(UJ #[t,k] ty #[dF (ab b),enc x]).run P w=.ok (bh #[]) w'/\dZ w' b enc ok (Aa bk x)/\w.grownBy w' (ab b)/\w'.heap.size=w.heap.size:=by
 obtain⟨E,hlx⟩:=C.reads hx;have v:=h.nodup;have d:∀p∈bk,ok p.1:=by obtain⟨_,_,_,_,_,_,d⟩:=h;exact d
 have hzz:∃a c,w.heap[b]?=ab (iP a c)/\a.size<=maxLen:=by obtain⟨B,A,hb',_,hz,_⟩:=h;exact⟨_,_,hb',hz⟩
 obtain⟨n,m,hb0,hz0⟩:=hzz;obtain⟨a,c,hb,g,hsz,r,s⟩:=h.find C hx;rw[hb]at hb0;obtain⟨rfl,rfl⟩:a=n/\c=m:=aG;rcases s with⟨h1,f,o⟩|⟨j,dT,h1,f,o,D,q⟩
 .refine⟨_,?_,⟨a,_,CZ hb _,g,hz0,?_,?_⟩,⟨aa,aa,aa,by simp[kR],λi _ hi=>CY hb _ (λe=>hi (by rw[e]))⟩,by simp[kR]⟩;·simp[UJ,gG l,y5 hb,C.keyed.check w _ hlx,h1,FF _ hb,kR]
  .grind[acg]
  .grind[acg]
 .have u:j<a.size:=(pf.1 f).1
  have z:(a.eraseIdxIfInBounds j).toList=a.toList.eraseIdx j:=by unfold Array.eraseIdxIfInBounds;rw[dif_pos u];simp
  refine⟨_,?_,⟨_,_,CZ hb _,stamped_erase g j,eD (MapFrom.size_erase a j) hz0,?_,?_⟩,⟨aa,aa,aa,by simp[kR],λi _ hi=>CY hb _ (λe=>hi (by rw[e]))⟩,by simp[kR]⟩;·simp[UJ,gG l,y5 hb,C.keyed.check w _ hlx,h1,FF _ hb,kR]
  .rw[z,SS,r,acf v q,SS]
  .intro p y;exact d p (mZ.1 y).1
section
variable {ops:Array Oper} {rest:List Oper} {o:Oper} {a:Act} {Q:Exit->Act->World->Prop}
def aff (c:o.guard=af) m (t e) (hop:o.op=Op.range t m) (f:P.underlying t=ab (wg k e)) (h:dZ w b enc ok bk) (d:a.eval m=dF (ab b))
 (hK:∀w',Over w' b w.heap.size enc ok bk (bk.map (·.1))->ao w w'->w'.heap.size=w.heap.size+1->cH P ops Q rest (a.put o.dst (ay (ab ⟨w.heap.size,0,af⟩))) w'):cH P ops Q (o::rest) a w:=by
 refine C8 c λl hK'=>?_;obtain⟨w',hrun,g,i,j⟩:=h.range f;unfold hC;simp[bw,hop,d,hrun];exact hK' _ _ (hK w' g i j)
def afg (e:o.guard=af) c (hop:o.op=Op.next c au) (C:sg P k enc ok) (hit:a.eval c=ay (ab ⟨r,0,af⟩)) (h:Over w b r enc ok bk left)
 (anI:left=[]->cH P ops Q rest (a.put o.dst (bh #[aj au])) w)
 (anV:∀x v w',x∈left->ed bk x=ab v->Over w' b r enc ok bk (left.filter (λy=>!decide (y=x)))->aq (λi=>i=r) w w'->w'.heap.size=w.heap.size->
   (afS (ay (ab ⟨r,0,af⟩))).run P w'=.ok (bh #[enc x,v]) w'->cH P ops Q rest (a.put o.dst (bh #[aj aB,enc x,v])) w'):cH P ops Q (o::rest) a w:=by
 refine C8 e λl hK'=>?_;unfold hC;rcases h.next C o.type with⟨d,hrun⟩|⟨x,v,w',hx,hv,hrun,f,g,j,hen⟩;·simp[bw,hop,hit,hrun];exact hK' _ _ (anI d)
 .simp[bw,hop,hit,hrun];exact hK' _ _ (anV x v w' hx hv f g j hen)
def avC {t e} (c:o.guard=af) (m x v) (hop:o.op=Op.mapUpdate t m x v)
 (C:sg P k enc ok) (ht:P.underlying t=ab (wg k e)) (h:Over w b r enc ok bk left) (hm:a.eval m=dF (ab b)) {y} (hy:ok y) (cT:∃v,ed bk y=ab v) (hx:a.eval x=enc y) val (hv:a.eval v=val)
 (hK:∀w',Over w' b r enc ok (jY bk y val) left->aq (λi=>i=b) w w'->w'.heap.size=w.heap.size->cH P ops Q rest (a.put o.dst aZ) w'):cH P ops Q (o::rest) a w:=by
 refine C8 c λj hK'=>?_;obtain⟨w',hrun,d,f,g⟩:=h.put C ht hy cT val;unfold hC;simp[bw,hop,hm,hx,hv,hrun];exact hK' _ _ (hK w' d f g)
def avB (c:o.guard=af) (m x) (t e) (hop:o.op=Op.call {callee:=Callee.builtin Builtin.delete,args:=#[m,x],argTypes:=#[t,k]})
 (C:sg P k enc ok) (ht:P.underlying t=ab (wg k e)) (h:dZ w b enc ok bk) (hm:a.eval m=dF (ab b)) {y} (hy:ok y) (hx:a.eval x=enc y)
 (hK:∀w',dZ w' b enc ok (Aa bk y)->w.grownBy w' (ab b)->w'.heap.size=w.heap.size->cH P ops Q rest (a.put o.dst (bh #[])) w'):cH P ops Q (o::rest) a w:=by
 refine C8 c λi hK'=>?_;obtain⟨w',hrun,d,f,g⟩:=h.drop (ty:=o.type) C ht hy;unfold hC;simp[bw,hop,resolve,invoke,builtin,hm,hx,hrun,Result.andThen];exact hK' _ _ (hK w' d f g)
end
end
def alw{E E'}(h:E.Perm E')l:(cut E l).Perm (cut E' l):=h.filter _
def alv E l(u x):cut (E++[(u,x)]) l=cut E l++(if u∉l/\x∉l then[(u,x)]else[]):=by grind[cut]
def aue{a da u x t}(h:a.heap[da]?=ab (bf #[J R u,J R x] t (0,0))):jy a (ab ⟨da,0,af⟩) [(u,x)]:=λ_=>by refine⟨da,0,rfl,λj b=>?_⟩;obtain rfl:j=0:=aG;exact⟨eC _ _ 0 _ _ _ h,eC _ _ 1 _ _ _ h⟩
def avx(b N:Nat)E F A c l w(dU:gV w F b N E)(hl:cX w A l)(hlen:l.length<=9223372036854775807)(eV:E.length<=1048576):
 aD ax 361 #[ay (ab ⟨b,0,af⟩),ad A l.length c] w λe w'=>∃H a,e=aA (ay (ab ⟨H,0,af⟩))/\gV w' (λi=>w.heap.size<=i/\i<w'.heap.size) H N a/\a.Perm (cut E l)/\ao w w':=by
 obtain⟨⟨fJ,cW,fA,eQ,eO,g⟩,eh,dy⟩:=dU;have anW:=g.n0;have anX:=g.qL;have kn:=eC _ _ 0 _ _ _ g.blk;simp at kn;have mG:=g.mB.lt;have D:=hid (And.intro g (And.intro eh (And.intro dy hl)));have hbl:=(pf.1 g.blk).1;clear g eh dy hl;go_enter func361,ntmps361;go_wp2_with fail;go_at_call 179;refine(acs N w anW anX).mono ?_;rintro e w1 ⟨H,rfl,yh,hg1⟩
 have ei:w1.cell? ⟨b,1,af⟩=ab (dF (ab fJ)):=by have:=hg1.heap D.out.1.blk (λh=>h);simpa using eC _ _ 1 _ _ _ this
 have G8:=D.out.1.mB.only hg1 (λh=>h);have hs1:=hg1.size;have H1:=hid (And.intro yh hg1);clear yh hg1;go_wp2_with (at_range;refine aff aa _ _ _ aa Tryz.underlying302 G8 aa ?_;intro aS q hg2 hs2);go_frame;have Y:=hid (And.intro q hg2);clear q hg2 G8
 go_loopw [19] (λ_ wr=>∃(k left a:List (Int×Int)) (t:Nat->Prop),(k++left).Perm E/\a.Perm (cut k l)/\Over wr fJ w1.heap.size vi qN (E.map (λe=>(e,aj aB))) left/\gV wr t H N a/\
  (∀i,t i->w.heap.size<=i/\i≠w1.heap.size/\i<wr.heap.size)/\w1.heap.size<wr.heap.size/\aq (λi=>w.heap.size<=i) w wr) (λ_ wr=>wr.rangeLeft fJ w1.heap.size)
 case atStart=>
  refine⟨[],E,[],_,aU,aT,?_,H1.out.1.aI Y.out.2,?_,ae,ao.to (ao.trans H1.out.2 Y.out.2)⟩;·have h:=Y.out.1;rw[Gs]at h;simpa [Jf]using h
  .omega
 case round=>
  obtain⟨k,left,a,t,hp,hc,q,D2,hF,Sv,hO⟩:=hrel;have D7:=hO.size;have cP:=hid (And.intro hp (And.intro hc (And.intro q (And.intro D2 (And.intro hF hO)))));clear hp hc D2 hF hO;go_wp2_with (at_next;refine afg aa _ aa L0 aa q ?_ ?_);·intro h0;go_wp2;go_ret;obtain⟨s,C,iM,Q,L,S⟩:=cP.out;subst h0;rw[j6]at s;exact⟨_,_,aa,Q.mono (λi hi I=>⟨(L i I).1,hi⟩),C.trans (alw s l),b5.aI S⟩
  .intro u x v m P hv Eo hk3 hs3 hen;dsimp only[vi]at hen⊢;obtain⟨s,C,iM,Q,L,S⟩:=cP.out;have abn:(u,x)∈E:=s.subset (List.mem_append_right _ P);have aaM:(k++left).Nodup:=s.nodup_iff.2 D.out.2.1;have sR:(u,x)∉k:=λh=>(List.nodup_append.1 aaM).2.2 _ h _ P aa;have hx2:(u,x)∉a:=λh=>sR (sV.1 (C.subset h)).1;have hb:=D.out.2.2.1 _ abn;have c':qN (u,x):=⟨⟨ae,ae⟩,⟨ae,ae⟩⟩
   have Z1:canAdd N a (u,x)=true:=by
    have h1:pZ N u=true:=by simpa [pZ]using hb.1
    have o:pZ N x=true:=by simpa [pZ]using hb.2.1
    unfold canAdd;simp only[h1,o,hx2];simpa using hb.2.2
   have nI:jj N a [(u,x)]=a++[(u,x)]:=by show pF N a (u,x)=_;unfold pF;rw[Z1];rfl
   have aoz:a.length<=1048576:=by have h1:=C.length_eq;have o:=QR k l;have h3:=s.length_eq;simp at h3;omega
   have BX:=L2 q.2.1 P
   have pW:((k++[(u,x)])++left.filter (λy=>!decide (y=(u,x)))).Perm E:=by rw[List.append_assoc];exact((BX.append_left _).symm.trans (A9 _)).trans s
   have Zp:=Q.only hk3 (λi I e=>(L i I).2.1 e);have oY:=S.trans (hk3.mono (G:=λi=>w.heap.size<=i) (λi _ e=>ae)) (λ_ _ h=>h);have d:=hid (And.intro pW (And.intro Eo (And.intro Zp (And.intro oY (And.intro c' (And.intro nI C))))));have Z:=hid (And.intro q.left_eq Eo.left_eq)
   have gd:(left.filter (λy=>!decide (y=(u,x)))).length<left.length:=by have:=BX.length_eq;simp at this⊢;omega
   have z:=hid L;have p:=hid hs3;clear hs3;clear s C iM Q L S abn aaM sR hx2 hb c' Z1 nI BX pW Zp oY P hv Eo hk3 q;obtain⟨T,hr1⟩:∃r:Bool,decide (u∈l)=r:=⟨_,aa⟩;obtain⟨U,hr2⟩:∃r:Bool,decide (x∈l)=r:=⟨_,aa⟩;have B:=hid (And.intro hr1 hr2);clear hr1 hr2;have jf:=hid (D.out.2.2.2.aI (b5.aI d.out.2.2.2.1));have V:aE (∀W,ao m W->aD ax 190 #[ad A l.length c,J R u] W λe w'=>e=aA (aj T)/\W=w'):=hid λW c3=>DN A c l u W T B.out.1 (jf.out.aI c3) hlen;have X:aE (∀W,ao m W->aD ax 190 #[ad A l.length c,J R x] W λe w'=>e=aA (aj U)/\W=w'):=hid λW c3=>DN A c l x W U B.out.2 (jf.out.aI c3) hlen;have Da:aE (cut (k++[(u,x)]) l=cut k l++(if u∉l/\x∉l then[(u,x)]else[])):=hid (alv k l u x);by_cases hr:T=au/\U=au
   .obtain⟨rfl,rfl⟩:=hr
    go_wp2_with (first
     |(go_at_call 190;first|((with_reducible refine(V.out _ (aq.alloc _ _)).mono ?_);rintro e w' ⟨rfl,rfl⟩)|((with_reducible refine(X.out _ (aq.alloc _ _)).mono ?_);rintro e w' ⟨rfl,rfl⟩))
     |(go_at_call 182;refine(Xw H N a t _ 1 _ _ (d.out.2.2.1.aI (ao.trans (aq.alloc _ _) (aq.alloc _ _))) (aue (aoe m _ _)) (λe he=>(List.mem_singleton.1 he)▸d.out.2.2.2.2.1) (by rw[List.length_singleton];omega) (λblk off e I=>by cases e;have h1:=(z.out _ I).2.2;have o:=p.out;omega)).mono ?_;rintro e cc ⟨rfl,Rk,O⟩));have f:ao m ((m.alloc (bf #[J R u,J R x] 192)).alloc (bf #[J R u,J R x] 192)):=ao.trans (aq.alloc _ _) (aq.alloc _ _);have aa2:=f.size;have ay0:=O.size;rw[d.out.2.2.2.2.2.1]at Rk;have n:=(d.out.2.1.only f (λh=>h) (λh=>h)).only O (λh=>by have:=(z.out _ h).1;omega) (λh=>(z.out _ h).2.1 aa);have qB:=(d.out.2.2.2.1.trans f (λ_ _ h=>h.elim)).trans (O.mono (G:=λi=>w.heap.size<=i) (λi _ hi=>(z.out i hi).1)) (λ_ _ h=>h)
    have Zo:∀i,(t i\/(((m.alloc (bf #[J R u,J R x] 192)).alloc (bf #[J R u,J R x] 192)).heap.size<=i/\i<cc.heap.size))->w.heap.size<=i/\i≠w1.heap.size/\i<cc.heap.size:=by
     rintro i (hi|hi);·have h1:=z.out i hi;have o:=p.out;exact⟨h1.1,h1.2.1,ae⟩
     .have o:=p.out;exact⟨ae,ae,hi.2⟩
    have M:aE ((a++[(u,x)]).Perm (cut (k++[(u,x)]) l)):=hid (by rw[Da.out,if_pos ⟨by simpa using B.out.1,by simpa using B.out.2⟩];exact(d.out.2.2.2.2.2.2).append_right _);have j:=hid (And.intro n (And.intro Rk (And.intro Zo (And.intro qB n.left_eq))));have K:w1.heap.size<cc.heap.size:=by have o:=p.out;omega
    clear n Rk Zo qB O f;go_wp2;go_roundw;case rel=>exact⟨_,_,_,_,d.out.1,M.out,j.out.1,j.out.2.1,j.out.2.2.1,K,j.out.2.2.2.1⟩
    case measure=>rw[j.out.2.2.2.2,Z.out.1];exact gd
   .have JW:=hid hr;clear hr
    have M:aE (a.Perm (cut (k++[(u,x)]) l)):=hid (by
     rw[Da.out,if_neg,j6];·exact d.out.2.2.2.2.2.2
     .rintro⟨gp,a2⟩;exact JW.out ⟨by rw[<-B.out.1];simpa using gp,by rw[<-B.out.2];simpa using a2⟩);cases T
    .cases U;·exact absurd ⟨aa,aa⟩ JW.out
     .go_wp2_with (go_at_call 190;first|((with_reducible refine(V.out _ (aq.alloc _ _)).mono ?_);rintro e w' ⟨rfl,rfl⟩)|((with_reducible refine(X.out _ (aq.alloc _ _)).mono ?_);rintro e w' ⟨rfl,rfl⟩));have f:ao m (m.alloc (bf #[J R u,J R x] 192)):=aq.alloc _ _;have aa2:=f.size;have n:=d.out.2.1.only f (λh=>h) (λh=>h);have j:=hid (And.intro n (And.intro (d.out.2.2.1.aI f) (And.intro (d.out.2.2.2.1.trans f (λ_ _ h=>h.elim)) n.left_eq)));have K:w1.heap.size<(m.alloc (bf #[J R u,J R x] 192)).heap.size:=by have o:=p.out;omega
      clear n f;go_roundw;case rel=>exact⟨_,_,a,t,d.out.1,M.out,j.out.1,j.out.2.1,λi hi=>by have h1:=z.out i hi;have o:=p.out;exact⟨h1.1,h1.2.1,ae⟩,K,j.out.2.2.1⟩
      case measure=>rw[j.out.2.2.2,Z.out.1];exact gd
    .go_wp2_with (go_at_call 190;first|((with_reducible refine(V.out _ (aq.alloc _ _)).mono ?_);rintro e w' ⟨rfl,rfl⟩)|((with_reducible refine(X.out _ (aq.alloc _ _)).mono ?_);rintro e w' ⟨rfl,rfl⟩));have f:ao m (m.alloc (bf #[J R u,J R x] 192)):=aq.alloc _ _;have aa2:=f.size;have n:=d.out.2.1.only f (λh=>h) (λh=>h);have j:=hid (And.intro n (And.intro (d.out.2.2.1.aI f) (And.intro (d.out.2.2.2.1.trans f (λ_ _ h=>h.elim)) n.left_eq)));have K:w1.heap.size<(m.alloc (bf #[J R u,J R x] 192)).heap.size:=by have o:=p.out;omega
     clear n f;go_roundw;case rel=>exact⟨_,_,a,t,d.out.1,M.out,j.out.1,j.out.2.1,λi hi=>by have h1:=z.out i hi;have o:=p.out;exact⟨h1.1,h1.2.1,ae⟩,K,j.out.2.2.1⟩
     case measure=>rw[j.out.2.2.2,Z.out.1];exact gd
end G
end Go.Proofs.YtcmhplknoglbkaaGreat
