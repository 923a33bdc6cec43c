/- Part 5 of the proof of TopConfinedSaid. -/
import Derived.Test.YtcmhplknoglbkaaGreatQf0
import Derived.Test.YtcmhplknoglbkaaGreatQf3
import Derived.Test.YtcmhplknoglbkaaGreatQf4
set_option linter.all false
set_option maxRecDepth 100000
set_option maxHeartbeats 4000000
open Go.Proofs.Tryz
open Array renaming replicate_succ->qI,replicate_zero->qJ
open Bool renaming false->ao,true->az
open Decidable renaming of_not_not->x'
open Go renaming Act->b3,Addr->bT,Calls->aC,Oper->cT,Program->ew,Value->aO,World->aP,bodyPost_ret->c8,builtin->qR,callFunc->kB,execOp->bz,invoke->n1,madeCells->GQ,maxLen->eG,resolve->n2,results->oC,results_cell_row->gH,results_tmp->PM,run_copy_row->K2,undef->a1,wpIn_skip->D8,wpList_nil->an
open Go.Callee renaming builtin->pb
open Go.Ending renaming returned->aB
open Go.Fn renaming func->eu
open Go.IntKind renaming bits->D0,i64->R,signed->KF,u64->aF,u8->dR,wrap->D1
open Go.Next renaming value->da
open Go.Op renaming call->nY
open Go.Operand renaming tmp->bj
open Go.Proofs.Tryz renaming func199->V0,func280->V',func326->Wd,ntmps199->Wt,ntmps326->WA,prog->ax,underlying137->Pw,underlying22->dK,underlying235->yf,underlying24->ey,underlying35->yg,underlying5->mr,underlying73->gi
open Go.Proofs renaming enters_of->lG
open Go.Result renaming andThen_ok->jI,ok->bf
open Go.RowKit renaming Hid->aE,intOf->bR
open Go.Sem renaming run_bind->gC,run_pure->kg
open Go.TypeDesc renaming slice->iE
open Go.Value renaming agg->ar,bool->ai,func->dS,int->J,map->dP,pointer->ay,slice->ae,tuple->bo
open Int renaming toNat_of_nonneg->QO
open List renaming append_assoc->kQ,append_toArray->q1,cons_append->p4,eq_nil_of_length_eq_zero->j8,filter_append->s8,filter_eq_self->Aj,findIdx?_eq_some_iff_getElem->Q0,flatMap_append->Yt,foldl_append->Yu,foldl_cons->yG,getElem?_append_left->tZ,getElem?_append_right->oI,getElem?_cons_succ->vu,getElem?_drop->vv,getElem?_eq_getElem->cF,getElem?_eq_some_iff->eM,getElem?_map->jU,getElem?_take->q2,getElem?_toArray->Ak,length->q3,length_append->db,length_cons->jV,length_drop->s9,length_map->hM,length_nil->mT,length_range->Ey,length_replicate->lI,length_singleton->yH,length_take->oe,map_append->fR,map_cons->kj,map_nil->lJ,map_toArray->pj,mem_append->iX,mem_cons->gD,mem_iff_getElem?->p6,mem_of_getElem?->cW,mem_singleton->ua,nil_append->l0,not_mem_nil->fS,perm_append_comm->vw,perm_append_singleton->Hn,push_toArray->q4,replicate->ea,size_toArray->iY,take_add_one->gx,take_append_drop->oJ,take_length->ll
open Min renaming min->gI
open Nat renaming add_div_right->YC,div_add_mod->Q6,div_eq_of_lt->Lu,div_le_div_right->al6,div_le_self->vy,eq_zero_or_pos->l1,le_div_iff_mul_le->al8,le_mul_of_pos_left->Cj,le_mul_of_pos_right->yK,le_refl->b7,le_trans->eb,lt_of_lt_of_le->wY,lt_or_ge->Q9,min_eq_left->Am,mod_lt->Ho,mul_comm->An,mul_le_mul_right->oK,sub_le->EA,succ_le_succ->vA,succ_mul->Ap,zero_add->js,zero_le->cB,zero_lt_succ->Lw
open Option renaming none->af,some->ab
open Option.some renaming injEq->wZ
open Or renaming inl->bZ,inr->cc
open Prod.mk renaming injEq->pn
namespace Go.Proofs.YtcmhplknoglbkaaGreat
open Go.RowKit Go.MapKept Go.WideMaps
open Go.ChangeMaps (setBlock heap_setBlock_same heap_setBlock_other)
def wq(d:dF)(n:Nat)(b:List Int):dF:={d with cache:=d.cache++[(n,b)],eD:=R.wrap (d.eD+1),hi:=max d.hi ((n:Int)+1),mo:=max d.mo ((d.cache.length+1:Nat):Int)}
def rL(d:dF)(n:Nat)(b:List Int):dF:={wq d n b with writes:=d.writes -1}
def JS(d:dF)(n:Nat)(b:List Int):dF:={sB (rL d n b) (Di d.keep)with down:=az,iv:=R.wrap (d.iv+1)}
def jj(d:dF)(i:Int)(b:List Int):Int×dF:=
 if j9 d i≠0 then(j9 d i,d)else if b.length≠d.size then(2,d)
 else if d.writes<0 then(0,wq d i.toNat b)else if 0<=d.writes -1 then(0,rL d i.toNat b)else(18,JS d i.toNat b)
theorem U8{d}(h:dt d){n}(hn:n<d.cnt){b}(hb:b.length=d.size)(a:d.cache.length<1073741824):dt (wq d n b):=
 ⟨h.kt,h.um,h.len,h.small,λx hx=>by
   rcases iX.1 hx with hx|hx;·exact h.cache x hx
   .obtain rfl:x=(n,b):=aG;exact⟨hn,hb⟩,by show(d.cache++[(n,b)]).length<=_;simp;omega,h.wr⟩
theorem U9{d}(h:dt d){n}(hn:n<d.cnt){b}(hb:b.length=d.size)(c:d.cache.length<1073741824)(e:0<=d.writes):dt (rL d n b):=
 have h1:=U8 h hn hb c
 ⟨h1.kt,h1.um,h1.len,h1.small,h1.cache,h1.dL,by have a:=h.wr;unfold cN at a⊢;show _<=d.writes -1/\d.writes -1<=_;omega⟩
def Vb{d}(h:dt d)i b(c:d.cache.length<1073741824):dt (jj d i b).2:=by
 unfold jj;split;·omega
 .rename_i hc;obtain⟨n,rfl,hn⟩:=RV (x' hc);split;·omega
  .rename_i hb;have hb:=x' hb;split;·grind[U8]
   .rename_i e;split;·grind[U9]
    .have a:=Ui (U9 h hn hb c ad) (Di d.keep);exact⟨a.kt,a.um,a.len,a.small,a.cache,a.dL,a.wr⟩
def awE{o}{a:b3}{w m x v}{b i n:Nat}{l}(ho:o.op=.mapUpdate 118 m x v)(q:a.eval m=dP (ab b))(hx:a.eval x=J R (i:Int))(hv:a.eval v=J R (n:Int))(hn:l.length=n)(h:(jZ b l).p w)(hi:i<=1073741824)(t:n<=1073741824):
 ∃w',(bz a.eval o).run ax w=bf .skip w'/\Turned w w' (jZ b l) (jZ b (l++[i])):=by
 obtain⟨u,g,hle,s⟩:=h;subst hn;obtain⟨w',hrun,h1,d,r⟩:=g.update adM Tryz.underlying118 (by grind[eG]) (x:=(i:Int)) ⟨ad,ad⟩ (J R (l.length:Int));have f:av (λj=>j=b) w w':=av.of_grownBy d (λk hk=>bZ aG);refine⟨w',?_,f,⟨_,h1,?_,λj=>?_⟩,λj c=>⟨by have e:j=b:=c;rw[e];exact h1.lt,bZ c⟩⟩;·unfold bz;simp only[ho,q,hx,hv];have e:(EX _)=J _ (i:Int):=rfl;rw[e]at hrun;simp[hrun]
 .grind[kc]
 .grind[TQ,adP]
def ak.auZ{aq w FX l L A c bs}n(h:ak aq FX w (mi L::cz A c bs::l)):ak aq FX w (mi (L++[⟨n,A,c,bs⟩])::l):=
 h.star.as 0 aa (mi (L++[⟨n,A,c,bs⟩])) (λh x hx=>by
  rcases iX.1 hx with hx|hx;·exact h.1 x hx
  .obtain rfl:x=⟨n,A,c,bs⟩:=aG;exact h.2.1) (λb ⟨x,hx,hb⟩=>by
  rcases iX.1 hx with hx|hx;·exact bZ ⟨x,hx,hb⟩
  .obtain rfl:x=⟨n,A,c,bs⟩:=aG;exact cc hb)
def ao4 B m d i F du b w(V:Has w (aN B m d))(H:dt d)(hf:d.cache.length<1073741824)(hb:bX w F b)(hW:b.length<=140737488355328)(hne:∀x,ej F x->¬(aN B m d).cU x):
 aC ax 326 #[dc B,J R i,ae F b.length du] w λe w'=>e=aB (J R (jj d i b).1)/\∃X,Turned w w' (aN B m d) (aN B X (jj d i b).2):=by
 obtain⟨bt,G⟩:=ex (j9 d i);have O:=hid (λW h=>by have q:=RU B m d i W h H;rw[G]at q;exact q);by_cases h0:bt=0
 .subst h0;obtain⟨n,rfl,hn⟩:=RV G;have M:=hid G;clear G;have gp:=H.CA;have hf2:=H.dL;have hw0:=H.wr;obtain⟨Tk,hw2⟩:=hw0;by_cases hbl:b.length=d.size
  .have C:=hid hbl;clear hbl;have cn:aE (∀W,av _ w W->bX W F b):=hid (λW g=>hb.only g (λx off e=>hne x ⟨_,_,e⟩));clear hb;obtain⟨az7,E5⟩:=ex m.L.length;have gw:=hid E5;clear E5;go_enter Wd,WA;have a:=ak.start V;go_step;refine ah ?_;refine bL a (ay _) (λo w1 a=>?_);refine ag ?_;refine an ?_;replace a:=a.front 1;replace a:=a.AD;obtain⟨hpl,a⟩:=a;replace a:ak _ _ _ [aj B #[J R _,ae _ _ _,J R _,J aF _,J R d.eD,J R d.hD,J R d.iv,J R d.hi,J R d.mo,ae m.A _ m.c,dP _,ai _] 120,aj m.cG _ 5,jZ m.fc _,bg m.A _ m.c oL 2 _,mi m.L,aj o #[ay _] 32]:=a;go_step;refine ah ?_;refine pl a 5 0 ?_;refine ag ?_;refine aR (O _ (a.aV 0)) ?_;rintro e aU ⟨rfl,g⟩;replace a:=a.aH g;refine aT ?_;refine ag ?_;refine an ?_;have fL:(d.cache.map (·.1)).length=m.L.length:=by rw[hpl,hM,nX.plain,hM]
   have abJ:d.cache.length=m.L.length:=by rw[hpl,nX.plain,hM]
   have jy:=hid fL;have ys:=hid abJ;have aAW:m.L.length<1073741824:=ad;have jr:=hid hpl;clear fL abJ hpl;go_step;refine ah ?_;refine ag ?_;refine pk (ai ao) ?_;refine an ?_;go_step;refine ah ?_;refine v2 ?_;refine pl a 5 0 ?_;refine v3 ?_;refine pl a 0 0 ?_;refine dp C (ai ao) ?_;refine an ?_;go_step;refine cx ?_;refine bN a [10] (λ_ _=>a1) (λ_=>λ|10=>jZ m.fc ((d.cache.map (·.1))++[n])|_=>emp) (λ|10=>[2]|_=>[]) (λ|0=>[5]|3=>[0]|5=>[5]|8=>[0]|_=>[]) (λ_=>[]) [0,1,3,4,5,16] (λf=>?_);refine dl 0 0 ?_;refine bx ?_;refine dl 0 10 ?_;refine aJ ?_;refine dl 0 0 ?_;refine bx ?_;refine dl 0 9 ?_;refine aJ ?_;refine L9 (λ_ _ a=>awE aa aa aa aa jy (a.at 0) ad ad) ?_;refine bQ λbI a=>?_;go_step;refine cx ?_;refine bN a [7,9,10,13] (λi u=>match i with|7=>ae u.A b.length u.c|9=>ae (ab ⟨u.b,0,af⟩) 1 1|10=>ae u.A (m.L.length+1) u.c|_=>a1) (λf=>λ|7=>cz ((f 7).A) ((f 7).c) b|9=>aj ((f 9).b) #[J R (n:Int),ae (f 7).A b.length (f 7).c] 258|10=>bg ((f 10).A) (m.L.length+1) ((f 10).c) oL 2 (my m.L++([J R (n:Int),ae (f 7).A b.length (f 7).c]))|13=>aj B #[J R (d.size:Int),ae (ab ⟨m.cG,0,af⟩) d.bytes.length d.bytes.length,J R d.writes,J aF d.keep,J R d.eD,J R d.hD,J R d.iv,J R d.hi,J R d.mo,ae (f 10).A (m.L.length+1) (f 10).c,dP (ab m.fc),ai d.down] 120|_=>emp) (λ|10=>[2]|13=>[0]|_=>[]) (λ|0=>[4]|1=>[4]|4=>[0]|10=>[15]|_=>[]) (λ|7=>[7]|9=>[7,9]|10=>[7,10]|13=>[10]|_=>[]) [1,3,4,5,13,15,16,19] (λf=>?_);refine dl 0 0 ?_;refine dl 0 0 ?_;refine bx ?_;refine dl 0 9 ?_;refine bx ?_;refine dh (λwl Fr a=>(w6 F du b _ (cn _ a.only) ad).mono ?_) ?_;·rintro e dr ⟨b6,c1,rfl,hrow,g⟩;exact⟨{A:=b6,c:=c1},aa,a.lS g (Row.nj hrow)⟩
   refine aJ ?_;refine kD #[J _ _,ae (f 7).A _ (f 7).c] _ ?_;refine rh (m:=1) 32 (λ_ _ a=>aX.cellsOf (m:=1) (a.aV 1) aa) (by intro u hu;simp only[gD,fS,or_false]at hu;rcases hu with rfl|rfl<;>rfl) ?_;refine bx ?_;refine fY _ ?_;refine bQ λb9 a=>?_;generalize (f 7).A=Y at a⊢;generalize (f 7).c=Z at a⊢;generalize (f 9).b=OY at a⊢;generalize (f 10).A=s at a⊢;generalize (f 10).c=t at a⊢;replace a:=a.pk [1,4,7,0,3,6,2];replace a:=a.auZ n;obtain⟨k,Q⟩:=ex (m.L++[⟨n,Y,Z,b⟩]);have bF:(my m.L++([J R (n:Int),ae Y b.length Z]))=my k:=by grind[anq]
   have cq:m.L.length+1=k.length:=aG;have fC:k.map (λx=>(x.sec,x.bs))=d.cache++[(n,b)]:=by rw[<-Q,fR,jr];rfl
   rw[Q,bF,cq]at a;have aAU:k.length<=1073741824:=ad;have N:=hid fC;have abK:d.cache.length+1=k.length:=by rw[ys,cq]
   have P:=hid abK;rw[cq];clear bF cq fC Q abK;go_step;refine ah ?_;refine pl a 5 0 ?_;refine v3 ?_;refine pl a 1 4 ?_;refine pk (J R (R.wrap (d.eD+1))) ?_;refine v3 ?_;refine bb a 1 (J _ _) (λcE a=>?_);refine an ?_;go_step;refine cx ?_;refine bN a [12] (λ_ _=>a1) (λ_=>λ|12=>aj B #[J R (d.size:Int),ae (ab ⟨m.cG,0,af⟩) d.bytes.length d.bytes.length,J R d.writes,J aF d.keep,J R (R.wrap (d.eD+1)),J R d.hD,J R d.iv,J R (max d.hi ((n:Int)+1)),J R d.mo,ae s k.length t,dP (ab m.fc),ai d.down] 120|_=>emp) (λ|12=>[1]|_=>[]) (λ|0=>[5]|1=>[5]|5=>[1]|_=>[]) (λ_=>[]) [0,2,3,4,5,18] (λf=>?_);refine dl 0 0 ?_;refine dl 0 0 ?_;refine c5 ?_;refine dl 0 7 ?_;refine aJ ?_;refine aK _ (λ_ _ _=>mw 3 _ _ 3 aa _ 1 ((n:Int)+1) aa aa ad ad ad) ?_;refine aK _ (λ_ _ _=>by(go_simp;try with_reducible rfl)) ?_;refine c5 ?_;refine fY _ ?_;refine bQ λcV a=>?_;go_step;refine cx ?_;refine bN a [15] (λ_ _=>a1) (λ_=>λ|15=>aj B #[J R (d.size:Int),ae (ab ⟨m.cG,0,af⟩) d.bytes.length d.bytes.length,J R d.writes,J aF d.keep,J R (R.wrap (d.eD+1)),J R d.hD,J R d.iv,J R (max d.hi ((n:Int)+1)),J R (max d.mo (k.length:Int)),ae s k.length t,dP (ab m.fc),ai d.down] 120|_=>emp) (λ|15=>[5]|_=>[]) (λ|0=>[4]|1=>[4]|5=>[5]|6=>[4]|9=>[5]|_=>[]) (λ_=>[]) [0,1,2,3,4,21] (λf=>?_);refine dl 0 0 ?_;refine dl 0 0 ?_;refine c5 ?_;refine dl 0 8 ?_;refine dl 0 0 ?_;refine bx ?_;refine dl 0 9 ?_;refine aJ ?_;refine aK _ (λ_ _ _=>by(go_simp;try with_reducible rfl)) ?_;refine c5 ?_;refine fY _ ?_;refine bQ λdJ a=>?_;by_cases T:d.writes<0
   .have l:aE (jj d n b=(0,wq d n b)):=hid (by rw[jj,M,if_neg aS,if_neg (by rw[C];simp),if_pos T];rfl);go_step;refine ah ?_;refine pl a 4 0 ?_;refine v3 ?_;refine pl a 5 2 ?_;refine a7 (ai az) ?_;refine an ?_;go_step;refine ah ?_;refine ag ?_;refine an ?_;have y:(d.cache.map (·.1))++[n]=(wq d n b).cache.map (·.1):=by simp[wq]
    have v:max d.mo (k.length:Int)=max d.mo ((d.cache.length+1:Nat):Int):=by rw[P]
    rw[y,v]at a;clear y v;replace a:ak _ _ _ (aN B (⟨m.cG,m.fc,s,t,k⟩) (wq d n b)::[aj o #[ay (ab ⟨B,0,af⟩)] 32]):=ak.vH (show(wq d n b).cache=nX.plain ⟨m.cG,m.fc,s,t,k⟩from N.out.symm) (a.pick (l':=_) [5,1,2,3,0,4]);go_wp2_with fail;go_ret;exact⟨by rw[l];rfl,_,by rw[l.out];exact a.gu 0⟩
   .by_cases k2:0<=d.writes -1
    .have l:aE (jj d n b=(0,rL d n b)):=hid (by rw[jj,M,if_neg aS,if_neg (by rw[C];simp),if_neg T,if_pos k2];rfl);go_step;refine ah ?_;refine pl a 4 0 ?_;refine v3 ?_;refine pl a 5 2 ?_;refine a7 (ai ao) ?_;refine an ?_;go_step;refine ah ?_;refine pl a 4 0 ?_;refine v3 ?_;refine pl a 5 2 ?_;refine j0 _ 1 (d.writes -1) ?_;refine v3 ?_;refine bb a 5 (J _ _) (λdB a=>?_);refine an ?_;go_step;refine ah ?_;refine pl a 4 0 ?_;refine v3 ?_;refine pl a 5 2 ?_;refine a7 (ai az) ?_;refine an ?_;go_step;refine ah ?_;refine ag ?_;refine an ?_;have y:(d.cache.map (·.1))++[n]=(rL d n b).cache.map (·.1):=by simp[rL,wq]
     have v:max d.mo (k.length:Int)=max d.mo ((d.cache.length+1:Nat):Int):=by rw[P]
     rw[y,v]at a;clear y v;replace a:ak _ _ _ (aN B (⟨m.cG,m.fc,s,t,k⟩) (rL d n b)::[aj o #[ay (ab ⟨B,0,af⟩)] 32]):=ak.vH (show(rL d n b).cache=nX.plain ⟨m.cG,m.fc,s,t,k⟩from N.out.symm) (a.pick (l':=_) [5,1,2,3,0,4]);go_wp2_with fail;go_ret;exact⟨by rw[l];rfl,_,by rw[l.out];exact a.gu 0⟩
    .have l:aE (jj d n b=(18,JS d n b)):=hid (by rw[jj,M,if_neg aS,if_neg (by rw[C];simp),if_neg T,if_neg k2];rfl);have U:=U9 H hn C hf ad;go_step;refine ah ?_;refine pl a 4 0 ?_;refine v3 ?_;refine pl a 5 2 ?_;refine a7 (ai ao) ?_;refine an ?_;go_step;refine ah ?_;refine pl a 4 0 ?_;refine v3 ?_;refine pl a 5 2 ?_;refine j0 _ 1 (d.writes -1) ?_;refine v3 ?_;refine bb a 5 (J _ _) (λeZ a=>?_);refine an ?_;go_step;refine ah ?_;refine pl a 4 0 ?_;refine v3 ?_;refine pl a 5 2 ?_;refine a7 (ai ao) ?_;refine an ?_;have y:(d.cache.map (·.1))++[n]=(rL d n b).cache.map (·.1):=by simp[rL,wq]
     have v:max d.mo (k.length:Int)=max d.mo ((d.cache.length+1:Nat):Int):=by rw[P]
     rw[y,v]at a;clear y v;replace a:ak _ _ _ (aN B (⟨m.cG,m.fc,s,t,k⟩) (rL d n b)::[aj o #[ay (ab ⟨B,0,af⟩)] 32]):=ak.vH (show(rL d n b).cache=nX.plain ⟨m.cG,m.fc,s,t,k⟩from N.out.symm) (a.pick (l':=_) [5,1,2,3,0,4]);obtain⟨D,I⟩:=ex (rL d n b);obtain⟨p,S⟩:=ex (sB D (Di d.keep));have hk2:D.keep=d.keep:=by rw[<-I];rfl
     have ka:p.iv=d.iv:=by rw[<-S,<-I];rfl
     rw[I]at U;have akB:aE (JS d n b={p with down:=az,iv:=R.wrap (p.iv+1)}):=hid (by grind[JS])
     have b1:aE (∀W E K,Has W (aN B E D)->aX W K _ 32->¬(aN B E D).cU K->aC ax 63 #[dc B,dS (eu 359) #[] _] W λe w'=>e=aB (bo #[])/\∃X,Turned W w' (aN B E D) (aN B X p)):=hid (λW E K h hx hQ=>by
      have q:=RZ B E D _ #[ay _] _ W h U (lG func359 aw aa) (λq fh hq g hb2=>by have z:=asO K B E D q fh (by have h3:=U.dL;rw[h.plain,nX.plain,hM]at h3;omega) (av.heap g hx hQ) hb2;rw[hk2]at z;exact z);rw[S]at q;exact q);rw[I]at a;clear I S ka;go_step;refine ah ?_;refine pl a 1 0 ?_;refine ag ?_;refine aR (b1.out _ _ o (a.has 0) (a.aV 1) (λh=>a.ne (i:=0) (j:=1) aa aa aS _ h aa)) ?_;rintro e gV ⟨rfl,r,bP⟩;replace a:=a.eQ 0 bP;refine aT ?_;refine an ?_;replace a:=a.AD;obtain⟨arM,a⟩:=a;replace a:ak _ _ _ [aj B #[J R _,ae _ _ _,J R _,J aF _,J R p.eD,J R _,J R p.iv,J R p.hi,J R _,ae r.A _ r.c,dP _,ai _] 120,aj r.cG _ 5,jZ r.fc _,bg r.A _ r.c oL 2 _,mi r.L,aj o _ 32]:=a;go_step;refine ah ?_;refine pl a 5 0 ?_;refine v2 ?_;refine bb a 0 (ai _) (λhZ a=>?_);refine an ?_;go_step;refine ah ?_;refine pl a 5 0 ?_;refine v3 ?_;refine pl a 0 6 ?_;refine pk (J R (R.wrap (p.iv+1))) ?_;refine v3 ?_;refine bb a 0 (J _ _) (λjQ a=>?_);refine an ?_;go_step;refine ah ?_;refine ag ?_;refine an ?_;replace a:ak _ _ _ (aN B r ({p with down:=az,iv:=R.wrap (p.iv+1)})::[aj o _ 32]):=ak.vH arM (a.pick (l':=_) [0,1,2,3,4,5]);go_wp2_with fail;go_ret;exact⟨by rw[l];rfl,r,by rw[l];show Turned _ _ _ (aN B r (JS d n b));rw[akB];exact a.gu 0⟩
  .have C:=hid hbl;have l:aE (jj d n b=(2,d)):=hid (by rw[jj,M,if_neg aS,if_pos hbl]);clear hbl;go_enter Wd,WA;have a:=ak.start V;go_step;refine ah ?_;refine bL a (ay _) (λo ke a=>?_);refine ag ?_;refine an ?_;replace a:=a.front 1;replace a:=a.AD;obtain⟨hpl,a⟩:=a;replace a:ak _ _ _ [aj B #[J R _,ae _ _ _,J R _,J aF _,J R d.eD,J R d.hD,J R d.iv,J R d.hi,J R d.mo,ae m.A _ m.c,dP _,ai _] 120,aj m.cG _ 5,jZ m.fc _,bg m.A _ m.c oL 2 _,mi m.L,aj o #[ay _] 32]:=a;go_step;refine ah ?_;refine pl a 5 0 ?_;refine ag ?_;refine aR (O _ (a.aV 0)) ?_;rintro e k8 ⟨rfl,g⟩;replace a:=a.aH g;refine aT ?_;refine ag ?_;refine an ?_;go_step;refine ah ?_;refine ag ?_;refine pk (ai ao) ?_;refine an ?_;go_step;refine ah ?_;refine v2 ?_;refine pl a 5 0 ?_;refine v3 ?_;refine pl a 0 0 ?_;refine aI (ai az) (by(have h:=C.out;go_simp;first|omega|omega)) ?_;refine an ?_;go_step;refine ah ?_;refine ag ?_;refine an ?_;replace a:ak _ _ _ (aN B m d::[aj o _ 32]):=ak.vH hpl (a.pick (l':=_) [0,1,2,3,4,5]);go_wp2_with fail;go_ret;exact⟨by rw[l];rfl,m,by rw[l];exact a.gu 0⟩
 .have nJ:=h0;have l:aE (jj d i b=(bt,d)):=hid (by grind[jj]);clear G;go_enter Wd,WA;have a:=ak.start V;go_step;refine ah ?_;refine bL a (ay _) (λo mn a=>?_);refine ag ?_;refine an ?_;replace a:=a.front 1;replace a:=a.AD;obtain⟨hpl,a⟩:=a;replace a:ak _ _ _ [aj B #[J R _,ae _ _ _,J R _,J aF _,J R d.eD,J R d.hD,J R d.iv,J R d.hi,J R d.mo,ae m.A _ m.c,dP _,ai _] 120,aj m.cG _ 5,jZ m.fc _,bg m.A _ m.c oL 2 _,mi m.L,aj o #[ay _] 32]:=a;go_step;refine ah ?_;refine pl a 5 0 ?_;refine ag ?_;refine aR (O _ (a.aV 0)) ?_;rintro e nn ⟨rfl,g⟩;replace a:=a.aH g;refine aT ?_;refine ag ?_;refine an ?_;go_step;refine ah ?_;refine ag ?_;refine aI (ai az) (by(go_simp;try simp[nJ])) ?_;refine an ?_;go_step;refine ah ?_;refine v2 ?_;refine an ?_;replace a:ak _ _ _ (aN B m d::[aj o _ 32]):=ak.vH hpl (a.pick (l':=_) [0,1,2,3,4,5]);go_wp2_with fail;go_ret;exact⟨by rw[l];rfl,m,by rw[l];exact a.gu 0⟩
section
section
variable {P:ew} {o:cT} {a:b3} {w:aP}
def atp n:GQ #[a6 0] n=aM a6 (ea n 0) []:=by
 apply Array.ext;·simp[GQ,aM]
 grind[GQ,aM]
def aeK{t e:Nat}{x y}(n:Nat)(ho:o.op=.makeSlice t x y)(hx:a.eval x=J R (n:Int))(d:a.eval y=J R (n:Int))(c:P.underlying t=ab (iE e))(hi:(P.info? e).map (λi=>(i.zero,i.size,i.bytes))=ab (ab (a6 0),1,1))(hn:n<=1073741824):
 ∃B w',(bz a.eval o).run P w=bf (da (ae (ab ⟨B,0,af⟩) n n)) w'/\cj w w' (aj B (aM a6 (ea n 0) []) e):=by
 cases hq:P.info? e with
 |none=>grind
 |some i=>
  rw[hq]at hi;simp only[Option.map_some,wZ,pn]at hi;obtain⟨h1,b,f⟩:=hi;have h:=run_make (P:=P) w t e i (a6 0) c hq h1 R R (n:Int) (n:Int) ad (Int.le_refl _) aG ad;refine⟨_,_,?_,yS (av.alloc _ _) (heap_alloc_new w _) (b7 _)⟩;rw[b,Nat.mul_one]at h;have hc:(a6 0).cells=#[a6 0]:=rfl;rw[hc,Int.toNat_natCast,atp]at h;unfold bz;simp only[ho,hx,d,gC,h,jI,kg]
def auf{t:Nat}(ho:o.op=.makeMap t af):∃B w',(bz a.eval o).run P w=bf (da (dP (ab B))) w'/\cj w w' (jZ B []):=by
 refine⟨w.heap.size,w.alloc (.map #[] 0),?_,av.alloc _ _,⟨[],ee.made w EX cN,b7 _,λ_=>rfl⟩,λb hb=>?_⟩;·grind[bz,gC,run_makeMap,jI,kg]
 .have e:b=w.heap.size:=hb;rw[e];simp
def awB {d n} {c j g B off f cap m c2 t:Nat} {aL old new cs} (ho:o.op=nY {callee:=pb .copy,args:=#[d,n],argTypes:=#[c,j]}) (k:a.eval d=ae (ab ⟨B,off,af⟩) f cap) (l:a.eval n=ae aL m c2) (h:aX w B old t) (hr:Cells w 1 aL m cs) (r:m<=f)
 (nc:off+m<=old.size) (h1:∀v∈cs,v.oneCell'=az) (k1:(old.toList.take off++cs++old.toList.drop (off+cs.length)).toArray=new) (hu:P.underlying c=ab (iE g)) (hs:(P.info? g).map (·.size)=ab 1):
 ∃w',(bz a.eval o).run P w=bf (da (J R (m:Int))) w'/\Turned w w' (aj B old t) (aj B new t):=by
 have hcs:cs.length=m:=by simpa using hr.1
 rcases l1 m with i|i
 .subst i;obtain rfl:cs=[]:=j8 hcs;have e:new=old:=by rw[<-k1];simp
  subst e;have hc:=run_copy_none (P:=P) w c j o.type g (ab ⟨B,off,af⟩) aL f cap 0 c2 hu hs (Nat.zero_min _);refine⟨w,?_,Turned.refl ⟨h,λb hb=>by have e:b=B:=hb;rw[e];exact aX.lt h⟩⟩;unfold bz;simp only[ho,n2,n1,qR,gC,kg,jI,pj,kj,lJ,k,l,hc];rfl
 .obtain⟨p,rfl,q⟩:=hr.2 i;have hr:=K2 (P:=P) w c j o.type g B off f cap p m c2 old t cs hu hs h aG q ad h1;refine⟨w.setRow B (old.toList.take off++cs++old.toList.drop (off+m)).toArray,?_,vE (av.setRow w B _) ?_⟩;·unfold bz;simp only[ho,n2,n1,qR,gC,kg,jI,pj,kj,lJ,k,l,hr,hcs];rfl
  .rw[<-k1,hcs];exact h.setRow _
end
def jP(bs:List Int)(off:Nat)(b:List Int):List Int:=bs.take off++b++bs.drop (off+b.length)
theorem Jh{bs b off}(h:off+b.length<=bs.length):(jP bs off b).length=bs.length:=by grind[jP]
def amj{bs b off}:((aM a6 bs []).toList.take off++b.map a6++(aM a6 bs []).toList.drop (off+(b.map a6).length)).toArray=aM a6 (jP bs off b) []:=by simp[aM,jP]
def mI(size cnt:Nat)(b:List Int):dF:={size:=size,cnt:=cnt,bytes:=jP (ea (size*cnt) 0) 0 b,writes:=-1,keep:=0,eD:=0,hD:=0,iv:=0,hi:=0,mo:=0,cache:=[],down:=ao}
def NC{size cnt b}(h1:1<=size)(a:1<=cnt)(c:size*cnt<=1048576)(hb:b.length<=size*cnt):dt (mI size cnt b):=
 ⟨h1,a,by show(jP _ 0 b).length=cnt*size;grind[Jh],by show cnt*size<=_;rw[An];exact c,λx hx=>absurd hx fS,cB _,by unfold cN;show _<=(-1:Int)/\(-1:Int)<=_;omega⟩
def aoW(size cnt p:Nat)A c b w(h1:1<=size)(f:1<=cnt)(o:size*cnt<=1048576)(hbl:b.length<=size*cnt)(s:w.cell? ⟨p,0,af⟩=ab (ae A b.length c))(hb:bX w A b):
 aC ax 94 #[J R (size:Int),J R (cnt:Int),ae (ab ⟨p,0,af⟩) 1 1] w λe w'=>∃B m,e=aB (dc B)/\cj w w' (aN B m (mI size cnt b)):=by
 have hz1:size<=size*cnt:=yK _ f;have hz2:cnt<=size*cnt:=Cj _ h1;obtain⟨q,d⟩:=ex (1048576/cnt);have H:size<=q:=by rw[<-d];exact(al8 f).2 o
 have G:q<=1048576:=by rw[<-d];exact vy _ _
 obtain⟨N,i⟩:=ex (size*cnt);have r:(size:Int)*(cnt:Int)=(N:Int):=ad;have E:=hid i;have z:=hid d;rw[i]at o hbl hz1 hz2;clear d i;have y:aE (∀W,au w W->aC ax 93 #[ae (ab ⟨p,0,af⟩) 1 1] W λe w'=>∃j n,e=aB (ae j b.length n)/\w'.ownsRow W.heap.size 5 1 (ae j b.length n) b.length (b.map a6)/\au W w'):=hid (λW g=>HF p A c b W (g.cell s (λh=>h)) (hb.aH g) ad);clear s hb;go_enter func94,ntmps94;have a:=a8 w;go_step;refine ah ?_;refine cA ?_;refine aR (y.out _ a.only) ?_;rintro e w1 ⟨D,F,rfl,hrow,g⟩;replace a:=a.lS g (Row.nj hrow);refine aT ?_;refine kf ?_;refine aI (J R (gI (size:Int) (cnt:Int))) (by(go_simp;try with_reducible rfl)) ?_;refine a7 (ai ao) ?_;refine v3 ?_;refine aI _ (te 3 _ _ 3 aa _ cnt q aa aa f z ad) ?_;refine a7 (ai ao) ?_;refine pk (ai ao) ?_;refine v5 ?_;refine aI _ (ln 3 _ _ 3 aa _ _ _ aa aa r ad ad) ?_;refine a7 (ai ao) ?_;refine pk (ai ao) ?_;refine jk ?_;refine aI (J R (N:Int)) (ln 3 (bj 30) (bj 31) 3 aa ((size:Int)) ((cnt:Int)) (N:Int) aa aa r ad ad) ?_;refine NT a (aeK N aa aa aa dK aw ad) (λk I a=>?_);refine v2 ?_;refine NT a (auf aa) (λl K a=>?_);refine ag ?_;refine bL a (ar #[J R (size:Int),ae (ab ⟨k,0,af⟩) N N,J R (-1),J aF 0,J R 0,J R 0,J R 0,J R 0,J R 0,ae af 0 0,dP (ab l),ai ao]) (λt L a=>?_);refine zP ?_;refine pl a 0 1 ?_;refine ag ?_;refine Dy a 2 (awB aa aa aa (a.aV 2) (a.jW 3).1.cells ad (by grind[i']) (xH _) (show _=aM a6 (jP (ea N 0) 0 b) []from amj) dK aw) (λC a=>?_);refine ah ?_;refine eg ?_;replace a:=(a.new (mi []) ⟨av.refl _ _,λx hx=>absurd hx fS,λb ⟨x,hx,_⟩=>absurd hx fS⟩).new (bg af 0 0 oL 2 []) ⟨av.refl _ _,Row.nil _ _ _ _,λb ⟨_,_,e⟩=>aG⟩;have hlen:(jP (ea N 0) 0 b).length=N:=by grind[Jh]
 have u:=a.pk [2,4,3,0,1];have e:mI size cnt b={size:=size,cnt:=cnt,bytes:=jP (ea N 0) 0 b,writes:=-1,keep:=0,eD:=0,hD:=0,iv:=0,hi:=0,mo:=0,cache:=[],down:=ao}:=by grind[mI]
 have v:ak w (λ_=>False) C [aN t ⟨k,l,af,0,[]⟩ (mI size cnt b)]:=by rw[e];refine ak.vH aa ?_;show ak _ _ _ (aj _ #[_,ae _ (jP (ea N 0) 0 b).length (jP (ea N 0) 0 b).length,_,_,_,_,_,_,_,_,_,_] _::_);rw[hlen];exact u
 go_wp2_with fail;go_ret;exact⟨_,_,aa,v.fresh 0⟩
end
open Go.RowKit Go.MapKept
def rD(s:Nat):Nat->Nat->Nat->List (Int×Int)
 |0,_,_=>[]
 |f+1,o,n=>if n=0 then[]else((o:Int),((gI s n:Nat):Int))::rD s f (o+gI s n) (n -gI s n)
def hY(s o n:Nat):List (Int×Int):=rD s n o n
theorem Ue s(a:0<s):∀f o n,n<=f->(rD s f o n).length<=(n+s -1)/s
 |0,o,n,h=>cB _
 |f+1,o,n,h=>by
  unfold rD;split;·simp
  .rename_i b;have c:=Ue s a f (o+gI s n) (n -gI s n) ad;rw[jV]
   have h1:(n+s -1)/s=(n -gI s n+s -1)/s+1:=by
    by_cases hn:n<=s;·rw[Nat.min_eq_right hn,Nat.sub_self,show 0+s -1=s -1 by omega,Lu (by omega:s -1<s),show n+s -1=(n -1)+s by omega,YC _ a,Lu ad]
    .rw[Am ad,show n+s -1=(n -s+s -1)+s by omega,YC _ a]
   omega
def au5(o n s:Nat)w:
 aC ax 324 #[gT ((o:Int),(n:Int)),J R (s:Int)] w λe w'=>∃b b',e=aB (dS (eu 358) #[] #[ay (ab ⟨b,0,af⟩),ay (ab ⟨b',0,af⟩)])/\cj w w' (both (aj b #[J R (o:Int),J R (n:Int)] 35) (aj b' #[J R (s:Int)] 3)):=by
 go_enter func324,ntmps324;have a:=a8 w;go_step;refine ah ?_;refine bL a (ar #[J _ (o:Int),J _ (n:Int)]) (λc w1 a=>?_);refine bL a (J _ _) (λd f a=>?_);refine ag ?_;refine ah ?_;refine eg ?_;go_wp2_with fail;go_ret;exact⟨_,_,aa,((a.pick (l':=[aj _ _ 35,aj _ _ 3]) [1,0]).star).fresh 0⟩
def I5(b:Nat)(w:aP):Nat:=match w.cell? ⟨b,1,af⟩with|some v=>(bR v).toNat|none=>0
def ad1{b w v}{n:Nat}{t}(h:aX w b #[v,J R (n:Int)] t):I5 b w=n:=by unfold I5;rw[aX.cell h 1 aa];simp[bR]
theorem au4(o n s:Nat)(H:0<s/\(s:Int)<=4611686018427387903)(hn:((o+n:Nat):Int)<=4611686018427387903)(g b')aq FX:
 yM ax 358 #[ay (ab ⟨g,0,af⟩),ay (ab ⟨b',0,af⟩)] (λe:Int×Int=>#[gT e]) aq FX (both (aj g #[J R (o:Int),J R (n:Int)] 35) (aj b' #[J R (s:Int)] 3)) (λ_=>True) (hY s o n):=by
 intro l S M W F t r u a;go_enter Tryz.func358,ntmps358;replace a:=a.fw;obtain⟨xs,j⟩:=ex (hY s o n);rw[j]at r⊢;have hs1:=H;have P:=hn;go_wp2_with fail;go_loopw [] (λwr=>∃(i c d:Nat) (pre:List (Int×Int)) (t:bu),pre++rD s d i c=xs/\c<=d/\i+c=o+n/\S pre t/\ak aq FX wr [aj g #[J R (i:Int),J R (c:Int)] 35,aj b' #[J R (s:Int)] 3,t,F]) (λwr=>I5 g wr);case atStart=>exact⟨o,n,n,[],t,j,b7 _,aa,u,a⟩
 case round=>
  clear a j u;obtain⟨i,c,d,pre,t,j,N,Q,v,a⟩:=hrel;have E:=a.aV 0;by_cases hlt:0<c
  .have D:(0:Int)<(c:Int):=ad;obtain⟨m,w⟩:=ex (gI s c);have O:0<m/\m<=c:=ad;have x:gI (s:Int) (c:Int)=(m:Int):=ad;obtain⟨d,rfl⟩:∃f,d=f+1:=⟨d -1,ad⟩;have p:(pre++[((i:Int),(m:Int))])++rD s d (i+m) (c -m)=xs:=by grind[rD]
   have y:pre++[((i:Int),(m:Int))]<+:xs:=⟨_,p⟩;have A:=hid x;have B:=hid p;have K:=hid w;have L:=hid j;clear w x j p;go_step;refine ah ?_;refine ag ?_;refine pl a 0 1 ?_;refine ed ?_;refine pl a 1 0 ?_;refine ag ?_;refine pl a 0 1 ?_;refine dp A (J R (m:Int)) ?_;refine hI ?_;refine Ox 5 ?_;refine v2 ?_;refine pl a 0 0 ?_;refine eg ?_;have q:=(a.pick (l':=[t,aj g _ 35,aj b' _ 3,F]) [2,0,1,3]).Hy;refine JR (r _ _ _ _ _ y v q) (λb w1 hb=>?_) (λ_ _ C=>C.elim (λh=>⟨_,h.1⟩) (λh=>⟨_,h.1⟩)) (HP aa aa (by simp only[pj,kj,lJ];rfl));clear q a;rcases JG hb with⟨rfl,z,k,a⟩|⟨rfl,z,k,a⟩
   .clear hb;replace a:=a.xW;refine wg ?_;refine cA ?_;refine pl a 1 0 ?_;refine ag ?_;refine pad _ _ ((i+m:Nat):Int) ?_;refine ag ?_;refine bb a 1 (J _ _) (λT a=>?_);refine b5 ?_;refine pl a 1 1 ?_;refine ag ?_;refine j0 _ _ ((c -m:Nat):Int) ?_;refine ag ?_;refine bb a 1 (J _ _) (λU a=>?_);refine an ?_;have G:=a.aV 1;go_wp2_with fail;go_roundw;case rel=>exact⟨_,_,d,_,_,B,ad,ad,k,a.pick [1,2,0,3]⟩
    case measure=>(show I5 _ _<I5 _ _;rw[ad1 G,ad1 E];omega)
   .clear hb;replace a:=a.xW;refine wg ?_;refine bU ?_;go_wp2_with fail;first|go_end0|refine bodyPost_ret (results_none rfl _ _ _) rfl ?_
    exact vC.cut y k ((ak.bY (l:=[aj g _ 35,aj b' _ 3]) (a.pick (l':=[aj g _ 35,aj b' _ 3,z,F]) [1,2,0,3])).pick [1,0,2])
  .have D:¬(0:Int)<(c:Int):=ad;obtain rfl:c=0:=ad;have I:pre=xs:=by rw[<-j];cases d<;>simp[rD]
   subst I;go_step;refine ah ?_;refine ag ?_;refine pl a 0 1 ?_;refine bU ?_;go_wp2_with fail;first|go_end0|refine bodyPost_ret (results_none rfl _ _ _) rfl ?_
   exact vC.all v trivial ((ak.bY (l:=[aj g _ 35,aj b' _ 3]) a).pick [1,0,2])
def rj(l:List (Int×Int)):List Value:=l.flatMap (λe=>[J R e.1,J R e.2])
theorem apI l e:rj (l++[e])=rj l++[J R e.1,J R e.2]:=by simp[rj]
def axt(o n s:Nat)(y:0<s/\(s:Int)<=4611686018427387903)(hn:((o+n:Nat):Int)<=4611686018427387903)(U:(n+s -1)/s<=1048576)w:
 aC ax 289 #[gT ((o:Int),(n:Int)),J R (s:Int)] w λe w'=>∃A c,e=aB (ae A (hY s o n).length c)/\Row w.heap.size w' A (hY s o n).length c 35 2 (rj (hY s o n))/\au w w':=by
 obtain⟨xs,q⟩:=ex (hY s o n);have z:xs.length<=1048576:=by grind[Ue,hY]
 have K:=hid q;have I:=hid z;have H:∀d b',yM ax 358 #[ay (ab ⟨d,0,af⟩),ay (ab ⟨b',0,af⟩)] (λe:Int×Int=>#[gT e]) w (λ_=>False) (both (aj d #[J R (o:Int),J R (n:Int)] 35) (aj b' #[J R (s:Int)] 3)) (λ_=>True) xs:=λd b'=>by grind[au4]
 obtain⟨B,k⟩:=ex ((n -1)/s);have r:=hid k;have V:B<=n:=by rw[<-k];exact eb (vy _ _) (EA _ _)
 clear k;rw[q];clear q z;refine Cy func289 aa ?_;simp only[ntmps289,iY,jV,mT,qI,qJ,q4,q1,l0,p4];have a:=a8 w;go_step;refine ah ?_;refine bL a (ar #[J _ (o:Int),J _ (n:Int)]) (λC w1 a=>?_);refine ag ?_;refine an ?_;by_cases L:n=0
 .subst L;have hx0:xs=[]:=by rw[<-K];rfl
  subst hx0;go_step;refine ah ?_;refine ag ?_;refine a7 (ai ao) ?_;refine v2 ?_;refine pl a 0 1 ?_;refine v3 ?_;iterate 6 refine ps ?_
  refine ag ?_;refine an ?_;go_step;refine ah ?_;refine ag ?_;refine an ?_;go_wp2_with fail;exact att (PM aa _ _ _) ⟨_,0,aa,Row.nil _ _ _ _,a.only⟩
 .have T:¬(n:Int)=0:=ad;have G:aE (¬(1048576:Int)<=(B:Int)):=hid (by have h1:(n+s -1)/s=(n -1)/s+1:=(by rw[show n+s -1=(n -1)+s by omega,YC _ y.1]);have M:=r.out;omega);go_step;refine ah ?_;refine ag ?_;refine a7 (ai ao) ?_;refine v2 ?_;refine pl a 0 1 ?_;refine a7 (ai ao) ?_;refine v3 ?_;refine pl a 0 1 ?_;refine j0 _ 1 ((n -1:Nat):Int) ?_;refine ag ?_;refine aI _ (te _ _ _ _ aa _ s _ aa aa y.1 r ad) ?_;refine aI (ai ao) (by(have h:=G.out;go_simp;try simp[h];try omega)) ?_;refine ag ?_;refine an ?_;go_step;refine ah ?_;refine bn a #[ae _ 0 0] (λg X a=>?_);refine an ?_;go_step;refine ah ?_;refine bh a 1 #[J R (o:Int),J R (n:Int)] ?_;refine ag ?_;refine aR (au5 o n s _) ?_;rintro e Y ⟨d,b',rfl,N⟩;replace a:=a.new _ N;refine aT ?_;refine an ?_;replace a:=a.new (bg _ 0 0 35 2 []) ⟨av.refl _ _,Row.nil _ _ _ _,λb ⟨_,_,e⟩=>aG⟩;go_wp2_with fail;have v:ak _ _ _ [both _ _,bY [aj g _ 176,bg af 0 0 35 2 []],bY [aj C #[J R _,J R _] 35]]:=ak.EJ (a.pick [1,2,0,3]);refine JQ (encs:=(λe:Int×Int=>#[gT e])) aa (lG Tryz.func358 ba aa) (λ_=>aa) (H d b') (λpre t=>∃A c,t=bY [aj g #[ae A pre.length c] 176,bg A pre.length c 35 2 (rj pre)]) (λ_ _ _=>False) (⟨af,0,aa⟩) v ?_ ?_ ?_;all_goals clear v a
  .rintro l rd pre x W t F O P ⟨A,c,rfl⟩ a;replace a:=a.lX;repeat((fail_if_success (with_reducible refine at_region ?_));gi_step)
   refine kv ?_;refine bn a #[J _ 0,J _ 0] (λS Z a=>?_);refine bb a 0 (ar _) (λcE a=>?_);refine an ?_;first|refine D8 ?_|skip
   simp only[Exit.then];refine Cs a 3 P (λcV a=>?_);replace a:ak _ _ _ [aj _ _ 35,aj _ _ _,bg A _ c 35 2 _,obj l _,F]:=a;have hpl:=O.length_le;rw[db,yH]at hpl;have E:=hid hpl;clear hpl;repeat((fail_if_success (with_reducible refine at_region ?_));gi_step)
   refine kv ?_;refine pl a 1 0 ?_;refine bh a 0 #[J R x.1,J R x.2] ?_;refine e' a #[J R x.1,J R x.2] 35 (λQ dJ a=>?_);refine kd (m:=1) a 3 16 (aX.cellsOf (m:=1) (a.aV 0) aa) (by intro u p;simp only[gD,fS,or_false]at p;rcases p with rfl|rfl<;>rfl) (λf j dB a=>?_) (hby:=by have h1:=E.out;have M:=I.out;omega);refine bb a 2 (ae _ _ _) (λeZ a=>?_);refine an ?_;repeat gi_step
   have i:=a.pk [2,3,4,5];replace i:ak _ _ _ [bY [aj g #[ae f (pre.length+1) j] 176,bg f (pre.length+1) j 35 2 (rj pre++([J R x.1,J R x.2]))],obj l (.loop {rd with state:=.busy}),F]:=i.fP 2;refine⟨_,?_,i⟩;exact⟨f,j,by grind[apI]⟩
  .rintro D t u W ⟨A,c,rfl⟩ p a;replace a:=a.lX;replace a:=(a.pk [4,0,1,2,3]).lX;go_step;refine ah ?_;refine pl a 1 0 ?_;refine ag ?_;refine an ?_;go_wp2_with fail;refine zq a 4 (λw' a=>⟨PM aa _ _ _,?_⟩);replace a:ak _ _ _ [aj _ _ 35,aj _ _ _,bg A _ c 35 2 _,u,obj D _]:=a;exact⟨A,c,aa,(a.fresh 2).row,a.only⟩
  .simp
def dV(s o n:Nat):Nat×Nat:=if n=0 then(0,0)else(o/s,(o+n -1)/s -o/s+1)
def mj(s o n i:Nat):Nat×Nat×Nat:=(i,max o (i*s),gI (o+n) (i*s+s) -max o (i*s))
def mK(s o n:Nat):List (Nat×Nat×Nat):=(List.range (dV s o n).2).map (λj=>mj s o n ((dV s o n).1+j))
def Ul{s o n i}(c:1<=s)(h1:(dV s o n).1<=i)(a:i<(dV s o n).1+(dV s o n).2):i*s<=(mj s o n i).2.1/\o<=(mj s o n i).2.1/\0<(mj s o n i).2.2/\(mj s o n i).2.1+(mj s o n i).2.2<=o+n/\(mj s o n i).2.1+(mj s o n i).2.2<=i*s+s:=by
 unfold dV at h1 a;by_cases b:n=0;·grind
 .rw[if_neg b]at h1 a;simp only at h1 a;have d:=by have:=Nat.lt_succ_of_le h1;have:=(Nat.div_lt_iff_lt_mul c).1 this;rw[Ap]at this;exact this
  have e:i<=(o+n -1)/s:=by have:o/s<=(o+n -1)/s:=al6 ad;omega
  grind[al8,mj]
def afj{s o n}(b:1<=s){x}(hx:x∈mK s o n):x=mj s o n x.1/\(dV s o n).1<=x.1/\x.1<(dV s o n).1+(dV s o n).2:=by obtain⟨j,a,rfl⟩:=List.mem_map.1 hx;rw[List.mem_range]at a;exact⟨aa,by show _<=(dV s o n).1+j;omega,by show(dV s o n).1+j<_;omega⟩
def afh{a:Type}{pre xs}{x:a}(h:pre++[x]<+:xs):x∈xs:=h.subset (List.mem_append_right _ (ua.2 aa))
def af3(s o n:Nat)(f:1<=s/\s<=1125899906842624)(hn:o+n<=1125899906842624)w:
 aC ax 116 #[J R (s:Int),gT ((o:Int),(n:Int))] w λe w'=>e=aB (gT (((dV s o n).1:Int),((dV s o n).2:Int)))/\au w w':=by
 by_cases l:n=0;·subst l;have e:dV s o 0=(0,0):=rfl;rw[e];go_enter Tryz.func116,Tryz.ntmps116;have c:=a8 w;go_step;refine ah ?_;refine bL c (ar #[J _ (o:Int),J _ ((0:Nat):Int)]) (λg w1 c=>?_);refine bn c #[J _ 0,J _ 0] (λh q c=>?_);refine b5 ?_;refine a7 (ai ao) ?_;refine ag ?_;refine bh c 1 #[J R (o:Int),J R ((0:Nat):Int)] ?_;refine bH (xY (o:Int) ((0:Nat):Int) _ ⟨ad,ad,ad⟩) c (λr c=>?_);refine v4 ?_;refine pl c 1 1 ?_;refine pk (ai az) ?_;refine cA ?_;refine bb c 0 (ar #[J R 0,J R 0]) (λt c=>?_);refine an ?_;go_wp2_with fail;refine c8 (v:=_) (gH aa _ _ _ _ _ _ _ aa (c.aV 0) yg aa aw) aa (⟨aa,c.only⟩)
 .obtain⟨a,d⟩:=ex (o/s);obtain⟨b,hb⟩:=ex ((o+n -1)/s);have hab:a<=b:=by rw[<-d,<-hb];exact al6 ad
  have m:b<=o+n:=by rw[<-hb];exact eb (vy _ _) (EA _ _)
  have e:dV s o n=(a,b -a+1):=by grind[dV]
  rw[e];have j:=hid d;have k:=hid hb;clear d hb e;go_enter Tryz.func116,Tryz.ntmps116;have c:=a8 w;go_step;refine ah ?_;refine bL c (ar #[J _ (o:Int),J _ (n:Int)]) (λg u c=>?_);refine bn c #[J _ 0,J _ 0] (λh x c=>?_);refine b5 ?_;refine a7 (ai ao) ?_;refine ag ?_;refine bh c 1 #[J R (o:Int),J R (n:Int)] ?_;refine bH (xY (o:Int) (n:Int) _ ⟨ad,ad,ad⟩) c (λy c=>?_);refine v4 ?_;refine pl c 1 1 ?_;refine a7 (ai ao) ?_;refine hI ?_;refine bN c [5] (λi _=>match i with|5=>J R ((o:Int)+(n:Int))|_=>a1) (λ_ _=>emp) (λ_=>[]) (λ|1=>[1]|4=>[1]|_=>[]) (λ_=>[]) [0,1,7] (λp=>?_);refine aJ ?_;refine dl 0 0 ?_;refine aJ ?_;refine aK _ (λ_ _ _=>te _ _ _ _ aa o s a aa aa f.1 j ad) ?_;refine eO 0 #[J R (o:Int),J R (n:Int)] ?_;refine dA (λ_ _ _=>l5 (o:Int) (n:Int) _ ad ad ad) ?_;refine aK _ (λ_ _ _=>ra 3 _ _ 3 aa _ 1 ((o+n -1:Nat):Int) aa aa ad ad ad) ?_;refine aJ ?_;refine aK _ (λ_ _ _=>te _ _ _ _ aa _ s b aa aa f.1 k ad) ?_;refine bx ?_;refine bQ λz c=>?_;replace c:=c.drop 2;refine jk ?_;refine j0 (b:Int) (a:Int) ((b -a:Nat):Int) ?_;refine pad _ 1 ((b -a+1:Nat):Int) ?_;refine ag ?_;refine bb c 0 (ar #[J R _,J _ ((b -a+1:Nat):Int)]) (λA c=>?_);refine an ?_;go_wp2_with fail;refine c8 (v:=_) (gH aa _ _ _ _ _ _ _ aa (c.aV 0) yg aa aw) aa (⟨aa,c.only⟩)
def aan B m d(o n)w(hb:aX w B (qf m d) 120)(b:dt d)(hn:o+n<=d.bytes.length):
 aC ax 207 #[dc B,gT ((o:Int),(n:Int))] w λe w'=>e=aB (J R 0)/\au w w':=by
 have c:=b.len;have hsm:=b.small;obtain⟨q,f⟩:=ex (d.cnt*d.size);have hc1:=b.CA;have g:(d.size:Int)*(d.cnt:Int)=(q:Int):=by rw[<-f,An,Int.natCast_mul]
 rw[f]at c hsm;rw[c]at hn;clear f c;go_enter func207,ntmps207;have a:=a8 w;go_step;refine ah ?_;refine bL a (ar #[J _ (o:Int),J _ (n:Int)]) (λh w1 a=>?_);refine cA ?_;refine pk (ai ao) ?_;refine ed ?_;refine bh a 0 #[J R (o:Int),J R (n:Int)] ?_;refine bH (xY (o:Int) (n:Int) _ ⟨ad,ad,ad⟩) a (λi a=>?_);refine v2 ?_;refine bh a 0 #[J R (o:Int),J R (n:Int)] ?_;refine bH (l5 (o:Int) (n:Int) _ ad ad ad) a (λj a=>?_);refine ag ?_;refine bH (w8 B m d _ (aX.aH hb a.only) b) a (λk a=>?_);refine ag ?_;refine bH (Ma B m d _ (aX.aH hb a.only) b) a (λl a=>?_);refine aI _ (ln 3 _ _ 3 aa _ _ _ aa aa g ad ad) ?_;refine a7 (ai ao) ?_;refine v2 ?_;refine ah ?_;refine ag ?_;refine an ?_;go_wp2_with fail;go_ret;exact⟨aa,a.only⟩
def ae2(s o n:Nat)w:
 aC ax 208 #[J R (s:Int),gT ((o:Int),(n:Int))] w λe w'=>∃b' b,e=aB (dS (eu 280) #[] #[ay (ab ⟨b',0,af⟩),ay (ab ⟨b,0,af⟩)])/\cj w w' (both (aj b' #[J R (s:Int)] 3) (aj b #[J R (o:Int),J R (n:Int)] 35)):=by
 go_enter func208,ntmps208;have a:=a8 w;go_step;refine ah ?_;refine bL a (J _ _) (λc w1 a=>?_);refine bL a (ar #[J _ (o:Int),J _ (n:Int)]) (λd f a=>?_);refine ag ?_;refine ah ?_;refine eg ?_;go_wp2_with fail;go_ret;exact⟨_,_,aa,((a.pick (l':=[aj _ _ 3,aj _ _ 35]) [1,0]).star).fresh 0⟩
theorem ae1(s o n:Nat)(w:1<=s/\s<=1125899906842624)(hn:o+n<=1125899906842624)(b' f)aq FX:
 yM ax 280 #[ay (ab ⟨b',0,af⟩),ay (ab ⟨f,0,af⟩)] (λx:Nat×Nat×Nat=>#[J R (x.1:Int),gT ((x.2.1:Int),(x.2.2:Int))]) aq FX (both (aj b' #[J R (s:Int)] 3) (aj f #[J R (o:Int),J R (n:Int)] 35)) (λ_=>True) (mK s o n):=by
 intro l S hB W F t D E a;obtain⟨xs,Q⟩:∃xs,mK s o n=xs:=⟨_,aa⟩;rw[Q]at D⊢;obtain⟨c,H⟩:∃x,(dV s o n).1=x:=⟨_,aa⟩;obtain⟨d,G⟩:∃x,(dV s o n).2=x:=⟨_,aa⟩;have P:xs.length=d:=by grind[mK]
 have O:∀j,j<d->xs[j]?=ab (mj s o n (c+j)):=λj I=>by grind[mK]
 have u:∀j,j<d->(c+j)*s<=(mj s o n _).2.1/\o<=(mj s o n _).2.1/\0<(mj s o n _).2.2/\(mj s o n _).2.1+(mj s o n _).2.2<=o+n/\(mj s o n _).2.1+(mj s o n _).2.2<=(c+j)*s+s:=λj I=>Ul w.1 ad ad
 have iK:c+d<=1125899906842625:=by
  rcases l1 d with h|h;·grind[dV]
  .have h1:=u (d -1) ad;have h2:c+(d -1)<=(c+(d -1))*s:=yK _ w.1;omega
 have Y:aE (∀W,aC _ _ #[J _ _,ar #[J _ (o:Int),J _ (n:Int)]] W λe w'=>e=aB (ar #[J _ (c:Int),J _ (d:Int)])/\au W w'):=hid (λW=>by have h:=af3 s o n w hn W;rw[H,G]at h;exact h);have ki:=hid P;have Z:=hid O;have X:=hid u;clear Q H G P O u;go_enter V',ntmps280;replace a:=a.fw;go_step;refine ah ?_;refine pl a 0 0 ?_;refine bh a 1 #[J R (o:Int),J R (n:Int)] ?_;refine aR (Y _) ?_;rintro e w1 ⟨rfl,g⟩;replace a:=a.aH g;refine aT ?_;refine bn a #[J _ 0,J _ 0] (λA aU a=>?_);refine bb a 0 (ar _) (λbI a=>?_);refine an ?_;go_step;refine ah ?_;refine ag ?_;refine pl a 0 0 ?_;refine ag ?_;refine an ?_;replace a:=a.pick (l':=[aj b' _ 3,aj f _ 35,aj _ _ 35,t,F]) [1,2,0,3,4];go_wp2_with fail;go_loopw [5] (λz wr=>∃(j:Nat) (t:bu),j<=d/\z=J R ((c+j:Nat):Int)/\S (xs.take j) t/\ak aq FX wr [aj b' #[J R (s:Int)] 3,aj f #[J R (o:Int),J R (n:Int)] 35,aj A #[J R (c:Int),J R (d:Int)] 35,t,F]) (λz wr=>c+d -(bR z).toNat);case atStart=>exact⟨0,t,cB _,aa,E,a⟩
 case round=>
  clear a E;obtain⟨j,t,I,rfl,p,a⟩:=hrel;by_cases hlt:j<d
  .have hx:=Z j hlt;have M:=X j hlt;have y:xs.take (j+1)=xs.take j++[mj s o n (c+j)]:=by grind[gx]
   have v:xs.take j++[mj s o n (c+j)]<+:xs:=aG;obtain⟨a7,k⟩:∃x,(mj s o n (c+j)).2.1=x:=⟨_,aa⟩;obtain⟨i,hpl⟩:∃x,(mj s o n (c+j)).2.2=x:=⟨_,aa⟩;have N:mj s o n (c+j)=(c+j,a7,i):=by rw[<-k,<-hpl];rfl
   rw[k,hpl]at M;obtain⟨m,r⟩:∃x,(c+j)*s=x:=⟨_,aa⟩
   have L:mh ((o:Int),(n:Int)) ((m:Int),(s:Int))=((a7:Int),(i:Int)):=by have bF:max o _=a7:=k;have fC:gI _ _ -max o _=i:=hpl;rw[r]at bF fC;unfold mh;simp only;rw[if_pos ad];rw[pn];exact⟨ad,ad⟩
   rw[r]at M;have sn:((c+j:Nat):Int)*(s:Int)=(m:Int):=ad;obtain⟨xB,K⟩:∃b,meets ((o:Int),(n:Int)) ((m:Int),(s:Int))=b:=⟨_,aa⟩;have V:aE (∀W,aC ax 202 _ W λe w'=>e=aB (bo #[ar #[J R (a7:Int),J R (i:Int)],ai xB])/\au W w'):=hid (λW=>by have h:=NQ (o:Int) (n:Int) (m:Int) (s:Int) W ⟨ad,ad,ad⟩ ⟨ad,ad,ad⟩;rw[L,K]at h;exact h);rw[N]at v y;have C:=hid v;have QL:=hid y;clear hx y v k hpl N r L K;go_step;refine ah ?_;refine ag ?_;refine bh a 2 #[J R (c:Int),J R (d:Int)] ?_;refine aR (l5 (c:Int) (d:Int) _ ad ad ad) ?_;rintro e b9 ⟨rfl,g⟩;replace a:=a.aH g;refine aT ?_;refine aI (ai az) (by(go_simp;try omega)) ?_;refine an ?_;go_step;refine ah ?_;refine bh a 1 #[J R (o:Int),J R (n:Int)] ?_;refine ag ?_;refine pl a 0 0 ?_;refine aI _ (ln 3 _ _ 3 aa _ _ _ aa aa sn ad ad) ?_;refine pl a 0 0 ?_;refine ag ?_;refine aR (V _) ?_;rintro e cE ⟨rfl,g⟩;replace a:=a.aH g;refine aT ?_;iterate 3 refine ag ?_
   refine bn a #[J _ 0,J _ 0] (λU cV a=>?_);refine bb a 0 (ar _) (λdJ a=>?_);refine ag ?_;refine an ?_;go_step;refine cx ?_;refine Ox 3 ?_;iterate 2 refine ag ?_
   refine bh a 0 #[J R (a7:Int),J R (i:Int)] ?_;refine an ?_;have B:=(a.pick (l':=[t,aj U _ 35,aj b' _ 3,aj f _ 35,aj A _ 35,F]) [4,0,1,2,3,5]).Hy;refine JR (D _ _ _ _ _ C p B) (λb dB hb=>?_) (λ_ _ he=>he.elim (λh=>⟨_,h.1⟩) (λh=>⟨_,h.1⟩)) (HP aa aa (by simp only[pj,kj,lJ];rfl));clear B a;rcases JG hb with⟨rfl,T,q,a⟩|⟨rfl,T,q,a⟩
   .clear hb;replace a:=a.xW;refine wg ?_;refine ag ?_;refine an ?_;go_step;refine ah ?_;refine ag ?_;refine aI _ (mw 3 _ _ 3 aa _ 1 ((c+(j+1):Nat):Int) aa aa ad ad ad) ?_;refine ag ?_;refine an ?_;go_wp2_with fail;go_roundw;case rel=>exact⟨j+1,_,ad,aa,by rw[QL.out];exact q,a.pick [2,3,4,0,5]⟩
    case measure=>grind[bR]
   .clear hb;replace a:=a.xW;refine wg ?_;refine ag ?_;refine an ?_;go_wp2_with fail;first|go_end0|refine bodyPost_ret (results_none rfl _ _ _) rfl ?_
    exact vC.cut C q ((ak.bY (l:=[aj b' _ 3,aj f _ 35]) (a.pick (l':=[aj b' _ 3,aj f _ 35,T,F]) [2,3,0,5])).pick [1,0,2])
  .obtain rfl:d=j:=ad;have Tq:=List.take_of_length_le (by rw[ki];exact b7 _);rw[Tq]at p;go_step;refine ah ?_;refine ag ?_;refine bh a 2 #[J R (c:Int),J R (d:Int)] ?_;refine aR (l5 (c:Int) (d:Int) _ ad ad ad) ?_;rintro e eZ ⟨rfl,g⟩;replace a:=a.aH g;refine aT ?_;refine aI (ai ao) (by(go_simp;try omega)) ?_;refine an ?_;go_wp2_with fail;first|go_end0|refine bodyPost_ret (results_none rfl _ _ _) rfl ?_
   exact vC.all p trivial ((ak.bY (l:=[aj b' _ 3,aj f _ 35]) (a.pick (l':=[aj b' _ 3,aj f _ 35,t,F]) [0,1,3,4])).pick [1,0,2])
section
section
variable {P:ew} {o:cT} {a:b3} {w:aP}
def TL{ty t B:Nat}{v}(hb:aX w B #[v] t)(b:(P.underlying ty).map (λd=>d.isRow)=ab ao):(loadVar ty ⟨B,0,af⟩).run P w=bf v w:=by
 have hc:=hb.cell 0 aa;cases hq:P.underlying ty with
 |none=>grind
 |some d=>
  have a:d.isRow=false:=aG
  have hagg:(isAgg ty).run P w=bf ao w:=by unfold isAgg;rw[gC,run_underlying hq w];cases d<;>simp_all
  simp[loadVar,hagg,hc]
def Ga{a}{p ty t B:Nat}{v tmps}(h:a.results=#[.cell p ty])(b:tmps.getD p a1=ay (ab ⟨B,0,af⟩))(hb:aX w B #[v] t)(c:(P.underlying ty).map (λd=>d.isRow)=ab ao):(oC a tmps).run P w=bf v w:=by rw[xP h,b];simp[asAddr,TL (P:=P) hb c]
def afC {a} {p ty t B c e t2 gY:Nat} {v v2 tmps} (h:a.results=#[.cell p ty,.cell c e]) (b:tmps.getD p a1=ay (ab ⟨B,0,af⟩)) (hb:aX w B #[v] t) (g:(P.underlying ty).map (λd=>d.isRow)=ab ao)
 (qp:tmps.getD c a1=ay (ab ⟨gY,0,af⟩)) (hb2:aX w gY #[v2] t2) (Th:(P.underlying e).map (λd=>d.isRow)=ab ao):(oC a tmps).run P w=bf (bo #[v,v2]) w:=by
 have h1:=TL (P:=P) hb g;have f:=TL (P:=P) hb2 Th;simp only[oC,h];simp only[Array.getD_eq_getD_getElem?]at b qp;simp[b,qp,asAddr,h1,f]
def awA {d g} {b f c B off n cap m c2 t:Nat} {aL old new cs} (ho:o.op=nY {callee:=pb .copy,args:=#[d,g],argTypes:=#[b,f]}) (k:a.eval d=ae (ab ⟨B,off,af⟩) n cap) (p:a.eval g=ae aL m c2) (e:aX w B old t) (hr:Cells w 1 aL m cs) (s:n<=m) (q:0<n)
 (nc:off+n<=old.size) (h1:∀v∈cs,v.oneCell'=az) (k1:(old.toList.take off++cs.take n++old.toList.drop (off+n)).toArray=new) (hu:P.underlying b=ab (iE c)) (hs:(P.info? c).map (·.size)=ab 1):
 ∃w',(bz a.eval o).run P w=bf (da (J R (n:Int))) w'/\Turned w w' (aj B old t) (aj B new t):=by
 obtain⟨h,rfl,l⟩:=hr.2 ad;have hcs:=by simpa using hr.1
 have i:(cs.take n).length=n:=aG;have hr:=K2 (P:=P) w b f o.type _ B off n cap h m c2 _ t (cs.take n) hu hs e aG (λj v r=>l j v aG) ad (λv hv=>h1 v (List.mem_of_mem_take hv));refine⟨w.setRow B (old.toList.take off++cs.take n++old.toList.drop (off+n)).toArray,?_,vE (av.setRow w B _) ?_⟩;·unfold bz;simp only[ho,n2,n1,qR,gC,kg,jI,pj,kj,lJ,k,p,hr,i];rfl
 .rw[<-k1];exact e.setRow _
end
def axb {P o} {a:b3} {w} (t e:Nat) (x lo) (ho:o.op=.slice t x (ab lo) af af) (d:P.underlying t=ab (iE e)) (b:(P.info? e).map (·.size)=ab 1) (B n c i m:Nat)
 (hx:a.eval x=ae (ab ⟨B,0,af⟩) n c) (kp:a.eval lo=J R (i:Int)) (hm:i+m=n) (h2:n<=c) (hi:i<c):(bz a.eval o).run P w=bf (da (ae (ab ⟨B,i,af⟩) m (c -i))) w:=by
 have h:=xS (w:=w) t e 1 x lo ho d b _ n c i m hx kp hm h2;rw[ag2 hi]at h;exact h
def amk{bs b:List Int}{off n}(h:n<=b.length):((aM a6 bs []).toList.take off++(b.map a6).take n++(aM a6 bs []).toList.drop (off+n)).toArray=aM a6 (jP bs off (b.take n)) []:=by have e:(b.take n).length=n:=aG;simp[aM,jP,e]
def rdStep(d:dF)(o:Nat)(out:List Int)(x:Nat×Nat×Nat):List Int:=jP out (x.2.1 -o) (((lV d x.1).drop (x.2.1 -x.1*d.size)).take x.2.2)
def pJ(d:dF)(o n:Nat):List Int:=(mK d.size o n).foldl (rdStep d o) (ea n 0)
def Hp(d:dF)(o n:Nat)(x:Nat×Nat×Nat):Prop:=x.1*d.size<=x.2.1/\o<=x.2.1/\0<x.2.2/\x.2.1+x.2.2<=o+n/\x.2.1+x.2.2<=x.1*d.size+d.size/\x.1<d.cnt
def NW{d}(b:dt d){o n}(hn:o+n<=d.bytes.length){x}(hx:x∈mK d.size o n):Hp d o n x:=by
 obtain⟨h1,c,e⟩:=afj b.kt hx;have a:=Ul (i:=_) b.kt c e;rw[<-h1]at a;refine⟨a.1,a.2.1,a.2.2.1,a.2.2.2.1,a.2.2.2.2,?_⟩;have f:x.1*d.size<d.cnt*d.size:=by rw[<-b.len];omega
 exact Nat.lt_of_mul_lt_mul_right f
def avx{d}(g:dt d){o n out x}(hx:Hp d o n x)(ho:out.length=n):(rdStep d o out x).length=n:=by obtain⟨h1,a,b,c,e,f⟩:=hx;grind[rdStep,Jh]
def Uq{d}(a:dt d){o n}:∀(l:List (Nat×Nat×Nat)) out,(∀x∈l,Hp d o n x)->out.length=n->(l.foldl (rdStep d o) out).length=n
 |[],_,_,h=>h
 |x::l,out,hx,h=>by rw[yG];exact Uq a l _ (λy b=>hx y (List.mem_cons_of_mem _ b)) (avx a (hx x (List.mem_cons_self ..)) h)
theorem zC{d}(a:dt d){o n}(hn:o+n<=d.bytes.length):(pJ d o n).length=n:=Uq a _ _ (λ_ hx=>NW a hn hx) lI
def ak.anb{aq w:aP}{FX:Nat->Prop}{l:List bu}{B:Nat}{bs:List Int}(h:ak aq FX w l)(i:Nat)(hi:l[i]?=ab (aj B (aM a6 bs []) 5):=by rfl):ak aq FX w (l.set i (cz (ab ⟨B,0,af⟩) bs.length bs)):=
 h.as i hi _ (λhb=>⟨LV hb,λb off a e=>by
  injection e with e;injection e with bF cq;subst bF;exact⟨cB _,_,hb⟩,b7 _⟩) (λb ⟨off,a,e⟩=>by
  injection e with e;injection e with bF cq;exact bF.symm)
def aay B m d(o n)w(hs:Has w (aN B m d))(f:dt d)(cp:d.down=ao)(hn:o+n<=d.bytes.length):
 aC ax 130 #[dc B,gT ((o:Int),(n:Int))] w λe w'=>∃A c,e=aB (bo #[ae A n c,J R 0])/\cj w w' (cz A c (pJ d o n)):=by
 have hbl:d.bytes.length<=1048576:=by rw[f.len];exact f.small
 have hs1:=f.kt;have hs2:d.size<=d.bytes.length:=by rw[f.len];exact Cj _ f.um
 have y9:∀i:Nat,i<d.cnt->j9 d i=0:=λi hi=>by grind[j9]
 have Ae:aE (∀i W,i<d.cnt->Has W _->aC ax 209 _ W λe w'=>∃N T,e=aB (bo #[ae N d.size T,J R 0])/\cj W w' (cz N T (lV d i))):=hid (λi W hi h=>(Z1 B m d i W h f).mono (λe w' hh=>aG));have G:aE (∀x∈mK _ o n,Hp d o n x):=hid (λx hx=>NW f hn hx);obtain⟨xs,L⟩:=ex (mK d.size o n);have Yj:=hid L;have iF:∀b' p,yM ax 280 #[ay (ab ⟨b',0,af⟩),ay (ab ⟨p,0,af⟩)] (λx:Nat×Nat×Nat=>#[J R (x.1:Int),gT ((x.2.1:Int),(x.2.2:Int))]) w (λ_=>False) (both (aj b' #[J R (d.size:Int)] 3) (aj p #[J R (o:Int),J R (n:Int)] 35)) (λ_=>True) xs:=λb' p=>by grind[ae1]
 have P:aE (pJ d o n=xs.foldl (rdStep d o) (ea n 0)):=hid (by grind[pJ]);rw[L]at G;have jx:aE (∀W,Has W _->aC _ _ #[dc B,ar #[J _ (o:Int),J _ (n:Int)]] W λe w'=>e=aB _/\au W w'):=hid (λW h=>aan B m d o n W h.dev f hn);clear y9 L;refine Cy func130 aa ?_;simp only[ntmps130,iY,jV,mT,qI,qJ,q4,q1,l0,p4];have a:=a8 w;have z:=hid hs;go_step;refine ah ?_;refine bL a (ay _) (λr w1 a=>?_);refine bL a (ar #[J _ (o:Int),J _ (n:Int)]) (λs aU a=>?_);refine bn a #[ae _ 0 0] (λdv bI a=>?_);refine bn a #[J _ 0] (λeL b9 a=>?_);refine an ?_;go_step;refine ah ?_;refine pl a 3 0 ?_;refine bh a 2 #[J R (o:Int),J R (n:Int)] ?_;refine aR (jx _ (z.out.aH a.only)) ?_;rintro e cE ⟨rfl,g⟩;replace a:=a.aH g;refine aT ?_;refine ag ?_;refine an ?_;go_step;refine ah ?_;refine ag ?_;refine pk (ai ao) ?_;refine an ?_;go_step;refine ah ?_;refine ag ?_;refine pl a 2 1 ?_;refine NT a (aeK n aa aa aa dK ba ad) (λj cV a=>?_);refine bn a #[ae _ 0 0] (λv dJ a=>?_);refine bb a 0 (ae _ n n) (λdB a=>?_);refine an ?_;go_step;refine cx ?_;refine bN a [1,3] (λi u=>match i with|1=>J R (d.size:Int)|3=>dS (eu 280) #[] #[ay (ab ⟨u.b,0,af⟩),ay (ab ⟨u.dY,0,af⟩)]|_=>a1) (λk=>λ|3=>both (aj (k 3).b #[J R (d.size:Int)] 3) (aj (k 3).dY #[J R (o:Int),J R (n:Int)] 35)|_=>emp) (λ_=>[]) (λ|0=>[5]|2=>[4]|_=>[]) (λ|3=>[3]|_=>[]) [0,1,2,3,4,5,7,9] (λk=>?_);refine dl 0 0 ?_;refine dh (λwl Fr a=>(w8 B m d _ (z.out.aH a.only).dev f).mono ?_) ?_;·rintro e dr ⟨rfl,g⟩;exact⟨{},aa,(a.aH g).dM⟩
 refine eO 0 #[J R (o:Int),J R (n:Int)] ?_;refine dh (λwl Fr a=>(ae2 _ o n _).mono ?_) ?_;·rintro e dr ⟨b',p,rfl,I⟩;exact⟨{b:=b',dY:=p},aa,a.new _ I⟩
 refine bQ λeZ a=>?_;generalize (k 3).b=aza at a⊢;generalize (k 3).dY=azb at a⊢;replace a:=a.drop 6;go_wp2_with fail;have S:ak _ _ _ [both _ _,bY [aj r #[ay _] 32,aj s #[J R _,J R (n:Int)] 35,aj v _ 22,aj j _ 5],bY [aj eL _ 47,aj dv _ 22]]:=ak.EJ (a.pick [6,5,4,0,1,2,3]);refine JQ (encs:=(λx:Nat×Nat×Nat=>#[J R (x.1:Int),gT _])) aa (lG V' ba aa) (λ_=>aa) (iF _ _) (λpre t=>t=bY [aj r _ 32,aj s _ 35,aj v _ 22,aj j (aM a6 (pre.foldl (rdStep d o) _) []) 5]) (λ_ _ _=>False) aa S ?_ ?_ ?_;all_goals clear S a
 .rintro l rd pre x W t F K qq rfl a;replace a:=a.lX;repeat((fail_if_success (with_reducible refine at_region ?_));gi_step)
  refine kv ?_;refine ag ?_;refine an ?_;repeat((fail_if_success (with_reducible refine at_region ?_));gi_step)
  refine kv ?_;refine bn a #[J _ 0,J _ 0] (λj1 gV a=>?_);refine bb a 0 (ar _) (λhZ a=>?_);refine an ?_;first|refine D8 ?_|skip
  simp only[Exit.then];refine Cs a 5 qq (λjQ a=>?_);replace a:ak _ _ _ [aj j1 _ 35,aj r _ 32,aj s _ 35,aj v _ 22,aj j _ 5,obj l _,F]:=a;have kq:=afh K;obtain⟨sA,nP,xI,zy,NR,Jj⟩:=G x kq;obtain⟨M,C⟩:=ex (pre.foldl (rdStep d o) (ea n 0));have Y:M.length=n:=by rw[<-C];exact Uq f _ _ (λy hy=>G y (K.subset (List.mem_append_left _ hy))) lI
  have Q:aE ((pre++[x]).foldl _ _=jP M _ _):=hid (by rw[Yu,C];rfl);have Qv:=hid Y;rw[C]at a;clear C Y kq;obtain⟨q,V⟩:=ex (x.1*d.size);have X:(x.1:Int)*(d.size:Int)=(q:Int):=ad;rw[V]at sA NR Q;have Qr:=hid X;have Z:=F7 f Jj;have H:=hid Z;clear V X Z K;repeat((fail_if_success (with_reducible refine at_region ?_));gi_step)
  refine kv ?_;refine pl a 1 0 ?_;refine ag ?_;refine aR (Ae _ _ Jj (z.out.aH a.only)) ?_;rintro e ke ⟨nr,U,rfl,I⟩;replace a:=a.new _ I;refine aT ?_;refine v5 ?_;refine an ?_;repeat((fail_if_success (with_reducible refine at_region ?_));gi_step)
  refine kv ?_;refine ag ?_;refine pk (ai ao) ?_;refine an ?_;repeat((fail_if_success (with_reducible refine at_region ?_));gi_step)
  refine U7 a [15,19] (λi _=>match i with|15=>J R (d.size:Int)|19=>J R (x.2.2:Int)|_=>a1) (λ_=>λ|19=>aj j (aM a6 (jP M (x.2.1 -o) (((lV d x.1).drop (x.2.1 -q)).take x.2.2)) []) 5|_=>emp) (λ|19=>[5]|_=>[]) (λ|0=>[4]|2=>[1]|4=>[3]|8=>[1]|12=>[1]|14=>[2]|18=>[0]|19=>[0]|_=>[]) (λ_=>[]) [0,1,2,3,4,6,7,23,27] (λk=>?_);refine dl 0 0 ?_;refine aJ ?_;refine dl 0 0 ?_;refine aJ ?_;refine dl 0 0 ?_;refine aK _ (λ_ _ _=>ra 3 _ _ 3 aa _ _ ((x.2.1 -o:Nat):Int) aa aa ad ad ad) ?_;refine aK _ (λ_ _ _=>axb 22 5 _ (bj 41) aa dK ba j n n _ (n -(x.2.1 -o)) aa aa ad ad ad) ?_;refine aJ ?_;refine dl 0 1 ?_;refine aK _ (λ_ _ _=>rF 22 5 1 _ _ aa dK ba _ _ _ x.2.2 aa aa ad) ?_;refine bx ?_;refine dl 0 0 ?_;refine aJ ?_;refine dl 0 0 ?_;refine dh (λwl Fr a=>(w8 B m d _ (z.out.aH a.only).dev f).mono ?_) ?_;·rintro e dr ⟨rfl,g⟩;exact⟨{},aa,(a.aH g).dM⟩
  refine aK _ (λ_ _ _=>ln 3 _ _ 3 aa _ _ _ aa aa Qr ad ad) ?_;refine aK _ (λ_ _ _=>ra 3 _ _ 3 aa _ _ ((x.2.1 -q:Nat):Int) aa aa ad ad ad) ?_;refine aK _ (λ_ _ a=>xS 22 5 1 (bj 46) _ aa dK ba nr d.size U _ (d.size -(x.2.1 -q)) aa aa ad (by have:=(a.jW 0).2.2;rw[H]at this;exact this)) ?_;refine HL (J R (x.2.2:Int)) (λ_ _ a=>awA aa aa aa (a.aV 0) (by have h:=((a.jW 1).1.By (c:=U) (i:=x.2.1 -q) (a.jW 1).2.2).cells;rw[s9,H]at h;exact h) ad xI (by rw[i',Qv];omega) (xH _) (show _=aM a6 _ []from amk (by rw[s9,H];omega)) dK ba) ?_;refine bQ λk8 a=>?_;replace a:=a.drop 7;repeat gi_step
  have E:=a.pk [2,3,4,7,5,6];replace E:ak _ _ _ [bY [aj r _ 32,aj s _ 35,aj v _ 22,aj j _ 5],obj l _,F]:=E.fP 4;refine⟨_,?_,E⟩;exact(by show _=_;rw[Q])
 .rintro D t u W rfl hu a;replace a:=a.lX;replace a:=(a.pk [6,0,1,2,3,4,5]).lX;go_step;refine ah ?_;refine pl a 4 0 ?_;refine bb a 1 (ae _ n n) (λmn a=>?_);refine bb a 0 (J _ 0) (λnn a=>?_);refine an ?_;have hlen:(xs.foldl (rdStep d o) (ea n 0)).length=n:=by rw[<-P];exact zC f hn
  go_wp2_with fail;refine zq a 7 (λw' a=>⟨afC aa aa (a.aV 1) aw aa (a.aV 0) aw,?_⟩);have O:=ak.anb a 5;rw[hlen,<-P]at O;exact⟨_,n,aa,O.fresh 5⟩
 .simp
end
section
section
variable {P:ew} {o:cT} {a:b3} {w:aP}
def awC {d x} {f v l c q g cap m c2:Nat} {A aL bs news} (ho:o.op=nY {callee:=pb .copy,args:=#[d,x],argTypes:=#[f,v]}) (p:a.eval d=ae (fm A c q 1) g cap) (F:a.eval x=ae aL m c2) (j:eU 0 w A c bs) (hr:Cells w 1 aL m (news.map a6)) (L:m<=g) (z:0<m) (K:q+m<=bs.length)
 (hu:P.underlying f=ab (iE l)) (hs:(P.info? l).map (·.size)=ab 1):
 ∃w',(bz a.eval o).run P w=bf (da (J R (m:Int))) w'/\Turned w w' (cz A c bs) (cz A c (jP bs q news)):=by
 obtain⟨y,rfl,E⟩:=hr.2 z;have hcs:=by simpa using hr.1
 obtain⟨b,off,rfl,hc⟩:=j.1 ad;obtain⟨_,cur,hb⟩:=j.2.1 b off af aa;have hlc:=j.2.2;have G:fm (ab (⟨b,off,af⟩:bT)) c q 1=ab ⟨b,off+q,af⟩:=by grind[fm,mW]
 rw[G]at p;have r:∀k,k<bs.length->cur[off+k]?=ab (a6 (bs[k]?.getD 0)):=λk hk=>by grind[World.cell?]
 have hsz:off+bs.length<=cur.size:=by have h1:=r (bs.length -1) ad;obtain⟨n,_⟩:=Array.getElem?_eq_some_iff.1 h1;omega
 have hr:=K2 (P:=P) w f v o.type _ b (off+q) g cap y m c2 _ 5 _ hu hs hb aG E aG (xH _);have B:(news.map a6).length=m:=aG;have C:=hb.setRow (cur.toList.take (off+q)++news.map a6++cur.toList.drop (off+q+m)).toArray;have D:(jP bs q news).length=bs.length:=Jh ad;refine⟨w.setRow b (cur.toList.take (off+q)++news.map a6++cur.toList.drop (off+q+m)).toArray,?_,(av.setRow w b _).mono (λi _ h=>⟨off,af,by rw[h]⟩),⟨λ_=>⟨b,off,rfl,λk hk=>?_⟩,λdY H I e=>?_,ad⟩,λi hi=>⟨?_,bZ hi⟩⟩;·unfold bz;simp only[ho,n2,n1,qR,gC,kg,jI,pj,kj,lJ,p,F,hr,B];rfl
 .rw[D]at hk;refine C.cell _ ?_;have s:=r k hk;rw[<-Array.getElem?_toList]at s;rw[Ak];have t:(cur.toList.take (off+q)).length=off+q:=aG;have u:(bs.take q).length=q:=aG;unfold jP;rcases Q9 k q with h1|h1;·grind[tZ]
  .rcases Q9 k (q+m)with n|n;·rw[kQ,oI ad,t,tZ ad,kQ,oI ad,u,tZ ad,show off+k -(off+q)=k -q by omega,jU,cF ad];rfl
   .rw[oI aG,db,t,hM,hcs,vv,show off+q+m+(off+k -(off+q+m))=off+k by omega,s,
     oI aG,db,u,hcs,vv,show q+m+(k -(q+m))=k by omega]
 .grind
 .obtain⟨H,I,e⟩:=hi;grind
end
def k9(o:Nat)(bs:List Int)(st:Int×dF)(x:Nat×Nat×Nat):Int×dF:=
 if st.1≠0 then st else jj st.2 (x.1:Int) (jP (lV st.2 x.1) (x.2.1 -x.1*st.2.size) ((bs.drop (x.2.1 -o)).take x.2.2))
def lO(d:dF)(o:Nat)(bs:List Int):Int×dF:=(mK d.size o bs.length).foldl (k9 o bs) (0,d)
theorem JT{o bs}:∀(l:List (Nat×Nat×Nat)) st,st.1≠0->l.foldl (k9 o bs) st=st
 |[],_,_=>aa
 |x::l,st,h=>by rw[yG,show k9 o bs st x=st by unfold k9;rw[if_pos h]];exact JT l st h
def ayE{d}{n:Nat}{b}:(jj d (n:Int) b).2.size=d.size/\(jj d (n:Int) b).2.cnt=d.cnt:=by
 unfold jj;split;·simp
 .split;·simp
  .split;·exact⟨aa,aa⟩
   .split;·exact⟨aa,aa⟩
    .exact⟨aa,aa⟩
def ayF{d}{n:Nat}{b}(h:(jj d (n:Int) b).1=0):(jj d (n:Int) b).2.down=d.down/\(jj d (n:Int) b).2.cache.length<=d.cache.length+1:=by
 unfold jj at h⊢;split at h;·omega
 .rename_i c;rw[if_neg c];split at h;·omega
  .rename_i h1;rw[if_neg h1];split at h;·rename_i a;rw[if_pos a];exact⟨aa,by show(d.cache++[(_,b)]).length<=_;simp⟩
   .rename_i a;rw[if_neg a];split at h;·rename_i e;rw[if_pos e];exact⟨aa,by show(d.cache++[(_,b)]).length<=_;simp⟩
    .omega
structure Cp (d cr:dF) (k:Nat):Prop where
 ok:dt cr
 size:cr.size=d.size
 cnt:cr.cnt=d.cnt
 down:cr.down=ao
 dL:cr.cache.length<=d.cache.length+k
def Cp.step{d cr k o bs x}(h:Cp d cr k)(hk:d.cache.length+k<1073741824)(hx:(k9 o bs (0,cr) x).1=0):Cp d (k9 o bs (0,cr) x).2 (k+1):=by unfold k9 at hx⊢;rw[if_neg bc]at hx⊢;have h1:=h.dL;have a:=ayF hx;have b:=@ayE cr x.1 (jP (lV cr x.1) (x.2.1 -x.1*cr.size) ((bs.drop (x.2.1 -o)).take x.2.2));exact⟨Vb h.ok _ _ ad,b.1.trans h.size,b.2.trans h.cnt,a.1.trans h.down,eb a.2 aG⟩
def aaD B m d(o p)A c bs w(hs:Has w (aN B m d))(s:dt d)(cp:d.down=ao)(hn:o+bs.length<=d.bytes.length)(hf:d.cache.length<=1000000000)(hp:w.cell? ⟨p,0,af⟩=ab (ae A bs.length c))(Fu:¬(aN B m d).cU p)(hb:bX w A bs)(St:∀y,ej A y->¬(aN B m d).cU y):
 aC ax 291 #[dc B,J R (o:Int),ae (ab ⟨p,0,af⟩) 1 1] w λe w'=>e=aB (J R (lO d o bs).1)/\∃f,Turned w w' (aN B m d) (aN B f (lO d o bs).2):=by
 have hbl:d.bytes.length<=1048576:=by rw[s.len];exact s.small
 have hs1:=s.kt;have hs2:d.size<=d.bytes.length:=by rw[s.len];exact Cj _ s.um
 have nw:aE (∀x∈mK _ o _,Hp d o _ x):=hid (λx hx=>NW s hn hx);obtain⟨xs,Z⟩:=ex (mK d.size o bs.length);have fq:xs.length<=d.bytes.length+1:=by rw[<-Z,mK,hM,Ey];unfold dV;split;exact cB _;exact vA (eb (EA _ _) (eb (vy _ _) ad))
 have ki:=hid fq;have iF:∀b' G,yM ax 280 #[ay (ab ⟨b',0,af⟩),ay (ab ⟨G,0,af⟩)] (λx:Nat×Nat×Nat=>#[J R (x.1:Int),gT ((x.2.1:Int),(x.2.2:Int))]) w (aN B m d).cU (both (aj b' #[J R (d.size:Int)] 3) (aj G #[J R (o:Int),J R (bs.length:Int)] 35)) (λ_=>True) xs:=λb' G=>by grind[ae1]
 have Yi:aE (lO d o bs=xs.foldl (k9 o bs) (0,d)):=hid (by grind[lO]);rw[Z]at nw;have jx:aE (∀W,Has W _->aC _ _ #[dc B,ar #[J _ (o:Int),J _ (bs.length:Int)]] W λe w'=>e=aB _/\au W w'):=hid (λW h=>aan B m d o _ W h.dev s hn);clear Z fq;have b1:=hid (λW g=>HF p A c bs W (g.cell hp Fu) (hb.only g (λb off e=>St b ⟨_,_,e⟩)) ad);clear hp hb Fu St;refine Cy func291 aa ?_;simp only[ntmps291,iY,jV,mT,qI,qJ,q4,q1,l0,p4];have a:=ak.start hs;go_step;refine ah ?_;refine bL a (ay _) (λH w1 a=>?_);refine bL a (J _ _) (λI aU a=>?_);refine bn a #[J _ 0] (λK bI a=>?_);refine an ?_;go_step;refine ah ?_;refine ag ?_;refine aR (b1 _ a.only) ?_;rintro e b9 ⟨n,k,rfl,hrow,g⟩;replace a:=a.lS g (Row.nj hrow);refine aT ?_;refine bn a #[ae _ 0 0] (λL cE a=>?_);refine bb a 0 (ae n _ k) (λcV a=>?_);refine an ?_;go_step;refine ah ?_;refine pl a 3 0 ?_;refine pl a 0 0 ?_;refine v2 ?_;refine bn a #[J _ 0,J _ 0] (λet dJ a=>?_);refine bb a 0 (ar _) (λdB a=>?_);refine an ?_;go_step;refine ah ?_;refine pl a 5 0 ?_;refine bh a 0 #[J R (o:Int),J R (bs.length:Int)] ?_;refine aR (jx _ (a.has 6)) ?_;rintro e eZ ⟨rfl,g⟩;replace a:=a.aH g;refine aT ?_;refine ag ?_;refine an ?_;go_step;refine ah ?_;refine ag ?_;refine pk (ai ao) ?_;refine an ?_;go_step;refine cx ?_;refine bN a [1,3] (λi u=>match i with|1=>J R (d.size:Int)|3=>dS (eu 280) #[] #[ay (ab ⟨u.b,0,af⟩),ay (ab ⟨u.dY,0,af⟩)]|_=>a1) (λE=>λ|3=>both (aj (E 3).b #[J R (d.size:Int)] 3) (aj (E 3).dY #[J R (o:Int),J R (bs.length:Int)] 35)|_=>emp) (λ_=>[]) (λ|0=>[5]|1=>[6]|2=>[0]|_=>[]) (λ|3=>[3]|_=>[]) [0,1,2,3,4,5,6,8,10] (λE=>?_);refine dl 0 0 ?_;refine dh (λwl Fr a=>(w8 B m d _ (a.has 0).dev s).mono ?_) ?_;·rintro e dr ⟨rfl,g⟩;exact⟨{},aa,(a.aH g).dM⟩
 refine eO 0 #[J R (o:Int),J R (bs.length:Int)] ?_;refine dh (λwl Fr a=>(ae2 d.size o _ _).mono ?_) ?_;·rintro e dr ⟨b',G,rfl,V⟩;exact⟨{b:=b',dY:=G},aa,a.new _ V⟩
 refine bQ λgV a=>?_;generalize (E 3).b=azd at a⊢;generalize (E 3).dY=azc at a⊢;replace a:=a.drop 7;go_wp2_with fail;have ez:ak _ _ _ [both _ _,bY [aj H #[ay _] 32,aj I #[J R _] 3,aj L _ 22,aj K _ 47,cz n k bs,aN B m d],bY [aj et _ 35]]:=ak.EJ (a.pick [7,5,4,1,3,2,6,0]);refine JQ (encs:=(λx:Nat×Nat×Nat=>#[J R (x.1:Int),gT _])) aa (lG V' ba aa) (λ_=>aa) (iF _ _) (λpre t=>∃f cr,pre.foldl (k9 o bs) (0,d)=(0,cr)/\Cp d cr pre.length/\t=bY [aj H _ 32,aj I #[J R (o:Int)] 3,aj L _ 22,aj K #[J R 0] 47,cz n k bs,aN B f cr]) (λc pre t=>match c with|.ret=>∃f cr bt,bt≠0/\pre.foldl (k9 o bs) (0,d)=(bt,cr)/\t=bY [aj H #[ay (ab ⟨B,0,af⟩)] 32,aj I #[J R (o:Int)] 3,aj L #[ae n bs.length k] 22,aj K #[J R bt] 47,cz n k bs,aN B f cr]|_=>False) (⟨m,d,aa,⟨s,aa,aa,cp,b7 _⟩,aa⟩) ez ?_ ?_ ?_;all_goals clear ez a
 .rintro l rd pre x W t F O qq ⟨f,cr,C,r,rfl⟩ a;replace a:=a.lX;repeat((fail_if_success (with_reducible refine at_region ?_));gi_step)
  refine kv ?_;refine ag ?_;refine an ?_;repeat((fail_if_success (with_reducible refine at_region ?_));gi_step)
  refine kv ?_;refine bn a #[J _ 0,J _ 0] (λx7 hZ a=>?_);refine bb a 0 (ar _) (λjQ a=>?_);refine an ?_;first|refine D8 ?_|skip
  simp only[Exit.then];refine Cs a 7 qq (λke a=>?_);replace a:ak _ _ _ [aj _ _ 35,aj H _ 32,aj I _ 3,aj L _ 22,aj K _ 47,cz n k bs,aN B f cr,obj l _,F]:=a;have kq:=afh O;have hpl:=O.length_le;rw[db,yH]at hpl;have AV:d.cache.length+pre.length<1073741824:=by have:=ki.out;omega
  obtain⟨sA,nP,xI,zy,NR,Jj⟩:=nw x kq;have alx:=hid r;have aA1:=r.dL;have N:=r.ok;have hdd:=r.size;have hcc:x.1<cr.cnt:=by rw[r.cnt];exact Jj
  have y9:j9 cr (x.1:Int)=0:=by rw[j9,if_neg (by rw[r.down];simp),if_neg ad]
  have Ae:aE (∀W,Has W _->aC ax 209 _ W λe w'=>∃aA aD,e=aB (bo #[ae aA d.size aD,J R 0])/\cj W w' (cz aA aD (lV cr x.1))):=hid (λW h=>(Z1 B f cr x.1 W h N).mono (λe w' hh=>aG));have qZ:aE (∀W,Has W _->aC _ 51 #[dc B] W λe w'=>e=aB _/\au W w'):=hid (λW h=>by have q:=w8 B f cr W h.dev N;rw[hdd]at q;exact q);obtain⟨P,zd⟩:=ex (x.1*d.size);have sn:(x.1:Int)*(d.size:Int)=(P:Int):=ad;have xt:(lV cr x.1).length=d.size:=by grind[F7]
  obtain⟨z,k0⟩:=ex (jP (lV cr x.1) (x.2.1 -P) ((bs.drop (x.2.1 -o)).take x.2.2));have hst:k9 o bs (0,cr) x=jj cr (x.1:Int) z:=by grind[k9]
  have X:(pre++[x]).foldl (k9 o bs) (0,d)=jj cr (x.1:Int) z:=aG;rw[zd]at sA NR;have MB:((bs.drop (x.2.1 -o)).take x.2.2).length=x.2.2:=aG;have jG:z.length=d.size:=by grind[Jh]
  obtain⟨bt,dx⟩:=ex ((jj cr (x.1:Int) z).1);obtain⟨M,jE⟩:=ex ((jj cr (x.1:Int) z).2);have Y:jj cr (x.1:Int) z=(bt,M):=aG;have s6:=hid (λW fW du h h2 h3=>by have q:=ao4 B f cr x.1 fW du z W h N ad h2 ad h3;rw[jG,dx,jE]at q;exact q);have Qr:=hid sn;have Ei:=hid xt;have s0:=hid k0;have ei:=hid (hst.trans Y);rw[Y]at X;have XK:=hid X;have azY:=hid hdd;have azZ:=hid N;clear zd sn xt O k0 hst Y dx jE C X hdd y9 kq hcc MB jG r N;repeat((fail_if_success (with_reducible refine at_region ?_));gi_step)
  refine kv ?_;refine pl a 1 0 ?_;refine ag ?_;refine aR (Ae _ (a.has 6)) ?_;rintro e k8 ⟨S,U,rfl,V⟩;replace a:=a.new _ V;refine aT ?_;refine v5 ?_;refine an ?_;repeat((fail_if_success (with_reducible refine at_region ?_));gi_step)
  refine kv ?_;refine ag ?_;refine pk (ai ao) ?_;refine an ?_;repeat((fail_if_success (with_reducible refine at_region ?_));gi_step)
  refine U7 a [5,18] (λi _=>match i with|5=>J R (d.size:Int)|18=>J R (x.2.2:Int)|_=>a1) (λ_=>λ|18=>cz S U (jP (lV cr x.1) (x.2.1 -P) ((bs.drop (x.2.1 -o)).take x.2.2))|_=>emp) (λ|18=>[0]|_=>[]) (λ|2=>[1]|4=>[2]|5=>[7]|8=>[0]|9=>[4]|11=>[1]|12=>[3]|14=>[6]|16=>[1]|17=>[6]|18=>[6]|_=>[]) (λ_=>[]) [1,2,3,4,5,6,7,8,9,15,28] (λE=>?_);refine bx ?_;refine dl 0 0 ?_;refine aJ ?_;refine dl 0 0 ?_;refine dh (λwl Fr a=>(qZ _ (a.has 0)).mono ?_) ?_;·rintro e dr ⟨rfl,g⟩;exact⟨{},aa,(a.aH g).dM⟩
  refine aK _ (λ_ _ _=>ln 3 _ _ 3 aa _ _ _ aa aa Qr ad ad) ?_;refine aK _ (λ_ _ _=>ra 3 _ _ 3 aa _ _ ((x.2.1 -P:Nat):Int) aa aa ad ad ad) ?_;refine aK _ (λ_ _ a=>xS 22 5 1 (bj 42) _ aa dK ba S d.size U _ (d.size -(x.2.1 -P)) aa aa ad (by have:=(a.jW 0).2.2;rw[Ei]at this;exact this)) ?_;refine dl 0 0 ?_;refine aJ ?_;refine dl 0 0 ?_;refine dl 0 0 ?_;refine aK _ (λ_ _ _=>ra 3 _ _ 3 aa _ _ ((x.2.1 -o:Nat):Int) aa aa ad ad ad) ?_;refine aK _ (λ_ _ a=>xS 22 5 1 (bj 51) (bj 55) aa dK ba n bs.length k (x.2.1 -o) (bs.length -(x.2.1 -o)) aa aa ad (a.jW 0).2.2) ?_;refine aJ ?_;refine dl 0 1 ?_;refine aK _ (λ_ _ a=>rF 22 5 1 _ _ aa dK ba _ _ _ x.2.2 aa aa (by have:=(a.jW 0).2.2;omega)) ?_;refine HL _ (λ_ _ a=>awC aa aa aa (a.jW 0) (by have h:=(((a.jW 1).1.By (c:=k) (i:=x.2.1 -o) (a.jW 1).2.2).Gl (q:=x.2.2) aG).cells;rw[oe,s9,Am ad]at h;exact h) ad xI (by rw[Ei];omega) dK ba) ?_;refine bQ λmn a=>?_;replace a:=a.drop 9;rw[s0]at a;repeat((fail_if_success (with_reducible refine at_region ?_));gi_step)
  refine kv ?_;refine pl a 1 0 ?_;refine v2 ?_;refine aR (s6.out _ S U (a.has 6) (a.jW 9).1 (a.ne (i:=9) (j:=6) aa aa aS)) ?_;rintro e nn ⟨rfl,Q,bP⟩;replace a:=a.eQ 6 bP;refine aT ?_;refine ag ?_;refine an ?_;by_cases hz:bt=0
  .subst hz;repeat((fail_if_success (with_reducible refine at_region ?_));gi_step)
   refine kv ?_;refine ag ?_;refine pk (ai ao) ?_;refine an ?_;repeat gi_step
   have v:=a.pk [1,2,3,4,5,6,7,8];replace v:ak _ _ _ [bY [aj _ _ 32,aj _ _ 3,aj _ _ 22,aj _ _ 47,cz n k bs,aN B Q M],obj l _,F]:=v.fP 6;refine⟨_,?_,v⟩;exact⟨Q,M,XK,by rw[db,yH];have h:=alx.out.step (o:=o) (bs:=bs) (x:=x) AV (by rw[ei]);rw[ei]at h;exact h,aa⟩
  .have Nf:=hz;repeat((fail_if_success (with_reducible refine at_region ?_));gi_step)
   refine kv ?_;refine ag ?_;refine aI (ai az) (by(go_simp;try simp[Nf])) ?_;refine an ?_;repeat((fail_if_success (with_reducible refine at_region ?_));gi_step)
   refine kv ?_;refine ag ?_;refine bb a 4 (J _ bt) (λpO a=>?_);refine an ?_;repeat gi_step
   have v:=a.pk [1,2,3,4,5,6,7,8];replace v:ak _ _ _ [bY [aj H _ 32,aj I #[J R (o:Int)] 3,aj L _ 22,aj K #[J R bt] 47,cz n k bs,aN B Q M],obj l _,F]:=v.fP 6;refine⟨_,?_,v⟩;exact⟨Q,M,bt,hz,XK,aa⟩
 .rintro D t u W ⟨f,cr,C,r,rfl⟩ hu a;replace a:=a.lX;replace a:=(a.pk [8,0,1,2,3,4,5,6,7]).lX;have T:=hid (Yi.out.trans C);clear C r;go_step;refine ah ?_;refine bb a 4 (J _ 0) (λrK a=>?_);refine an ?_;go_wp2_with fail;refine zq a 8 (λw' a=>⟨Ga aa aa (a.aV 4) aw,?_⟩);rw[T];exact⟨aa,f,a.gu 6⟩
 .rintro D c pre t u W O h a;cases c with
  |ret=>
   obtain⟨f,cr,bt,hz,C,rfl⟩:=h;replace a:=a.lX;have T:aE (lO d o bs=(bt,cr)):=hid (by obtain⟨l,hl⟩:=O;rw[Yi,<-hl,Yu,C];exact JT l _ hz);go_wp2_with fail;refine zq a 7 (λw' a=>⟨Ga aa aa (a.aV 3) aw,?_⟩);rw[T];exact⟨aa,f,a.gu 5⟩
  |_=>exact h.elim
end
structure Rec where
 seq:Int
 id:Int
 cur:Int
 off:Int
 data:List Int
abbrev recC(r:Rec)(A:Option bT)(c:Nat):Array Value:=#[J aF r.seq,J aF r.id,J R r.cur,J R r.off,ae A r.data.length c]
abbrev N1:Array Value:=#[J aF 0,J aF 0,J R 0,J R 0,ae af 0 0]
def ku(n:Int):Int:=if n<0\/n>1048576 then 0 else 40+n+4
def aw6 n:0<=ku n/\ku n<=1048620/\(ku n≠0->44<=ku n):=by grind[ku]
def tt:List Int:=[71,74,82,49]
structure alI where
 ok:Bool
 seq:Int
 id:Int
 cur:Int
 off:Int
 cnt:Int
 r:Rd
def Ih(f:Rd):alI:=
 let e:=sj f tt 19
 let a:=lB e.2 8
 let b:=lB a.2 8
 let c:=qv b.2
 let d:=qv c.2
 let n:=lB d.2 4
 ⟨e.1,a.1,b.1,c.1,d.1,n.1,n.2⟩
def uo(bs:List Int):Option Rec:=
 let h:=Ih ⟨bs.take (gI bs.length 40),0,0,0⟩
 if h.ok=ao then af
 else if¬(h.r.bt=0/\h.r.dn=0)\/ku (R.wrap h.cnt)=0\/(bs.length:Int)<ku (R.wrap h.cnt)then af
 else(tv (bs.take (ku (R.wrap h.cnt)).toNat)).map (λall=>⟨h.seq,h.id,h.cur,h.off,all.drop 40⟩)
def wrap_i64 z:-9223372036854775808<=R.wrap z:=by grind[D1,D0]
def aen A c bs w(l:bs.length<=140737488355328)(hb:bX w A bs):
 aC ax 134 #[ae A bs.length c] w λe w'=>∃B a d,e=aB (ay (ab ⟨B,0,af⟩))/\cj w w' (eF B a d ⟨bs,0,0,0⟩):=
 (atL A c bs w l hb).mono (λ_ _ ⟨B,a,d,k,lo,hr,j,hn,g⟩=>⟨B,a,d,k,g,⟨hr,j.le (cB _),λb h1 f=>hn (by have i:b=B:=h1;exact i▸f)⟩,λb hb2=>hb2.elim (λh=>by have i:b=B:=h;rw[i];exact⟨lo,aX.lt hr⟩) (λ⟨off,m,e⟩=>by obtain⟨h1,cs,f⟩:=j.2.1 b off m e;exact⟨h1,aX.lt f⟩)⟩)
def afM n w(hn:-9223372036854775808<=n):
 aC ax 199 #[J R n] w λe w'=>e=aB (J R (ku n))/\au w w':=by
 by_cases h1:n<0
 .have a:ku n=0:=by grind[ku]
  rw[a];clear a;go_enter V0,Wt;have b:=a8 w;go_step;refine ah ?_;refine cA ?_;refine a7 (ai az) ?_;refine ag ?_;iterate 2 refine ps ?_
  refine pk (ai az) ?_;refine ah ?_;refine ag ?_;refine an ?_;go_wp2_with fail;go_ret;exact⟨aa,b.only⟩
 by_cases c:n>1048576
 .have a:ku n=0:=by grind[ku]
  rw[a];clear a;go_enter V0,Wt;have b:=a8 w;go_step;refine ah ?_;refine cA ?_;refine a7 (ai ao) ?_;iterate 2 refine ag ?_
  refine a7 (ai az) ?_;refine pk (ai az) ?_;refine ah ?_;refine ag ?_;refine an ?_;go_wp2_with fail;go_ret;exact⟨aa,b.only⟩
 .have a:ku n=40+n+4:=by grind[ku]
  rw[a];clear a;go_enter V0,Wt;have b:=a8 w;go_step;refine ah ?_;refine cA ?_;refine a7 (ai ao) ?_;iterate 2 refine ag ?_
  refine a7 (ai ao) ?_;refine pk (ai ao) ?_;refine b5 ?_;refine pad 40 n (40+n) ?_;refine pad _ 4 (40+n+4) ?_;refine bU ?_;go_wp2_with fail;go_ret;exact⟨aa,b.only⟩
def aui{bs d:List Int}{n}(h:tv (bs.take n)=ab d)(hn:44<=n)(a:n<=bs.length):40<=d.length:=by grind[tv]
def eU.By{w A c i N bs}(h:eU N w A c bs):eU N w (fm A c i 1) (c -i) (bs.drop i):=
 ⟨h.1.By h.2.2,h.2.1.win,by have:=h.2.2;simp;omega⟩
def avy A c bs w(hl:bs.length<=17592186044416)(hc:bs.length<=c)(hb:bX w A bs):
 aC ax 132 #[ae A bs.length c] w λe w'=>(∃r,uo bs=ab r/\∃y C,e=aB (bo #[ar (recC r y C),J R 0])/\cj w w' (cz y C r.data))\/(uo bs=af/\e=aB (bo #[ar N1,J R 19])/\au w w'):=by
 obtain⟨u,c9⟩:=ex (gI bs.length 40);have gw:aE (gI (bs.length:Int) 40=(u:Int)):=hid ad;have ari:u<=40/\u<=bs.length:=ad;have N:aE (uo bs=(let h:=Ih ⟨bs.take u,0,0,0⟩;if h.ok=ao then af else if¬(h.r.bt=0/\h.r.dn=0)\/ku (R.wrap h.cnt)=0\/(bs.length:Int)<ku (R.wrap h.cnt)then af else(tv (bs.take (ku (R.wrap h.cnt)).toNat)).map (λall=>⟨h.seq,h.id,h.cur,h.off,all.drop 40⟩))):=hid (by rw[<-c9];rfl);clear c9;obtain⟨s,Z⟩:∃s:Rd,(⟨bs.take u,0,0,0⟩:Rd)=s:=⟨_,aa⟩;have h0:q7 s:=by rw[<-Z];exact⟨cB _,aG⟩
 have hb0:s.bs=bs.take u:=aG;have arQ:=Z;rw[Z]at N;have T:=apL h0 tt 19;obtain⟨O,x,h1⟩:∃O x,sj s tt 19=(O,x):=⟨_,_,aa⟩;rw[h1]at T;have U:=On T 8;have hg2:=JH x 8;obtain⟨v2,G,D⟩:∃v r,lB x 8=(v,r):=⟨_,_,aa⟩;rw[D]at U hg2;have V:=On U 8;have hg3:=JH G 8;obtain⟨v3,H,h3⟩:∃v r,lB G 8=(v,r):=⟨_,_,aa⟩;rw[h3]at V hg3;have X:=ad2 V;have hg4:=ad3 H;obtain⟨v4,I,h4⟩:∃v r,qv H=(v,r):=⟨_,_,aa⟩;rw[h4]at X hg4;have Y:=ad2 X;have zb:=ad3 I;obtain⟨v5,K,h5⟩:∃v r,qv I=(v,r):=⟨_,_,aa⟩;rw[h5]at Y zb;have acK:=On Y 4;have xm:=JH K 4;obtain⟨v6,L,h6⟩:∃v r,lB K 4=(v,r):=⟨_,_,aa⟩;rw[h6]at acK xm;have ab1:Ih s=⟨O,v2,v3,v4,v5,v6,L⟩:=by grind[Ih]
 rw[ab1]at N;have H1:aE (∀B A c W,Has W (eF B A c s)->∀M S,bX W M tt->4<=S->(∀b,ej M b->¬(eF B A c s).cU b)->aC ax 210 #[ay (ab ⟨B,0,af⟩),ae M 4 S,J R 19] W λe w'=>e=aB (ai O)/\Turned W w' (eF B A c s) (eF B A c x)):=hid (λB A c W h M S eC fk kr=>by have q:=avR B A c s M S tt 19 W h h0 eC fk kr aS;rw[h1]at q;exact q);have eV:aE (∀B A c W,Has W (eF B A c x)->aC ax 135 #[ay (ab ⟨B,0,af⟩),J R 8] W λe w'=>e=aB (J aF v2)/\Turned W w' (eF B A c x) (eF B A c G)):=hid (λB A c W h=>by have q:=Jw B A c x 8 W h T ad;rw[D]at q;exact q);have gZ:aE (∀B A c W,Has W (eF B A c G)->aC ax 135 #[ay (ab ⟨B,0,af⟩),J R 8] W λe w'=>e=aB (J aF v3)/\Turned W w' (eF B A c G) (eF B A c H)):=hid (λB A c W h=>by have q:=Jw B A c G 8 W h U ad;rw[h3]at q;exact q);have ib:aE (∀B A c W,Has W (eF B A c H)->aC ax 211 #[ay (ab ⟨B,0,af⟩)] W λe w'=>e=aB (J R v4)/\Turned W w' (eF B A c H) (eF B A c I)):=hid (λB A c W h=>by have q:=afH B A c H W h V;rw[h4]at q;exact q);have iU:aE (∀B A c W,Has W (eF B A c I)->aC ax 211 #[ay (ab ⟨B,0,af⟩)] W λe w'=>e=aB (J R v5)/\Turned W w' (eF B A c I) (eF B A c K)):=hid (λB A c W h=>by have q:=afH B A c I W h X;rw[h5]at q;exact q);have qT:aE (∀B A c W,Has W (eF B A c K)->aC ax 135 #[ay (ab ⟨B,0,af⟩),J R 4] W λe w'=>e=aB (J aF v6)/\Turned W w' (eF B A c K) (eF B A c L)):=hid (λB A c W h=>by have q:=Jw B A c K 4 W h Y ad;rw[h6]at q;exact q);obtain⟨⟨bt,dn⟩,fZ⟩:∃p:Int×Int,(L.bt,L.dn)=p:=⟨_,aa⟩;simp only[pn]at fZ;obtain⟨dx,Fe⟩:=fZ;have P:aE (∀B A c W,Has W (eF B A c L)->aC ax 212 #[ay (ab ⟨B,0,af⟩)] W λe w'=>e=aB (ar #[J R bt,J R dn])/\au W w'):=hid (λB A c W h=>by have q:=avU B A c L W h;rw[dx,Fe]at q;exact q);simp only[dx,Fe]at N;have aA9:0<=v6/\v6<18446744073709551616:=xm;clear hb0;clear h0 h1 D h3 h4 h5 h6 T U V X Y acK hg2 hg3 hg4 zb xm ab1 dx Fe Z
 have rZ:aE (∀W,au w W->aC ax 134 #[ae A u c] W λe w'=>∃B y C,e=aB (ay (ab ⟨B,0,af⟩))/\cj W w' (eF B y C s)):=hid (λW g=>by have q:=aen A c (bs.take u) W aG (bX.Gl (hb.aH g) ari.2);grind)
 have ff:aE (∀W,au w W->∀n:Nat,(n:Int)<=1048620->n<=bs.length->aC ax 213 #[ae A n c] W λe w'=>(∃d y C,tv (bs.take n)=ab d/\e=aB (bo #[ae y d.length C,ai az])/\eU W.heap.size w' y C d/\au W w')\/(tv (bs.take n)=af/\e=aB (bo #[ae af 0 0,ai ao])/\au W w')):=hid (λW g n h1 D=>by have q:=auk A c (bs.take n) W aG aG (bX.Gl (hb.aH g) D);grind);clear hb arQ;go_enter func132,ntmps132;have a:=a8 w;go_upto_region 0 with fail;refine wp_region_lit ?_;refine bn a #[J aF 0,J aF 0,J R 0,J R 0,ae af 0 0] (λct w1 a=>?_);refine ed ?_;iterate 3 refine ag ?_
 refine aI (J R (u:Int)) (by(have h:=gw.out;go_simp;try rw[h])) ?_;refine aI _ (rF 22 5 1 _ _ aa dK aw A _ c u aa aa ad) ?_;refine aR (rZ.out _ a.only) ?_;rintro e aU ⟨o,m,c1,rfl,hf⟩;replace a:=a.new _ hf;refine Gr ?_;cases O with
 |false=>
  refine b5 ?_;refine e' a #[J dR 71,J dR 74,J dR 82,J dR 49] 5 (λDQ bI a=>?_);refine Dy a 0 (F0 tt aa aa (a.aV 0) aa dK mr) (λb9 a=>?_);refine aR (H1.out o m c1 _ (a.has 1) _ 4 (a.at 0) (b7 _) (λb hb=>a.ne (i:=0) (j:=1) aa aa aS b hb)) ?_;rintro e cE ⟨rfl,k⟩;replace a:=a.eQ 1 k;refine aT ?_;refine pk (ai az) ?_;refine b5 ?_;refine bb a 2 (ar #[J aF 0,J aF 0,J R 0,J R 0,ae af 0 0]) (λcV a=>?_);refine bU ?_;go_wp2_with fail;refine c8 (v:=_) (ml aa aa aa (a.aV 2) aw aw) aa (cc ⟨by rw[N.out];rfl,aa,a.only⟩)
 |true=>
  refine b5 ?_;refine e' a #[J dR 71,J dR 74,J dR 82,J dR 49] 5 (λDQ dJ a=>?_);refine Dy a 0 (F0 tt aa aa (a.aV 0) aa dK mr) (λdB a=>?_);refine aR (H1.out o m c1 _ (a.has 1) _ 4 (a.at 0) (b7 _) (λb hb=>a.ne (i:=0) (j:=1) aa aa aS b hb)) ?_;rintro e eZ ⟨rfl,k⟩;replace a:=a.eQ 1 k;refine aT ?_;refine pk (ai ao) ?_;refine b5 ?_;refine aR (eV.out o m c1 _ (a.has 1)) ?_;rintro e gV ⟨rfl,k⟩;replace a:=a.eQ 1 k;refine aT ?_;refine ag ?_;refine aR (gZ.out o m c1 _ (a.has 1)) ?_;rintro e hZ ⟨rfl,k⟩;replace a:=a.eQ 1 k;refine aT ?_;refine ag ?_;refine aR (ib.out o m c1 _ (a.has 1)) ?_;rintro e jQ ⟨rfl,k⟩;replace a:=a.eQ 1 k;refine aT ?_;refine ag ?_;refine aR (iU.out o m c1 _ (a.has 1)) ?_;rintro e ke ⟨rfl,k⟩;replace a:=a.eQ 1 k;refine aT ?_;refine ag ?_;refine bn a #[J aF 0,J aF 0,J R 0,J R 0,ae af 0 0] (λeL k8 a=>?_);refine bb a 0 (ar #[J aF v2,J aF v3,J R v4,J R v5,ae af 0 0]) (λmn a=>?_);refine an ?_;obtain⟨l,Nd⟩:=ex (R.wrap v6);have asc:-9223372036854775808<=l:=by rw[<-Nd];exact wrap_i64 _
  have Q:aE (uo bs=if¬(bt=0/\dn=0)\/ku l=0\/(bs.length:Int)<ku l then af else(tv (bs.take (ku l).toNat)).map (λall=>⟨v2,v3,v4,v5,all.drop 40⟩)):=hid (by rw[<-Nd];exact N.out);have alG:=hid Nd;clear Nd;refine b5 ?_;refine aR (qT.out o m c1 _ (a.has 2)) ?_;rintro e nn ⟨rfl,k⟩;replace a:=a.eQ 2 k;refine aT ?_;refine aI (J R l) (by(have h:=alG.out;go_simp;try rw[h])) ?_;refine bH (afM l _ asc) a (λpO a=>?_);refine bU ?_;have adv:=aw6 l;have qZ:aE (ku l=ku l):=hid aa;by_cases hF:bt=0/\dn=0
  .obtain⟨rfl,rfl⟩:=hF;by_cases l8:ku l=0
   .have F:=hid l8;refine b5 ?_;refine bH (P.out o m c1 _ (a.has 2)) a (λrK a=>?_);refine ag ?_;refine aI _ (by(go_simp;try rfl)) ?_;iterate 2 refine ag ?_
    refine dp F (ai az) ?_;refine pk (ai az) ?_;refine ag ?_;iterate 4 refine ps ?_
    refine cA ?_;refine bb a 3 (ar #[J aF 0,J aF 0,J R 0,J R 0,ae af 0 0]) (λu4 a=>?_);refine bU ?_;go_wp2_with fail;refine c8 (v:=_) (ml aa aa aa (a.aV 3) aw aw) aa (cc ⟨by rw[Q.out];rw[if_pos (cc (bZ F.out))],aa,a.only⟩)
   .by_cases y7:(bs.length:Int)<ku l
    .have F:=hid l8;refine b5 ?_;refine bH (P.out o m c1 _ (a.has 2)) a (λx0 a=>?_);refine ag ?_;refine aI _ (by(go_simp;try rfl)) ?_;iterate 2 refine ag ?_
     refine aI (ai ao) (by(have h:=F.out;go_simp;first|done|(simp[h];done)|omega)) ?_;refine pk (ai ao) ?_;iterate 4 refine ag ?_
     refine a7 (ai az) ?_;refine pk (ai az) ?_;refine b5 ?_;refine bb a 3 (ar #[J aF 0,J aF 0,J R 0,J R 0,ae af 0 0]) (λBw a=>?_);refine bU ?_;go_wp2_with fail;refine c8 (v:=_) (ml aa aa aa (a.aV 3) aw aw) aa (cc ⟨by rw[Q.out];rw[if_pos (cc (cc y7))],aa,a.only⟩)
    .have F:=hid l8;obtain⟨n,hn⟩:∃n:Nat,ku l=n:=⟨(ku l).toNat,ad⟩;have dG:=hid hn;have S0:n<=bs.length:=ad;have arC:44<=n:=ad;have k0:(n:Int)<=1048620:=ad;refine b5 ?_;refine bH (P.out o m c1 _ (a.has 2)) a (λBx a=>?_);refine ag ?_;refine aI _ (by(go_simp;try rfl)) ?_;iterate 2 refine ag ?_
     refine aI (ai ao) (by(have h:=F.out;go_simp;first|done|omega|omega)) ?_;refine pk (ai ao) ?_;iterate 4 refine ag ?_
     refine a7 (ai ao) ?_;refine pk (ai ao) ?_;refine an ?_;have aBa:=ff.out;clear hn;have fe:aE (uo bs=(tv (bs.take n)).map (λall=>⟨v2,v3,v4,v5,all.drop 40⟩)):=hid (by rw[Q.out,if_neg ad,dG.out];rfl);rcases hop:tv (bs.take n)with _|d
     .have E:=hid hop;clear hop;refine b5 ?_;refine aI (J R (n:Int)) (by(have h:=dG.out;go_simp;try rw[h])) ?_;refine aI _ (rF 22 5 1 _ _ aa dK aw A _ c n aa aa ad) ?_;refine aR (ff.out _ a.only n k0 S0) ?_;rintro e DK (⟨d,_,_,t,_⟩|⟨_,rfl,g⟩);·rw[E.out]at t;cases t
      replace a:=a.aH g;refine aT ?_;iterate 5 refine ag ?_
      refine b5 ?_;refine pk (ai az) ?_;refine b5 ?_;refine bb a 3 (ar #[J aF 0,J aF 0,J R 0,J R 0,ae af 0 0]) (λJM a=>?_);refine bU ?_;go_wp2_with fail;refine c8 (v:=_) (ml aa aa aa (a.aV 3) aw aw) aa (cc ⟨by rw[fe.out,E.out];rfl,aa,a.only⟩)
     .have E:=hid hop;have hX:40<=d.length:=aui hop arC S0;clear hop;refine b5 ?_;refine aI (J R (n:Int)) (by(have h:=dG.out;go_simp;try rw[h])) ?_;refine aI _ (rF 22 5 1 _ _ aa dK aw A _ c n aa aa ad) ?_;refine aR (ff.out _ a.only n k0 S0) ?_;rintro e U0 (⟨d2,z,f,t,rfl,A1,g⟩|⟨t,_⟩);rotate_left;·rw[E.out]at t;cases t
      rw[E.out]at t;injection t with t;subst t;replace a:=a.lS g A1;refine aT ?_;iterate 5 refine ag ?_
      refine b5 ?_;refine pk (ai ao) ?_;refine b5 ?_;refine aI (ae (fm z f 40 1) (d.length -40) (f -40)) (xS 22 5 1 (bj 59) (.const (J R 40)) aa dK aw z d.length f 40 (d.length -40) aa aa ad (a.jW 0).2.2) ?_;refine ag ?_;refine bb a 1 (ae (fm z f 40 1) (d.length -40) (f -40)) (λU1 a=>?_);refine ah ?_;refine bh a 1 #[J aF v2,J aF v3,J R v4,J R v5,ae (fm z f 40 1) (d.length -40) (f -40)] ?_;refine bb a 4 (ar #[J aF v2,J aF v3,J R v4,J R v5,ae (fm z f 40 1) (d.length -40) (f -40)]) (λU2 a=>?_);refine bU ?_;go_wp2_with fail;refine c8 (v:=bo #[ar #[J aF v2,J aF v3,J R v4,J R v5,ae (fm z f 40 1) (d.length -40) (f -40)],J R 0]) (ml aa aa aa (a.aV 4) aw aw) aa (bZ ⟨⟨v2,v3,v4,v5,d.drop 40⟩,by rw[fe.out,E.out];rfl,fm z f 40 1,f -40,bc,(a.as 0 aa _ (λh=>eU.By h) (λb hb=>Ts hb)).fresh 0⟩)
  .have aqt:=hid hF;refine b5 ?_;refine bH (P.out o m c1 _ (a.has 2)) a (λU3 a=>?_);refine ag ?_;refine aI (ai az) (by(go_simp;exact λh1 D=>hF ⟨h1,D⟩)) ?_;refine ag ?_;iterate 2 refine ps ?_
   refine pk (ai az) ?_;refine ag ?_;iterate 4 refine ps ?_
   refine cA ?_;refine bb a 3 (ar #[J aF 0,J aF 0,J R 0,J R 0,ae af 0 0]) (λagY a=>?_);refine bU ?_;go_wp2_with fail;refine c8 (v:=_) (ml aa aa aa (a.aV 3) aw aw) aa (cc ⟨by rw[Q.out];rw[if_pos (bZ aqt.out)],aa,a.only⟩)
def F9(a i cu of n:Nat):List Int:=tt++ja [(a,8),(i,8),(cu,8),(of,8),(n,4)]
def sg(a i cu of:Nat)(ds:List Int):List Int:=Bi (F9 a i cu of ds.length++ds)
def Va{z}(h:0<=z/\z<18446744073709551616):aF.wrap z=z:=by grind[D1,D0,KF]
def avF(a i cu of n):(F9 a i cu of n).length=40:=ba
def Row.Jz{w N n c A bs}(h:Row N w A n c 5 1 (bs.map a6)):bX w A bs:=by grind[bX.ow]
def Row.aw8{w N n c A}{bs:List Int}(h:Row N w A n c 5 1 (bs.map a6)):bs.length=n:=by have a:=Row.len h;simpa using a
def avM(d i cu of:Nat)A c ds w(O:d<18446744073709551616/\i<18446744073709551616/\cu<=4611686018427387903/\of<=4611686018427387903/\ds.length<=1048576)(hb:bX w A ds):
 aC ax 290 #[ar #[J aF (d:Int),J aF (i:Int),J R (cu:Int),J R (of:Int),ae A ds.length c]] w λe w'=>∃l n,e=aB (bo #[ae l (sg d i cu of ds).length n,J R 0])/\cj w w' (cz l n (sg d i cu of ds)):=by
 have r:aE (∀a:Nat,(a:Int)<=4611686018427387903->∀W,aC ax 115 #[ar #[J R (a:Int),J R 0]] W λe w'=>e=aB (ai az)/\au W w'):=hid (λa P W=>xY (a:Int) 0 W ⟨ad,ad,ad⟩);have t:aE (∀W,au w W->bX W A ds):=hid (λW g=>hb.aH g)
 have u:aE (∀W,(∀B F,aX W F #[J aF (d:Int),J R 8,J aF (i:Int),J R 8,J aF (cu:Int),J R 8,J aF (of:Int),J R 8,J aF (ds.length:Int),J R 4] 227->bX W (ab ⟨B,0,af⟩) tt->aC ax 126 #[ae (ab ⟨B,0,af⟩) 4 4,ae (ab ⟨F,0,af⟩) 5 5] W λe w'=>∃l n,e=aB (bo #[ae l 40 n,ai az])/\Row W.heap.size w' l 40 n 5 1 ((F9 d i cu of ds.length).map a6)/\au W w')):=hid (λW B F j x=>by
  have q:=ag0 (ab ⟨B,0,af⟩) 4 tt F 0 5 [(d,8),(i,8),(cu,8),(of,8),(ds.length,4)] W ⟨aS,bc⟩ x (λf Q=>by grind[y3]) (λk f hk=>by
   obtain rfl|rfl|rfl|rfl|rfl|N:k=0\/k=1\/k=2\/k=3\/k=4\/5<=k:=ad;·cases hk;exact⟨j.cell _ aa,j.cell _ aa⟩
   .cases hk;exact⟨j.cell _ aa,j.cell _ aa⟩
   .cases hk;exact⟨j.cell _ aa,j.cell _ aa⟩
   .cases hk;exact⟨j.cell _ aa,j.cell _ aa⟩
   .cases hk;exact⟨j.cell _ aa,j.cell _ aa⟩
   grind);have v:(tt++ja [(d,8),(i,8),(cu,8),(of,8),(ds.length,4)]).length=40:=avF d i cu of ds.length;rw[v]at q;exact q);clear hb;go_enter func290,ntmps290;have b:=a8 w;go_step;refine ah ?_;refine bL b (ar #[J aF (d:Int),J aF (i:Int),J R (cu:Int),J R (of:Int),ae A ds.length c]) (λG w1 b=>?_);refine DN ?_;refine pl b 0 2 ?_;refine ag ?_;refine bH (r cu ad _) b (λS b=>?_);refine pk (ai ao) ?_;refine v2 ?_;refine pl b 0 3 ?_;refine ag ?_;refine bH (r of ad _) b (λT b=>?_);refine pk (ai ao) ?_;refine pk (ai ao) ?_;refine v2 ?_;refine pl b 0 4 ?_;refine ag ?_;refine a7 (ai ao) ?_;refine pk (ai ao) ?_;refine ah ?_;refine e' b #[J dR 71,J dR 74,J dR 82,J dR 49] 5 (λH U b=>?_);refine Dy b 0 (F0 tt aa aa (b.aV 0) aa dK mr) (λV b=>?_);refine ag ?_;refine pl b 1 0 ?_;refine v2 ?_;refine pl b 1 1 ?_;refine v2 ?_;refine pl b 1 2 ?_;refine aI (J aF (cu:Int)) (by(have h:=Va (z:=(cu:Int)) ad;go_simp;try rw[h])) ?_;refine v2 ?_;refine pl b 1 3 ?_;refine aI (J aF (of:Int)) (by(have h:=Va (z:=(of:Int)) ad;go_simp;try rw[h])) ?_;refine v2 ?_;refine pl b 1 4 ?_;refine ag ?_;refine aI (J aF (ds.length:Int)) (by(have h:=Va (z:=(ds.length:Int)) ad;go_simp;try rw[h])) ?_;refine ag ?_;refine e' b #[J aF (d:Int),J R 8,J aF (i:Int),J R 8,J aF (cu:Int),J R 8,J aF (of:Int),J R 8,J aF (ds.length:Int),J R 4] 227 (λI X b=>?_);refine aR (u _ _ _ (b.aV 0) (b.at 1)) ?_;rintro e Y ⟨C,K,rfl,hrow,g⟩;replace b:=b.lz g hrow;refine aT ?_;refine v5 ?_;refine gW ?_;refine pl b 3 4 ?_;refine kd (m:=ds.length) b 0 1 ((t _ b.only).cells) (xH ds) (λD L Z b=>?_)
 have s:aE (∀W o p,Row 0 W o (40+ds.length) p 5 1 ((F9 d i cu of ds.length).map a6++ds.map a6)->aC ax 325 #[ae o (40+ds.length) p] W λe w'=>∃l n,e=aB (ae l (sg d i cu of ds).length n)/\eU W.heap.size w' l n (sg d i cu of ds)/\au W w'):=hid (λW o p hr=>by rw[<-fR]at hr;have e:=hr.aw8;have q:=awT o p (F9 d i cu of ds.length++ds) W ad (by rw[e];exact hr.cap) hr.Jz;rw[e]at q;exact q);refine aR (s _ _ _ (b.at 0)) ?_;rintro e eZ ⟨E,M,rfl,y,g⟩;replace b:=b.lS g y;refine aT ?_;refine eg ?_;go_wp2_with fail;go_ret2;exact⟨_,_,aa,b.fresh 0⟩
def Mk{a:Type}{L:List a}{p j x}(hx:L[j]?=ab x)(b:p x=az)(hb:∀(i) y,i<j->L[i]?=ab y->p y=ao):L.findIdx? p=ab j:=by grind[Q0]
theorem Mj{a:Type}{L:List a}{p}(hb:∀(i:Nat) y,L[i]?=ab y->p y=ao):L.findIdx? p=none:=by grind[p6]
abbrev RecM:=Rec×Option bT×Nat
def gm(l:List RecM):List Value:=l.flatMap (λx=>[J aF x.1.seq,J aF x.1.id,J R x.1.cur,J R x.1.off,ae x.2.1 x.1.data.length x.2.2])
theorem Jo L:(gm L).length=L.length*5:=by
 induction L with
 |nil=>rfl
 |cons x L a=>grind[gm]
def F'(L a):gm (L++a)=gm L++gm a:=Yt
def Uu x:gm [x]=([J aF x.1.seq,J aF x.1.id,J R x.1.cur,J R x.1.off,ae x.2.1 x.1.data.length x.2.2]:List aO):=rfl
def avK L j x(hx:L[j]?=ab x):gm L=gm (L.take j)++(([J aF x.1.seq,J aF x.1.id,J R x.1.cur,J R x.1.off,ae x.2.1 x.1.data.length x.2.2]:List aO)++gm (L.drop (j+1))):=by obtain⟨a,hx⟩:=eM.1 hx;rw[<-Uu,<-F',<-F'];congr 1;subst hx;simp
def Ut L j x(hx:L[j]?=ab x):∀(i) v,(([J aF x.1.seq,J aF x.1.id,J R x.1.cur,J R x.1.off,ae x.2.1 x.1.data.length x.2.2]:List aO):List aO)[i]?=ab v->(gm L)[j*5+i]?=ab v:=λi v hv=>by
 have b:=(eM.1 hx).1;have hi:i<5:=(eM.1 hv).1;have a:(gm (L.take j)).length=j*5:=by grind[Jo]
 rw[avK L j x hx,oI ad,a,show j*5+i -j*5=i by omega,tZ ad];exact hv
def zE(L:List RecM)(p:RecM->Bool):Int:=match L.findIdx? p with|some k=>(k:Int)|none=>-1
def avI A (c g:Nat) lb L p w (cd:L.length<=1073741824) (hr:Row 0 w A L.length c 137 5 (gm L)) (q:∀args w,(kB g args).run ax w=bf (.enter g args) w)
 (hp:∀x W,x∈L->au w W->aC ax g (#[ar #[J aF x.1.seq,J aF x.1.id,J R x.1.cur,J R x.1.off,ae x.2.1 x.1.data.length x.2.2]]++lb) W λe w'=>e=aB (ai (p x))/\au W w'):
 aC ax 285 #[ae A L.length c,dS (eu g) #[] lb] w λe w'=>e=aB (J R (zE L p))/\au w w':=by
 have E:=hr;obtain⟨hlen,_⟩:=E;have u:=hid q;have z:=hid hp;have o:aE (∀W,au w W->Row 0 W A L.length c 137 5 (gm L)):=hid (λW g=>Ji hr g);clear hr q hp hlen;go_enter func285,ntmps285;have a:=a8 w;go_step;refine ah ?_;refine ag ?_;refine ah ?_;refine v3 ?_;refine an ?_;go_wp2_with fail;go_loopw [8] (λk wr=>∃j:Nat,j<=L.length/\k=J R (j:Int)/\(∀(i:Nat) (x:RecM),i<j->L[i]?=ab x->p x=ao)/\ak w (λ_=>False) wr []) (λk wr=>L.length -(bR k).toNat);case atStart=>grind
 case round=>
  clear a;obtain⟨j,G,rfl,s,a⟩:=hrel;by_cases hlt:j<L.length
  .have D:(j:Int)<(L.length:Int):=ad;obtain⟨x,hx⟩:∃x,L[j]?=ab x:=⟨_,cF hlt⟩;obtain⟨d,cur,r,C,_,_,_,_⟩:=(o.out _ a.only).blk ad;obtain⟨jf,t⟩:=ex (p x);have F:=cW hx;have B:=hid (Ut L j x hx);have n:=hid hx;have b:=hid t;have m:=hid s;have l:=hid r;clear hx t s C r;go_step;refine ah ?_;refine ag ?_;refine ah ?_;refine v2 ?_;refine jk ?_;refine aI (ay (ab ⟨d,(j*5),af⟩)) (b4 235 137 5 (bj 12) (bj 13) aa yf aw d 0 (L.length) c j ((j*5)) (by show ae A _ _=_;rw[l]) aa hlt ad) ?_;refine aI _ (by(refine e5 _ _ aa d _ aa _ (Row.range (o _ a.only) l (λi v hi=>B i v hi)) Pw aa aw)) ?_;refine bH ((by have h:=z.out x _ F a.only;rw[b.out]at h;exact h)) a (λw1 a=>?_) (hr:=by(go_simp;exact u _ _));refine an ?_;cases jf with
   |true=>
    refine ah ?_;refine eg ?_;go_wp2_with fail;go_ret;exact⟨by rw[show zE L p=(j:Int)from by unfold zE;rw[show L.findIdx? p=ab j from Mk n b m]];rfl,a.only⟩
   |false=>
    refine ah ?_;refine pad (j:Int) 1 ((j+1:Nat):Int) ?_;refine bU ?_;go_wp2_with fail;go_roundw;case rel=>exact⟨j+1,ad,rfl,λi y hi f=>by rcases Nat.lt_succ_iff_lt_or_eq.1 hi with h|rfl;exact m i y h f;rw[n]at f;cases f;exact b,a⟩
    case measure=>simp[bR]<;>omega
  .have D:¬(j:Int)<(L.length:Int):=ad;obtain rfl:j=L.length:=ad;go_step;refine ah ?_;refine ag ?_;refine ah ?_;refine ag ?_;refine an ?_;go_wp2_with fail;go_ret;exact⟨by rw[show zE L p=-1 from by grind[zE,Mj]];rfl,a.only⟩
def avH A (c g:Nat) lb L (p:RecM->Bool) w (cd:L.length<=1073741824) (hr:Row 0 w A L.length c 137 5 (gm L)) (B:∀args w,(kB g args).run ax w=bf (.enter g args) w)
 (hp:∀x W,x∈L->av (ej A) w W->aC ax g (#[ar #[J aF x.1.seq,J aF x.1.id,J R x.1.cur,J R x.1.off,ae x.2.1 x.1.data.length x.2.2]]++lb) W λe w'=>e=aB (ai (p x))/\au W w'):
 aC ax 215 #[ae A L.length c,dS (eu g) #[] lb] w λe w'=>∃P,e=aB (ae P (L.filter (λx=>!p x)).length c)/\Turned w w' (bg A L.length c 137 5 (gm L)) (bg P (L.filter (λx=>!p x)).length c 137 5 (gm (L.filter (λx=>!p x)))):=by
 have U:=hid B;have D:0<L.length->_:=λh=>hr.blk h;obtain⟨N,K⟩:=ex (zE L p);have X:aE (∀W,av (ej A) w W->Row 0 W A L.length c 137 5 (gm L)->aC ax 285 #[ae A L.length c,dS (eu g) #[] lb] W λe w'=>e=aB (J R N)/\au W w'):=hid (λW o h=>by have q:=avI A c g lb L p W cd h B (λx fh hx g2=>hp x fh hx (o.trans g2.to (λ_ _ h=>h)));rw[K]at q;exact q);have Y:=hid hp;have hr1:=hid hr;have IL:=hid (λb (hb:ej A b)=>(Row.lt hr hb).2);by_cases C9:N=-1;clear B hp
 .subst C9;have hno:L.filter (λx=>!p x)=L:=by grind[Aj,zE]
  rw[hno];clear hno K D hr;go_enter Tryz.func215,Tryz.ntmps215;have a:=ak.start (t:=bg A L.length c 137 5 (gm L)) ⟨hr1,IL⟩;go_step;refine ah ?_;refine kf ?_;refine bH (X.out _ a.only (a.at 0)) a (λw1 a=>?_);refine cA ?_;refine pk (ai az) ?_;refine ah ?_;refine eg ?_;go_wp2_with fail;go_ret;exact⟨A,aa,a.gu 0⟩
 .obtain⟨d,qj⟩:∃d,L.findIdx? p=ab d:=by grind[zE]
  have SI:N=(d:Int):=by grind[zE]
  subst SI;obtain⟨jF,uF,hb1⟩:=Q0.1 qj;obtain⟨G,cur,rfl,kZ,ka,hcm,hcs,E⟩:=D ad;have arE:¬(d:Int)=-1:=ad;have SE:(L.take d).filter (λx=>!p x)=L.take d:=by grind[Aj,p6]
  have hx1:L[d]?=ab L[d]:=cF jF
  have hst:∃f fG,cur=(gm ((L.take (d+1)).filter (λx=>!p x))++(f++(gm (L.drop (d+1))++fG))).toArray/\f.length=5/\((L.take (d+1)).filter (λx=>!p x)).length=d:=by
   have bF:(L.take (d+1)).filter (λx=>!p x)=L.take d:=by grind[gx]
   refine⟨gm [L[d]],cur.toList.drop (L.length*5),?_,ba,aG⟩;rw[bF,<-kQ,<-kQ,<-F',<-F',show L.take d++[L[d]]++L.drop _=L by simp,<-E,oJ]
  obtain⟨f,fG,Ic,f',l⟩:=hst;have aqx:∀b,ej (ab (⟨G,0,af⟩:bT)) b->b=G:=λb ⟨off,sp,e⟩=>by grind
  have hsz:cur.size=c*5:=hcs;have k3:fG.length+L.length*5=c*5:=by grind[Jo]
  have QG:=hid k3;have r:=hid ka;have Q:=hid hcm;have qZ:=hid hsz;have oD:=hid Ic;have BZ:=hid E;have lf:=hid kZ;clear k3 K qj hb1 SE uF hx1 ka hcm hcs E D hr kZ hsz Ic;go_enter Tryz.func215,Tryz.ntmps215;have a:ak w (ej (ab (⟨G,0,af⟩:bT))) w [aj G cur 137]:=(ak.start (t:=bg (ab (⟨G,0,af⟩:bT)) L.length c 137 5 (gm L)) ⟨hr1,IL⟩).as 0 aa _ (λ_=>lf) (λb hb=>⟨0,af,by rw[show b=G from hb]⟩);go_step;refine ah ?_;refine kf ?_;refine bH (X.out _ a.only (by have h:=Jt (n:=L.length) (a.aV 0) r Q qZ;rw[show cur.toList.take (L.length*5)=gm L from BZ]at h;exact h)) a (λaU a=>?_);refine cA ?_;refine a7 (ai ao) ?_;refine b5 ?_;refine pad (d:Int) 1 ((d+1:Nat):Int) ?_;refine bU ?_;have bK:=a;rw[oD]at a;go_wp2_with fail;go_loopw [5,6] (λaQ O wr=>∃(i j:Nat) (f:List aO),i<j/\j<=L.length/\aQ=J R (i:Int)/\O=J R (j:Int)/\((L.take j).filter (λx=>!p x)).length=i/\f.length+i*5=j*5/\ak w (ej (ab (⟨G,0,af⟩:bT))) wr [aj G (gm ((L.take j).filter (λx=>!p x))++(f++(gm (L.drop j)++fG))).toArray 137]) (λaQ O wr=>L.length -(bR O).toNat);case atStart=>exact⟨d,d+1,_,ad,ad,aa,aa,l,ad,a⟩
  case round=>
   clear a bK l f';obtain⟨i,j,f,jd,hj,rfl,rfl,l,f',a⟩:=hrel;by_cases hlt:j<L.length
   .have cf:(j:Int)<(L.length:Int):=ad;obtain⟨x,hx⟩:∃x,L[j]?=ab x:=⟨_,cF hlt⟩;have kq:=cW hx;obtain⟨jf,o0⟩:=ex (p x);have hdr:gm (L.drop j)=([J aF x.1.seq,J aF x.1.id,J R x.1.cur,J R x.1.off,ae x.2.1 x.1.data.length x.2.2]:List aO)++gm (L.drop (j+1)):=by rw[<-Uu,<-F'];congr 1;obtain⟨h1,rfl⟩:=eM.1 hx;simp
    obtain⟨pre,M⟩:=ex (gm ((L.take j).filter (λx=>!p x)));have S':pre.length=i*5:=by grind[Jo]
    obtain⟨eO,I⟩:=ex (gm (L.drop (j+1)));rw[hdr,M,I]at a
    have xv:∀(k:Nat) (v:aO),(([J aF x.1.seq,J aF x.1.id,J R x.1.cur,J R x.1.off,ae x.2.1 x.1.data.length x.2.2]:List aO):List aO)[k]?=ab v->(pre++(f++(([J aF x.1.seq,J aF x.1.id,J R x.1.cur,J R x.1.off,ae x.2.1 x.1.data.length x.2.2]:List aO)++eO++fG)))[j*5+k]?=ab v:=λk v hk=>by have arb:k<5:=(eM.1 hk).1;rw[oI ad,oI ad,kQ,tZ (by show _<5;omega),show j*5+k -pre.length -f.length=k by omega];exact hk
    have Z:=hid S';have r4:=hid xv;have u:=hid hx;have s:=hid o0;have wQ:=hid M;have T:=hid I;have m:=hid l;have akw:=hid hdr;clear hx o0 M I hdr xv l;go_step;refine ah ?_;refine v4 ?_;refine gW ?_;refine aI (ay (ab ⟨G,(j*5),af⟩)) (b4 235 137 5 (bj 22) (bj 23) aa yf aw G 0 (L.length) c j ((j*5)) aa aa hlt ad) ?_;refine aI _ (by(refine e5 _ _ aa G _ aa _ ((a.aV 0).rangeAt _ _ (λk v hk=>by rw[Ak];exact r4 k v hk)) Pw aa aw)) ?_;refine bn a #[J aF 0,J aF 0,J R 0,J R 0,ae af 0 0] (λfQ bI a=>?_);refine bb a 0 (ar #[J aF x.1.seq,J aF x.1.id,J R x.1.cur,J R x.1.off,ae x.2.1 x.1.data.length x.2.2]) (λb9 a=>?_);refine an ?_;cases jf with
    |true=>
     refine b5 ?_;refine bh a 0 #[J aF x.1.seq,J aF x.1.id,J R x.1.cur,J R x.1.off,ae x.2.1 x.1.data.length x.2.2] ?_;refine bH ((by have h:=Y.out x _ kq a.only;rw[s.out]at h;exact h)) a (λcE a=>?_) (hr:=by(first|(go_simp;done)|(go_simp;exact U.out _ _)));refine cA ?_;refine pad (j:Int) 1 ((j+1:Nat):Int) ?_;refine bU ?_;go_wp2_with fail;go_roundw;case rel=>exact⟨i,j+1,f++([J aF _,J aF _,J R _,J R _,ae x.2.1 _ x.2.2]:List _),ad,ad,aa,aa,by rw[show(L.take _).filter (λx=>!p x)=(L.take j).filter (λx=>!p x)from by rw[gx,u,s8];simp[s.out]];exact m,by rw[db];show f.length+5+_=_;omega,by rw[show(L.take _).filter (λx=>!p x)=(L.take j).filter (λx=>!p x)from by rw[gx,u,s8];simp[s.out],wQ.out,T.out];have h:ak _ _ _ [aj G (pre++(f++(([J aF x.1.seq,J aF x.1.id,J R x.1.cur,J R x.1.off,ae x.2.1 x.1.data.length x.2.2]:List aO)++eO++fG))).toArray 137]:=a.pick [1];simpa using h⟩
     case measure=>simp[bR]<;>omega
    |false=>
     refine b5 ?_;refine bh a 0 #[J aF x.1.seq,J aF x.1.id,J R x.1.cur,J R x.1.off,ae x.2.1 x.1.data.length x.2.2] ?_;refine bH ((by have h:=Y.out x _ kq a.only;rw[s.out]at h;exact h)) a (λcV a=>?_) (hr:=by(first|(go_simp;done)|(go_simp;exact U.out _ _)));refine kf ?_;refine bh a 0 #[J aF x.1.seq,J aF x.1.id,J R x.1.cur,J R x.1.off,ae x.2.1 x.1.data.length x.2.2] ?_;refine aI _ (b4 235 137 5 _ _ aa yf aw G 0 _ c i ((i*5)) aa aa ad ad) ?_;refine NS a 1 (Gg (cs':=(pre++(([J aF x.1.seq,J aF x.1.id,J R x.1.cur,J R x.1.off,ae x.2.1 x.1.data.length x.2.2]:List aO)++(f++(([J aF x.1.seq,J aF x.1.id,J R x.1.cur,J R x.1.off,ae x.2.1 x.1.data.length x.2.2]:List aO)++eO++fG)).drop 5)).toArray) (ar #[J aF x.1.seq,J aF x.1.id,J R x.1.cur,J R x.1.off,ae x.2.1 x.1.data.length x.2.2]) aa aa aa (a.aV 1) (by show i*5+5<=_;rw[iY,db,db,db,db,Z];show _<=_+(_+(5+_+_));omega) aw aw (by have e:=zp ([J aF x.1.seq,J aF x.1.id,J R x.1.cur,J R x.1.off,ae x.2.1 x.1.data.length x.2.2]:List aO) pre (f++(([J aF x.1.seq,J aF x.1.id,J R x.1.cur,J R x.1.off,ae x.2.1 x.1.data.length x.2.2]:List aO)++eO++fG)) (by rw[db,db,db];show 5<=_+(5+_+_);omega);rw[Z]at e;exact e)) (λdJ a=>?_);refine b5 ?_;refine pad (i:Int) 1 ((i+1:Nat):Int) ?_;refine cA ?_;refine pad (j:Int) 1 ((j+1:Nat):Int) ?_;refine bU ?_;go_wp2_with fail;go_roundw;case rel=>exact⟨i+1,j+1,(f++([J aF x.1.seq,J aF x.1.id,J R x.1.cur,J R x.1.off,ae x.2.1 x.1.data.length x.2.2]:List aO)).drop 5,ad,ad,aa,aa,by rw[(show(L.take _).filter (λx=>!p x)=(L.take j).filter (λx=>!p x)++[x]from by rw[gx,u,s8];simp[s.out]),db,m];rfl,by rw[s9,db];show f.length+5 -5+_=_;omega,by rw[(show(L.take _).filter (λx=>!p x)=(L.take j).filter (λx=>!p x)++[x]from by rw[gx,u,s8];simp[s.out]),F',wQ,Uu,T];have h:ak _ _ _ [aj G (pre++(([J aF x.1.seq,J aF x.1.id,J R x.1.cur,J R x.1.off,ae x.2.1 x.1.data.length x.2.2]:List aO)++(f++(([J aF x.1.seq,J aF x.1.id,J R x.1.cur,J R x.1.off,ae x.2.1 x.1.data.length x.2.2]:List aO)++eO++fG)).drop 5)).toArray 137]:=a.pick [1];rw[show pre++(([J aF x.1.seq,J aF x.1.id,J R x.1.cur,J R x.1.off,ae x.2.1 x.1.data.length x.2.2]:List aO)++(f++(([J aF x.1.seq,J aF x.1.id,J R x.1.cur,J R x.1.off,ae x.2.1 x.1.data.length x.2.2]:List aO)++eO++fG)).drop 5)=pre++([J aF x.1.seq,J aF x.1.id,J R x.1.cur,J R x.1.off,ae x.2.1 x.1.data.length x.2.2]:List aO)++((f++([J aF x.1.seq,J aF x.1.id,J R x.1.cur,J R x.1.off,ae x.2.1 x.1.data.length x.2.2]:List aO)).drop 5++(eO++fG))from by rw[kQ,kQ,<-kQ f,List.drop_append_of_le_length (by rw[db];show 5<=_+5;omega)]]at h;exact h⟩
     case measure=>simp[bR]<;>omega
   .have cf:¬(j:Int)<(L.length:Int):=ad;obtain rfl:j=L.length:=ad;rw[ll]at a l;rw[List.drop_length]at a;have m:=hid l;clear l;go_step;refine ah ?_;refine v4 ?_;refine an ?_;obtain⟨cu,z⟩:=ex ((gm (L.filter (λx=>!p x))++(f++(gm []++fG))).toArray);have Ie:cu.size=c*5:=by rw[<-z,iY,db,db,db,Jo,m];have:=QG.out;show _+(_+(0+_))=_;omega
    have hcut:cu.toList.take (i*5)=gm (L.filter (λx=>!p x)):=by rw[<-z,<-m,<-Jo];simp
    rw[z]at a;have S:=hid Ie;have Ea:=hid hcut;clear z Ie hcut;refine gW ?_;refine aI (ae (ab ⟨G,i*5,af⟩) (L.length -i) (c -i)) (agl 235 137 5 (bj 36) (bj 37) aa yf aw G L.length c i (L.length -i) aa aa ad r.out (by have:=r.out;omega)) ?_;refine aeZ (C:=λy=>y.size=cu.size/\y.toList.take (i*5)=cu.toList.take (i*5)) a 0 (afT (sz:=5) aa ba yf ba ba aw ad (a.aV 0) (by rw[S];have:=r.out;omega)) (λhZ y Sx a=>?_);refine an ?_;obtain⟨F,H⟩:=Sx;rw[Ea]at H;rw[S]at F;replace a:ak _ _ _ [aj G y 137]:=a;have QN:=hid F;have vq:=hid H;clear F H;refine gW ?_;refine aI (ae (ab (⟨G,0,af⟩:bT)) i c) (rF 235 137 5 (bj 39) (bj 40) aa yf aw (ab (⟨G,0,af⟩:bT)) L.length c i aa aa (by have:=r.out;omega)) ?_;refine bU ?_;have V:=a.u1 0 i c 5 (gm (L.filter (λx=>!p x))) vq (by have:=r.out;omega) Q QN;rw[<-m]at V;go_wp2_with fail;go_ret;exact⟨_,by rw[m.out];rfl,V.gu 0⟩
def afU{o}{a:b3}{w x v n}(ho:o.op=nY {callee:=.invoke x n,args:=#[],argTypes:=#[]})(hx:a.eval x=.iface 137 v)(b:(callMethod (.iface 137 v) n #[]).run ax w=bf (.enter 408 #[v]) w:=by rfl):(bz a.eval o).run ax w=bf (.enter 408 #[v]) w:=by have h1:(kB 408 #[v]).run _ w=bf (.enter 408 _) w:=lG Tryz.func408 aw aa _ _;unfold bz;simp only[ho,n2,hx,n1,gC,kg,jI];simpa using b
def qG:RecM:=(⟨0,0,0,0,[]⟩,af,0)
def ju:List RecM->RecM
 |[]=>qG
 |x::l=>l.foldl (λb y=>if y.1.seq>b.1.seq then y else b) x
def am1 l x:ju (l++[x])=if l=[]\/x.1.seq>(ju l).1.seq then x else ju l:=by
 cases l with
 |nil=>rfl
 |cons y l=>grind[ju]
def Za:∀(l),ju l=qG\/ju l∈l:=by
 intro l;cases l with
 |nil=>exact bZ aa
 |cons x l=>
  right;show l.foldl _ x∈_
  have key:∀(l:List RecM) x,l.foldl (λb y=>if y.1.seq>b.1.seq then y else b) x=x\/l.foldl (λb y=>if y.1.seq>b.1.seq then y else b) x∈l:=by
   intro l;induction l with
   |nil=>simp
   |cons y l a=>
    intro x;rw[yG];rcases a (if y.1.seq>x.1.seq then y else x)with h|h
    .rw[h];split;·simp
     .simp
    .grind
  grind
def aew(x:RecM)w:
 aC ax 408 #[ar #[J aF x.1.seq,J aF x.1.id,J R x.1.cur,J R x.1.off,ae x.2.1 x.1.data.length x.2.2]] w λe w'=>e=aB (J aF x.1.seq)/\au w w':=by
 go_enter Tryz.func408,ntmps408;have a:=a8 w;go_step;refine ah ?_;refine bL a (ar _) (λb w1 a=>?_);refine cA ?_;refine pl a 0 0 ?_;refine bU ?_;go_wp2_with fail;go_ret;exact⟨aa,a.only⟩
def aqg A c L w(cd:L.length<=1073741824)(hr:Row 0 w A L.length c 137 5 (gm L)):
 aC ax 214 #[ae A L.length c] w λe w'=>e=aB (bo #[ar #[J aF (ju L).1.seq,J aF (ju L).1.id,J R (ju L).1.cur,J R (ju L).1.off,ae (ju L).2.1 (ju L).1.data.length (ju L).2.2],ai (decide (0<L.length))])/\au w w':=by
 have s:aE (∀W,au w W->Row 0 W A _ c _ 5 _):=hid (λW g=>Ji hr g);clear hr;obtain⟨hC,hbl⟩:=ex (ju L);obtain⟨lb,n⟩:=ex (decide (0<L.length));rw[hbl,n];have B:=hid n;have z:=hid hbl;clear n hbl;go_enter func214,ntmps214;have a:=a8 w;go_step;refine ah ?_;refine bn a #[J _ 0,J _ 0,J _ 0,J _ 0,ae _ 0 0] (λp w1 a=>?_);refine ed ?_;refine bn a #[J aF 0,J aF 0,J R 0,J R 0,ae af 0 0] (λq I a=>?_);refine ah ?_;refine v3 ?_;refine an ?_;replace a:ak _ _ _ [aj q #[J _ (ju []).1.seq,J _ (ju []).1.id,J R (ju []).1.cur,J _ (ju []).1.off,ae (ju []).2.1 (ju []).1.data.length (ju []).2.2] 137,aj p #[J aF qG.1.seq,J _ qG.1.id,J _ qG.1.cur,J _ qG.1.off,ae qG.2.1 qG.1.data.length qG.2.2] 137]:=a;go_wp2_with fail;go_loopw [9] (λo wr=>∃j:Nat,j<=L.length/\o=J R (j:Int)/\ak w (λ_=>False) wr [aj q #[J aF (ju (L.take j)).1.seq,J aF (ju (L.take j)).1.id,J R (ju (L.take j)).1.cur,J R (ju (L.take j)).1.off,ae (ju (L.take j)).2.1 (ju (L.take j)).1.data.length (ju (L.take j)).2.2] 137,aj p #[J aF qG.1.seq,J aF qG.1.id,J R qG.1.cur,J R qG.1.off,ae qG.2.1 qG.1.data.length qG.2.2] 137]) (λo wr=>L.length -(bR o).toNat);case atStart=>exact⟨0,cB _,aa,a⟩
 case round=>
  clear a;obtain⟨j,H,rfl,a⟩:=hrel;by_cases hlt:j<L.length
  .have E:(j:Int)<(L.length:Int):=ad;obtain⟨x,hx⟩:∃x,L[j]?=ab x:=⟨_,cF hlt⟩;obtain⟨l,cur,t,D,_,_,_,_⟩:=(s.out _ a.only).blk ad;have C:=hid (Ut L j x hx);have u:L.take (j+1)=L.take j++[x]:=by rw[gx,hx];rfl
   obtain⟨b,hb⟩:=ex (ju (L.take j));rw[hb]at a;have f:aE (ju (L.take _)=if j=0\/x.1.seq>b.1.seq then x else b):=hid (by rw[u,am1,hb];congr 1;rw[eq_iff_iff];refine or_congr_left ⟨λh=>?_,λh=>by rw[h];rfl⟩;have:=congrArg q3 h;rw[oe,mT]at this;omega);have r:=hid t;clear hx D t u hb;go_step;refine ah ?_;refine cA ?_;refine aI (ay (ab ⟨l,(j*5),af⟩)) (b4 235 137 5 (bj 7) (bj 9) aa yf aw l 0 (L.length) c j ((j*5)) (by show ae A _ _=_;rw[r]) aa hlt ad) ?_;refine aI _ (by(refine e5 137 _ aa l _ aa _ (Row.range (s _ a.only) r (λi v hi=>C i v hi)) Pw aa aw)) ?_;refine bn a #[J _ 0,J _ 0,J _ 0,J _ 0,ae _ 0 0] (λG K a=>?_);refine ag ?_;refine bb a 0 (ar _) (λM a=>?_);refine an ?_;by_cases m:j=0
   .have d:(j:Int)=0:=ad;refine cx ?_;refine bN a [] (λ_ _=>a1) (λ_ _=>emp) (λ_=>[]) (λ_=>[]) (λ_=>[]) [0,1,2] (λF=>?_);refine aJ ?_;refine aK (ai az) (λ_ _ _=>by(go_simp;try simp[d])) ?_;refine aJ ?_;iterate 7 refine ds ?_
    refine fJ (ai az) ?_;refine bQ λN a=>?_;refine ah ?_;refine bh a 0 #[J aF x.1.seq,J aF x.1.id,J R x.1.cur,J R x.1.off,ae x.2.1 x.1.data.length x.2.2] ?_;refine bb a 1 (ar _) (λO a=>?_);refine an ?_;have y:=hid m;clear m d;refine ah ?_;refine pad (j:Int) 1 ((j+1:Nat):Int) ?_;refine bU ?_;go_wp2_with fail;go_roundw;case rel=>exact⟨j+1,ad,aa,by rw[f,if_pos (bZ y.out)];exact a.pick [1,2]⟩
    case measure=>simp[bR]<;>omega
   .have d:¬(j:Int)=0:=ad;obtain⟨du,hcb⟩:=ex (decide (x.1.seq>b.1.seq));have k:=hid hcb;clear hcb;refine cx ?_;refine bN a [5,8] (λi _=>match i with|5=>J aF x.1.seq|8=>J aF b.1.seq|_=>a1) (λ_ _=>emp) (λ_=>[]) (λ|3=>[0]|6=>[1]|_=>[]) (λ_=>[]) [0,1,2,8,11] (λF=>?_);refine aJ ?_;refine aK (ai ao) (λ_ _ _=>by(go_simp;try simp[d])) ?_;refine aJ ?_;refine eO 0 #[J aF x.1.seq,J aF x.1.id,J R x.1.cur,J R x.1.off,ae x.2.1 x.1.data.length x.2.2] ?_;refine aJ ?_;refine dA (λ_ _ _=>aew x _) ?_ (hr:=by(intro _;exact afU aa aa));refine eO 0 #[J aF b.1.seq,J aF b.1.id,J R b.1.cur,J R b.1.off,ae b.2.1 b.1.data.length b.2.2] ?_;refine aJ ?_;refine dA (λ_ _ _=>aew b _) ?_ (hr:=by(intro _;exact afU aa aa));refine aK (ai du) (λ_ _ _=>by(have h:=k.out;go_simp;try simp[h])) ?_;refine fJ (ai du) ?_;refine bQ λP a=>?_;replace a:=a.drop 3;replace a:=a.drop 3;cases du with
    |true=>
     refine ah ?_;refine bh a 0 #[J aF x.1.seq,J aF x.1.id,J R x.1.cur,J R x.1.off,ae x.2.1 x.1.data.length x.2.2] ?_;refine bb a 1 (ar _) (λQ a=>?_);refine ah ?_;refine pad (j:Int) 1 ((j+1:Nat):Int) ?_;refine bU ?_;go_wp2_with fail;go_roundw;case rel=>exact⟨j+1,ad,aa,by rw[f,if_pos (cc (of_decide_eq_true k))];exact a.pick [1,2]⟩
     case measure=>simp[bR]<;>omega
    |false=>
     refine ah ?_;refine pad (j:Int) 1 ((j+1:Nat):Int) ?_;refine bU ?_;go_wp2_with fail;go_roundw;case rel=>exact⟨j+1,ad,aa,by rw[f,if_neg (λh=>h.elim m (of_decide_eq_false k))];exact a.pick [1,2]⟩
     case measure=>simp[bR]<;>omega
  .have E:¬(j:Int)<(L.length:Int):=ad;obtain rfl:j=L.length:=ad;rw[ll,z]at a;go_step;refine ah ?_;refine ed ?_;refine bh a 0 #[J aF hC.1.seq,J aF hC.1.id,J R hC.1.cur,J R hC.1.off,ae hC.2.1 hC.1.data.length hC.2.2] ?_;refine v2 ?_;refine aI (ai lb) (by(have h:=B.out;first|(go_simp;done)|(go_simp;rw[<-h];done)|(go_simp;rw[<-h];simp))) ?_;refine bb a 1 (ar _) (λS a=>?_);refine bU ?_;go_wp2_with fail;refine c8 (v:=_) (ml aa aa aa (a.aV 1) aw aw) aa (⟨aa,a.only⟩)
def atO(x:RecM)id B w(hb:aX w B #[J aF id] 42):
 aC ax 217 #[ar #[J aF x.1.seq,J aF x.1.id,J R x.1.cur,J R x.1.off,ae x.2.1 x.1.data.length x.2.2],ay (ab ⟨B,0,af⟩)] w λe w'=>e=aB (ai (decide (x.1.id≠id)))/\au w w':=by
 obtain⟨d,b⟩:=ex (decide (x.1.id≠id));have c:=hid b;rw[b];clear b;go_enter Tryz.func217,ntmps217;have a:=a8 w;go_step;refine ah ?_;refine bL a (ar _) (λf w1 a=>?_);refine cA ?_;refine pl a 0 1 ?_;refine jf hb a.only ?_;refine aI (ai d) (by(have h:=c.out;go_simp;rw[<-h];simp[bne,BEq.beq])) ?_;refine bU ?_;go_wp2_with fail;go_ret;exact⟨aa,a.only⟩
def avJ{L u}(h:u∈gm L):u.oneCell'=true:=by obtain⟨x,_,hx⟩:=List.mem_flatMap.1 h;simp only[gD,fS,or_false]at hx;rcases hx with rfl|rfl|rfl|rfl|rfl<;>rfl
def Row.cells{w A}{n c e sz:Nat}{xs}(h:Row 0 w A n c e sz xs):Cells w sz A n xs:=by
 refine⟨h.1,λhn=>?_⟩;obtain⟨g,cur,rfl,hb,h1,d,f,b⟩:=h.blk hn;refine⟨_,rfl,λj u a=>?_⟩;rw[mW,js];refine hb.cell j ?_;rw[<-b,q2]at a;split at a;·grind
 .grind
def anP A c L w(cd:L.length<=1073741824)(hr:Row 0 w A L.length c 137 5 (gm L))(f:L.length=0->A=af)(hc0:L.length=0->c=0):
 aC ax 216 #[ae A L.length c] w λe w'=>∃b d,e=aB (ae b L.length d)/\Row w.heap.size w' b L.length d 137 5 (gm L)/\au w w':=by
 by_cases n:L.length=0;·have hnil:=j8 n;subst hnil;have o:=f aa;subst o;obtain rfl:=hc0 aa;go_enter Tryz.func216,Tryz.ntmps216;have a:=a8 w;go_step;refine ah ?_;refine cA ?_;refine pk (ai az) ?_;refine ah ?_;refine ag ?_;refine an ?_;go_wp2_with fail;go_ret;exact⟨_,0,aa,Row.nil _ _ _ _,a.only⟩
 .obtain⟨s,cur,rfl,p,_,_,_,_⟩:=hr.blk ad;have j:aE (∀W,au w W->Row 0 W _ _ c _ 5 _):=hid (λW g=>Ji hr g);clear hr p f hc0;go_enter Tryz.func216,Tryz.ntmps216;have a:=a8 w;go_step;refine ah ?_;refine cA ?_;refine pk (ai ao) ?_;refine ah ?_;refine e' a #[] 137 (λr w1 a=>?_);refine ag ?_;have k:ak _ _ _ [bg _ 0 0 _ 5 []]:=a.u1 0 0 0 5 [] aa (b7 _) (cB _) aa;refine kd (m:=_) k 0 56 (by have h:=j.out _ a.only;exact Row.cells h) (λu q=>avJ q) (λi l t a=>?_) (hby:=by omega);refine bU ?_;rw[js,l0]at a;go_wp2_with fail;go_ret;exact⟨i,l,aa,(a.fresh 0).row,a.only⟩
def xF(id:Int)(L:List RecM):RecM×Bool:=(ju (L.filter (λx=>!decide (x.1.id≠id))),decide (0<(L.filter (λx=>!decide (x.1.id≠id))).length))
def aeq id A c L w(cd:L.length<=1073741824)(hr:Row 0 w A L.length c 137 5 (gm L))(m:L.length=0->A=af)(hc0:L.length=0->c=0)(p:∀x∈L,bX w x.2.1 x.1.data/\x.1.data.length<=140737488355328):
 aC ax 133 #[J aF id,ae A L.length c] w λe w'=>∃d k,e=aB (bo #[ar (recC (xF id L).1.1 d k),ai (xF id L).2])/\cj w w' (cz d k (xF id L).1.1.data):=by
 obtain⟨f,l⟩:=ex (L.filter (λx=>!decide (x.1.id≠id)));have S:f.length<=L.length:=aG;obtain⟨b,hb⟩:=ex (ju f);obtain⟨lb,r⟩:=ex (decide (0<f.length))
 have iK:∀W,au w W->bX W _ b.1.data:=λW g=>by
  rcases Za f with h|h;·rw[hb]at h;rw[h];exact bX.nil
  .rw[hb,<-l]at h;exact(p b ((List.mem_filter.1 h).1)).1.aH g
 have hbl:b.1.data.length<=140737488355328:=by
  rcases Za f with h|h;·rw[hb]at h;rw[h];exact cB _
  .grind
 have n:xF id L=(b,lb):=by grind[xF]
 rw[n];have t:=hid (λW g=>anP A c L W cd (Ji hr g) m hc0)
 have y:aE (∀W aL c2 B,Row 0 W aL _ c2 _ 5 _->aX W B _ 42->¬ej aL B->aC _ _ #[ae aL _ c2,dS (eu 217) #[] _] W λe w'=>∃d,e=aB _/\Turned W w' _ _):=hid (λW aL c2 B h hb2 hn=>by have q:=avH aL c2 _ #[ay _] L (λx=>decide _) W cd h (lG Tryz.func217 aw aa) (λx C _ o=>atO x id B C (o.heap hb2 hn));rw[l]at q;exact q);have u:aE (∀W,au w W->aC _ 65 _ W λe w'=>∃d k,e=aB _/\eU _ w' d k _/\au W w'):=hid (λW g=>(w6 _ b.2.2 _ W (iK W g) hbl).mono (λe w' ⟨d,k,h1,E,F⟩=>⟨d,k,h1,Row.nj E,F⟩));have z:=hid (λW aL c2 h=>by have q:=aqg aL c2 f W ad h;rw[hb,r]at q;exact q);clear hr p m hc0 l hb r iK n;go_enter func133,ntmps133;have a:=a8 w;go_step;refine ah ?_;refine bL a (J _ id) (λN w1 a=>?_);refine bn a #[J _ 0,J _ 0,J _ 0,J _ 0,ae _ 0 0] (λO U a=>?_);refine cA ?_;refine aR (t.out _ a.only) ?_;rintro e V ⟨K,Q,rfl,G,g⟩;replace a:=a.lz g G;refine aT ?_;refine ag ?_;refine aR (y _ _ _ _ (a.atR 0) (a.aV 2) (λh=>a.ne (i:=0) (j:=2) aa aa aS _ h aa)) ?_;rintro e X ⟨M,rfl,H⟩;replace a:=a.eQ 0 H;refine aT ?_;refine bH (z _ _ _ (a.atR 0)) a (λY a=>?_);refine v3 ?_;refine bn a #[J _ 0,J _ 0,J _ 0,J _ 0,ae _ 0 0] (λP Z a=>?_);refine bb a 0 (ar _) (λdJ a=>?_);refine cA ?_;refine pl a 0 4 ?_;refine aR (u _ a.only) ?_;rintro e dB ⟨s,D,rfl,I,g⟩;replace a:=a.lS g I;refine aT ?_;refine ag ?_;refine bb a 1 (ae _ _ _) (λeZ a=>?_);refine ah ?_;refine bh a 1 #[J aF b.1.seq,J aF b.1.id,J R b.1.cur,J R b.1.off,ae s b.1.data.length D] ?_;refine ag ?_;refine bb a 3 (ar _) (λT a=>?_);refine bU ?_;go_wp2_with fail;refine c8 (v:=_) (ml aa aa aa (a.aV 3) aw aw) aa (⟨_,_,aa,a.fresh 0⟩)
def eo(size bound:Nat):Nat:=(bound+43)/size+1
def aw9{size bound}(h:1<=size):bound+44<=eo size bound*size:=by unfold eo;have h1:=Q6 (bound+43) size;have a:=Ho (bound+43) h;rw[Ap,An _ _];omega
def tr(d:dF)(bound:Nat):Nat:=eo d.size bound*d.size
def ot(d:dF)(first bound i:Nat):Nat:=(first+i*eo d.size bound)*d.size
structure jA (d:dF) (first bound:Nat):Prop where
 dev:dt d
 dX:1<=bound
 dY:bound<=65536
 fits:first+2*eo d.size bound<=d.cnt
def jA.room{d first bound}(h:jA d first bound){i}(hi:i<=1):ot d first bound i+tr d bound<=d.bytes.length:=by unfold ot tr;rw[<-Nat.add_mul,h.dev.len];refine oK _ ?_;have:=h.fits;grind[Nat.le_one_iff_eq_zero_or_eq_one]
def jA.small{d first bound}(h:jA d first bound):d.bytes.length<=1048576/\d.cnt<=1048576/\d.size<=1048576:=by have h1:=h.dev.small;have a:=h.dev.kt;have b:=h.dev.um;have c:d.cnt<=d.cnt*d.size:=yK _ a;have e:d.size<=d.cnt*d.size:=Cj _ b;rw[h.dev.len];omega
def adI(size bound:Nat)(h1:1<=size)(f:1<=bound)(g:bound<=65536)w:
 aC ax 114 #[J R (size:Int),J R (bound:Int)] w λe w'=>e=aB (J R (eo size bound:Int))/\au w w':=by
 obtain⟨q,a⟩:=ex ((bound+43)/size);have i:q<=bound+43:=by rw[<-a];exact vy _ _
 have c:=hid a;have e:eo size bound=q+1:=by rw[eo,a]
 rw[e];clear a e;have d:aE (∀W,aC ax 199 #[J R (bound:Int)] W λe w'=>e=aB (J R ((bound+44:Nat):Int))/\au W w'):=hid (λW=>by have h:=afM (bound:Int) W ad;grind[ku]);go_enter func114,ntmps114;have b:=a8 w;go_step;refine ah ?_;refine cA ?_;refine a7 (ai ao) ?_;refine v2 ?_;refine a7 (ai ao) ?_;refine v3 ?_;refine a7 (ai ao) ?_;refine cA ?_;refine bH (d.out _) b (λw1 b=>?_);refine j0 _ 1 ((bound+43:Nat):Int) ?_;refine ag ?_;refine aI _ (te _ _ _ _ aa _ _ q aa aa h1 c ad) ?_;refine pad _ 1 ((q+1:Nat):Int) ?_;refine bU ?_;go_wp2_with fail;go_ret;exact⟨aa,b.only⟩
def adG B m d(first bound)w(c:Has w (aN B m d))(b:jA d first bound):
 aC ax 206 #[ar #[ay (ab ⟨B,0,af⟩),J R (first:Int),J R (bound:Int)]] w λe w'=>e=aB (J R (eo d.size bound:Int))/\au w w':=by
 have f:=hid c;clear c;go_enter func206,ntmps206;have a:=a8 w;go_step;refine ah ?_;refine bL a (ar #[ay (ab ⟨B,0,af⟩),J R (first:Int),J R (bound:Int)]) (λg w1 a=>?_);refine hI ?_;refine bN a [2,5] (λi _=>match i with|2=>J R (d.size:Int)|5=>J R (eo d.size bound:Int)|_=>a1) (λ_ _=>emp) (λ_=>[]) (λ|1=>[0]|4=>[0]|_=>[]) (λ_=>[]) [0,3,6] (λh=>?_);refine aJ ?_;refine dl 0 0 ?_;refine dA (λ_ _ a=>w8 B m d _ (f.out.aH a.only).dev b.dev) ?_;refine aJ ?_;refine dl 0 2 ?_;refine dA (λ_ _ _=>adI _ _ b.dev.kt b.dX b.dY _) ?_;refine aJ ?_;refine bQ λj a=>?_;replace a:=a.drop 1;replace a:=a.drop 1;go_wp2_with fail;go_ret;exact⟨aa,a.only⟩
def asK B m d(first bound)w(c:Has w (aN B m d))(b:jA d first bound):
 aC ax 128 #[ar #[ay (ab ⟨B,0,af⟩),J R (first:Int),J R (bound:Int)]] w λe w'=>e=aB (J R 0)/\au w w':=by
 obtain⟨hb1,hb2,hb3⟩:=b.small;have k:=b.fits;obtain⟨n,hn⟩:=ex (eo d.size bound);have o:1<=n:=by rw[<-hn];exact vA (cB _)
 rw[hn]at k;have j:aE (∀W,au w W->aC ax 206 #[ar #[ay (ab ⟨B,0,af⟩),J R (first:Int),J R (bound:Int)]] W λe w'=>e=aB (J R (n:Int))/\au W w'):=hid (λW g=>by have h:=adG B m d first bound W (c.aH g) b;rw[hn]at h;exact h);have f:=hid c;clear c hn;go_enter func128,ntmps128;have a:=a8 w;go_step;refine ah ?_;refine bL a (ar #[ay (ab ⟨B,0,af⟩),J R (first:Int),J R (bound:Int)]) (λl w1 a=>?_);refine ed ?_;refine bh a 0 #[ay (ab ⟨B,0,af⟩),J R (first:Int),J R (bound:Int)] ?_;refine bH (j _ a.only) a (λq a=>?_);refine cA ?_;refine pl a 0 0 ?_;refine pk (ai ao) ?_;refine cA ?_;refine a7 (ai ao) ?_;refine hI ?_;refine bN a [8,14] (λi _=>match i with|8=>J R (d.cnt:Int)|14=>J R (d.cnt:Int)|_=>a1) (λ_ _=>emp) (λ_=>[]) (λ|1=>[0]|5=>[0]|7=>[0]|13=>[0]|16=>[0]|_=>[]) (λ_=>[]) [0,9,15] (λp=>?_);refine aJ ?_;refine dl 0 1 ?_;refine aK (ai ao) (λ_ _ _=>by(go_simp;try omega)) ?_;refine bx ?_;refine dl 0 1 ?_;refine aJ ?_;refine dl 0 0 ?_;refine dA (λ_ _ a=>Ma B m d _ (f.out.aH a.only).dev b.dev) ?_;refine aK (ai ao) (λ_ _ _=>by(go_simp;try omega)) ?_;refine c5 ?_;refine dl 0 0 ?_;refine dA (λ_ _ a=>Ma B m d _ (f.out.aH a.only).dev b.dev) ?_;refine aJ ?_;refine dl 0 1 ?_;refine aK (J R ((d.cnt -first:Nat):Int)) (λ_ _ _=>ra 3 (bj 28) (bj 30) 3 aa ((d.cnt:Int)) ((first:Int)) ((d.cnt -first:Nat):Int) aa aa ad ad ad) ?_;refine aJ ?_;refine aK (J R ((2*n:Nat):Int)) (λ_ _ _=>ln 3 (.const (J R 2)) (bj 32) 3 aa 2 ((n:Int)) ((2*n:Nat):Int) aa aa ad ad ad) ?_;refine aK (ai ao) (λ_ _ _=>by(go_simp;try omega)) ?_;refine bx ?_;refine bQ λr a=>?_;replace a:=a.drop 1;replace a:=a.drop 1;refine ah ?_;refine ag ?_;refine an ?_;go_wp2_with fail;go_ret;exact⟨aa,a.only⟩
def adF B m d(first bound)w(c:Has w (aN B m d))(b:jA d first bound)(i:Nat)(hi:i<=1):
 aC ax 131 #[ar #[ay (ab ⟨B,0,af⟩),J R (first:Int),J R (bound:Int)],J R (i:Int)] w λe w'=>e=aB (gT ((ot d first bound i:Int),(tr d bound:Int)))/\au w w':=by
 obtain⟨hb1,hb2,hb3⟩:=b.small;have u:=b.fits;obtain⟨n,hn⟩:=ex (eo d.size bound);have C:1<=n:=by rw[<-hn];exact vA (cB _)
 rw[hn]at u;have q:aE (∀W,au w W->aC ax 206 #[ar #[ay (ab ⟨B,0,af⟩),J R (first:Int),J R (bound:Int)]] W λe w'=>e=aB (J R (n:Int))/\au W w'):=hid (λW g=>by have h:=adG B m d first bound W (c.aH g) b;rw[hn]at h;exact h);have j:=hid c;obtain⟨z,hz⟩:=ex (i*n);have D:z<=n:=by rw[<-hz];exact eb (oK _ hi) (Nat.le_of_eq (Nat.one_mul _))
 have l:(i:Int)*(n:Int)=(z:Int):=ad;obtain⟨o,ho⟩:=ex ((first+z)*d.size);have hoi:((first+z:Nat):Int)*(d.size:Int)=(o:Int):=ad;obtain⟨f,x⟩:=ex (n*d.size);have k:(n:Int)*(d.size:Int)=(f:Int):=ad;have y:=b.room hi;have bF:ot d first bound i=o:=by grind[ot]
 have cq:tr d bound=f:=by grind[tr]
 rw[bF,cq]at y⊢;have t:=hid l;have s:=hid hoi;have r:=hid k;clear c hn bF cq hz l ho hoi x k;go_enter func131,ntmps131;have a:=a8 w;go_step;refine ah ?_;refine bL a (ar #[ay (ab ⟨B,0,af⟩),J R (first:Int),J R (bound:Int)]) (λA w1 a=>?_);refine bn a #[J R 0,J R 0] (λp F a=>?_);refine ah ?_;refine bh a 1 #[ay (ab ⟨B,0,af⟩),J R (first:Int),J R (bound:Int)] ?_;refine bH (q _ a.only) a (λG a=>?_);refine hI ?_;refine bN a [8,13,16] (λi _=>match i with|8=>J R (d.size:Int)|13=>J R (d.size:Int)|_=>a1) (λ_=>λ|16=>aj p #[J R (o:Int),J R (f:Int)] 35|_=>emp) (λ|16=>[0]|_=>[]) (λ|1=>[1]|7=>[1]|12=>[1]|_=>[]) (λ_=>[]) [1,10,15,18] (λE=>?_);refine aJ ?_;refine dl 0 1 ?_;refine bx ?_;refine aK _ (λ_ _ _=>ln 3 _ _ 3 aa _ _ _ aa aa t ad ad) ?_;refine aK _ (λ_ _ _=>mw 3 _ _ 3 aa _ _ ((first+z:Nat):Int) aa aa ad ad ad) ?_;refine aJ ?_;refine dl 0 0 ?_;refine dA (λ_ _ a=>w8 B m d _ (j.out.aH a.only).dev b.dev) ?_;refine aK _ (λ_ _ _=>ln 3 _ _ 3 aa _ _ _ aa aa s ad ad) ?_;refine bx ?_;refine dl 0 0 ?_;refine dA (λ_ _ a=>w8 B m d _ (j.out.aH a.only).dev b.dev) ?_;refine aK _ (λ_ _ _=>ln 3 _ _ 3 aa _ _ _ aa aa r ad ad) ?_;refine aJ ?_;refine fY _ ?_;refine bQ λH a=>?_;replace a:=a.drop 1;replace a:=a.drop 1;go_wp2_with fail;refine c8 (v:=_) (gH aa _ _ _ _ _ _ _ aa (a.aV 1) yg aa aw) aa (⟨aa,a.only⟩)
def xO(L:List RecM):bu:=⟨λb=>∃x∈L,ej x.2.1 b,λw=>∀x∈L,eU 0 w x.2.1 x.2.2 x.1.data,λw w' h a c x hx=>(cz x.2.1 x.2.2 x.1.data).nG w w' (λb hb=>h b ⟨x,hx,hb⟩) (λb hb=>a b ⟨x,hx,hb⟩) (c x hx)⟩
def ak.avE{aq w FX l L r A c}(h:ak aq FX w (xO L::cz A c r.data::l)):ak aq FX w (xO (L++[(r,A,c)])::l):=
 h.star.as 0 aa (xO (L++[(r,A,c)])) (λh x hx=>by
  rcases iX.1 hx with hx|hx;·exact h.1 x hx
  .obtain rfl:x=(r,A,c):=aG;exact h.2.1) (λb ⟨x,hx,hb⟩=>by
  rcases iX.1 hx with hx|hx;·exact bZ ⟨x,hx,hb⟩
  .obtain rfl:x=(r,A,c):=aG;exact cc hb)
def avG L x:gm (L++[x])=gm L++[J aF x.1.seq,J aF x.1.id,J R x.1.cur,J R x.1.off,ae x.2.1 x.1.data.length x.2.2]:=by grind[gm]
def Bm(d:dF)(first bound i:Nat):Option Rec:=uo (pJ d (ot d first bound i) (tr d bound))
def Has.only{w w' t F}(h:Has w t)(g:av F w w')(hn:∀b,t.cU b->¬F b):Has w' t:=⟨t.only h.1 h.2 g hn,λb hb=>wY (h.2 b hb) g.size⟩
def w3(l:List Rec)(o:Option Rec):List Rec:=l++o.toList
def uU(B:Nat)(first bound:Nat)(id:Int)(a d dD b:Nat)(L:List RecM)(A:Option bT)(c:Nat):bu:=
 bY [aj a #[ay (ab ⟨B,0,af⟩)] 32,aj d #[ay (ab ⟨dD,0,af⟩)] 125,aj dD #[ay (ab ⟨B,0,af⟩),J R (first:Int),J R (bound:Int),J aF id,J aF 1,J aF 0,J aF 0,J R 0,J R 0,ae af 0 0,ai ao] 233,aj b #[ae A L.length c] 235,bg A L.length c 137 5 (gm L),xO L]
def auh B m d(first bound)id(j l dD k i:Nat)L A c w(hs:Has w (uU B first bound id j l dD k L A c))(hv:Has w (aN B m d))(U:∀b,(aN B m d).cU b->¬(uU B first bound id j l dD k L A c).cU b)(p:jA d first bound)(P:d.down=ao)(hi:i<=1)(cd:L.length<=2):
 aC ax 129 #[J R (i:Int),ay (ab ⟨j,0,af⟩),ay (ab ⟨l,0,af⟩),ay (ab ⟨k,0,af⟩)] w λe w'=>e=aB (J R 0)/\∃C,C.map (·.1)=w3 (L.map (·.1)) (Bm d first bound i)/\∃aL c2,aE (C.length=0->aL=A/\c2=c)/\Turned w w' (uU B first bound id j l dD k L A c) (uU B first bound id j l dD k C aL c2):=by
 obtain⟨hb1,hb2,hb3⟩:=p.small;have Q:=p.room hi;obtain⟨of,G⟩:=ex (ot d first bound i);obtain⟨f,F⟩:=ex (tr d bound);obtain⟨bs,E⟩:=ex (pJ d of f);have hbl:bs.length=f:=by rw[<-E];exact zC p.dev ad
 rw[G,F]at Q;obtain⟨y,V⟩:=ex (uo bs);have S:Bm d first bound i=y:=by grind[Bm]
 rw[S];have jy:aE (∀W,Has W (aN B m d)->aC ax 131 #[ar #[ay (ab ⟨B,0,af⟩),J R (first:Int),J R (bound:Int)],J R (i:Int)] W λe w'=>e=aB (ar #[J R (of:Int),J R (f:Int)])/\au W w'):=hid (λW h=>by have q:=adF B m d first bound W h p i hi;rw[G,F]at q;exact q);have Z:aE (∀W,Has W (aN B m d)->aC ax 130 #[dc B,ar #[J R (of:Int),J R (f:Int)]] W λe w'=>∃A c,e=aB (bo #[ae A f c,J R 0])/\cj W w' (cz A c bs)):=hid (λW h=>by have q:=aay B m d of f W h p.dev P Q;rw[E]at q;exact q);have K:aE (∀W aL c2,eU 0 W aL c2 bs->aC ax 132 #[ae aL f c2] W λe w'=>(∃r,y=ab r/\∃s v,e=aB (bo #[ar (recC r s v),J R 0])/\cj W w' (cz s v r.data))\/(y=af/\e=aB (bo #[ar N1,J R 19])/\au W w')):=hid (λW aL c2 h=>by have q:=avy aL c2 bs W ad h.2.2 h.1;rw[hbl,V]at q;exact q);have M:aE (∀W,av (uU B first bound id j l dD k L A c).cU w W->Has W (aN B m d)):=hid (λW g=>Has.only hv g U);clear hv U p P G F E V S hi;go_enter func129,ntmps129;have a:ak w (uU B first bound id j l dD k L A c).cU w [aj j #[ay (ab ⟨B,0,af⟩)] 32,aj l #[ay (ab ⟨dD,0,af⟩)] 125,aj dD #[ay (ab ⟨B,0,af⟩),J R (first:Int),J R (bound:Int),J aF id,J aF 1,J aF 0,J aF 0,J R 0,J R 0,ae af 0 0,ai ao] 233,aj k #[ae A L.length c] 235,bg A L.length c 137 5 (gm L),xO L]:=(ak.start (t:=bY _) hs).kI;go_step;refine ah ?_;refine hI ?_;refine bN a [6,7] (λi u=>match i with|6=>ar #[J R (of:Int),J R (f:Int)]|7=>bo #[ae u.A f u.c,J R 0]|_=>a1) (λx=>λ|7=>cz ((x 7).A) ((x 7).c) bs|_=>emp) (λ_=>[]) (λ|0=>[0]|1=>[1]|4=>[2]|_=>[]) (λ|7=>[7]|_=>[]) [0,1,2,3,4,5,12,13] (λx=>?_);refine dl 0 0 ?_;refine dl 0 0 ?_;refine bx ?_;refine eO 0 #[ay (ab ⟨B,0,af⟩),J R (first:Int),J R (bound:Int)] ?_;refine aJ ?_;refine dA (λ_ _ a=>jy _ (M _ a.only)) ?_;refine dh (λwl Fr a=>(Z _ (M _ a.only)).mono ?_) ?_;·rintro e dr ⟨X,kV,rfl,D⟩;exact⟨{A:=X,c:=kV},aa,a.new _ D⟩
 refine np ?_;refine bQ λw1 a=>?_;generalize (x 7).A=H at a⊢;generalize (x 7).c=N at a⊢;replace a:=a.drop 6;refine b5 ?_;refine pk (ai ao) ?_;refine an ?_;cases y with
 |none=>
  have z:aE (∀W aL c2,eU 0 W aL c2 bs->aC ax 132 #[ae aL f c2] W λe w'=>e=aB (bo #[ar N1,J R 19])/\au W w'):=hid (λW aL c2 h=>(K W aL c2 h).mono (λe w' hh=>aG));refine b5 ?_;refine bH (z.out _ H N (a.jW 6)) a (λaU a=>?_);refine v3 ?_;refine bn a #[J aF 0,J aF 0,J R 0,J R 0,ae af 0 0] (λY bI a=>?_);refine bb a 0 (ar #[J aF 0,J aF 0,J R 0,J R 0,ae af 0 0]) (λb9 a=>?_);refine cA ?_;refine pk (ai ao) ?_;refine ah ?_;refine ag ?_;refine an ?_;have o:=a.pk [1,2,3,4,5,6];replace o:ak _ _ _ [uU B first bound id j l dD k L A c]:=o.fP 6;go_wp2_with fail;go_ret;exact⟨aa,L,by simp[w3],A,c,(by first|exact hid (λ_=>⟨aa,aa⟩)|exact hid trivial),o.gu 0⟩
 |some r=>
  have z:aE (∀W aL c2,eU 0 W aL c2 bs->aC ax 132 #[ae aL f c2] W λe w'=>∃s v,e=aB (bo #[ar #[J aF r.seq,J aF r.id,J R r.cur,J R r.off,ae s r.data.length v],J R 0])/\cj W w' (cz s v r.data)):=hid (λW aL c2 h=>(K W aL c2 h).mono (λe w' hh=>aG));refine b5 ?_;refine aR (z.out _ H N (a.jW 6)) ?_;rintro e cE ⟨n,bt,rfl,D⟩;replace a:=a.new _ D;refine aT ?_;refine v3 ?_;refine bn a #[J aF 0,J aF 0,J R 0,J R 0,ae af 0 0] (λY cV a=>?_);refine bb a 0 (ar #[J aF r.seq,J aF r.id,J R r.cur,J R r.off,ae n r.data.length bt]) (λdJ a=>?_);refine cA ?_;refine pk (ai az) ?_;refine ah ?_;refine pl a 5 0 ?_;refine bh a 0 #[J aF r.seq,J aF r.id,J R r.cur,J R r.off,ae n r.data.length bt] ?_;refine e' a #[J aF r.seq,J aF r.id,J R r.cur,J R r.off,ae n r.data.length bt] 137 (λKu dB a=>?_);refine kd (m:=1) a 7 56 (aX.cellsOf (m:=1) (a.aV 0) aa) (by intro u T;simp only[gD,fS,or_false]at T;rcases T with rfl|rfl|rfl|rfl|rfl<;>rfl) (λI O eZ a=>?_) (hby:=by omega);refine bb a 6 (ae I (L.length+1) O) (λgV a=>?_);refine ah ?_;refine ag ?_;refine an ?_;replace a:=a.pk [8,2,3,4,5,6,7];replace a:=a.avE;have bF:gm L++[J aF r.seq,J aF r.id,J R r.cur,J R r.off,ae n r.data.length bt]=gm (L++[(r,n,bt)]):=(avG L (r,n,bt)).symm;have cq:L.length+1=(L++[(r,n,bt)]).length:=bc;rw[bF,cq]at a;have o:=a.pk [1,2,3,4,5,0];replace o:ak _ _ _ [uU B first bound id j l dD k (L++[(r,n,bt)]) I O]:=o.fP 6;go_wp2_with fail;go_ret;exact⟨aa,L++[(r,n,bt)],by simp[w3],_,_,(by first|exact hid (λh=>absurd h bc)|exact hid trivial|simp[az5]),o.gu 0⟩
structure pg where
 next:Int
 last:Rec
 has:Bool
def ayJ:Rec:=⟨0,0,0,0,[]⟩
def Rr:List Rec->Rec
 |[]=>ayJ
 |x::l=>l.foldl (λb y=>if y.seq>b.seq then y else b) x
def zu(id:Int)(l:List Rec):Rec×Bool:=(Rr (l.filter (λx=>!decide (x.id≠id))),decide (0<(l.filter (λx=>!decide (x.id≠id))).length))
theorem am0 L:(ju L).1=Rr (L.map (·.1)):=by
 cases L with
 |nil=>rfl
 |cons x L=>
  show(L.foldl _ x).1=(L.map _).foldl _ x.1;induction L generalizing x with
  |nil=>rfl
  |cons y L a=>
   rw[yG,kj,yG,a];congr 1;split<;>rfl
def aep id L:(xF id L).1.1=(zu id (L.map (·.1))).1/\(xF id L).2=(zu id (L.map (·.1))).2:=by
 have e:(L.map (·.1)).filter (λx=>!decide (x.id≠id))=(L.filter (λx=>!decide (x.1.id≠id))).map (·.1):=by rw[List.filter_map];rfl
 grind[xF,zu,am0]
def Dr:List Rec->Int
 |[]=>1
 |[a]=>aF.wrap (a.seq+1)
 |a::b::_=>aF.wrap (max a.seq b.seq+1)
def uX(d:dF)(first bound:Nat):List Rec:=w3 (w3 [] (Bm d first bound 0)) (Bm d first bound 1)
def sy(d:dF)(first bound:Nat)(id:Int):pg:=⟨Dr (uX d first bound),(zu id (uX d first bound)).1,(zu id (uX d first bound)).2⟩
def aeL d(first bound)id:(sy d first bound id).next =Dr (uX d first bound):=by rw[sy]
theorem T7 d(first bound)id:(sy d first bound id).last=(zu id (uX d first bound)).1:=by rw[sy]
theorem T6 d(first bound)id:(sy d first bound id).has=(zu id (uX d first bound)).2:=by rw[sy]
abbrev Ni(B first bound:Nat)(id:Int)(j:pg)(A:Option bT)(c:Nat):Array Value:=#[ay (ab ⟨B,0,af⟩),J R (first:Int),J R (bound:Int),J aF id,J aF j.next,J aF j.last.seq,J aF j.last.id,J R j.last.cur,J R j.last.off,ae A j.last.data.length c,ai j.has]
def qu(dD B first bound:Nat)(id:Int)(j:pg)(A:Option bT)(c:Nat):bu:=both (aj dD (Ni B first bound id j A c) 233) (cz A c j.last.data)
def kH{P o}{a:b3}{w}{g n c e sz i:Nat}{xs v ty x}(h:Row 0 w (ab ⟨g,0,af⟩) n c e sz xs)(hv:xs[i]?=ab v)(ho:o.op=.load ty x)(hx:a.eval x=ay (ab ⟨g,i,af⟩))(j:(P.underlying ty).map (λd=>d.isRow)=ab ao):(bz a.eval o).run P w=bf (da v) w:=by
 have hn:0<n:=by
  rcases l1 n with b|b;·have h1:=h.1;grind
  .omega
 obtain⟨g2,cur,cq,hb,_,_,_,f⟩:=h.blk hn;grind[fM]
def aoL{bs r}(h:uo bs=ab r):r.data.length<=bs.length:=by grind[uo,tv]
theorem afw{d first bound}(a:jA d first bound)r(h:r∈uX d first bound):r.data.length<=140737488355328:=by
 have key:∀i,i<=1->∀r,Bm d _ _ i=ab r->r.data.length<=140737488355328:=λi hi r hr=>by have h1:=aoL hr;have b:=a.room hi;have c:=a.small;rw[zC a.dev b]at h1;omega
 grind[uX,w3]
def JA(d:dF)(first bound:Nat):Nat->List Rec
 |0=>[]
 |j+1=>w3 (JA d first bound j) (Bm d first bound j)
def agn d(first bound):∀j,(JA d first bound j).length<=j
 |0=>b7 _
 |j+1=>by have:=agn d first bound j;rw[JA,w3,db];cases Bm d first bound j<;>simp<;>omega
def asL B m d(first bound)id w(hs:Has w (aN B m d))(hj:jA d first bound)(cp:d.down=ao):
 aC ax 54 #[dc B,J R (first:Int),J R (bound:Int),J aF id] w λe w'=>∃dD,e=aB (bo #[ay (ab ⟨dD,0,af⟩),J R 0])/\∃A c,cj w w' (qu dD B first bound id (sy d first bound id) A c):=by
 have jx:=hid (λW g=>asK B m d _ _ W (hs.aH g) hj);have qo:=hs.2;obtain⟨k,pw⟩:=ex (sy d first bound id);have S:=hid pw;rw[pw];clear pw;go_enter func54,ntmps54;have a:=a8 w;go_step;refine ah ?_;refine bL a (ay _) (λC w1 a=>?_);refine v2 ?_;refine ah ?_;refine pl a 0 0 ?_;refine v5 ?_;refine bL a (ar _) (λo aU a=>?_);refine bn a #[ay _] (λE bI a=>?_);refine bb a 0 (ay _) (λb9 a=>?_);refine ah ?_;refine pl a 0 0 ?_;refine v2 ?_;refine bh a 1 #[ay (ab ⟨B,0,af⟩),J R (first:Int),J R (bound:Int)] ?_;refine bH (jx _ a.only) a (λcE a=>?_);refine cA ?_;refine pk (ai ao) ?_;refine ah ?_;refine bn a #[ae af 0 0] (λz cV a=>?_);refine ah ?_;refine v2 ?_;refine ah ?_;refine ag ?_;refine an ?_;replace a:=(a.new (xO []) ⟨av.refl _ _,λx hx=>absurd hx fS,λb ⟨x,hx,_⟩=>absurd hx fS⟩).new (bg _ 0 0 137 5 []) ⟨av.refl _ _,Row.nil _ _ _ _,λb ⟨_,_,e⟩=>by cases e⟩;replace a:ak w (λ_=>False) cV [uU B _ _ id C E o z [] af 0]:=(a.pick (l':=[aj C _ 32,aj _ _ 125,aj o _ 233,aj z _ 235,bg af 0 0 137 5 [],xO []]) [5,3,4,2,0,1]).fP 6;go_wp2_with fail;go_loopw [34] (λt wr=>∃(j:Nat) (L:List RecM) (A:Option bT) (c:Nat),j<=2/\t=J R (j:Int)/\L.map (·.1)=(JA d first bound j)/\(L.length=0->A=af/\c=0)/\ak w (λ_=>False) wr [uU B first bound id C E o z L A c]) (λt wr=>2 -(bR t).toNat);case atStart=>exact⟨0,[],_,0,ad,rfl,rfl,λ_=>⟨aa,aa⟩,a⟩
 case round=>
  clear a;obtain⟨j,L,A,c,Fk,rfl,cd,G,a⟩:=hrel;have xd:L.length<=j:=by have h:=congrArg q3 cd;rw[hM]at h;rw[h];exact agn _ _ _ _
  by_cases hlt:j<2
  .have cf:(j:Int)<2:=ad
   have bW:aE (∀W,au w W->Has W _->(∀b,(uU B first bound id C E o z L A c).cU b->w.heap.size<=b)->aC ax 129 _ W λe w'=>e=aB (J R 0)/\∃s,s.map (·.1)=(JA d first bound (j+1))/\∃aL c2,(s.length=0->aL=af/\c2=0)/\Turned W w' _ (uU B first bound id C E o z s aL c2)):=hid (λW g h hf=>by have q:=auh B m d _ _ id _ _ _ _ j L A c W h (hs.aH g) (λb hb hb2=>by have h1:=hf b hb2;have F:=qo b hb;omega) hj cp ad ad;rw[cd]at q;exact q.mono (λe aU ⟨h1,s,F,aL,c2,h3,h4⟩=>⟨h1,s,F,aL,c2,λn=>by have Y:=congrArg q3 F;rw[hM,n]at Y;have h6:L.length=0:=(by rw[<-hM (f:=(·.1)),cd];unfold w3 at Y;rw[db]at Y;omega);exact⟨(h3 n).1.trans (G h6).1,(h3 n).2.trans (G h6).2⟩,h4⟩));clear cd xd G;go_step;refine ah ?_;refine ag ?_;refine ah ?_;refine v2 ?_;refine gW ?_;refine aR (bW.out _ a.only (a.has 0) (λb hb=>((a.low _ (ua.2 aa) b hb).2).resolve_right (λh=>h))) ?_;rintro e dJ ⟨rfl,s,E4,aL,c2,rk,bP⟩;replace a:=a.eQ 0 bP;refine aT ?_;refine cA ?_;refine pk (ai ao) ?_;refine ah ?_;refine pad (j:Int) 1 ((j+1:Nat):Int) ?_;refine bU ?_;go_wp2_with fail;go_roundw;case rel=>exact⟨j+1,s,aL,c2,ad,aa,E4,rk,a⟩
   case measure=>simp[bR]<;>omega
  .have cf:¬(j:Int)<2:=ad;obtain rfl:j=2:=ad;have H:L.map _=uX d _ _:=cd;have hX:∀x∈L,x.1.data.length<=140737488355328:=λx hx=>afw hj _ (by rw[<-H];exact List.mem_map_of_mem hx);have Eb:=hid hX;have I:=hid G;have vO:k.next=Dr (L.map (·.1)):=by rw[<-S,aeL,H]
   have iu:k.last=(xF id L).1.1/\k.has=(xF id L).2:=⟨by rw[<-S,(aep id L).1,H,T7],by rw[<-S,(aep id L).2,H,T6]⟩;have XS:=hid vO;have K:=hid iu;clear cd H hX G vO iu;go_step;refine ah ?_;refine bU ?_;replace a:=a.lX;refine ah ?_;refine pl a 3 0 ?_;refine eg ?_;go_wp2_with fail;go_loopw [46] (λt wr=>∃(q:Nat) (nx:Int),q<=L.length/\t=J R (q:Int)/\(L.length=0->nx=1)/\(q=1->L.length=1->nx=Dr (L.map (·.1)))/\ak w (λ_=>False) wr [aj C #[ay (ab ⟨B,0,af⟩)] 32,aj E #[ay (ab ⟨o,0,af⟩)] 125,aj o #[ay (ab ⟨B,0,af⟩),J R (first:Int),J R (bound:Int),J aF id,J aF nx,J aF 0,J aF 0,J R 0,J R 0,ae af 0 0,ai ao] 233,aj z #[ae A L.length c] 235,bg A L.length c 137 5 (gm L),xO L]) (λt wr=>L.length -(bR t).toNat);case atStart=>exact⟨0,1,ad,rfl,λ_=>rfl,λh=>absurd h ad,a⟩
   case round=>
    clear a;obtain⟨q,nx,hq,rfl,l8,oo,a⟩:=hrel;by_cases Is:q<L.length
    .have arv:(q:Int)<(L.length:Int):=ad;obtain⟨x,hx⟩:∃x,L[q]?=ab x:=⟨_,cF Is⟩;obtain⟨D,cur,M,kZ,_,_,_,_⟩:=(a.atR 4).blk ad;have dH:=hid (Ut L q x hx);have hx0:q=0->L.length=1->Dr (L.map (·.1))=aF.wrap (x.1.seq+1):=λh h1=>by subst h;obtain⟨y,hy⟩:=List.length_eq_one_iff.1 h1;subst hy;injection hx with hx;subst hx;rfl
     have aly:=hid hx0;have az2:=hid l8;have az3:=hid oo;have cv:=hid M;clear hx kZ M l8 oo hx0;go_step;refine ah ?_;refine cA ?_;refine aI (ay (ab ⟨D,(q*5),af⟩)) (b4 235 137 5 (bj 44) (bj 46) aa yf aw D 0 (L.length) c q ((q*5)) (by show ae A _ _=_;rw[cv]) aa Is ad) ?_;refine aI _ (by(refine e5 137 _ aa D _ aa _ (Row.range (a.atR 4) cv (λi v hi=>dH i v hi)) Pw aa aw)) ?_;refine bn a #[J _ 0,J _ 0,J _ 0,J _ 0,ae _ 0 0] (λOW dB a=>?_);refine ag ?_;refine bb a 0 (ar _) (λeZ a=>?_);refine an ?_;by_cases uG:q=0
     .have N:(q:Int)=0:=ad;refine cx ?_;refine bN a [] (λ_ _=>a1) (λ_ _=>emp) (λ_=>[]) (λ_=>[]) (λ_=>[]) [0,1,2,3,4,5,6] (λl=>?_);refine aJ ?_;refine aK (ai az) (λ_ _ _=>by(go_simp;try simp[N])) ?_;refine aJ ?_;iterate 7 refine ds ?_
      refine fJ (ai az) ?_;refine bQ λgV a=>?_;refine ah ?_;refine pl a 2 0 ?_;refine ag ?_;refine pl a 0 0 ?_;refine pk (J aF (aF.wrap (x.1.seq+1))) ?_;refine v2 ?_;refine bb a 3 (J _ _) (λhZ a=>?_);refine an ?_;have ala:=hid uG;clear N uG;refine ah ?_;refine pad (q:Int) 1 ((q+1:Nat):Int) ?_;refine bU ?_;go_wp2_with fail;go_roundw;case rel=>exact⟨q+1,_,ad,rfl,λh=>absurd h ad,λ_ h=>(aly ala h).symm,a.pick [1,2,3,4,5,6]⟩
      case measure=>simp[bR]<;>omega
     .have N:¬(q:Int)=0:=ad;obtain⟨du,hcb⟩:=ex (decide (nx<=x.1.seq));have wO:=hid hcb;clear hcb;refine cx ?_;refine bN a [] (λ_ _=>a1) (λ_ _=>emp) (λ_=>[]) (λ|4=>[0]|5=>[2]|8=>[3]|_=>[]) (λ_=>[]) [0,1,2,3,4,5,6] (λl=>?_);refine aJ ?_;refine aK (ai ao) (λ_ _ _=>by(go_simp;try simp[N])) ?_;refine bx ?_;refine dl 0 0 ?_;refine dl 0 0 ?_;refine bx ?_;refine dl 0 4 ?_;refine aK (ai du) (λ_ _ _=>by(have h:=wO.out;first|(go_simp;done)|(go_simp;rw[<-h];done)|(go_simp;simp[<-h]))) ?_;refine fJ (ai du) ?_;refine bQ λjQ a=>?_;cases du with
      |true=>
       refine ah ?_;refine pl a 2 0 ?_;refine ag ?_;refine pl a 0 0 ?_;refine pk (J aF (aF.wrap (x.1.seq+1))) ?_;refine v2 ?_;refine bb a 3 (J _ _) (λke a=>?_);refine ah ?_;refine pad (q:Int) 1 ((q+1:Nat):Int) ?_;refine bU ?_;go_wp2_with fail;go_roundw;case rel=>exact⟨q+1,_,ad,rfl,λh=>absurd h ad,λh=>absurd h ad,a.pick [1,2,3,4,5,6]⟩
       case measure=>simp[bR]<;>omega
      |false=>
       refine ah ?_;refine pad (q:Int) 1 ((q+1:Nat):Int) ?_;refine bU ?_;go_wp2_with fail;go_roundw;case rel=>exact⟨q+1,nx,ad,rfl,λh=>absurd h ad,λh=>absurd h ad,a.pick [1,2,3,4,5,6]⟩
       case measure=>simp[bR]<;>omega
    .have arv:¬(q:Int)<(L.length:Int):=ad;obtain rfl:q=L.length:=ad;go_step;refine ah ?_;refine bU ?_;by_cases F:L.length=2
     .have aqn:(L.length:Int)=2:=ad;obtain⟨r,cX,rfl⟩:∃r cX,L=[r,cX]:=by rcases L with _|⟨r,_|⟨cX,_|⟨bk,L⟩⟩⟩<;>first|exact⟨_,_,aa⟩|(simp at F)
      obtain⟨D,cur,M,_,_,_,_,_⟩:=(a.atR 4).blk (Lw _);subst M;have xd:=b7 2;skip;refine ah ?_;refine pl a 3 0 ?_;refine ag ?_;refine pk (ai az) ?_;refine cx ?_;refine bN a [13] (λ_ _=>a1) (λ_=>λ|13=>aj o #[ay (ab ⟨B,0,af⟩),J R (first:Int),J R (bound:Int),J aF id,J aF (aF.wrap (max r.1.seq cX.1.seq+1)),J aF 0,J aF 0,J R 0,J R 0,ae af 0 0,ai ao] 233|_=>emp) (λ|13=>[2]|_=>[]) (λ|0=>[1]|1=>[3]|4=>[4]|5=>[3]|8=>[4]|_=>[]) (λ_=>[]) [0,1,3,4,5,19] (λl=>?_);refine dl 0 0 ?_;refine dl 0 0 ?_;refine aK _ (λ_ _ _=>b4 235 137 5 _ _ aa yf aw D 0 2 c 0 0 aa aa aS aa) ?_;refine aJ ?_;refine aK _ (λ_ _ a=>kH (a.atR 0) (i:=0) aa aa aa aw) ?_;refine dl 0 0 ?_;refine aK _ (λ_ _ _=>b4 235 137 5 _ _ aa yf aw D 0 2 c 1 5 aa aa aS aa) ?_;refine aJ ?_;refine aK _ (λ_ _ a=>kH (a.atR 0) (i:=5) aa aa aa aw) ?_;refine aK _ (λ_ _ _=>by(go_simp;try with_reducible rfl)) ?_;refine fJ (J aF (aF.wrap (max r.1.seq cX.1.seq+1))) ?_;refine bx ?_;refine fY _ ?_;refine bQ λk8 a=>?_;have hQ:aF.wrap (max r.1.seq cX.1.seq+1)=k.next:=by rw[XS];rfl
      have Si:([r,cX]).length<=1073741824:=by show 2<=_;omega
      have T:aE (∀W,Row 0 W _ _ c 137 5 _->(xO _).p W->aC _ 133 _ W λe w'=>∃O U,e=aB (bo #[ar #[J aF _,J aF _,J R _,J R _,ae O _ U],ai _])/\cj W w' _):=hid (λW h hd=>by have q:=aeq id _ c _ W Si h (λn=>(I n).1) (λn=>(I n).2) (λx hx=>⟨(hd x hx).1,Eb x hx⟩);rw[<-K.1,<-K.2]at q;exact q);refine cx ?_;refine bN a [4,10,13] (λi u=>match i with|4=>bo #[ar #[J aF k.last.seq,J aF k.last.id,J R k.last.cur,J R k.last.off,ae u.A k.last.data.length u.c],ai k.has]|_=>a1) (λl=>λ|4=>cz ((l 4).A) ((l 4).c) k.last.data|10=>aj o #[ay (ab ⟨B,0,af⟩),J R (first:Int),J R (bound:Int),J aF id,J aF (aF.wrap (max r.1.seq cX.1.seq+1)),J aF k.last.seq,J aF k.last.id,J R k.last.cur,J R k.last.off,ae (l 4).A k.last.data.length (l 4).c,ai ao] 233|13=>aj o #[ay (ab ⟨B,0,af⟩),J R (first:Int),J R (bound:Int),J aF id,J aF (aF.wrap (max r.1.seq cX.1.seq+1)),J aF k.last.seq,J aF k.last.id,J R k.last.cur,J R k.last.off,ae (l 4).A k.last.data.length (l 4).c,ai k.has] 233|_=>emp) (λ|10=>[5]|13=>[16]|_=>[]) (λ|0=>[1]|1=>[1]|3=>[2]|4=>[3,4]|_=>[]) (λ|4=>[4]|10=>[4]|13=>[4]|_=>[]) [0,1,2,3,4,10,19] (λl=>?_);refine dl 0 0 ?_;refine dl 0 0 ?_;refine aJ ?_;refine dl 0 0 ?_;refine dh (λwl Fr a=>(T _ (a.atR 0) (a.at 1)).mono ?_) ?_;·rintro e dr ⟨Q,X,rfl,Z⟩;exact⟨{A:=Q,c:=X},aa,a.new _ Z⟩
      refine np ?_;refine fY _ ?_;refine bx ?_;refine fY _ ?_;refine bQ λmn a=>?_;generalize (l 4).A=P at a⊢;generalize (l 4).c=V at a⊢;refine ah ?_;refine pl a 1 0 ?_;refine eg ?_;replace a:=(a.pick (l':=[aj o _ 233,cz P V _]) [6,5]).star;rw[hQ]at a;go_wp2_with fail;go_ret2;exact⟨_,aa,_,_,a.fresh 0⟩
     .have aqn:¬(L.length:Int)=2:=ad;refine ah ?_;refine pl a 3 0 ?_;refine ag ?_;refine a7 (ai ao) ?_;refine an ?_
      have hQ:nx=k.next:=by
       rw[XS];rcases l1 L.length with n|n;·rw[l8 n,j8 n];rfl
       .exact oo ad ad
      have Si:(L).length<=1073741824:=ad;have T:aE (∀W,Row 0 W A _ c 137 5 _->(xO L).p W->aC _ _ _ W λe w'=>∃O U,e=aB (bo #[ar #[J _ _,J _ _,J _ _,J _ _,ae O _ U],ai _])/\cj W w' _):=hid (λW h hd=>by have q:=aeq id A c L W Si h (λn=>(I n).1) (λn=>(I n).2) (λx hx=>⟨(hd x hx).1,Eb x hx⟩);rw[<-K.1,<-K.2]at q;exact q);refine cx ?_;refine bN a [4,10,13] (λi u=>match i with|4=>bo #[ar #[J aF k.last.seq,J aF k.last.id,J R k.last.cur,J R k.last.off,ae u.A k.last.data.length u.c],ai k.has]|_=>a1) (λl=>λ|4=>cz ((l 4).A) ((l 4).c) k.last.data|10=>aj o #[ay (ab ⟨B,0,af⟩),J R (first:Int),J R (bound:Int),J aF id,J aF nx,J aF k.last.seq,J aF k.last.id,J R k.last.cur,J R k.last.off,ae (l 4).A k.last.data.length (l 4).c,ai ao] 233|13=>aj o #[ay (ab ⟨B,0,af⟩),J R (first:Int),J R (bound:Int),J aF id,J aF nx,J aF k.last.seq,J aF k.last.id,J R k.last.cur,J R k.last.off,ae (l 4).A k.last.data.length (l 4).c,ai k.has] 233|_=>emp) (λ|10=>[2]|13=>[16]|_=>[]) (λ|0=>[1]|1=>[1]|3=>[3]|4=>[4,5]|_=>[]) (λ|4=>[4]|10=>[4]|13=>[4]|_=>[]) [0,1,3,4,5,10,19] (λl=>?_);refine dl 0 0 ?_;refine dl 0 0 ?_;refine aJ ?_;refine dl 0 0 ?_;refine dh (λwl Fr a=>(T _ (a.atR 0) (a.at 1)).mono ?_) ?_;·rintro e dr ⟨Q,X,rfl,Z⟩;exact⟨{A:=Q,c:=X},aa,a.new _ Z⟩
      refine np ?_;refine fY _ ?_;refine bx ?_;refine fY _ ?_;refine bQ λnn a=>?_;generalize (l 4).A=P at a⊢;generalize (l 4).c=V at a⊢;refine ah ?_;refine pl a 1 0 ?_;refine eg ?_;replace a:=(a.pick (l':=[aj _ _ 233,cz P V _]) [6,5]).star;rw[hQ]at a;go_wp2_with fail;go_ret2;exact⟨_,aa,_,_,a.fresh 0⟩
def aqi(n:Nat)w(h1:n<=140737488355328):
 aC ax 185 #[ae af 0 0,J R (n:Int)] w λe w'=>∃A c,e=aB (ae A 0 c)/\Row w.heap.size w' A 0 c 5 1 []/\au w w':=
 (aaL n w h1).mono (λe w' ⟨v,h1,a,b⟩=>by
  rcases a.2 with⟨rfl,_⟩|⟨g,cap,cur,rfl,_⟩;·grind
  .grind)
def am6{P o}{a:b3}{w}t(x y)d(ho:o.op=.binOp .rem t x y d)(p:Nat)(hx:a.eval x=J aF (p:Int))(c:a.eval y=J aF 2):
 (bz a.eval o).run P w=bf (da (J aF ((p%2:Nat):Int))) w:=by
 have b:(p:Int).tmod 2=((p%2:Nat):Int):=ba;unfold bz;simp[ho,hx,c,eqGuard,binOp,Op.intDiv,b]
def anZ w:
 aC ax 93 #[ae af 0 0] w λe w'=>∃A c,e=aB (ae A 0 c)/\Row w.heap.size w' A 0 c 5 1 []/\au w w':=by
 go_enter func93,ntmps93;have a:=a8 w;go_step;refine ah ?_;refine ag ?_;refine ah ?_;refine ag ?_;refine ah ?_;refine v3 ?_;refine an ?_;go_wp2_with fail;go_loopw [3,11] (λd b wr=>d=J R 0/\b=J R 0/\ak w (λ_=>False) wr []) (λd b wr=>0);case atStart=>grind
 case round=>
  clear a;obtain⟨rfl,rfl,a⟩:=hrel;go_step;refine ah ?_;refine cA ?_;refine aR (aqi 0 _ ad) ?_;rintro e w1 ⟨f,bH,rfl,h,g⟩;replace a:=a.lz g h;refine aT ?_;refine ag ?_;refine ah ?_;refine v3 ?_;refine an ?_;go_wp2_with fail;go_loopw [6,27] (λd b wr=>d=ae f 0 bH/\b=J R 0/\ak w (λ_=>False) wr [bg f 0 bH 5 1 []]) (λd b wr=>0);case atStart=>grind
  case round=>
   clear a;obtain⟨rfl,rfl,a⟩:=hrel;go_step;refine ah ?_;refine ag ?_;refine ah ?_;refine eg ?_;go_wp2_with fail;go_ret;exact⟨f,bH,aa,(a.fresh 0).row,a.only⟩
def Ty(dD B first bound)id j A c w(b:Has w (qu dD B first bound id j A c))(o:j.last.data.length<=140737488355328):
 aC ax 58 #[ay (ab ⟨dD,0,af⟩)] w λe w'=>match j.has with|false=>e=aB (bo #[ar N1,ai ao])/\au w w'|true=>∃d f,e=aB (bo #[ar (recC j.last d f),ai az])/\cj w w' (cz d f j.last.data):=by
 have q:=hid b;cases hh:j.has with
 |false=>
  have i:aE (aX w dD _ 233):=hid (by have h:=b.1.1;rw[Ni,hh]at h;exact h);clear b hh;go_enter Tryz.func58,Tryz.ntmps58;have a:=a8 w;go_step;refine ah ?_;refine bn a #[J _ 0,J _ 0,J _ 0,J _ 0,ae _ 0 0] (λk w1 a=>?_);refine cA ?_;refine pk (ai ao) ?_;refine v4 ?_;refine jf i a.only ?_;refine DN ?_;refine bb a 0 (ar #[J aF 0,J aF 0,J R 0,J R 0,ae af 0 0]) (λr a=>?_);refine bU ?_;go_wp2_with fail;refine c8 (v:=_) (ml aa aa aa (a.aV 0) aw aw) aa (⟨aa,a.only⟩)
 |true=>
  have i:aE (aX w dD _ 233):=hid (by have h:=b.1.1;rw[Ni,hh]at h;exact h);have l:aE (∀W,au w W->aC _ 65 _ W λe w'=>∃d f,e=aB _/\eU _ w' d f _/\au W w'):=hid (λW g=>(w6 A c _ W (b.1.2.1.1.aH g) o).mono (λe w' ⟨d,f,h1,m,n⟩=>⟨d,f,h1,Row.nj m,n⟩));clear b hh;go_enter Tryz.func58,Tryz.ntmps58;have a:=a8 w;go_step;refine ah ?_;refine bn a #[J _ 0,J _ 0,J _ 0,J _ 0,ae _ 0 0] (λk s a=>?_);refine cA ?_;refine pk (ai ao) ?_;refine v4 ?_;refine jf i a.only ?_;refine v2 ?_;refine jk ?_;refine aI (ar #[J aF j.last.seq,J aF j.last.id,J R j.last.cur,J R j.last.off,ae A j.last.data.length c]) (mG (cs':=#[J aF j.last.seq,J aF j.last.id,J R j.last.cur,J R j.last.off,ae A j.last.data.length c]) aa aa (aX.aH i.out a.only) aw (of_decide_eq_true aw) aw aw) ?_;refine bn a #[J _ 0,J _ 0,J _ 0,J _ 0,ae _ 0 0] (λp t a=>?_);refine bb a 0 (ar _) (λu a=>?_);refine b5 ?_;refine pl a 0 4 ?_;refine aR (l _ a.only) ?_;rintro e x ⟨aL,c2,rfl,b,g⟩;replace a:=a.lS g b;refine aT ?_;refine ag ?_;refine bb a 1 (ae aL _ c2) (λy a=>?_);refine ah ?_;refine bh a 1 #[J aF j.last.seq,J aF j.last.id,J R j.last.cur,J R j.last.off,ae aL j.last.data.length c2] ?_;refine bb a 2 (ar _) (λz a=>?_);refine bU ?_;go_wp2_with fail;refine c8 (v:=_) (ml aa aa aa (a.aV 2) aw aw) aa (⟨aL,c2,aa,a.fresh 0⟩)
def iG(d:dF)(first bound:Nat)(id:Nat)(j:pg)(nx cu of:Nat)(ds:List Int):Int×pg×dF:=
 let wr:=lO d (ot d first bound (nx%2)) (sg nx id cu of ds)
 if wr.1≠0 then(wr.1,j,wr.2)
 else if(lN wr.2).1≠0 then((lN wr.2).1,j,(lN wr.2).2)
 else(0,⟨aF.wrap ((nx:Int)+1),⟨(nx:Int),(id:Int),(cu:Int),(of:Int),ds⟩,az⟩,(lN wr.2).2)
theorem amF(a b c d e):(ja [(a,8),(b,8),(c,8),(d,8),(e,4)]).length=36:=ba
theorem Mg(nx id cu of)ds:(sg nx id cu of ds).length=44+ds.length:=by unfold sg Bi F9 tt L7;grind[jV,amF]
def aaA{d o bs}(a:dt d)(hn:o+bs.length<=d.bytes.length)(b:d.down=ao)(e:d.cache.length<=1000000000):dt (lO d o bs).2:=by
 have hsm:d.bytes.length<=1048576:=by rw[a.len];exact a.small
 have key:∀(l:List _) k cr,Cp d cr k->d.cache.length+k+l.length<1073741824->dt (l.foldl (k9 o bs) (0,cr)).2:=by
  intro l;induction l with
  |nil=>intro k cr h _;exact h.ok
  |cons x l g=>
   intro k cr h hk;rw[jV]at hk;rw[yG];by_cases hx:(k9 o bs (0,cr) x).1=0;·have c:=h.step ad hx;grind
   .rw[JT l _ hx];unfold k9;rw[if_neg bc];exact Vb h.ok _ _ (by have:=h.dL;omega)
 refine key _ 0 d ⟨a,aa,aa,b,b7 _⟩ ?_
 have f:(mK d.size o bs.length).length<=d.bytes.length+1:=by
  rw[mK,hM,Ey];unfold dV;split;·omega
  .exact vA (eb (EA _ _) (eb (vy _ _) ad))
 omega
def adE (dD B first bound id nx cu of:Nat) j A c m d ds afn w (hs:Has w (both (qu dD B first bound (id:Int) j A c) (aN B m d))) (O:j.next=(nx:Int)) (r:jA d first bound) (M:d.down=ao) (N:d.cache.length<=1000000000) (qh:ds.length<=bound) (D:nx<18446744073709551616/\id<18446744073709551616/\cu<=4611686018427387903/\of<=4611686018427387903)
 (hp:∀W,av (both (qu dD B first bound (id:Int) j A c) (aN B m d)).cU w W->aC ax 93 #[afn] W λe w'=>∃E F,e=aB (ae E ds.length F)/\eU W.heap.size w' E F ds/\au W w'):
 aC ax 227 #[ay (ab ⟨dD,0,af⟩),J R (cu:Int),J R (of:Int),afn] w λe w'=>e=aB (J R (iG d first bound id j nx cu of ds).1)/\∃E F aY,Turned w w' (both (qu dD B first bound (id:Int) j A c) (aN B m d)) (both (qu dD B first bound (id:Int) (iG d first bound id j nx cu of ds).2.1 E F) (aN B aY (iG d first bound id j nx cu of ds).2.2)):=by
 obtain⟨hb1,hb2,hb3⟩:=r.small;have xn:nx%2<=1:=ad;have Fy:=r.room xn;obtain⟨z,P⟩:=ex (ot d first bound (nx%2));obtain⟨Q,G⟩:=ex (tr d bound);have nc:bound+44<=Q:=by rw[<-G];exact aw9 r.dev.kt
 rw[P,G]at Fy;obtain⟨bs,Y⟩:=ex (sg nx id cu of ds);have hbl:bs.length=44+ds.length:=by grind[Mg]
 obtain⟨bt,Z⟩:=ex ((lO d z bs).1);obtain⟨o,L⟩:=ex ((lO d z bs).2);obtain⟨k,hce⟩:=ex ((lN o).1);obtain⟨n,Fb⟩:=ex ((lN o).2);have sq:dt o:=by rw[<-L];exact aaA r.dev ad M N
 have aA3:=r.dY;have hap:iG d first bound id j nx cu of ds=if bt≠0 then(bt,j,o)else if k≠0 then(k,j,n)else(0,⟨aF.wrap ((nx:Int)+1),⟨(nx:Int),(id:Int),(cu:Int),(of:Int),ds⟩,az⟩,n):=by grind[iG]
 have b1:=hid hp;have G1:=hid (λW ac ca h=>by have q:=avM nx id cu of ac ca ds W ⟨D.1,D.2.1,D.2.2.1,D.2.2.2,ad⟩ h;rw[Y]at q;exact q);have jy:aE (∀W,Has W _->aC _ 131 _ W λe w'=>e=aB (ar #[J _ (z:Int),J R (Q:Int)])/\au W w'):=hid (λW h=>by have q:=adF B m d _ _ W h r _ xn;rw[P,G]at q;exact q);have s6:=hid (λW p fW du h I h3 h4 h5=>by have q:=aaD B m d z p fW du bs W h r.dev M ad N I h3 h4 h5;rw[Z,L]at q;exact q);have lZ:=hid (λW S h=>by have q:=ZZ B S o W h sq;rw[hce,Fb]at q;exact q);have x:=hid hap;have lf:=hid hbl;clear hbl hp D P G Y Z L hce Fb hap sq r M N;go_enter func227,ntmps227;have a:ak w (both (qu dD B first bound (id:Int) j A c) (aN B m d)).cU w [aj dD #[ay (ab ⟨B,0,af⟩),J R (first:Int),J R (bound:Int),J aF (id:Int),J aF (nx:Int),J aF j.last.seq,J aF j.last.id,J R j.last.cur,J R j.last.off,ae A j.last.data.length c,ai j.has] 233,cz A c j.last.data,aN B m d]:=by have h:=(ak.start (t:=_) hs).fw.fw;rw[Ni,O]at h;exact h
 go_step;refine ah ?_;refine cA ?_;refine pk (ai ao) ?_;refine cx ?_;refine bN a [11,13,14] (λi u=>match i with|11=>ae u.A ds.length u.c|13=>ay (ab ⟨u.b,0,af⟩)|_=>a1) (λf=>λ|11=>cz ((f 11).A) ((f 11).c) ds|13=>aj ((f 13).b) #[J aF 0,J aF 0,J R 0,J R 0,ae af 0 0] 137|14=>aj ((f 13).b) #[J aF (nx:Int),J aF (id:Int),J R (cu:Int),J R (of:Int),ae (f 11).A ds.length (f 11).c] 137|_=>emp) (λ|14=>[16]|_=>[]) (λ|3=>[0]|7=>[0]|_=>[]) (λ|11=>[11]|13=>[13]|14=>[11,13]|_=>[]) [0,1,2,14,17] (λf=>?_);refine c5 ?_;refine dl 0 4 ?_;refine c5 ?_;refine dl 0 3 ?_;refine c5 ?_;refine dh (λwl Fr a=>(b1 _ a.only).mono ?_) ?_;·rintro e dr ⟨nU,anv,rfl,uJ,g⟩;exact⟨{A:=nU,c:=anv},aa,a.lS g uJ⟩
 refine aJ ?_;refine se _ ?_;refine fY _ ?_;refine bQ λw1 a=>?_;generalize (f 11).A=T at a⊢;generalize (f 11).c=V at a⊢;generalize (f 13).b=j1 at a⊢;refine ah ?_;refine bh a 4 #[J aF (nx:Int),J aF (id:Int),J R (cu:Int),J R (of:Int),ae T ds.length V] ?_;refine aR (G1 _ _ _ (a.jW 3).1) ?_;rintro e aU ⟨U,X,rfl,hF⟩;replace a:=a.new _ hF;refine aT ?_;refine v5 ?_;refine cx ?_;refine bN a [] (λ_ _=>a1) (λ_ _=>emp) (λ_=>[]) (λ|4=>[5]|10=>[1]|_=>[]) (λ_=>[]) [0,1,2,3,4,5] (λf=>?_);refine aJ ?_;refine fJ (ai ao) ?_;refine bx ?_;refine dl 0 4 ?_;refine np ?_;refine dl 0 2 ?_;refine aK (ai ao) (λ_ _ _=>by(go_simp;try omega)) ?_;refine aJ ?_;refine bQ λbI a=>?_;refine cx ?_;refine bN a [15,18,19] (λi u=>match i with|15=>ar #[J R (z:Int),J R (Q:Int)]|18=>ae (ab ⟨u.b,0,af⟩) 1 1|19=>J R bt|_=>a1) (λf=>λ|18=>aj ((f 18).b) #[ae U bs.length X] 22|19=>aN B (f 19).m o|_=>emp) (λ|19=>[3]|_=>[]) (λ|4=>[1]|8=>[1]|12=>[1]|15=>[3]|19=>[0,24]|_=>[]) (λ|18=>[18]|19=>[19]|_=>[]) [0,1,2,4,5,21,24,25] (λf=>?_);refine hG ?_;refine dl 0 0 ?_;refine c5 ?_;refine eO 0 #[ay (ab ⟨B,0,af⟩),J R (first:Int),J R (bound:Int)] ?_;refine c5 ?_;refine dl 0 4 ?_;refine aK _ (λ_ _ _=>am6 _ _ _ _ aa nx aa aa) ?_;refine aK (J R ((nx%2:Nat):Int)) (λ_ _ _=>by(go_simp;exact IntWalk.i64_in _ ad)) ?_;refine dA (λ_ _ a=>jy _ (a.has 0)) ?_;refine fJ (J R (z:Int)) ?_;refine aJ ?_;refine kD _ 22 ?_;refine dh (λwl Fr a=>(s6.out _ _ U X (a.has 0) (aX.cell (a.aV 2) 0 aa) (λh=>a.ne (i:=0) (j:=2) aa aa aS _ h aa) (a.jW 1).1 (λy h1 I=>a.ne (i:=1) (j:=0) aa aa aS _ h1 I)).mono ?_) ?_;·rintro e dr ⟨rfl,S,K⟩;exact⟨{m:=S},aa,a.xV K⟩
 refine aJ ?_;refine bQ λb9 a=>?_;generalize (f 18).b=azj at a⊢;generalize (f 19).m=aB9 at a⊢;replace a:=a.drop 5;by_cases hz:bt=0
 .have hc1:(if bt≠0 then(bt,j,o)else if k≠0 then(k,j,n)else(0,(⟨_,_,az⟩:pg),n))=if k≠0 then(k,j,n)else(0,(⟨aF.wrap ((nx:Int)+1),⟨(nx:Int),(id:Int),(cu:Int),(of:Int),ds⟩,az⟩:pg),n):=if_neg (λh=>h hz);have s:=hid hc1;clear hc1;subst hz;refine b5 ?_;refine pk (ai ao) ?_;refine o8 ?_;refine pl a 1 0 ?_;refine aR (lZ _ _ (a.has 6)) ?_;rintro e cE ⟨rfl,m3,K⟩;replace a:=a.eQ 6 K;refine Gr ?_;by_cases H:k=0;·have C:=hid (show(if k≠0 then(k,j,n)else(0,(⟨aF.wrap ((nx:Int)+1),⟨(nx:Int),(id:Int),(cu:Int),(of:Int),ds⟩,az⟩:pg),n))=_ from if_neg (λh=>h H));subst H;refine b5 ?_;refine pk (ai ao) ?_;refine gW ?_;refine bh a 4 #[J aF (nx:Int),J aF (id:Int),J R (cu:Int),J R (of:Int),ae T ds.length V] ?_;refine v2 ?_;refine bb a 1 (ar _) (λcV a=>?_);refine v2 ?_;refine bb a 1 (ai _) (λdJ a=>?_);refine jk ?_;refine pl a 1 4 ?_;refine pk (J aF (aF.wrap ((nx:Int)+1))) ?_;refine v2 ?_;refine bb a 1 (J _ _) (λdB a=>?_);refine ah ?_;refine ag ?_;refine an ?_;have v:=a.pk [1,3,6];go_wp2_with fail;go_ret;exact⟨by rw[x,s,C];rfl,_,_,m3,by rw[x.out,s.out,C.out];refine ak.gu (l:=[_]) (i:=0) ?_;show ak _ _ _ [both (both (aj dD _ _) (cz _ _ _)) (aN B _ _)];exact v.star.star⟩
  .have C:=hid (show(if k≠0 then(k,j,n)else(0,(⟨aF.wrap ((nx:Int)+1),⟨(nx:Int),(id:Int),(cu:Int),(of:Int),ds⟩,az⟩:pg),n))=_ from if_pos H);have asb:=H;refine b5 ?_;refine aI (ai az) (by(go_simp;try simp[asb])) ?_;refine ah ?_;refine eg ?_;have v:=a.pk [1,2,6];rw[<-O]at v;go_wp2_with fail;go_ret;exact⟨by rw[x,s,C];rfl,A,c,m3,by rw[x,s,C];refine ak.gu (l:=[_]) (i:=0) ?_;show ak _ _ _ [both (both (aj dD _ _) (cz _ _ _)) (aN B _ _)];exact v.star.star⟩
 .have s:=hid (show(if bt≠0 then(bt,j,o)else if k≠0 then(k,j,n)else(0,(⟨aF.wrap ((nx:Int)+1),⟨(nx:Int),(id:Int),(cu:Int),(of:Int),ds⟩,az⟩:pg),n))=_ from if_pos hz);have Nf:=hz;refine b5 ?_;refine aI (ai az) (by(go_simp;try simp[Nf])) ?_;refine ah ?_;refine eg ?_;have v:=a.pk [1,2,6];rw[<-O]at v;go_wp2_with fail;go_ret;exact⟨by rw[x,s];rfl,A,c,_,by rw[x.out,s.out];refine ak.gu (l:=[_]) (i:=0) ?_;show ak _ _ _ [both (both (aj dD _ _) (cz _ _ _)) (aN B _ _)];exact v.star.star⟩
def gq(size bound N:Nat):Nat:=(dV size 0 N).2+2*eo size bound
def mF(size bound N:Nat):Array Value:=#[J R (size:Int),J R (bound:Int),J R 0,J R (N:Int),J R ((dV size 0 N).2:Int),J R ((2*eo size bound:Nat):Int),J R ((gq size bound N:Nat):Int)]
theorem af1(s N):(dV s 0 N).2<=N+1:=by
 unfold dV;split;·omega
 .exact vA (eb (EA _ _) (eb (vy _ _) ad))
theorem agi(s b):eo s b<=b+44:=vA (vy _ _)
def ad4(size bound o n:Nat)(h1:1<=size/\size<=1048576)(i:1<=bound/\bound<=65536)(t:o<=1048576)(u:n<=1048576)w:
 aC ax 48 #[J R (size:Int),J R (bound:Int),J R (o:Int),J R (n:Int)] w λe w'=>e=aB (bo #[ar (mF size bound (max o n)),J R 0])/\au w w':=by
 obtain⟨N,j⟩:=ex (max o n);rw[j];have k:max (o:Int) (n:Int)=(N:Int):=ad;have l:=hid k;have x:N<=1048576:=ad;obtain⟨b,d⟩:=ex ((dV size 0 N).2);obtain⟨lA,c⟩:=ex (eo size bound);have y:b<=N+1:=by grind[af1]
 have A:lA<=bound+44:=by grind[agi]
 have hs1:1<=lA:=by rw[<-c];exact vA (cB _)
 have hlc:mF size bound N=#[J R (size:Int),J R (bound:Int),J R 0,J R (N:Int),J R (b:Int),J R ((2*lA:Nat):Int),J R ((b+2*lA:Nat):Int)]:=by rw[mF,gq,d,c]
 rw[hlc];have p:=hid (λW=>by have q:=adI _ _ h1.1 i.1 i.2 W;rw[c]at q;exact q);have m:aE (∀W,aC _ _ #[J _ _,ar #[J _ 0,J _ (N:Int)]] W λe w'=>∃z,e=aB (ar #[J _ z,J _ (b:Int)])/\au W w'):=hid (λW=>by have q:=af3 _ 0 N ⟨h1.1,ad⟩ ad W;rw[d]at q;exact q.mono (λ_ _ h=>⟨_,h⟩));clear j k d c hlc;go_enter func48,ntmps48;have a:=a8 w;go_step;refine ah ?_;refine bn a #[J _ 0,J _ 0,J _ 0,J _ 0,J _ 0,J _ 0,J _ 0] (λs w1 a=>?_);refine kf ?_;refine bH (p.out _) a (λD a=>?_);refine cA ?_;refine a7 (ai ao) ?_;refine gW ?_;refine bH (xY 0 (o:Int) _ ⟨ad,ad,ad⟩) a (λE a=>?_);refine v4 ?_;refine bH (xY 0 (n:Int) _ ⟨ad,ad,ad⟩) a (λF a=>?_);refine v2 ?_;refine o8 ?_;refine aI (J R (N:Int)) (by(have h:=l.out;go_simp;try simp[h];try with_reducible rfl)) ?_;refine v2 ?_;refine bn a #[J _ 0,J _ 0,J _ 0,J _ 0,J _ 0,J _ 0,J _ 0] (λr G a=>?_);refine bb a 0 (ar _) (λH a=>?_);refine gW ?_;refine bh a 0 #[J R 0,J R (N:Int)] ?_;refine aR (m _) ?_;rintro e I ⟨M,rfl,g⟩;replace a:=a.aH g;refine aT ?_;refine pk (J R (b:Int)) ?_;refine ag ?_;refine aI _ (ln 3 _ _ 3 aa 2 _ ((2*lA:Nat):Int) aa aa ad ad ad) ?_;refine v2 ?_;refine bb a 0 (ar #[J R _,J _ ((2*lA:Nat):Int)]) (λK a=>?_);refine b5 ?_;refine bh a 0 #[J R (b:Int),J R ((2*lA:Nat):Int)] ?_;refine bH (l5 (b:Int) ((2*lA:Nat):Int) _ ad ad ad) a (λL a=>?_);refine ag ?_;refine bb a 0 (J _ _) (λB a=>?_);refine ah ?_;refine bh a 0 #[J R (size:Int),J R (bound:Int),J R 0,J R (N:Int),J R (b:Int),J R ((2*lA:Nat):Int),J R ((b:Int)+((2*lA:Nat):Int))] ?_;refine bb a 1 (ar _) (λC a=>?_);refine bU ?_;have f:(b:Int)+((2*lA:Nat):Int)=((b+2*lA:Nat):Int):=ad;rw[f]at a;clear f;go_wp2_with fail;refine c8 (v:=_) (ml aa aa aa (a.aV 1) aw aw) aa (⟨aa,a.only⟩)
def aea(size bound o n:Nat)(g1 g2)S(h1:1<=size/\size<=1048576)(b:1<=bound/\bound<=65536)(c:o<=1048576)(d:n<=1048576)w:
 aC ax 39 #[J R (size:Int),J R (bound:Int),eN (o:Int) (n:Int) g1 g2 S] w λe w'=>e=aB (bo #[ar (mF size bound (max o n)),J R 0])/\au w w':=by
 go_enter func39,ntmps39;have a:=a8 w;go_step;refine ah ?_;refine bL a (ar _) (λf w1 a=>?_);refine bn a #[J _ 0,J _ 0,J _ 0,J _ 0,J _ 0,J _ 0,J _ 0] (λg h a=>?_);refine Kj ?_;refine pl a 1 0 ?_ (hv:=kE);refine ag ?_;refine pl a 1 1 ?_ (hv:=il);refine bH (ad4 _ _ o n h1 b c d _) a (λi a=>?_);refine v2 ?_;refine bb a 0 (ar #[J R _,J R _,J R 0,J R _,J R _,J R _,J R _]) (λj a=>?_);refine bU ?_;go_wp2_with fail;refine c8 (v:=_) (ml aa aa aa (a.aV 0) aw aw) aa (⟨aa,a.only⟩)
def adX(size bound N B)m d w(g:Has w (aN B m d))(b:dt d)(hsz:d.size=size)(hn:gq size bound N<=d.cnt):
 aC ax 52 #[ar (mF size bound N),dc B] w λe w'=>e=aB (J R 0)/\au w w':=by
 have c:=hid g;have l:=b.CA;clear g;obtain⟨h,f⟩:=ex (gq size bound N);rw[f]at hn;have hlc:mF size bound N=#[J R (size:Int),J R (bound:Int),J R 0,J R ((N:Nat):Int),J R ((dV size 0 N).2:Int),J R ((2*eo size bound:Nat):Int),J R (h:Int)]:=by grind[mF]
 rw[hlc];subst hsz;clear f hlc;go_enter func52,ntmps52;have a:=a8 w;go_step;refine ah ?_;refine bL a (ar _) (λk w1 a=>?_);refine cA ?_;refine pk (ai ao) ?_;refine hI ?_;refine bN a [1] (λi _=>match i with|1=>J R (d.size:Int)|_=>a1) (λ_ _=>emp) (λ_=>[]) (λ|3=>[0]|_=>[]) (λ_=>[]) [0,2] (λj=>?_);refine aJ ?_;refine dA (λ_ _ a=>w8 B m d _ (c.out.aH a.only).dev b) ?_;refine aJ ?_;refine dl 0 0 ?_;refine aK (ai ao) (λ_ _ _=>by(go_simp;try simp)) ?_;refine aJ ?_;refine bQ λn a=>?_;replace a:=a.drop 1;refine cx ?_;refine bN a [1] (λi _=>match i with|1=>J R (d.cnt:Int)|_=>a1) (λ_ _=>emp) (λ_=>[]) (λ|3=>[0]|_=>[]) (λ_=>[]) [0,2] (λj=>?_);refine aJ ?_;refine dA (λ_ _ a=>Ma B m d _ (c.out.aH a.only).dev b) ?_;refine aJ ?_;refine dl 0 6 ?_;refine aK (ai ao) (λ_ _ _=>by(go_simp;try omega)) ?_;refine aJ ?_;refine bQ λo a=>?_;replace a:=a.drop 1;refine ah ?_;refine ag ?_;refine an ?_;go_wp2_with fail;go_ret;exact⟨aa,a.only⟩
def Dk{s N e x}(b:1<=s):N<=s*((dV s 0 N).2+x+e):=by
 rcases l1 N with h|h;·omega
 .have h1:(dV s 0 N).2=(N -1)/s+1:=by unfold dV;rw[if_neg ad];simp
  have a:N<=s*(dV s 0 N).2:=by rw[h1,Nat.mul_succ];have c:=Q6 (N -1) s;have d:=Ho (N -1) b;omega
  exact eb a (Nat.mul_le_mul_left _ ad)
def aec(size bound N ex p)A c b w(h1:1<=size)(hc:size*(gq size bound N+ex)<=1048576)(hb1:b.length<=N)(l:w.cell? ⟨p,0,af⟩=ab (ae A b.length c))(hb:bX w A b):
 aC ax 40 #[ar (mF size bound N),J R (ex:Int),ae (ab ⟨p,0,af⟩) 1 1] w λe w'=>∃B m,e=aB (bo #[dc B,J R 0])/\cj w w' (aN B m (mI size (gq size bound N+ex) b)):=by
 obtain⟨d,f⟩:∃z,gq size bound N=z:=⟨_,aa⟩;rw[f]at hc⊢;have hlc:mF size bound N=#[J R (size:Int),J R (bound:Int),J R 0,J R ((N:Nat):Int),J R ((dV size 0 N).2:Int),J R ((2*eo size bound:Nat):Int),J R (d:Int)]:=by rw[mF,f]
 rw[hlc];have E:1<=d:=by rw[<-f,gq];have:1<=eo size bound:=vA (cB _);omega
 have hle:d+ex<=size*(d+ex):=Cj _ h1;have hbl:b.length<=size*(d+ex):=eb hb1 (by rw[<-f,gq];exact Dk h1);have r:aE (∀W,au w W->aC _ 93 _ W λe w'=>∃i j,e=aB _/\eU _ w' i j b/\au W w'):=hid (λW g=>(HF p A c b W (g.cell l (λh=>h)) (hb.aH g) ad).mono (λe w' ⟨i,j,h1,s,t⟩=>⟨i,j,h1,Row.nj s,t⟩));have o:=hid (λW q aL c2 h u=>aoW size _ q aL c2 b W h1 ad hc hbl h u);have k:=NC (size:=_) (cnt:=_) (b:=b) h1 ad hc hbl;have n:=hid (λW B m h=>by have q:=adX size _ N B m _ W h k aa (by rw[f];show d<=d+ex;omega);rw[hlc]at q;exact q);have y:¬size=0:=ad;have F:d+ex<=1048576:=ad;clear l hb f hlc k hle;go_enter func40,ntmps40;have a:=a8 w;go_step;refine ah ?_;refine bL a (ar _) (λC w1 a=>?_);iterate 2 refine ag ?_
 refine an ?_;go_step;refine ah ?_;refine ag ?_;refine aR (r _ a.only) ?_;rintro e G ⟨aL,c2,rfl,x,g⟩;replace a:=a.lS g x;refine aT ?_;refine ag ?_;refine an ?_;go_step;refine ah ?_;refine ag ?_;refine aI (ai ao) (by(go_simp;try omega)) ?_;iterate 5 refine ag ?_
 refine pl a 1 3 ?_;refine aI (ai ao) (by(go_simp;try omega)) ?_;refine ag ?_;refine an ?_;go_step;refine ah ?_;refine ag ?_;refine pl a 1 0 ?_;refine ag ?_;refine pl a 1 6 ?_;refine ag ?_;refine aI _ (mw 3 _ _ 3 aa _ _ ((d+ex:Nat):Int) aa aa ad ad ad) ?_;refine ag ?_;refine e' a #[ae aL b.length c2] 22 (λD H a=>?_);refine aR (o _ _ aL c2 (aX.cell (a.aV 0) 0 aa) (a.jW 1).1) ?_;rintro e I ⟨B,m,rfl,v⟩;replace a:=a.new _ v;refine aT ?_;refine ag ?_;refine an ?_;go_step;refine ah ?_;refine ag ?_;refine an ?_;go_step;refine ah ?_;refine bh a 3 #[J R (size:Int),J R (bound:Int),J R 0,J R ((N:Nat):Int),J R ((dV size 0 N).2:Int),J R ((2*eo size bound:Nat):Int),J R (d:Int)] ?_;refine ag ?_;refine aI (ai ao) (by(go_simp;try simp[y])) ?_;iterate 2 refine ag ?_
 refine bh a 3 #[J R (size:Int),J R (bound:Int),J R 0,J R ((N:Nat):Int),J R ((dV size 0 N).2:Int),J R ((2*eo size bound:Nat):Int),J R (d:Int)] ?_;refine ag ?_;refine aR (n.out _ B m (a.has 0)) ?_;rintro e K ⟨rfl,g⟩;replace a:=a.aH g;refine aT ?_;iterate 2 refine ag ?_
 refine an ?_;go_step;refine ah ?_;iterate 3 refine ag ?_
 refine an ?_;go_wp2_with fail;go_ret2;exact⟨B,m,aa,a.fresh 0⟩
def aoG {P:ew} {ops:Array cT} {rest:List cT} {Q:Exit->b3->aP->Prop} {o:cT} {a j:b3} {aq:aP} {FX:Nat->Prop} {dst:Nat->Option Tmp} {LE:List Nat} {e:Nat->fg->aO} {c:List bu} {out:(Nat->fg)->Nat->bu} {ins rd:Nat->List Nat} {fin:List Nat} {QP:List PanicEntry->aP->Prop} {b:Nat->fg} {i k:Nat} {s:bu} (f:fg)
 (hr:∀w (Fr:List bu),ak aq FX w ((ins i).map (dk c out b)++((rd i).map (dk c out b)++Fr))->∃w',(bz a.eval o).run P w=bf (da (e i f)) w'/\Turned w w' s (out (dI b i f) i)) (h:cM P ops Q dst LE e aq FX c out ins rd fin QP b (i+1) rest j)
 (hn:ins i=[k]:=by rfl) (hk:dk c out b k=s:=by rfl) (hd:dst i=o.dst:=by rfl) (hlt:(match o.dst with|some d=>decide (d<a.tmps.size)|none=>ao)=true:=by kernel_rfl)
 (hi:decide (i∈LE)=true:=by kernel_rfl) (hw:Region.wanted o (yielded ops a.tmps)=true:=by kernel_rfl) (ha:a.put o.dst (e i (b i))=j:=by((try simp only[Act.put,List.setIfInBounds_toArray,List.set_cons_zero,List.set_cons_succ]);rfl)):cM P ops Q dst LE e aq FX c out ins rd fin QP b i (o::rest) a:=by
 refine w9 (λw Fr g K n=>?_) h hi ha;rw[if_pos hw];obtain⟨w',h1,m⟩:=hr w Fr g;rw[hn]at g;have l:ak aq FX w (s::((rd i).map (dk c out b)++Fr)):=aG;unfold Oper.wp;rw[h1];show K _ _;refine n f _ _ ?_ (put_defers _ _ _) (l.xV m);rw[hd];cases hq:o.dst with
 |none=>grind
 |some d=>simp only[hq,decide_eq_true_eq]at hlt;simp[lT,Act.eval,Act.put,hlt]
def eI(L:List Nat):Array Value:=(L.map (λ(n:Nat)=>J R (n:Int))).toArray
def U5(B t:Nat)L cs w(hb:aX w B cs t)(hcs:eI L=cs)(cd:∀n∈L,(n:Int)<=4611686018427387903)(h:L.length<=1048576):
 aC ax 204 #[ae (ab ⟨B,0,af⟩) L.length L.length] w λe w'=>e=aB (ai az)/\au w w':=by
 subst hcs;have d:=hid hb;clear hb;go_enter func204,ntmps204;have a:=a8 w;go_step;refine ah ?_;refine ed ?_;iterate 3 refine ag ?_
 refine an ?_;go_wp2_with fail;go_loopw [7] (λb wr=>∃j:Nat,j<=L.length/\b=J R (j:Int)/\ak w (λ_=>False) wr []) (λb wr=>L.length -(bR b).toNat);case atStart=>grind
 case round=>
  clear a;obtain⟨j,i,rfl,a⟩:=hrel;by_cases hlt:j<L.length
  .have g:(j:Int)<(L.length:Int):=ad;obtain⟨x,hx⟩:∃x,L[j]?=ab x:=⟨_,cF hlt⟩;have k:=cd x (cW hx);have c:(eI L)[j]?=ab (J R (x:Int)):=by grind[eI]
   have f:=hid c;clear hx c;go_step;refine ah ?_;refine ed ?_;refine aI (ay (ab ⟨B,j,af⟩)) (b4 82 3 1 (bj 5) (bj 7) aa Tryz.underlying82 aw B 0 (L.length) (L.length) j j aa aa hlt ad) ?_;refine aI _ (fM aa aa (aX.aH d a.only) f aw) ?_;refine ed ?_;iterate 2 refine ag ?_
   refine bH (xY 0 (x:Int) _ ⟨ad,ad,ad⟩) a (λw1 a=>?_);refine ed ?_;refine pad (j:Int) 1 ((j+1:Nat):Int) ?_;refine bU ?_;go_wp2_with fail;go_roundw;case rel=>exact⟨j+1,ad,aa,a⟩
   case measure=>grind[bR]
  .have g:¬(j:Int)<(L.length:Int):=ad;go_step;refine ah ?_;refine ag ?_;refine ah ?_;refine ag ?_;refine an ?_;go_wp2_with fail;go_ret;exact⟨aa,a.only⟩
def u64_in x(h:0<=x/\x<18446744073709551616):aF.wrap x=x:=by grind[D1,D0,KF]
def CI(n:Nat)w(hn:(n:Int)<=4611686018427387903):
 aC ax 127 #[J R (n:Int)] w λe w'=>e=aB (ar #[J aF (n:Int),J R 8])/\au w w':=by
 go_enter func127,ntmps127;have a:=a8 w;go_step;refine ah ?_;refine bn a #[J aF 0,J R 0] (λb w1 a=>?_);refine b5 ?_;refine aI (J aF (n:Int)) (by(go_simp;exact u64_in _ ad)) ?_;refine ag ?_;refine bb a 0 (ar #[J aF (n:Int),J R 8]) (λc a=>?_);refine an ?_;go_wp2_with fail;refine c8 (v:=_) (gH aa _ _ _ _ _ _ _ aa (a.aV 0) underlying227 aa aw) aa (⟨aa,a.only⟩)
def aoS(o n:Nat)(g1 g2)A c ms w(ho:(o:Int)<=4611686018427387903/\(n:Int)<=4611686018427387903)(C:cZ w A ms)(hv:∀m∈ms,gJ m)(U:ms.length<=1048576):
 aC ax 125 #[eN (o:Int) (n:Int) g1 g2 (ae A ms.length c)] w λe w'=>e=aB (J R 0)/\au w w':=by
 have I:=hid C;have L:=hv;clear C hv;go_enter func125,ntmps125;have a:=a8 w;go_step;refine ah ?_;refine bL a (ar (a' (o:Int) (n:Int) g1 g2 (ae A ms.length c))) (λE w1 a=>?_);refine cA ?_;refine pl a 0 0 ?_ (hv:=kE);refine ag ?_;refine pl a 0 1 ?_ (hv:=il);refine e' a #[J R (o:Int),J R (n:Int)] 3 (λF V a=>?_);refine bH (U5 F 3 [o,n] _ _ (a.aV 0) aa (by intro x hx;simp only[gD,fS,or_false]at hx;omega) (by show _<=_;simp)) a (λW a=>?_);refine cA ?_;refine pl a 1 66 ?_ (hv:=fi);iterate 2 refine ag ?_
 refine an ?_;go_wp2_with fail;go_loopw [3,15] (λok t wr=>∃j:Nat,j<=ms.length/\ok=ai az/\t=J R (j:Int)/\ak w (λ_=>False) wr [aj E (a' (o:Int) (n:Int) g1 g2 (ae A ms.length c)) 26]) (λok t wr=>ms.length -(bR t).toNat);case atStart=>exact⟨0,cB _,aa,aa,a.pick [1]⟩
 case round=>
  clear a;obtain⟨j,T,rfl,rfl,a⟩:=hrel;by_cases hlt:j<ms.length
  .have N:(j:Int)<(ms.length:Int):=ad;obtain⟨m,s⟩:∃m,ms[j]?=ab m:=⟨_,cF hlt⟩;obtain⟨q,i,l,r,v,y,z⟩:=cZ.jt I s;have G:=hid v;have S:=hid y;have H:=hid z;have K:=hid s;clear v y z s;have O:=L m (cW K);go_step;refine ah ?_;refine ed ?_;refine aI (ay (ab ⟨q,(i+j*5),af⟩)) (b4 24 73 5 (bj 13) (bj 15) aa ey aw q i (ms.length) c j ((i+j*5)) (by show ae A _ _=_;rw[G]) aa hlt aa) ?_;refine aI (ar #[J R m.k,J R m.to,J R m.fr,J R m.n,ae l m.data.length r]) (by(refine e5 73 (bj 17) aa q (i+j*5) aa ([J R m.k,J R m.to,J R m.fr,J R m.n,ae l m.data.length r]:List aO) (H _ a.only) gi aa aw)) ?_;refine bn a #[J R 0,J R 0,J R 0,J R 0,ae af 0 0] (λQ X a=>?_);refine bb a 0 (ar #[J R m.k,J R m.to,J R m.fr,J R m.n,ae l m.data.length r]) (λY a=>?_);refine b5 ?_;refine pl a 0 0 ?_;refine an ?_;rcases O with⟨hk,⟨u,v2,v3⟩,⟨nS,qD,sJ⟩,l8,qg⟩|⟨hk,⟨u,v2,v3⟩,za,l8,qg⟩
   .simp only at u v2 v3 nS qD sJ;obtain⟨cS,d⟩:∃x:Nat,m.to=(x:Int):=⟨m.to.toNat,ad⟩;obtain⟨dn,B⟩:∃x:Nat,m.fr=(x:Int):=⟨m.fr.toNat,ad⟩;obtain⟨P,D⟩:∃x:Nat,m.n=(x:Int):=⟨m.n.toNat,ad⟩;have M:(m.data.length:Int)=0:=by rw[qg];rfl
    have g:=hid hk;have b:=hid d;have f:=hid B;have h:=hid D;clear hk d B D;refine ah ?_;refine dp g (ai az) ?_;refine ed ?_;iterate 3 refine ag ?_
    refine pl a 0 1 ?_;refine ag ?_;refine pl a 0 2 ?_;refine ag ?_;refine pl a 0 3 ?_;refine e' a #[J R m.to,J R m.fr,J R m.n] 3 (λp Z a=>?_);refine bH (U5 p 3 [cS,dn,P] _ _ (a.aV 0) (by rw[b,f,h];rfl) (by intro x hx;simp only[gD,fS,or_false]at hx;have:=b.out;have:=f.out;have:=h.out;omega) (by show _<=_;simp)) a (λdJ a=>?_);iterate 3 refine ag ?_
    refine pl a 1 4 ?_;refine ag ?_;refine aI (ai az) (by(go_simp;try simp[M];try omega)) ?_;iterate 2 refine ag ?_
    refine ah ?_;refine pad (j:Int) 1 ((j+1:Nat):Int) ?_;refine bU ?_;go_wp2_with fail;go_roundw;case rel=>exact⟨j+1,ad,aa,aa,a.pick [2]⟩
    case measure=>simp[bR]<;>omega
   .simp only at u v2 v3;obtain⟨cS,d⟩:∃x:Nat,m.to=(x:Int):=⟨m.to.toNat,ad⟩;have g:=hid hk;have b:=hid d;have f:=hid za;have h:=hid l8;clear hk d za l8;refine ah ?_;refine dp g (ai ao) ?_;refine ed ?_;refine dp g (ai az) ?_;refine ed ?_;iterate 3 refine ag ?_
    refine pl a 0 1 ?_;refine e' a #[J R m.to] 3 (λp dB a=>?_);refine bH (U5 p 3 [cS] _ _ (a.aV 0) (by rw[b];rfl) (by intro x hx;simp only[gD,fS,or_false]at hx;have:=b.out;omega) (by show _<=_;simp)) a (λeZ a=>?_);iterate 3 refine ag ?_
    refine pl a 1 2 ?_;refine dp f (ai az) ?_;iterate 3 refine ag ?_
    refine pl a 1 3 ?_;refine dp h (ai az) ?_;iterate 2 refine ag ?_
    refine ah ?_;refine pad (j:Int) 1 ((j+1:Nat):Int) ?_;refine bU ?_;go_wp2_with fail;go_roundw;case rel=>exact⟨j+1,ad,aa,aa,a.pick [2]⟩
    case measure=>simp[bR]<;>omega
  .have N:¬(j:Int)<(ms.length:Int):=ad;go_step;refine ah ?_;refine ed ?_;iterate 2 refine ag ?_
   refine ah ?_;refine ag ?_;refine an ?_;go_wp2_with fail;go_ret;exact⟨aa,a.only⟩
def sa(m:bO):List Int:=if m.k=1 then ja [(1,1),(m.to.toNat,8),(m.fr.toNat,8),(m.n.toNat,8)]else ja [(2,1),(m.to.toNat,8),(m.data.length,8)]++m.data
def FQ:List Int:=[71,82,70,84]
def oY(o n:Nat):List Int:=FQ++ja [(1,1),(o,8),(n,8)]
def xi(o n:Nat)(g1 g2:dq):List Int:=oY o n++g1.l++g2.l
def rq(o n:Nat)(g1 g2:dq)(k:Nat):List Int:=xi o n g1 g2++ja [(k,4)]
def jM(o n:Nat)(g1 g2:dq)(ms:List bO):List Int:=rq o n g1 g2 ms.length++ms.flatMap sa
def apt(o n)(g1 g2)ms j:(rq o n g1 g2 ms.length++(ms.take j).flatMap sa).length<=(jM o n g1 g2 ms).length:=by grind[jM,oJ]
def AL(fs:List (Nat×Nat)):List Value:=fs.flatMap (λf=>[J aF (f.1:Int),J R (f.2:Int)])
def ap6{fs i f}(h:fs[i]?=ab f):(AL fs)[i*2]?=ab (J aF (f.1:Int))/\(AL fs)[i*2+1]?=ab (J R (f.2:Int)):=by
 induction fs generalizing i with
 |nil=>grind
 |cons x r a=>
  cases i with
  |zero=>cases h;exact⟨aa,aa⟩
  |succ i=>
   have:=a (i:=i) aG;exact⟨by rw[show(i+1)*2=i*2+1+1 by omega];exact this.1,by rw[show(i+1)*2+1=i*2+1+1+1 by omega];exact this.2⟩
def Ov A c bs F jb fs w(n:bs.length<=8796093022208/\fs.length<=1048576)(h:0<fs.length)(hb:bX w A bs)(o:∀f∈fs,y3 f)(l:Row 0 w F fs.length jb 227 2 (AL fs)):
 aC ax 126 #[ae A bs.length c,ae F fs.length jb] w λe w'=>∃a b,e=aB (bo #[ae a (bs++ja fs).length b,ai az])/\Row w.heap.size w' a (bs++ja fs).length b 5 1 ((bs++ja fs).map a6)/\au w w':=by
 obtain⟨g,cur,rfl,hb2,_,_,_,j⟩:=l.blk h;refine ag0 A c bs g 0 jb fs w n hb o (λi f m=>?_);have d:=ap6 m
 have key:∀(k) v,(AL fs)[k]?=ab v->w.cell? _=ab v:=λk v hk=>by
  rw[<-j,q2]at hk;split at hk;·exact hb2.cell k aG
  .grind
 rw[js];exact⟨key _ _ d.1,key _ _ d.2⟩
def aav{w B cs}fs(hb:aX w B cs 227)(hc:cs.toList=AL fs)(hn:fs.length<=1048576):Row 0 w (ab ⟨B,0,af⟩) fs.length fs.length 227 2 (AL fs):=by
 have a:(AL fs).length=fs.length*2:=by
  clear hc hn;induction fs with
  |nil=>rfl
  |cons x r b=>grind[AL]
 have h:=Jt (n:=fs.length) (c:=_) (sz:=2) hb (b7 _) (by grind[eG]) aG;grind
def ZS{w}{B t:Nat}{o n g1 g2 S}(h:aX w B (a' o n g1 g2 S) t):bX w (ab ⟨B,2,af⟩) g1.l/\bX w (ab ⟨B,34,af⟩) g2.l:=by
 have h1:=g1.len;have b:=g2.len;refine⟨λ_=>⟨B,2,rfl,λj a=>h.cell (2+j) ?_⟩,λ_=>⟨B,34,rfl,λj a=>h.cell (34+j) ?_⟩⟩;·rw[a',Ak,show 2+j=j+1+1 by omega,vu,vu,tZ aG,jU,cF ad];simp
 .rw[a',Ak,show 34+j=(32+j)+1+1 by omega,vu,vu,oI aG,hM,h1,show 32+j -32=j by omega,tZ aG,jU,cF ad];simp
def apU(o n:Nat)(g1 g2)A c ms w(ho:(o:Int)<=4611686018427387903/\(n:Int)<=4611686018427387903)(X:cZ w A ms)(hv:∀m∈ms,gJ m)(eR:ms.length<=1048576)(hle:(jM o n g1 g2 ms).length<=8796093022208):
 aC ax 53 #[eN (o:Int) (n:Int) g1 g2 (ae A ms.length c)] w λe w'=>∃r s,e=aB (bo #[ae r (jM o n g1 g2 ms).length s,J R 0])/\cj w w' (cz r s (jM o n g1 g2 ms)):=by
 have cO:=hid X;have cP:=hid hv;have jx:=hid (λW g=>aoS o n g1 g2 A c ms W ho (X.aH g) hv eR);have hg1:=g1.len;have hg2:=g2.len;have Sa:(oY o n).length<=1000:=by grind[oY,FQ,ja,r8]
 have PV:aE (∀W k F,bX W (ab ⟨k,0,af⟩) FQ->aX W F #[J aF 1,J R 1,J aF (o:Int),J R 8,J aF (n:Int),J R 8] 227->aC ax 126 #[ae (ab ⟨k,0,af⟩) 4 4,ae (ab ⟨F,0,af⟩) 3 3] W λe w'=>∃r s,e=aB (bo #[ae r (oY o n).length s,ai az])/\Row W.heap.size w' r (oY o n).length s 5 1 ((oY o n).map a6)/\au W w'):=hid (λW k F h1 B=>Ov _ 4 FQ (ab ⟨F,0,af⟩) 3 [(1,1),(o,8),(n,8)] W ⟨aS,bc⟩ (Lw _) h1 (λf D=>by grind[y3]) (aav [(1,1),(o,8),(n,8)] B aa bc));have PW:aE (∀W k t F,bX W k (xi o n g1 g2)->aX W F #[J aF (ms.length:Int),J R 4] 227->aC ax 126 #[ae k (xi o n g1 g2).length t,ae (ab ⟨F,0,af⟩) 1 1] W λe w'=>∃r s,e=aB (bo #[ae r (rq o n g1 g2 ms.length).length s,ai az])/\Row W.heap.size w' r (rq o n g1 g2 ms.length).length s 5 1 ((rq o n g1 g2 ms.length).map a6)/\au W w'):=hid (λW k t F h1 B=>Ov k t (xi o n g1 g2) (ab ⟨F,0,af⟩) 1 [(ms.length,4)] W ⟨by grind[xi],bc⟩ (Lw _) h1 (λf D=>by grind[y3]) (aav [(ms.length,4)] B aa bc));have P:=hid hle;have P:=hid hle;have aaa:=λj=>apt o n g1 g2 ms j;clear X hv hle;go_enter func53,ntmps53;have a:=a8 w;go_step;refine ah ?_;refine bL a (ar _) (λM w1 a=>?_);iterate 2 refine ag ?_
 refine ah ?_;refine bh a 0 (a' (o:Int) (n:Int) g1 g2 (ae A ms.length c)) ?_ (hv:=(e4 _)) (hk:=by omega) (hz:=(by rw[bD];rfl));refine bH (jx _ a.only) a (λaU a=>?_);refine cA ?_;refine pk (ai ao) ?_;refine cx ?_;refine bN a [0,1,5,8,9,10] (λi u=>match i with|0=>ae (ab ⟨u.b,0,af⟩) 4 4|1=>ae (ab ⟨u.b,0,af⟩) 4 4|5=>ar #[J aF (o:Int),J R 8]|8=>ar #[J aF (n:Int),J R 8]|9=>ae (ab ⟨u.b,0,af⟩) 3 3|10=>bo #[ae u.A (oY o n).length u.c,ai az]|_=>a1) (λd=>λ|0=>aj ((d 0).b) #[J dR 71,J dR 82,J dR 70,J dR 84] 5|1=>ro (ab ⟨(d 1).b,0,af⟩) FQ|9=>aj ((d 9).b) #[J aF 1,J R 1,J aF (o:Int),J R 8,J aF (n:Int),J R 8] 227|10=>bg ((d 10).A) ((oY o n).length) ((d 10).c) 5 1 ((oY o n).map a6)|_=>emp) (λ|1=>[1]|_=>[]) (λ|4=>[0]|7=>[0]|10=>[2,10]|_=>[]) (λ|0=>[0]|1=>[1]|9=>[9]|10=>[10]|_=>[]) [0,2,6,9,10,11] (λd=>?_);refine kD _ 5 ?_;refine aoG _ (λ_ _ a=>F0 _ aa aa (a.aV 0) aa dK mr) ?_;refine bx ?_;refine dl 0 0 ?_ (hv:=kE);refine dA (λ_ _ _=>CI o _ ad) ?_;refine aJ ?_;refine dl 0 1 ?_ (hv:=il);refine dA (λ_ _ _=>CI n _ ad) ?_;refine kD _ _ ?_;refine dh (λwl Fr a=>(PV _ _ _ (a.at 0) (a.aV 1)).mono ?_) ?_;·rintro e dr ⟨hT,gS,rfl,hrow,g⟩;exact⟨{A:=hT,c:=gS},aa,a.lz g hrow⟩
 refine np ?_;refine bQ λbI a=>?_;generalize (d 0).b=OW at a⊢;generalize (d 1).b=qK at a⊢;generalize (d 9).b=azi at a⊢;generalize (d 10).A=Kn at a⊢;generalize (d 10).c=LY at a⊢;replace a:=a.drop 2;replace a:=a.drop 2;refine cx ?_;refine bN a [3,6] (λi u=>match i with|3=>ae u.A ((oY o n).length+32) u.c|6=>ae u.A (((oY o n).length+32)+32) u.c|_=>a1) (λd=>λ|3=>bg ((d 3).A) ((oY o n).length+32) ((d 3).c) 5 1 ((oY o n).map a6++(g1.l.map a6))|6=>bg ((d 6).A) (((oY o n).length+32)+32) ((d 6).c) 5 1 (((oY o n).map a6++(g1.l.map a6))++(g2.l.map a6))|_=>emp) (λ|3=>[3]|6=>[7]|_=>[]) (λ|3=>[0]|6=>[0]|_=>[]) (λ|3=>[3]|6=>[6]|_=>[]) [0,1,2,10] (λd=>?_);refine bx ?_;refine fJ (ae (ab ⟨M,2,af⟩) 32 32) ?_;refine rh (m:=32) 1 (λ_ _ a=>(by have h:=(ZS (a.aV 1)).1.cells;rw[hg1]at h;exact h)) (xH _) ?_ (hby:=by omega);refine aJ ?_;refine fJ (ae (ab ⟨M,34,af⟩) 32 32) ?_;refine rh (m:=32) 1 (λ_ _ a=>(by have h:=(ZS (a.aV 1)).2.cells;rw[hg2]at h;exact h)) (xH _) ?_ (hby:=by omega);refine aJ ?_;refine bQ λb9 a=>?_;generalize (d 3).A=rR at a⊢;generalize (d 3).c=r9 at a⊢;generalize (d 6).A=Vq at a⊢;generalize (d 6).c=Zj at a⊢;have Z7:(((oY o n).map a6++(g1.l.map a6))++(g2.l.map a6))=(xi o n g1 g2).map a6:=by simp[xi]
 have Q:(((oY o n).length+32)+32)=(xi o n g1 g2).length:=by simp only[xi,db,hg1,hg2]
 rw[Z7,Q]at a;clear Z7;rw[Q];clear Q;refine ah ?_;iterate 2 refine ag ?_
 refine pl a 0 66 ?_ (hv:=fi);refine ag ?_;refine aI (J aF _) (by(go_simp;exact u64_in _ ad)) ?_;refine ag ?_;refine e' a #[J aF (ms.length:Int),J R 4] 227 (λazh cE a=>?_);refine aR (PW _ _ _ _ (a.atR 4).Jz (a.aV 0)) ?_;rintro e cV ⟨wu,uf,rfl,hrow,g⟩;replace a:=a.lz g hrow;refine Vm ?_;refine pl a 2 66 ?_ (hv:=fi);iterate 2 refine ag ?_
 refine an ?_;have dM:(rq o n g1 g2 ms.length)=((rq o n g1 g2 ms.length)++(ms.take 0).flatMap sa):=bc;have bK:=a.pk [0,2];go_wp2_with fail;go_loopw [5,51] (λep Z wr=>∃(j:Nat) (k:Option bT) (t:Nat),j<=ms.length/\ep=ae k ((rq o n g1 g2 ms.length)++(ms.take j).flatMap sa).length t/\Z=J R (j:Int)/\ak w (λ_=>False) wr [bg k (((rq o n g1 g2 ms.length)++(ms.take j).flatMap sa).length) t 5 1 (((rq o n g1 g2 ms.length)++(ms.take j).flatMap sa).map a6),aj M (a' (o:Int) (n:Int) g1 g2 (ae A ms.length c)) 26]) (λep Z wr=>ms.length -(bR Z).toNat);case atStart=>exact⟨0,wu,uf,cB _,by rw[<-dM],aa,by rw[<-dM];exact bK⟩
 case round=>
  clear a bK dM;obtain⟨j,k,t,hj,rfl,rfl,a⟩:=hrel;by_cases hlt:j<ms.length
  .have cf:(j:Int)<(ms.length:Int):=ad;have U:=eb (aaa j) P;obtain⟨m,Y⟩:∃m,ms[j]?=ab m:=⟨_,cF hlt⟩;obtain⟨E,H,aW,aZ,bB,eA,dg⟩:=cZ.jt cO Y;have cv:=hid bB;have O:=hid eA;have L:=hid dg;have cn:=hid Y;clear bB eA dg Y;obtain⟨bs,S⟩:=ex (((rq o n g1 g2 ms.length)++(ms.take j).flatMap sa));have hQ:((rq o n g1 g2 ms.length)++(ms.take (j+1)).flatMap sa)=bs++sa m:=by rw[gx,cn,Yt,<-kQ,S];simp
   rw[S]at a U⊢;have v:=hid hQ;clear hQ S;have lu:=cP m (cW cn);rcases lu with⟨hk,⟨z,v2,v3⟩,⟨nS,qD,sJ⟩,G,I⟩|⟨hk,⟨z,v2,v3⟩,T,G,I⟩
   .simp only at z v2 v3 nS qD sJ;obtain⟨cS,dn,x,rfl⟩:∃cS dn x:Nat,m=⟨1,(cS:Int),(dn:Int),(x:Int),[]⟩:=⟨m.to.toNat,m.fr.toNat,m.n.toNat,by rcases m with⟨mk,mt,atF,pD,p⟩;simp only at hk z v2 v3 nS qD sJ G I⊢;rw[hk,QO z,QO nS,QO v2,j8 I]⟩;dsimp only at L O v z v2 v3 nS qD sJ;have hcb:sa ⟨1,(cS:Int),(dn:Int),(x:Int),[]⟩=ja [(1,1),(cS,8),(dn,8),(x,8)]:=ba;rw[hcb]at v;obtain⟨y,C⟩:=ex (bs++ja [(1,1),(cS,8),(dn,8),(x,8)]);rw[C]at v;have N:aE (∀W F jb,bX W k bs->Row 0 W F 4 jb 227 2 [J aF 1,J R 1,J aF (cS:Int),J R 8,J aF (dn:Int),J R 8,J aF (x:Int),J R 8]->aC ax 126 #[ae k bs.length t,ae F 4 jb] W λe w'=>∃r s,e=aB _/\Row _ w' r y.length s 5 1 _/\au W w'):=hid (λW F jb h1 B=>by have q:=Ov k t bs F jb [(1,1),(cS,8),(dn,8),(x,8)] W ⟨U,bc⟩ (Lw _) h1 (λf D=>by simp only[gD,fS,or_false]at D;rcases D with rfl|rfl|rfl|rfl<;>(unfold y3;simp;try omega)) B;rw[C]at q;exact q);clear C hcb hk G I;go_step;refine ah ?_;refine ed ?_;refine aI (ay (ab ⟨E,(H+j*5),af⟩)) (b4 24 73 5 (bj 49) (bj 51) aa ey aw E H (ms.length) c j ((H+j*5)) (by show ae A _ _=_;rw[cv]) aa hlt aa) ?_;refine aI _ (by(refine e5 73 _ aa E _ aa _ (L _ a.only) gi aa aw)) ?_;refine bn a #[J _ 0,J _ 0,J _ 0,J _ 0,ae _ 0 0] (λj1 dJ a=>?_);refine bb a 0 (ar #[J R 1,J R _,J R _,J R _,ae aW 0 aZ]) (λdB a=>?_);refine cx ?_;refine bN a [6,7] (λi u=>match i with|6=>ar #[J aF (cS:Int),J R 8]|7=>ae (ab ⟨u.b,0,af⟩) 2 2|_=>a1) (λd=>λ|7=>aj ((d 7).b) #[J aF 1,J R 1,J aF (cS:Int),J R 8] 227|_=>emp) (λ_=>[]) (λ|1=>[0]|5=>[0]|_=>[]) (λ|7=>[7]|_=>[]) [0,1,2,9,10] (λd=>?_);refine aJ ?_;refine dl 0 0 ?_;refine fJ (J aF 1) ?_;refine bx ?_;refine dl 0 1 ?_;refine dA (λ_ _ _=>CI cS _ ad) ?_;refine kD _ _ ?_;refine aJ ?_;refine bQ λeZ a=>?_;generalize (d 7).b=ahM at a⊢;replace a:=a.drop 3;refine b5 ?_;refine pl a 0 0 ?_;refine pk (ai az) ?_;refine an ?_;replace a:=a.u1 3 2 2 2 [J _ 1,J _ 1,J _ _,J _ 8] aa (b7 _) (by unfold eG;omega) aa;refine cx ?_;refine bN a [4,7,8,9,10] (λi u=>match i with|4=>ar #[J aF (dn:Int),J R 8]|7=>ar #[J aF (x:Int),J R 8]|8=>ae (ab ⟨u.b,0,af⟩) 2 2|9=>ae u.A (2+2) u.c|10=>bo #[ae u.A y.length u.c,ai az]|_=>a1) (λd=>λ|8=>aj ((d 8).b) #[J aF (dn:Int),J R 8,J aF (x:Int),J R 8] 227|9=>bg ((d 9).A) (2+2) ((d 9).c) 227 2 ([J aF 1,J R 1,J aF (cS:Int),J R 8]++([J aF (dn:Int),J R 8,J aF (x:Int),J R 8]))|10=>bg ((d 10).A) y.length ((d 10).c) 5 1 (y.map a6)|_=>emp) (λ|9=>[3]|_=>[]) (λ|3=>[0]|6=>[0]|9=>[12]|10=>[1,13]|_=>[]) (λ|8=>[8]|9=>[9]|10=>[10]|_=>[]) [0,1,2,8,11,12,13,14] (λd=>?_);refine c5 ?_;refine dl 0 2 ?_;refine dA (λ_ _ _=>CI dn _ ad) ?_;refine aJ ?_;refine dl 0 3 ?_;refine dA (λ_ _ _=>CI x _ ad) ?_;refine kD _ _ ?_;refine rh (m:=2) 16 (λ_ _ a=>aX.cellsOf (m:=2) (a.aV 1) aa) (by intro u K;simp only[gD,fS,or_false]at K;rcases K with rfl|rfl|rfl|rfl<;>rfl) ?_ (hby:=by decide);refine dh (λwl Fr a=>(N _ _ _ (a.atR 0).Jz (a.atR 1)).mono ?_) ?_;·rintro e dr ⟨kx,mx,rfl,hrow,g⟩;exact⟨{A:=kx,c:=mx},aa,a.lz g hrow⟩
    refine hG ?_;refine bQ λgV a=>?_;generalize (d 8).b=ahL at a⊢;generalize (d 9).A=ay4 at a⊢;generalize (d 9).c=aAp at a⊢;generalize (d 10).A=Vu at a⊢;generalize (d 10).c=RA at a⊢;replace a:=a.drop 3;replace a:=a.drop 3;refine ah ?_;refine pad (j:Int) 1 ((j+1:Nat):Int) ?_;refine bU ?_;go_wp2_with fail;go_roundw;case rel=>exact⟨j+1,_,_,ad,by rw[v],aa,by rw[v];exact a.pick [5,2]⟩
    case measure=>simp[bR]<;>omega
   .simp only at z v2 v3;obtain⟨cS,p,rfl⟩:∃(cS:Nat) (p:List Int),m=⟨2,(cS:Int),0,0,p⟩:=⟨m.to.toNat,m.data,by rcases m with⟨mk,mt,atF,pD,p⟩;simp only at hk z T G⊢;rw[hk,QO z,T,G]⟩;dsimp only at L O v z v2 v3 I;have hcb:sa ⟨2,(cS:Int),0,0,p⟩=ja [(2,1),(cS,8),(p.length,8)]++p:=ba;rw[hcb,<-kQ]at v;obtain⟨y,C⟩:=ex (bs++ja [(2,1),(cS,8),(p.length,8)]);rw[C]at v;have V:=aaa (j+1);rw[v]at V;have aq8:=eb V P;rw[db]at aq8;have N:aE (∀W F jb,bX W k bs->Row 0 W F 3 jb 227 2 [J aF 2,J R 1,J aF (cS:Int),J R 8,J aF (p.length:Int),J R 8]->aC ax 126 #[ae k bs.length t,ae F 3 jb] W λe w'=>∃r s,e=aB _/\Row W.heap.size w' r y.length s 5 1 _/\au W w'):=hid (λW F jb h1 B=>by have q:=Ov k t bs F jb [(2,1),(cS,8),(p.length,8)] W ⟨U,bc⟩ (Lw _) h1 (λf D=>by simp only[gD,fS,or_false]at D;rcases D with rfl|rfl|rfl<;>(unfold y3;simp;try omega)) B;rw[C]at q;exact q);clear C hcb hk T G V;go_step;refine ah ?_;refine ed ?_;refine aI (ay (ab ⟨E,(H+j*5),af⟩)) (b4 24 73 5 (bj 49) (bj 51) aa ey aw E H (ms.length) c j ((H+j*5)) (by show ae A _ _=_;rw[cv]) aa hlt aa) ?_;refine aI _ (by(refine e5 73 _ aa E _ aa _ (L _ a.only) gi aa aw)) ?_;refine bn a #[J _ 0,J _ 0,J _ 0,J _ 0,ae _ 0 0] (λj1 hZ a=>?_);refine bb a 0 (ar _) (λjQ a=>?_);refine cx ?_;refine bN a [6,7] (λi u=>match i with|6=>ar #[J aF (cS:Int),J R 8]|7=>ae (ab ⟨u.b,0,af⟩) 2 2|_=>a1) (λd=>λ|7=>aj ((d 7).b) #[J aF 2,J R 1,J aF (cS:Int),J R 8] 227|_=>emp) (λ_=>[]) (λ|1=>[0]|5=>[0]|_=>[]) (λ|7=>[7]|_=>[]) [0,1,2,9,10] (λd=>?_);refine aJ ?_;refine dl 0 0 ?_;refine fJ (J aF 2) ?_;refine bx ?_;refine dl 0 1 ?_;refine dA (λ_ _ _=>CI cS _ ad) ?_;refine kD _ _ ?_;refine aJ ?_;refine bQ λke a=>?_;generalize (d 7).b=ahM at a⊢;replace a:=a.drop 3;refine b5 ?_;refine pl a 0 0 ?_;refine pk (ai ao) ?_;refine an ?_;replace a:=a.u1 3 2 2 2 [J _ 2,J _ 1,J _ _,J _ 8] aa (b7 _) (by unfold eG;omega) aa;refine ah ?_;iterate 3 refine ag ?_
    refine pl a 0 4 ?_;refine ag ?_;refine bH (CI p.length _ ad) a (λk8 a=>?_);refine e' a #[J aF (p.length:Int),J R 8] 227 (λahL mn a=>?_);refine kd (m:=1) a 4 16 (aX.cellsOf (m:=1) (a.aV 0) aa) (by intro u K;simp only[gD,fS,or_false]at K;rcases K with rfl|rfl<;>rfl) (λay5 aAq nn a=>?_) (hby:=by decide);refine aR (N.out _ _ _ (a.atR 2).Jz (a.atR 4)) ?_;rintro e pO ⟨kx,mx,rfl,hrow,g⟩;replace a:=a.lz g hrow;refine aT ?_;refine v4 ?_;refine ah ?_;iterate 2 refine ag ?_
    refine pl a 2 4 ?_;refine kd (m:=p.length) a 0 1 ((O.out _ a.only).1.cells) (xH _) (λay6 aAr rK a=>?_) (hby:=by omega);refine bU ?_;have vI:(y.map a6++(p.map a6))=(y++p).map a6:=bc;have EU:y.length+p.length=(y++p).length:=by rw[db]
    rw[vI]at a;have VG:=hid EU;clear vI EU;refine ah ?_;refine pad (j:Int) 1 ((j+1:Nat):Int) ?_;refine bU ?_;go_wp2_with fail;go_roundw;case rel=>exact⟨j+1,_,_,ad,by rw[v,<-VG],aa,by rw[v,<-VG];exact a.pick [0,4]⟩
    case measure=>simp[bR]<;>omega
  .have cf:¬(j:Int)<(ms.length:Int):=ad;have tn:j=ms.length:=ad;have iM:((rq o n g1 g2 ms.length)++(ms.take j).flatMap sa)=jM o n g1 g2 ms:=by rw[tn,ll,jM]
   rw[iM]at a⊢;go_step;refine ah ?_;refine ed ?_;iterate 2 refine ag ?_
   refine ah ?_;iterate 3 refine ag ?_
   refine an ?_;go_wp2_with fail;go_ret2;exact⟨k,t,aa,cj.T2 a.only (Row.nj (a.fresh 0).row)⟩
def mC(bs:List Int):Int:=(lB ⟨im bs,0,0,0⟩ 8).1
def apW(p c1)A c bs w(E:bs.length<=8796093022208)(l:w.cell? ⟨p,0,af⟩=ab (ae A bs.length c))(hb:bX w A bs)(j:∀b off,A=ab ⟨b,off,af⟩->b<w.heap.size):
 aC ax 55 #[ae (ab ⟨p,0,af⟩) 1 c1] w λe w'=>e=aB (J aF (mC bs))/\au w w':=by
 obtain⟨D,i⟩:=ex (im bs);have f:D.length=32:=by grind[tk]
 have t:aE (∀W,au w W->aC ax 76 #[ae (ab ⟨p,0,af⟩) 1 c1] W λe w'=>e=aB (ar (aM a6 D []))/\au W w'):=hid (λW g=>by have q:=aga p 0 c1 A c bs W ad (g.cell l (λh=>h)) (hb.aH g) (λb off e=>wY (j b off e) g.size);rw[i]at q;exact q);have k:mC bs=(lB ⟨D,0,0,0⟩ 8).1:=by rw[mC,i]
 rw[k];have s:aE (∀W d,bX W (ab ⟨d,0,af⟩) D->aC ax 134 #[ae (ab ⟨d,0,af⟩) 32 32] W λe w'=>∃B m u,e=aB (ay (ab ⟨B,0,af⟩))/\cj W w' (eF B m u ⟨D,0,0,0⟩)):=hid (λW d h=>by have q:=aen (ab ⟨d,0,af⟩) 32 D W ad h;rw[f]at q;exact q);have C:q7 ⟨D,0,0,0⟩:=⟨cB _,aG⟩;clear k l hb i j;go_enter func55,ntmps55;have a:=a8 w;go_step;refine ah ?_;refine cA ?_;refine bH (t.out _ a.only) a (λw1 a=>?_);refine bn a (aM a6 (ea 32 0) []) (λo F a=>?_);refine NS a 0 (Gg (ar (aM a6 D [])) aa aa aa (a.aV 0) (by show 0+(aM a6 D []).size<=(aM a6 (ea 32 0) []).size;rw[i',i',f];simp) (by show _=ab (aM a6 D []).size;rw[i',f];kernel_rfl) (LH (λ_=>aa) (λv hv=>absurd hv fS)) (lay_all (by show(aM a6 D []).size=(aM a6 (ea 32 0) []).size;rw[i',i',f];simp))) (λG a=>?_);refine ah ?_;refine pk (ae (ab ⟨o,0,af⟩) 32 32) ?_;refine aR (s _ _ (LV (a.aV 0))) ?_;rintro e H ⟨r,n,x,rfl,y⟩;replace a:=a.new _ y;refine aT ?_;refine aR (Jw r n x _ 8 _ (a.has 0) C ad) ?_;rintro e I ⟨rfl,z⟩;replace a:=a.eQ 0 z;refine Gr ?_;go_wp2_with fail;go_ret;exact⟨aa,a.only⟩
section
theorem HC{w w' p v}(g:au w w')(h:w.cell? p=ab v):w'.cell? p=ab v:=(World.cell?_of_block (w:=w) (g.block p.block (World.block_lt_of_cell? w _ h) (λh=>h))).trans h
section
variable {aq w:aP} {FX:Nat->Prop}
def ak.tail(l l')(h:ak aq FX w (l++l')):ak aq FX w (l++[Go.Proofs.YtcmhplknoglbkaaGreat.bY l']):=by have h1:ak aq FX w (l'++l):=h.perm vw;exact h1.bY.perm (by simpa using(Hn (Go.Proofs.YtcmhplknoglbkaaGreat.bY l') l).symm)
def ak.iB(l l')(h:ak aq FX w (l++[Go.Proofs.YtcmhplknoglbkaaGreat.bY l'])):ak aq FX w (l++l'):=by have h1:ak aq FX w (Go.Proofs.YtcmhplknoglbkaaGreat.bY l'::l):=h.perm (Hn _ _);exact h1.kI.perm vw
end
end
end Go.Proofs.YtcmhplknoglbkaaGreat
