/- Part 5 of the proof of TopMemorySaid. -/
import Derived.Test.YtcmhplknoglbkaaGreatQm0
import Derived.Test.YtcmhplknoglbkaaGreatQm3
import Derived.Test.YtcmhplknoglbkaaGreatQm4
set_option linter.all false
set_option maxRecDepth 100000
set_option maxHeartbeats 4000000
open Go.Proofs.Tryz
open Array renaming replicate_succ->pV,replicate_zero->pW
open Bool renaming false->ao,true->az
open Decidable renaming of_not_not->DL
open Go renaming Act->b3,Addr->bT,Calls->aD,Oper->cS,Program->ew,Value->aP,World->aQ,bodyPost_ret->c',builtin->qV,callFunc->kB,execOp->bA,invoke->nW,madeCells->GK,maxLen->eB,resolve->nX,results->nw,results_cell_row->gG,results_tmp->KP,run_copy_row->KQ,undef->a7,wpIn_skip->BV,wpList_nil->an
open Go.Callee renaming builtin->pb
open Go.Ending renaming returned->aB
open Go.Fn renaming func->ed
open Go.IntKind renaming bits->DV,i64->R,signed->Kt,u64->aF,u8->dO,wrap->DW
open Go.Next renaming value->dc
open Go.Op renaming call->nU
open Go.Operand renaming tmp->bj
open Go.Proofs.Tryz renaming func199->VJ,func280->VT,func326->VX,ntmps199->Wc,ntmps326->Wj,prog->ax,underlying137->Pk,underlying22->dW,underlying235->x3,underlying24->ee,underlying35->x4,underlying5->mm,underlying73->fO
open Go.Proofs renaming enters_of->lf
open Go.Result renaming andThen_ok->jE,ok->bf
open Go.RowKit renaming Hid->aE,intOf->bQ
open Go.Sem renaming run_bind->gx,run_pure->kh
open Go.TypeDesc renaming slice->iJ
open Go.Value renaming agg->ar,bool->ai,func->dI,int->J,map->dL,pointer->ay,slice->ae,tuple->bn
open Int renaming toNat_of_nonneg->QA
open List renaming append_assoc->kD,append_toArray->p7,cons_append->pj,eq_nil_of_length_eq_zero->j3,filter_append->sT,filter_eq_self->z',findIdx?_eq_some_iff_getElem->QL,flatMap_append->X',foldl_append->Yb,foldl_cons->Aa,getElem?_append_left->tQ,getElem?_append_right->pn,getElem?_cons_succ->vq,getElem?_drop->He,getElem?_eq_getElem->cE,getElem?_eq_some_iff->eJ,getElem?_map->j4,getElem?_take->tR,getElem?_toArray->Ab,length->q4,length_append->c7,length_cons->jQ,length_drop->tS,length_map->hB,length_nil->mq,length_range->Em,length_replicate->lI,length_singleton->vr,length_take->po,map_append->fP,map_cons->j5,map_nil->ln,map_toArray->oI,mem_append->iX,mem_cons->gy,mem_iff_getElem?->p9,mem_of_getElem?->cX,mem_singleton->vs,nil_append->lJ,not_mem_nil->fQ,perm_append_comm->vt,perm_append_singleton->Hg,push_toArray->qa,replicate->dZ,size_toArray->iK,take_add_one->gq,take_append_drop->oa,take_length->lp
open Min renaming min->gI
open Nat renaming add_div_right->Yj,div_add_mod->Yk,div_eq_of_lt->Ll,div_le_div_right->alY,div_le_self->vu,eq_zero_or_pos->lX,le_div_iff_mul_le->al0,le_mul_of_pos_left->Ch,le_mul_of_pos_right->yw,le_refl->b9,le_trans->dT,lt_of_lt_of_le->wZ,lt_or_ge->QT,min_eq_left->Ci,mod_lt->Lm,mul_comm->Ln,mul_le_mul_right->tW,sub_le->Eo,succ_le_succ->w0,succ_mul->Ae,zero_add->iY,zero_le->cC,zero_lt_succ->Lo
open Option renaming none->af,some->ab
open Option.some renaming injEq->w2
open Or renaming inl->b1,inr->cm
open Prod.mk renaming injEq->pq
namespace Go.Proofs.YtcmhplknoglbkaaGreat
open Go.RowKit Go.MapKept Go.WideMaps
open Go.ChangeMaps (setBlock heap_setBlock_same heap_setBlock_other)
def xP(d:dR)(n:Nat)(b:List Int):dR:={d with cache:=d.cache++[(n,b)],eE:=R.wrap (d.eE+1),hi:=max d.hi ((n:Int)+1),mo:=max d.mo ((d.cache.length+1:Nat):Int)}
def tv(d:dR)(n:Nat)(b:List Int):dR:={xP d n b with writes:=d.writes -1}
def JG(d:dR)(n:Nat)(b:List Int):dR:={tm (tv d n b) (Fw d.keep)with down:=az,iD:=R.wrap (d.iD+1)}
def jL(d:dR)(i:Int)(b:List Int):Int×dR:=
 if kn d i≠0 then(kn d i,d)else if b.length≠d.size then(2,d)
 else if d.writes<0 then(0,xP d i.toNat b)else if 0<=d.writes -1 then(0,tv d i.toNat b)else(18,JG d i.toNat b)
theorem ag2{d}(h:dY d){n}(hn:n<d.cnt){b}(hb:b.length=d.size)(a:d.cache.length<1073741824):dY (xP d n b):=
 ⟨h.mL,h.vA,h.len,h.small,λx hx=>by
   rcases iX.1 hx with hx|hx;·exact h.cache x hx
   .obtain rfl:x=(n,b):=aH;exact⟨hn,hb⟩,by show(d.cache++[(n,b)]).length<=_;simp;omega,h.wr⟩
theorem UT{d}(h:dY d){n}(hn:n<d.cnt){b}(hb:b.length=d.size)(c:d.cache.length<1073741824)(e:0<=d.writes):dY (tv d n b):=
 have h1:=ag2 h hn hb c
 ⟨h1.mL,h1.vA,h1.len,h1.small,h1.cache,h1.dM,by have a:=h.wr;unfold cO at a⊢;show _<=d.writes -1/\d.writes -1<=_;omega⟩
def UW{d}(h:dY d)i b(c:d.cache.length<1073741824):dY (jL d i b).2:=by
 unfold jL;split;·omega
 .rename_i hc;obtain⟨n,rfl,hn⟩:=RG (DL hc);split;·omega
  .rename_i hb;have hb:=DL hb;split;·grind[ag2]
   .rename_i e;split;·grind[UT]
    .have a:=T6 (UT h hn hb c ad) (Fw d.keep);exact⟨a.mL,a.vA,a.len,a.small,a.cache,a.dM,a.wr⟩
def awA{o}{a:b3}{w m x v}{b i n:Nat}{l}(ho:o.op=.mapUpdate 118 m x v)(q:a.eval m=dL (ab b))(hx:a.eval x=J R (i:Int))(hv:a.eval v=J R (n:Int))(hn:l.length=n)(h:(jU b l).p w)(hi:i<=1073741824)(t:n<=1073741824):
 ∃w',(bA a.eval o).run ax w=bf .skip w'/\Turned w w' (jU b l) (jU b (l++[i])):=by
 obtain⟨u,g,hle,s⟩:=h;subst hn;obtain⟨w',hrun,h1,d,r⟩:=g.update adq Tryz.underlying118 (by grind[eB]) (x:=(i:Int)) ⟨ad,ad⟩ (J R (l.length:Int));have f:av (λj=>j=b) w w':=av.of_grownBy d (λk hk=>b1 aH);refine⟨w',?_,f,⟨_,h1,?_,λj=>?_⟩,λj c=>⟨by have e:j=b:=c;rw[e];exact h1.lt,b1 c⟩⟩;·unfold bA;simp only[ho,q,hx,hv];have e:(EJ _)=J _ (i:Int):=rfl;rw[e]at hrun;simp[hrun]
 .grind[kb]
 .grind[TB,adu]
def ak.auU{aq w FX l L A c bs}n(h:ak aq FX w (mf L::cx A c bs::l)):ak aq FX w (mf (L++[⟨n,A,c,bs⟩])::l):=
 h.star.as 0 aa (mf (L++[⟨n,A,c,bs⟩])) (λh x hx=>by
  rcases iX.1 hx with hx|hx;·exact h.1 x hx
  .obtain rfl:x=⟨n,A,c,bs⟩:=aH;exact h.2.1) (λb ⟨x,hx,hb⟩=>by
  rcases iX.1 hx with hx|hx;·exact b1 ⟨x,hx,hb⟩
  .obtain rfl:x=⟨n,A,c,bs⟩:=aH;exact cm hb)
def ao0 B m d i F du b w(V:Has w (aN B m d))(H:dY d)(hf:d.cache.length<1073741824)(hb:b2 w F b)(iB:b.length<=140737488355328)(hne:∀x,eh F x->¬(aN B m d).cT x):
 aD ax 326 #[de B,J R i,ae F b.length du] w λe w'=>e=aB (J R (jL d i b).1)/\∃X,Turned w w' (aN B m d) (aN B X (jL d i b).2):=by
 obtain⟨bt,G⟩:=ex (kn d i);have O:=hid (λW h=>by have q:=RF B m d i W h H;rw[G]at q;exact q);by_cases h0:bt=0
 .subst h0;obtain⟨n,rfl,hn⟩:=RG G;have M:=hid G;clear G;have gj:=H.Cw;have hf2:=H.dM;have hw0:=H.wr;obtain⟨S8,hw2⟩:=hw0;by_cases hbl:b.length=d.size
  .have C:=hid hbl;clear hbl;have cg:aE (∀W,av _ w W->b2 W F b):=hid (λW g=>hb.only g (λx off e=>hne x ⟨_,_,e⟩));clear hb;obtain⟨azZ,ET⟩:=ex m.L.length;have gp:=hid ET;clear ET;go_enter VX,Wj;have a:=ak.start V;go_step;refine ah ?_;refine bL a (ay _) (λo w1 a=>?_);refine ag ?_;refine an ?_;replace a:=a.front 1;replace a:=a.Av;obtain⟨hpl,a⟩:=a;replace a:ak _ _ _ [aj B #[J R _,ae _ _ _,J R _,J aF _,J R d.eE,J R d.hG,J R d.iD,J R d.hi,J R d.mo,ae m.A _ m.c,dL _,ai _] 120,aj m.b' _ 5,jU m.fb _,ba m.A _ m.c oJ 2 _,mf m.L,aj o #[ay _] 32]:=a;go_step;refine ah ?_;refine pl a 5 0 ?_;refine ag ?_;refine aR (O _ (a.aW 0)) ?_;rintro e aT ⟨rfl,g⟩;replace a:=a.aI g;refine aU ?_;refine ag ?_;refine an ?_;have fG:(d.cache.map (·.1)).length=m.L.length:=by rw[hpl,hB,nT.plain,hB]
   have abk:d.cache.length=m.L.length:=by rw[hpl,nT.plain,hB]
   have jx:=hid fG;have yf:=hid abk;have aAL:m.L.length<1073741824:=ad;have jr:=hid hpl;clear fG abk hpl;go_step;refine ah ?_;refine ag ?_;refine pk (ai ao) ?_;refine an ?_;go_step;refine ah ?_;refine v2 ?_;refine pl a 5 0 ?_;refine v3 ?_;refine pl a 0 0 ?_;refine dp C (ai ao) ?_;refine an ?_;go_step;refine cy ?_;refine bR a [10] (λ_ _=>a7) (λ_=>λ|10=>jU m.fb ((d.cache.map (·.1))++[n])|_=>emp) (λ|10=>[2]|_=>[]) (λ|0=>[5]|3=>[0]|5=>[5]|8=>[0]|_=>[]) (λ_=>[]) [0,1,3,4,5,16] (λf=>?_);refine dl 0 0 ?_;refine bG ?_;refine dl 0 10 ?_;refine aJ ?_;refine dl 0 0 ?_;refine bG ?_;refine dl 0 9 ?_;refine aJ ?_;refine L3 (λ_ _ a=>awA aa aa aa aa jx (a.at 0) ad ad) ?_;refine bW λbF a=>?_;go_step;refine cy ?_;refine bR a [7,9,10,13] (λi u=>match i with|7=>ae u.A b.length u.c|9=>ae (ab ⟨u.b,0,af⟩) 1 1|10=>ae u.A (m.L.length+1) u.c|_=>a7) (λf=>λ|7=>cx ((f 7).A) ((f 7).c) b|9=>aj ((f 9).b) #[J R (n:Int),ae (f 7).A b.length (f 7).c] 258|10=>ba ((f 10).A) (m.L.length+1) ((f 10).c) oJ 2 (mw m.L++([J R (n:Int),ae (f 7).A b.length (f 7).c]))|13=>aj B #[J R (d.size:Int),ae (ab ⟨m.b',0,af⟩) d.bytes.length d.bytes.length,J R d.writes,J aF d.keep,J R d.eE,J R d.hG,J R d.iD,J R d.hi,J R d.mo,ae (f 10).A (m.L.length+1) (f 10).c,dL (ab m.fb),ai d.down] 120|_=>emp) (λ|10=>[2]|13=>[0]|_=>[]) (λ|0=>[4]|1=>[4]|4=>[0]|10=>[15]|_=>[]) (λ|7=>[7]|9=>[7,9]|10=>[7,10]|13=>[10]|_=>[]) [1,3,4,5,13,15,16,19] (λf=>?_);refine dl 0 0 ?_;refine dl 0 0 ?_;refine bG ?_;refine dl 0 9 ?_;refine bG ?_;refine di (λwl Fr a=>(w6 F du b _ (cg _ a.only) ad).mono ?_) ?_;·rintro e dr ⟨b6,c1,rfl,hrow,g⟩;exact⟨{A:=b6,c:=c1},aa,a.lR g (Row.nk hrow)⟩
   refine aJ ?_;refine kH #[J _ _,ae (f 7).A _ (f 7).c] _ ?_;refine ri (m:=1) 32 (λ_ _ a=>aX.cellsOf (m:=1) (a.aW 1) aa) (by intro u hu;simp only[gy,fQ,or_false]at hu;rcases hu with rfl|rfl<;>rfl) ?_;refine bG ?_;refine fS _ ?_;refine bW λb8 a=>?_;generalize (f 7).A=Y at a⊢;generalize (f 7).c=Z at a⊢;generalize (f 9).b=ON at a⊢;generalize (f 10).A=s at a⊢;generalize (f 10).c=t at a⊢;replace a:=a.pk [1,4,7,0,3,6,2];replace a:=a.auU n;obtain⟨k,Q⟩:=ex (m.L++[⟨n,Y,Z,b⟩]);have bE:(mw m.L++([J R (n:Int),ae Y b.length Z]))=mw k:=by grind[ank]
   have cr:m.L.length+1=k.length:=aH;have fz:k.map (λx=>(x.sec,x.bs))=d.cache++[(n,b)]:=by rw[<-Q,fP,jr];rfl
   rw[Q,bE,cr]at a;have aAJ:k.length<=1073741824:=ad;have N:=hid fz;have abl:d.cache.length+1=k.length:=by rw[yf,cr]
   have P:=hid abl;rw[cr];clear bE cr fz Q abl;go_step;refine ah ?_;refine pl a 5 0 ?_;refine v3 ?_;refine pl a 1 4 ?_;refine pk (J R (R.wrap (d.eE+1))) ?_;refine v3 ?_;refine a' a 1 (J _ _) (λcA a=>?_);refine an ?_;go_step;refine cy ?_;refine bR a [12] (λ_ _=>a7) (λ_=>λ|12=>aj B #[J R (d.size:Int),ae (ab ⟨m.b',0,af⟩) d.bytes.length d.bytes.length,J R d.writes,J aF d.keep,J R (R.wrap (d.eE+1)),J R d.hG,J R d.iD,J R (max d.hi ((n:Int)+1)),J R d.mo,ae s k.length t,dL (ab m.fb),ai d.down] 120|_=>emp) (λ|12=>[1]|_=>[]) (λ|0=>[5]|1=>[5]|5=>[1]|_=>[]) (λ_=>[]) [0,2,3,4,5,18] (λf=>?_);refine dl 0 0 ?_;refine dl 0 0 ?_;refine da ?_;refine dl 0 7 ?_;refine aJ ?_;refine aL _ (λ_ _ _=>mu 3 _ _ 3 aa _ 1 ((n:Int)+1) aa aa ad ad ad) ?_;refine aL _ (λ_ _ _=>by(go_simp;try with_reducible rfl)) ?_;refine da ?_;refine fS _ ?_;refine bW λcR a=>?_;go_step;refine cy ?_;refine bR a [15] (λ_ _=>a7) (λ_=>λ|15=>aj B #[J R (d.size:Int),ae (ab ⟨m.b',0,af⟩) d.bytes.length d.bytes.length,J R d.writes,J aF d.keep,J R (R.wrap (d.eE+1)),J R d.hG,J R d.iD,J R (max d.hi ((n:Int)+1)),J R (max d.mo (k.length:Int)),ae s k.length t,dL (ab m.fb),ai d.down] 120|_=>emp) (λ|15=>[5]|_=>[]) (λ|0=>[4]|1=>[4]|5=>[5]|6=>[4]|9=>[5]|_=>[]) (λ_=>[]) [0,1,2,3,4,21] (λf=>?_);refine dl 0 0 ?_;refine dl 0 0 ?_;refine da ?_;refine dl 0 8 ?_;refine dl 0 0 ?_;refine bG ?_;refine dl 0 9 ?_;refine aJ ?_;refine aL _ (λ_ _ _=>by(go_simp;try with_reducible rfl)) ?_;refine da ?_;refine fS _ ?_;refine bW λdz a=>?_;by_cases T:d.writes<0
   .have l:aE (jL d n b=(0,xP d n b)):=hid (by rw[jL,M,if_neg aS,if_neg (by rw[C];simp),if_pos T];rfl);go_step;refine ah ?_;refine pl a 4 0 ?_;refine v3 ?_;refine pl a 5 2 ?_;refine a1 (ai az) ?_;refine an ?_;go_step;refine ah ?_;refine ag ?_;refine an ?_;have y:(d.cache.map (·.1))++[n]=(xP d n b).cache.map (·.1):=by simp[xP]
    have v:max d.mo (k.length:Int)=max d.mo ((d.cache.length+1:Nat):Int):=by rw[P]
    rw[y,v]at a;clear y v;replace a:ak _ _ _ (aN B (⟨m.b',m.fb,s,t,k⟩) (xP d n b)::[aj o #[ay (ab ⟨B,0,af⟩)] 32]):=ak.vD (show(xP d n b).cache=nT.plain ⟨m.b',m.fb,s,t,k⟩from N.out.symm) (a.pick (l':=_) [5,1,2,3,0,4]);go_wp2_with fail;go_ret;exact⟨by rw[l];rfl,_,by rw[l.out];exact a.gl 0⟩
   .by_cases k5:0<=d.writes -1
    .have l:aE (jL d n b=(0,tv d n b)):=hid (by rw[jL,M,if_neg aS,if_neg (by rw[C];simp),if_neg T,if_pos k5];rfl);go_step;refine ah ?_;refine pl a 4 0 ?_;refine v3 ?_;refine pl a 5 2 ?_;refine a1 (ai ao) ?_;refine an ?_;go_step;refine ah ?_;refine pl a 4 0 ?_;refine v3 ?_;refine pl a 5 2 ?_;refine jW _ 1 (d.writes -1) ?_;refine v3 ?_;refine a' a 5 (J _ _) (λdv a=>?_);refine an ?_;go_step;refine ah ?_;refine pl a 4 0 ?_;refine v3 ?_;refine pl a 5 2 ?_;refine a1 (ai az) ?_;refine an ?_;go_step;refine ah ?_;refine ag ?_;refine an ?_;have y:(d.cache.map (·.1))++[n]=(tv d n b).cache.map (·.1):=by simp[tv,xP]
     have v:max d.mo (k.length:Int)=max d.mo ((d.cache.length+1:Nat):Int):=by rw[P]
     rw[y,v]at a;clear y v;replace a:ak _ _ _ (aN B (⟨m.b',m.fb,s,t,k⟩) (tv d n b)::[aj o #[ay (ab ⟨B,0,af⟩)] 32]):=ak.vD (show(tv d n b).cache=nT.plain ⟨m.b',m.fb,s,t,k⟩from N.out.symm) (a.pick (l':=_) [5,1,2,3,0,4]);go_wp2_with fail;go_ret;exact⟨by rw[l];rfl,_,by rw[l.out];exact a.gl 0⟩
    .have l:aE (jL d n b=(18,JG d n b)):=hid (by rw[jL,M,if_neg aS,if_neg (by rw[C];simp),if_neg T,if_neg k5];rfl);have U:=UT H hn C hf ad;go_step;refine ah ?_;refine pl a 4 0 ?_;refine v3 ?_;refine pl a 5 2 ?_;refine a1 (ai ao) ?_;refine an ?_;go_step;refine ah ?_;refine pl a 4 0 ?_;refine v3 ?_;refine pl a 5 2 ?_;refine jW _ 1 (d.writes -1) ?_;refine v3 ?_;refine a' a 5 (J _ _) (λeU a=>?_);refine an ?_;go_step;refine ah ?_;refine pl a 4 0 ?_;refine v3 ?_;refine pl a 5 2 ?_;refine a1 (ai ao) ?_;refine an ?_;have y:(d.cache.map (·.1))++[n]=(tv d n b).cache.map (·.1):=by simp[tv,xP]
     have v:max d.mo (k.length:Int)=max d.mo ((d.cache.length+1:Nat):Int):=by rw[P]
     rw[y,v]at a;clear y v;replace a:ak _ _ _ (aN B (⟨m.b',m.fb,s,t,k⟩) (tv d n b)::[aj o #[ay (ab ⟨B,0,af⟩)] 32]):=ak.vD (show(tv d n b).cache=nT.plain ⟨m.b',m.fb,s,t,k⟩from N.out.symm) (a.pick (l':=_) [5,1,2,3,0,4]);obtain⟨D,I⟩:=ex (tv d n b);obtain⟨p,S⟩:=ex (tm D (Fw d.keep));have hk2:D.keep=d.keep:=by rw[<-I];rfl
     have j9:p.iD=d.iD:=by rw[<-S,<-I];rfl
     rw[I]at U;have akx:aE (JG d n b={p with down:=az,iD:=R.wrap (p.iD+1)}):=hid (by grind[JG])
     have bZ:aE (∀W E K,Has W (aN B E D)->aX W K _ 32->¬(aN B E D).cT K->aD ax 63 #[de B,dI (ed 359) #[] _] W λe w'=>e=aB (bn #[])/\∃X,Turned W w' (aN B E D) (aN B X p)):=hid (λW E K h hx hR=>by
      have q:=RI B E D _ #[ay _] _ W h U (lf func359 aw aa) (λq fg hq g hb2=>by have z:=asP K B E D q fg (by have h3:=U.dM;rw[h.plain,nT.plain,hB]at h3;omega) (av.heap g hx hR) hb2;rw[hk2]at z;exact z);rw[S]at q;exact q);rw[I]at a;clear I S j9;go_step;refine ah ?_;refine pl a 1 0 ?_;refine ag ?_;refine aR (bZ.out _ _ o (a.has 0) (a.aW 1) (λh=>a.ne (i:=0) (j:=1) aa aa aS _ h aa)) ?_;rintro e gF ⟨rfl,r,bM⟩;replace a:=a.eP 0 bM;refine aU ?_;refine an ?_;replace a:=a.Av;obtain⟨arM,a⟩:=a;replace a:ak _ _ _ [aj B #[J R _,ae _ _ _,J R _,J aF _,J R p.eE,J R _,J R p.iD,J R p.hi,J R _,ae r.A _ r.c,dL _,ai _] 120,aj r.b' _ 5,jU r.fb _,ba r.A _ r.c oJ 2 _,mf r.L,aj o _ 32]:=a;go_step;refine ah ?_;refine pl a 5 0 ?_;refine v2 ?_;refine a' a 0 (ai _) (λhI a=>?_);refine an ?_;go_step;refine ah ?_;refine pl a 5 0 ?_;refine v3 ?_;refine pl a 0 6 ?_;refine pk (J R (R.wrap (p.iD+1))) ?_;refine v3 ?_;refine a' a 0 (J _ _) (λjK a=>?_);refine an ?_;go_step;refine ah ?_;refine ag ?_;refine an ?_;replace a:ak _ _ _ (aN B r ({p with down:=az,iD:=R.wrap (p.iD+1)})::[aj o _ 32]):=ak.vD arM (a.pick (l':=_) [0,1,2,3,4,5]);go_wp2_with fail;go_ret;exact⟨by rw[l];rfl,r,by rw[l];show Turned _ _ _ (aN B r (JG d n b));rw[akx];exact a.gl 0⟩
  .have C:=hid hbl;have l:aE (jL d n b=(2,d)):=hid (by rw[jL,M,if_neg aS,if_pos hbl]);clear hbl;go_enter VX,Wj;have a:=ak.start V;go_step;refine ah ?_;refine bL a (ay _) (λo ke a=>?_);refine ag ?_;refine an ?_;replace a:=a.front 1;replace a:=a.Av;obtain⟨hpl,a⟩:=a;replace a:ak _ _ _ [aj B #[J R _,ae _ _ _,J R _,J aF _,J R d.eE,J R d.hG,J R d.iD,J R d.hi,J R d.mo,ae m.A _ m.c,dL _,ai _] 120,aj m.b' _ 5,jU m.fb _,ba m.A _ m.c oJ 2 _,mf m.L,aj o #[ay _] 32]:=a;go_step;refine ah ?_;refine pl a 5 0 ?_;refine ag ?_;refine aR (O _ (a.aW 0)) ?_;rintro e k9 ⟨rfl,g⟩;replace a:=a.aI g;refine aU ?_;refine ag ?_;refine an ?_;go_step;refine ah ?_;refine ag ?_;refine pk (ai ao) ?_;refine an ?_;go_step;refine ah ?_;refine v2 ?_;refine pl a 5 0 ?_;refine v3 ?_;refine pl a 0 0 ?_;refine aG (ai az) (by(have h:=C.out;go_simp;first|omega|omega)) ?_;refine an ?_;go_step;refine ah ?_;refine ag ?_;refine an ?_;replace a:ak _ _ _ (aN B m d::[aj o _ 32]):=ak.vD hpl (a.pick (l':=_) [0,1,2,3,4,5]);go_wp2_with fail;go_ret;exact⟨by rw[l];rfl,m,by rw[l];exact a.gl 0⟩
 .have oh:=h0;have l:aE (jL d i b=(bt,d)):=hid (by grind[jL]);clear G;go_enter VX,Wj;have a:=ak.start V;go_step;refine ah ?_;refine bL a (ay _) (λo mj a=>?_);refine ag ?_;refine an ?_;replace a:=a.front 1;replace a:=a.Av;obtain⟨hpl,a⟩:=a;replace a:ak _ _ _ [aj B #[J R _,ae _ _ _,J R _,J aF _,J R d.eE,J R d.hG,J R d.iD,J R d.hi,J R d.mo,ae m.A _ m.c,dL _,ai _] 120,aj m.b' _ 5,jU m.fb _,ba m.A _ m.c oJ 2 _,mf m.L,aj o #[ay _] 32]:=a;go_step;refine ah ?_;refine pl a 5 0 ?_;refine ag ?_;refine aR (O _ (a.aW 0)) ?_;rintro e np ⟨rfl,g⟩;replace a:=a.aI g;refine aU ?_;refine ag ?_;refine an ?_;go_step;refine ah ?_;refine ag ?_;refine aG (ai az) (by(go_simp;try simp[oh])) ?_;refine an ?_;go_step;refine ah ?_;refine v2 ?_;refine an ?_;replace a:ak _ _ _ (aN B m d::[aj o _ 32]):=ak.vD hpl (a.pick (l':=_) [0,1,2,3,4,5]);go_wp2_with fail;go_ret;exact⟨by rw[l];rfl,m,by rw[l];exact a.gl 0⟩
section
section
variable {P:ew} {o:cS} {a:b3} {w:aQ}
def atn n:GK #[a6 0] n=aM a6 (dZ n 0) []:=by
 apply Array.ext;·simp[GK,aM]
 grind[GK,aM]
def aet{t e:Nat}{x y}(n:Nat)(ho:o.op=.makeSlice t x y)(hx:a.eval x=J R (n:Int))(d:a.eval y=J R (n:Int))(c:P.underlying t=ab (iJ e))(hi:(P.info? e).map (λi=>(i.zero,i.size,i.bytes))=ab (ab (a6 0),1,1))(hn:n<=1073741824):
 ∃B w',(bA a.eval o).run P w=bf (dc (ae (ab ⟨B,0,af⟩) n n)) w'/\cf w w' (aj B (aM a6 (dZ n 0) []) e):=by
 cases hq:P.info? e with
 |none=>grind
 |some i=>
  rw[hq]at hi;simp only[Option.map_some,w2,pq]at hi;obtain⟨h1,b,f⟩:=hi;have h:=run_make (P:=P) w t e i (a6 0) c hq h1 R R (n:Int) (n:Int) ad (Int.le_refl _) aH ad;refine⟨_,_,?_,yE (av.alloc _ _) (heap_alloc_new w _) (b9 _)⟩;rw[b,Nat.mul_one]at h;have hc:(a6 0).cells=#[a6 0]:=rfl;rw[hc,Int.toNat_natCast,atn]at h;unfold bA;simp only[ho,hx,d,gx,h,jE,kh]
def aub{t:Nat}(ho:o.op=.makeMap t af):∃B w',(bA a.eval o).run P w=bf (dc (dL (ab B))) w'/\cf w w' (jU B []):=by
 refine⟨w.heap.size,w.alloc (.map #[] 0),?_,av.alloc _ _,⟨[],d'.made w EJ cO,b9 _,λ_=>rfl⟩,λb hb=>?_⟩;·grind[bA,gx,run_makeMap,jE,kh]
 .have e:b=w.heap.size:=hb;rw[e];simp
def awx {d n} {c j g B off f cap m c2 t:Nat} {aK old new cs} (ho:o.op=nU {callee:=pb .copy,args:=#[d,n],argTypes:=#[c,j]}) (k:a.eval d=ae (ab ⟨B,off,af⟩) f cap) (l:a.eval n=ae aK m c2) (h:aX w B old t) (hr:Cells w 1 aK m cs) (r:m<=f)
 (na:off+m<=old.size) (h1:∀v∈cs,v.oneCell'=az) (k3:(old.toList.take off++cs++old.toList.drop (off+cs.length)).toArray=new) (hu:P.underlying c=ab (iJ g)) (hs:(P.info? g).map (·.size)=ab 1):
 ∃w',(bA a.eval o).run P w=bf (dc (J R (m:Int))) w'/\Turned w w' (aj B old t) (aj B new t):=by
 have hcs:cs.length=m:=by simpa using hr.1
 rcases lX m with i|i
 .subst i;obtain rfl:cs=[]:=j3 hcs;have e:new=old:=by rw[<-k3];simp
  subst e;have hc:=run_copy_none (P:=P) w c j o.type g (ab ⟨B,off,af⟩) aK f cap 0 c2 hu hs (Nat.zero_min _);refine⟨w,?_,Turned.refl ⟨h,λb hb=>by have e:b=B:=hb;rw[e];exact aX.lt h⟩⟩;unfold bA;simp only[ho,nX,nW,qV,gx,kh,jE,oI,j5,ln,k,l,hc];rfl
 .obtain⟨p,rfl,q⟩:=hr.2 i;have hr:=KQ (P:=P) w c j o.type g B off f cap p m c2 old t cs hu hs h aH q ad h1;refine⟨w.setRow B (old.toList.take off++cs++old.toList.drop (off+m)).toArray,?_,vz (av.setRow w B _) ?_⟩;·unfold bA;simp only[ho,nX,nW,qV,gx,kh,jE,oI,j5,ln,k,l,hr,hcs];rfl
  .rw[<-k3,hcs];exact h.setRow _
end
def lB(bs:List Int)(off:Nat)(b:List Int):List Int:=bs.take off++b++bs.drop (off+b.length)
theorem I7{bs b off}(h:off+b.length<=bs.length):(lB bs off b).length=bs.length:=by grind[lB]
def amc{bs b off}:((aM a6 bs []).toList.take off++b.map a6++(aM a6 bs []).toList.drop (off+(b.map a6).length)).toArray=aM a6 (lB bs off b) []:=by simp[aM,lB]
def nM(size cnt:Nat)(b:List Int):dR:={size:=size,cnt:=cnt,bytes:=lB (dZ (size*cnt) 0) 0 b,writes:=-1,keep:=0,eE:=0,hG:=0,iD:=0,hi:=0,mo:=0,cache:=[],down:=ao}
def TI{size cnt b}(h1:1<=size)(a:1<=cnt)(c:size*cnt<=1048576)(hb:b.length<=size*cnt):dY (nM size cnt b):=
 ⟨h1,a,by show(lB _ 0 b).length=cnt*size;grind[I7],by show cnt*size<=_;rw[Ln];exact c,λx hx=>absurd hx fQ,cC _,by unfold cO;show _<=(-1:Int)/\(-1:Int)<=_;omega⟩
def aoT(size cnt p:Nat)A c b w(h1:1<=size)(f:1<=cnt)(o:size*cnt<=1048576)(hbl:b.length<=size*cnt)(s:w.cell? ⟨p,0,af⟩=ab (ae A b.length c))(hb:b2 w A b):
 aD ax 94 #[J R (size:Int),J R (cnt:Int),ae (ab ⟨p,0,af⟩) 1 1] w λe w'=>∃B m,e=aB (de B)/\cf w w' (aN B m (nM size cnt b)):=by
 have hz1:size<=size*cnt:=yw _ f;have hz2:cnt<=size*cnt:=Ch _ h1;obtain⟨q,d⟩:=ex (1048576/cnt);have H:size<=q:=by rw[<-d];exact(al0 f).2 o
 have G:q<=1048576:=by rw[<-d];exact vu _ _
 obtain⟨N,i⟩:=ex (size*cnt);have r:(size:Int)*(cnt:Int)=(N:Int):=ad;have E:=hid i;have z:=hid d;rw[i]at o hbl hz1 hz2;clear d i;have y:aE (∀W,au w W->aD ax 93 #[ae (ab ⟨p,0,af⟩) 1 1] W λe w'=>∃j n,e=aB (ae j b.length n)/\w'.ownsRow W.heap.size 5 1 (ae j b.length n) b.length (b.map a6)/\au W w'):=hid (λW g=>Hv p A c b W (g.cell s (λh=>h)) (hb.aI g) ad);clear s hb;go_enter func94,ntmps94;have a:=a8 w;go_step;refine ah ?_;refine cB ?_;refine aR (y.out _ a.only) ?_;rintro e w1 ⟨D,F,rfl,hrow,g⟩;replace a:=a.lR g (Row.nk hrow);refine aU ?_;refine kg ?_;refine aG (J R (gI (size:Int) (cnt:Int))) (by(go_simp;try with_reducible rfl)) ?_;refine a1 (ai ao) ?_;refine v3 ?_;refine aG _ (s0 3 _ _ 3 aa _ cnt q aa aa f z ad) ?_;refine a1 (ai ao) ?_;refine pk (ai ao) ?_;refine v5 ?_;refine aG _ (lY 3 _ _ 3 aa _ _ _ aa aa r ad ad) ?_;refine a1 (ai ao) ?_;refine pk (ai ao) ?_;refine jk ?_;refine aG (J R (N:Int)) (lY 3 (bj 30) (bj 31) 3 aa ((size:Int)) ((cnt:Int)) (N:Int) aa aa r ad ad) ?_;refine NH a (aet N aa aa aa dW aw ad) (λk I a=>?_);refine v2 ?_;refine NH a (aub aa) (λl K a=>?_);refine ag ?_;refine bL a (ar #[J R (size:Int),ae (ab ⟨k,0,af⟩) N N,J R (-1),J aF 0,J R 0,J R 0,J R 0,J R 0,J R 0,ae af 0 0,dL (ab l),ai ao]) (λt L a=>?_);refine By ?_;refine pl a 0 1 ?_;refine ag ?_;refine Dr a 2 (awx aa aa aa (a.aW 2) (a.lK 3).1.cells ad (by grind[i']) (xB _) (show _=aM a6 (lB (dZ N 0) 0 b) []from amc) dW aw) (λC a=>?_);refine ah ?_;refine dU ?_;replace a:=(a.new (mf []) ⟨av.refl _ _,λx hx=>absurd hx fQ,λb ⟨x,hx,_⟩=>absurd hx fQ⟩).new (ba af 0 0 oJ 2 []) ⟨av.refl _ _,Row.nil _ _ _ _,λb ⟨_,_,e⟩=>aH⟩;have hlen:(lB (dZ N 0) 0 b).length=N:=by grind[I7]
 have u:=a.pk [2,4,3,0,1];have e:nM size cnt b={size:=size,cnt:=cnt,bytes:=lB (dZ N 0) 0 b,writes:=-1,keep:=0,eE:=0,hG:=0,iD:=0,hi:=0,mo:=0,cache:=[],down:=ao}:=by grind[nM]
 have v:ak w (λ_=>False) C [aN t ⟨k,l,af,0,[]⟩ (nM size cnt b)]:=by rw[e];refine ak.vD aa ?_;show ak _ _ _ (aj _ #[_,ae _ (lB (dZ N 0) 0 b).length (lB (dZ N 0) 0 b).length,_,_,_,_,_,_,_,_,_,_] _::_);rw[hlen];exact u
 go_wp2_with fail;go_ret;exact⟨_,_,aa,v.fresh 0⟩
end
open Go.RowKit Go.MapKept
def rB(s:Nat):Nat->Nat->Nat->List (Int×Int)
 |0,_,_=>[]
 |f+1,o,n=>if n=0 then[]else((o:Int),((gI s n:Nat):Int))::rB s f (o+gI s n) (n -gI s n)
def hU(s o n:Nat):List (Int×Int):=rB s n o n
theorem T3 s(a:0<s):∀f o n,n<=f->(rB s f o n).length<=(n+s -1)/s
 |0,o,n,h=>cC _
 |f+1,o,n,h=>by
  unfold rB;split;·simp
  .rename_i b;have c:=T3 s a f (o+gI s n) (n -gI s n) ad;rw[jQ]
   have h1:(n+s -1)/s=(n -gI s n+s -1)/s+1:=by
    by_cases hn:n<=s;·rw[Nat.min_eq_right hn,Nat.sub_self,show 0+s -1=s -1 by omega,Ll (by omega:s -1<s),show n+s -1=(n -1)+s by omega,Yj _ a,Ll ad]
    .rw[Ci ad,show n+s -1=(n -s+s -1)+s by omega,Yj _ a]
   omega
def au0(o n s:Nat)w:
 aD ax 324 #[gT ((o:Int),(n:Int)),J R (s:Int)] w λe w'=>∃b bS,e=aB (dI (ed 358) #[] #[ay (ab ⟨b,0,af⟩),ay (ab ⟨bS,0,af⟩)])/\cf w w' (both (aj b #[J R (o:Int),J R (n:Int)] 35) (aj bS #[J R (s:Int)] 3)):=by
 go_enter func324,ntmps324;have a:=a8 w;go_step;refine ah ?_;refine bL a (ar #[J _ (o:Int),J _ (n:Int)]) (λc w1 a=>?_);refine bL a (J _ _) (λd f a=>?_);refine ag ?_;refine ah ?_;refine dU ?_;go_wp2_with fail;go_ret;exact⟨_,_,aa,((a.pick (l':=[aj _ _ 35,aj _ _ 3]) [1,0]).star).fresh 0⟩
def IU(b:Nat)(w:aQ):Nat:=match w.cell? ⟨b,1,af⟩with|some v=>(bQ v).toNat|none=>0
def adJ{b w v}{n:Nat}{t}(h:aX w b #[v,J R (n:Int)] t):IU b w=n:=by unfold IU;rw[aX.cell h 1 aa];simp[bQ]
theorem auZ(o n s:Nat)(H:0<s/\(s:Int)<=4611686018427387903)(hn:((o+n:Nat):Int)<=4611686018427387903)(g bS)aq FX:
 yy ax 358 #[ay (ab ⟨g,0,af⟩),ay (ab ⟨bS,0,af⟩)] (λe:Int×Int=>#[gT e]) aq FX (both (aj g #[J R (o:Int),J R (n:Int)] 35) (aj bS #[J R (s:Int)] 3)) (λ_=>True) (hU s o n):=by
 intro l S M W F t r u a;go_enter Tryz.func358,ntmps358;replace a:=a.fx;obtain⟨xs,j⟩:=ex (hU s o n);rw[j]at r⊢;have hs1:=H;have P:=hn;go_wp2_with fail;go_loopw [] (λwr=>∃(i c d:Nat) (pre:List (Int×Int)) (t:bq),pre++rB s d i c=xs/\c<=d/\i+c=o+n/\S pre t/\ak aq FX wr [aj g #[J R (i:Int),J R (c:Int)] 35,aj bS #[J R (s:Int)] 3,t,F]) (λwr=>IU g wr);case atStart=>exact⟨o,n,n,[],t,j,b9 _,aa,u,a⟩
 case round=>
  clear a j u;obtain⟨i,c,d,pre,t,j,N,Q,v,a⟩:=hrel;have E:=a.aW 0;by_cases hlt:0<c
  .have D:(0:Int)<(c:Int):=ad;obtain⟨m,w⟩:=ex (gI s c);have O:0<m/\m<=c:=ad;have x:gI (s:Int) (c:Int)=(m:Int):=ad;obtain⟨d,rfl⟩:∃f,d=f+1:=⟨d -1,ad⟩;have p:(pre++[((i:Int),(m:Int))])++rB s d (i+m) (c -m)=xs:=by grind[rB]
   have y:pre++[((i:Int),(m:Int))]<+:xs:=⟨_,p⟩;have A:=hid x;have B:=hid p;have K:=hid w;have L:=hid j;clear w x j p;go_step;refine ah ?_;refine ag ?_;refine pl a 0 1 ?_;refine dV ?_;refine pl a 1 0 ?_;refine ag ?_;refine pl a 0 1 ?_;refine dp A (J R (m:Int)) ?_;refine hX ?_;refine JE 5 ?_;refine v2 ?_;refine pl a 0 0 ?_;refine dU ?_;have q:=(a.pick (l':=[t,aj g _ 35,aj bS _ 3,F]) [2,0,1,3]).Ey;refine Gh (r _ _ _ _ _ y v q) (λb w1 hb=>?_) (λ_ _ C=>C.elim (λh=>⟨_,h.1⟩) (λh=>⟨_,h.1⟩)) (EL aa aa (by simp only[oI,j5,ln];rfl));clear q a;rcases Ga hb with⟨rfl,z,k,a⟩|⟨rfl,z,k,a⟩
   .clear hb;replace a:=a.u0;refine th ?_;refine cB ?_;refine pl a 1 0 ?_;refine ag ?_;refine pad _ _ ((i+m:Nat):Int) ?_;refine ag ?_;refine a' a 1 (J _ _) (λT a=>?_);refine b5 ?_;refine pl a 1 1 ?_;refine ag ?_;refine jW _ _ ((c -m:Nat):Int) ?_;refine ag ?_;refine a' a 1 (J _ _) (λU a=>?_);refine an ?_;have G:=a.aW 1;go_wp2_with fail;go_roundw;case rel=>exact⟨_,_,d,_,_,B,ad,ad,k,a.pick [1,2,0,3]⟩
    case measure=>(show IU _ _<IU _ _;rw[adJ G,adJ E];omega)
   .clear hb;replace a:=a.u0;refine th ?_;refine bX ?_;go_wp2_with fail;first|go_end0|refine bodyPost_ret (results_none rfl _ _ _) rfl ?_
    exact vx.cut y k ((ak.bP (l:=[aj g _ 35,aj bS _ 3]) (a.pick (l':=[aj g _ 35,aj bS _ 3,z,F]) [1,2,0,3])).pick [1,0,2])
  .have D:¬(0:Int)<(c:Int):=ad;obtain rfl:c=0:=ad;have I:pre=xs:=by rw[<-j];cases d<;>simp[rB]
   subst I;go_step;refine ah ?_;refine ag ?_;refine pl a 0 1 ?_;refine bX ?_;go_wp2_with fail;first|go_end0|refine bodyPost_ret (results_none rfl _ _ _) rfl ?_
   exact vx.all v trivial ((ak.bP (l:=[aj g _ 35,aj bS _ 3]) a).pick [1,0,2])
def rj(l:List (Int×Int)):List Value:=l.flatMap (λe=>[J R e.1,J R e.2])
theorem apD l e:rj (l++[e])=rj l++[J R e.1,J R e.2]:=by simp[rj]
def axn(o n s:Nat)(y:0<s/\(s:Int)<=4611686018427387903)(hn:((o+n:Nat):Int)<=4611686018427387903)(U:(n+s -1)/s<=1048576)w:
 aD ax 289 #[gT ((o:Int),(n:Int)),J R (s:Int)] w λe w'=>∃A c,e=aB (ae A (hU s o n).length c)/\Row w.heap.size w' A (hU s o n).length c 35 2 (rj (hU s o n))/\au w w':=by
 obtain⟨xs,q⟩:=ex (hU s o n);have z:xs.length<=1048576:=by grind[T3,hU]
 have K:=hid q;have I:=hid z;have H:∀d bS,yy ax 358 #[ay (ab ⟨d,0,af⟩),ay (ab ⟨bS,0,af⟩)] (λe:Int×Int=>#[gT e]) w (λ_=>False) (both (aj d #[J R (o:Int),J R (n:Int)] 35) (aj bS #[J R (s:Int)] 3)) (λ_=>True) xs:=λd bS=>by grind[auZ]
 obtain⟨B,k⟩:=ex ((n -1)/s);have r:=hid k;have V:B<=n:=by rw[<-k];exact dT (vu _ _) (Eo _ _)
 clear k;rw[q];clear q z;refine Aq func289 aa ?_;simp only[ntmps289,iK,jQ,mq,pV,pW,qa,p7,lJ,pj];have a:=a8 w;go_step;refine ah ?_;refine bL a (ar #[J _ (o:Int),J _ (n:Int)]) (λC w1 a=>?_);refine ag ?_;refine an ?_;by_cases L:n=0
 .subst L;have hx0:xs=[]:=by rw[<-K];rfl
  subst hx0;go_step;refine ah ?_;refine ag ?_;refine a1 (ai ao) ?_;refine v2 ?_;refine pl a 0 1 ?_;refine v3 ?_;iterate 6 refine ps ?_
  refine ag ?_;refine an ?_;go_step;refine ah ?_;refine ag ?_;refine an ?_;go_wp2_with fail;exact atr (KP aa _ _ _) ⟨_,0,aa,Row.nil _ _ _ _,a.only⟩
 .have T:¬(n:Int)=0:=ad;have G:aE (¬(1048576:Int)<=(B:Int)):=hid (by have h1:(n+s -1)/s=(n -1)/s+1:=(by rw[show n+s -1=(n -1)+s by omega,Yj _ y.1]);have M:=r.out;omega);go_step;refine ah ?_;refine ag ?_;refine a1 (ai ao) ?_;refine v2 ?_;refine pl a 0 1 ?_;refine a1 (ai ao) ?_;refine v3 ?_;refine pl a 0 1 ?_;refine jW _ 1 ((n -1:Nat):Int) ?_;refine ag ?_;refine aG _ (s0 _ _ _ _ aa _ s _ aa aa y.1 r ad) ?_;refine aG (ai ao) (by(have h:=G.out;go_simp;try simp[h];try omega)) ?_;refine ag ?_;refine an ?_;go_step;refine ah ?_;refine bl a #[ae _ 0 0] (λg X a=>?_);refine an ?_;go_step;refine ah ?_;refine bh a 1 #[J R (o:Int),J R (n:Int)] ?_;refine ag ?_;refine aR (au0 o n s _) ?_;rintro e Y ⟨d,bS,rfl,N⟩;replace a:=a.new _ N;refine aU ?_;refine an ?_;replace a:=a.new (ba _ 0 0 35 2 []) ⟨av.refl _ _,Row.nil _ _ _ _,λb ⟨_,_,e⟩=>aH⟩;go_wp2_with fail;have v:ak _ _ _ [both _ _,bP [aj g _ 176,ba af 0 0 35 2 []],bP [aj C #[J R _,J R _] 35]]:=ak.Cr (a.pick [1,2,0,3]);refine JF (encs:=(λe:Int×Int=>#[gT e])) aa (lf Tryz.func358 bc aa) (λ_=>aa) (H d bS) (λpre t=>∃A c,t=bP [aj g #[ae A pre.length c] 176,ba A pre.length c 35 2 (rj pre)]) (λ_ _ _=>False) (⟨af,0,aa⟩) v ?_ ?_ ?_;all_goals clear v a
  .rintro l rd pre x W t F O P ⟨A,c,rfl⟩ a;replace a:=a.kM;repeat((fail_if_success (with_reducible refine at_region ?_));gi_step)
   refine jX ?_;refine bl a #[J _ 0,J _ 0] (λS Z a=>?_);refine a' a 0 (ar _) (λcA a=>?_);refine an ?_;first|refine BV ?_|skip
   simp only[Exit.then];refine Am a 3 P (λcR a=>?_);replace a:ak _ _ _ [aj _ _ 35,aj _ _ _,ba A _ c 35 2 _,obj l _,F]:=a;have hpl:=O.length_le;rw[c7,vr]at hpl;have E:=hid hpl;clear hpl;repeat((fail_if_success (with_reducible refine at_region ?_));gi_step)
   refine jX ?_;refine pl a 1 0 ?_;refine bh a 0 #[J R x.1,J R x.2] ?_;refine e7 a #[J R x.1,J R x.2] 35 (λQ dz a=>?_);refine jV (m:=1) a 3 16 (aX.cellsOf (m:=1) (a.aW 0) aa) (by intro u p;simp only[gy,fQ,or_false]at p;rcases p with rfl|rfl<;>rfl) (λf j dv a=>?_) (hby:=by have h1:=E.out;have M:=I.out;omega);refine a' a 2 (ae _ _ _) (λeU a=>?_);refine an ?_;repeat gi_step
   have i:=a.pk [2,3,4,5];replace i:ak _ _ _ [bP [aj g #[ae f (pre.length+1) j] 176,ba f (pre.length+1) j 35 2 (rj pre++([J R x.1,J R x.2]))],obj l (.loop {rd with state:=.busy}),F]:=i.fh 2;refine⟨_,?_,i⟩;exact⟨f,j,by grind[apD]⟩
  .rintro D t u W ⟨A,c,rfl⟩ p a;replace a:=a.kM;replace a:=(a.pk [4,0,1,2,3]).kM;go_step;refine ah ?_;refine pl a 1 0 ?_;refine ag ?_;refine an ?_;go_wp2_with fail;refine zc a 4 (λw' a=>⟨KP aa _ _ _,?_⟩);replace a:ak _ _ _ [aj _ _ 35,aj _ _ _,ba A _ c 35 2 _,u,obj D _]:=a;exact⟨A,c,aa,(a.fresh 2).row,a.only⟩
  .simp
def eu(s o n:Nat):Nat×Nat:=if n=0 then(0,0)else(o/s,(o+n -1)/s -o/s+1)
def mg(s o n i:Nat):Nat×Nat×Nat:=(i,max o (i*s),gI (o+n) (i*s+s) -max o (i*s))
def o6(s o n:Nat):List (Nat×Nat×Nat):=(List.range (eu s o n).2).map (λj=>mg s o n ((eu s o n).1+j))
def ae0{s o n i}(c:1<=s)(h1:(eu s o n).1<=i)(a:i<(eu s o n).1+(eu s o n).2):i*s<=(mg s o n i).2.1/\o<=(mg s o n i).2.1/\0<(mg s o n i).2.2/\(mg s o n i).2.1+(mg s o n i).2.2<=o+n/\(mg s o n i).2.1+(mg s o n i).2.2<=i*s+s:=by
 unfold eu at h1 a;by_cases b:n=0;·grind
 .rw[if_neg b]at h1 a;simp only at h1 a;have d:=by have:=Nat.lt_succ_of_le h1;have:=(Nat.div_lt_iff_lt_mul c).1 this;rw[Ae]at this;exact this
  have e:i<=(o+n -1)/s:=by have:o/s<=(o+n -1)/s:=alY ad;omega
  grind[al0,mg]
def ave{s o n}(b:1<=s){x}(hx:x∈o6 s o n):x=mg s o n x.1/\(eu s o n).1<=x.1/\x.1<(eu s o n).1+(eu s o n).2:=by obtain⟨j,a,rfl⟩:=List.mem_map.1 hx;rw[List.mem_range]at a;exact⟨aa,by show _<=(eu s o n).1+j;omega,by show(eu s o n).1+j<_;omega⟩
def aeZ{a:Type}{pre xs}{x:a}(h:pre++[x]<+:xs):x∈xs:=h.subset (List.mem_append_right _ (vs.2 aa))
def afK(s o n:Nat)(f:1<=s/\s<=1125899906842624)(hn:o+n<=1125899906842624)w:
 aD ax 116 #[J R (s:Int),gT ((o:Int),(n:Int))] w λe w'=>e=aB (gT (((eu s o n).1:Int),((eu s o n).2:Int)))/\au w w':=by
 by_cases l:n=0;·subst l;have e:eu s o 0=(0,0):=rfl;rw[e];go_enter Tryz.func116,Tryz.ntmps116;have c:=a8 w;go_step;refine ah ?_;refine bL c (ar #[J _ (o:Int),J _ ((0:Nat):Int)]) (λg w1 c=>?_);refine bl c #[J _ 0,J _ 0] (λh q c=>?_);refine b5 ?_;refine a1 (ai ao) ?_;refine ag ?_;refine bh c 1 #[J R (o:Int),J R ((0:Nat):Int)] ?_;refine bC (xM (o:Int) ((0:Nat):Int) _ ⟨ad,ad,ad⟩) c (λr c=>?_);refine v4 ?_;refine pl c 1 1 ?_;refine pk (ai az) ?_;refine cB ?_;refine a' c 0 (ar #[J R 0,J R 0]) (λt c=>?_);refine an ?_;go_wp2_with fail;refine c' (v:=_) (gG aa _ _ _ _ _ _ _ aa (c.aW 0) x4 aa aw) aa (⟨aa,c.only⟩)
 .obtain⟨a,d⟩:=ex (o/s);obtain⟨b,hb⟩:=ex ((o+n -1)/s);have hab:a<=b:=by rw[<-d,<-hb];exact alY ad
  have m:b<=o+n:=by rw[<-hb];exact dT (vu _ _) (Eo _ _)
  have e:eu s o n=(a,b -a+1):=by grind[eu]
  rw[e];have j:=hid d;have k:=hid hb;clear d hb e;go_enter Tryz.func116,Tryz.ntmps116;have c:=a8 w;go_step;refine ah ?_;refine bL c (ar #[J _ (o:Int),J _ (n:Int)]) (λg u c=>?_);refine bl c #[J _ 0,J _ 0] (λh x c=>?_);refine b5 ?_;refine a1 (ai ao) ?_;refine ag ?_;refine bh c 1 #[J R (o:Int),J R (n:Int)] ?_;refine bC (xM (o:Int) (n:Int) _ ⟨ad,ad,ad⟩) c (λy c=>?_);refine v4 ?_;refine pl c 1 1 ?_;refine a1 (ai ao) ?_;refine hX ?_;refine bR c [5] (λi _=>match i with|5=>J R ((o:Int)+(n:Int))|_=>a7) (λ_ _=>emp) (λ_=>[]) (λ|1=>[1]|4=>[1]|_=>[]) (λ_=>[]) [0,1,7] (λp=>?_);refine aJ ?_;refine dl 0 0 ?_;refine aJ ?_;refine aL _ (λ_ _ _=>s0 _ _ _ _ aa o s a aa aa f.1 j ad) ?_;refine eM 0 #[J R (o:Int),J R (n:Int)] ?_;refine dK (λ_ _ _=>l1 (o:Int) (n:Int) _ ad ad ad) ?_;refine aL _ (λ_ _ _=>ra 3 _ _ 3 aa _ 1 ((o+n -1:Nat):Int) aa aa ad ad ad) ?_;refine aJ ?_;refine aL _ (λ_ _ _=>s0 _ _ _ _ aa _ s b aa aa f.1 k ad) ?_;refine bG ?_;refine bW λz c=>?_;replace c:=c.drop 2;refine jk ?_;refine jW (b:Int) (a:Int) ((b -a:Nat):Int) ?_;refine pad _ 1 ((b -a+1:Nat):Int) ?_;refine ag ?_;refine a' c 0 (ar #[J R _,J _ ((b -a+1:Nat):Int)]) (λA c=>?_);refine an ?_;go_wp2_with fail;refine c' (v:=_) (gG aa _ _ _ _ _ _ _ aa (c.aW 0) x4 aa aw) aa (⟨aa,c.only⟩)
def Z2 B m d(o n)w(hb:aX w B (qi m d) 120)(b:dY d)(hn:o+n<=d.bytes.length):
 aD ax 207 #[de B,gT ((o:Int),(n:Int))] w λe w'=>e=aB (J R 0)/\au w w':=by
 have c:=b.len;have hsm:=b.small;obtain⟨q,f⟩:=ex (d.cnt*d.size);have hc1:=b.Cw;have g:(d.size:Int)*(d.cnt:Int)=(q:Int):=by rw[<-f,Ln,Int.natCast_mul]
 rw[f]at c hsm;rw[c]at hn;clear f c;go_enter func207,ntmps207;have a:=a8 w;go_step;refine ah ?_;refine bL a (ar #[J _ (o:Int),J _ (n:Int)]) (λh w1 a=>?_);refine cB ?_;refine pk (ai ao) ?_;refine dV ?_;refine bh a 0 #[J R (o:Int),J R (n:Int)] ?_;refine bC (xM (o:Int) (n:Int) _ ⟨ad,ad,ad⟩) a (λi a=>?_);refine v2 ?_;refine bh a 0 #[J R (o:Int),J R (n:Int)] ?_;refine bC (l1 (o:Int) (n:Int) _ ad ad ad) a (λj a=>?_);refine ag ?_;refine bC (w7 B m d _ (aX.aI hb a.only) b) a (λk a=>?_);refine ag ?_;refine bC (L5 B m d _ (aX.aI hb a.only) b) a (λl a=>?_);refine aG _ (lY 3 _ _ 3 aa _ _ _ aa aa g ad ad) ?_;refine a1 (ai ao) ?_;refine v2 ?_;refine ah ?_;refine ag ?_;refine an ?_;go_wp2_with fail;go_ret;exact⟨aa,a.only⟩
def aeK(s o n:Nat)w:
 aD ax 208 #[J R (s:Int),gT ((o:Int),(n:Int))] w λe w'=>∃bS b,e=aB (dI (ed 280) #[] #[ay (ab ⟨bS,0,af⟩),ay (ab ⟨b,0,af⟩)])/\cf w w' (both (aj bS #[J R (s:Int)] 3) (aj b #[J R (o:Int),J R (n:Int)] 35)):=by
 go_enter func208,ntmps208;have a:=a8 w;go_step;refine ah ?_;refine bL a (J _ _) (λc w1 a=>?_);refine bL a (ar #[J _ (o:Int),J _ (n:Int)]) (λd f a=>?_);refine ag ?_;refine ah ?_;refine dU ?_;go_wp2_with fail;go_ret;exact⟨_,_,aa,((a.pick (l':=[aj _ _ 3,aj _ _ 35]) [1,0]).star).fresh 0⟩
theorem aeJ(s o n:Nat)(w:1<=s/\s<=1125899906842624)(hn:o+n<=1125899906842624)(bS f)aq FX:
 yy ax 280 #[ay (ab ⟨bS,0,af⟩),ay (ab ⟨f,0,af⟩)] (λx:Nat×Nat×Nat=>#[J R (x.1:Int),gT ((x.2.1:Int),(x.2.2:Int))]) aq FX (both (aj bS #[J R (s:Int)] 3) (aj f #[J R (o:Int),J R (n:Int)] 35)) (λ_=>True) (o6 s o n):=by
 intro l S gR W F t D E a;obtain⟨xs,Q⟩:∃xs,o6 s o n=xs:=⟨_,aa⟩;rw[Q]at D⊢;obtain⟨c,H⟩:∃x,(eu s o n).1=x:=⟨_,aa⟩;obtain⟨d,G⟩:∃x,(eu s o n).2=x:=⟨_,aa⟩;have P:xs.length=d:=by grind[o6]
 have O:∀j,j<d->xs[j]?=ab (mg s o n (c+j)):=λj I=>by grind[o6]
 have u:∀j,j<d->(c+j)*s<=(mg s o n _).2.1/\o<=(mg s o n _).2.1/\0<(mg s o n _).2.2/\(mg s o n _).2.1+(mg s o n _).2.2<=o+n/\(mg s o n _).2.1+(mg s o n _).2.2<=(c+j)*s+s:=λj I=>ae0 w.1 ad ad
 have iO:c+d<=1125899906842625:=by
  rcases lX d with h|h;·grind[eu]
  .have h1:=u (d -1) ad;have h2:c+(d -1)<=(c+(d -1))*s:=yw _ w.1;omega
 have Y:aE (∀W,aD _ _ #[J _ _,ar #[J _ (o:Int),J _ (n:Int)]] W λe w'=>e=aB (ar #[J _ (c:Int),J _ (d:Int)])/\au W w'):=hid (λW=>by have h:=afK s o n w hn W;rw[H,G]at h;exact h);have kj:=hid P;have Z:=hid O;have X:=hid u;clear Q H G P O u;go_enter VT,ntmps280;replace a:=a.fx;go_step;refine ah ?_;refine pl a 0 0 ?_;refine bh a 1 #[J R (o:Int),J R (n:Int)] ?_;refine aR (Y _) ?_;rintro e w1 ⟨rfl,g⟩;replace a:=a.aI g;refine aU ?_;refine bl a #[J _ 0,J _ 0] (λA aT a=>?_);refine a' a 0 (ar _) (λbF a=>?_);refine an ?_;go_step;refine ah ?_;refine ag ?_;refine pl a 0 0 ?_;refine ag ?_;refine an ?_;replace a:=a.pick (l':=[aj bS _ 3,aj f _ 35,aj _ _ 35,t,F]) [1,2,0,3,4];go_wp2_with fail;go_loopw [5] (λz wr=>∃(j:Nat) (t:bq),j<=d/\z=J R ((c+j:Nat):Int)/\S (xs.take j) t/\ak aq FX wr [aj bS #[J R (s:Int)] 3,aj f #[J R (o:Int),J R (n:Int)] 35,aj A #[J R (c:Int),J R (d:Int)] 35,t,F]) (λz wr=>c+d -(bQ z).toNat);case atStart=>exact⟨0,t,cC _,aa,E,a⟩
 case round=>
  clear a E;obtain⟨j,t,I,rfl,p,a⟩:=hrel;by_cases hlt:j<d
  .have hx:=Z j hlt;have M:=X j hlt;have y:xs.take (j+1)=xs.take j++[mg s o n (c+j)]:=by grind[gq]
   have v:xs.take j++[mg s o n (c+j)]<+:xs:=aH;obtain⟨a1,k⟩:∃x,(mg s o n (c+j)).2.1=x:=⟨_,aa⟩;obtain⟨i,hpl⟩:∃x,(mg s o n (c+j)).2.2=x:=⟨_,aa⟩;have N:mg s o n (c+j)=(c+j,a1,i):=by rw[<-k,<-hpl];rfl
   rw[k,hpl]at M;obtain⟨m,r⟩:∃x,(c+j)*s=x:=⟨_,aa⟩
   have L:me ((o:Int),(n:Int)) ((m:Int),(s:Int))=((a1:Int),(i:Int)):=by have bE:max o _=a1:=k;have fz:gI _ _ -max o _=i:=hpl;rw[r]at bE fz;unfold me;simp only;rw[if_pos ad];rw[pq];exact⟨ad,ad⟩
   rw[r]at M;have sj:((c+j:Nat):Int)*(s:Int)=(m:Int):=ad;obtain⟨xv,K⟩:∃b,meets ((o:Int),(n:Int)) ((m:Int),(s:Int))=b:=⟨_,aa⟩;have V:aE (∀W,aD ax 202 _ W λe w'=>e=aB (bn #[ar #[J R (a1:Int),J R (i:Int)],ai xv])/\au W w'):=hid (λW=>by have h:=ND (o:Int) (n:Int) (m:Int) (s:Int) W ⟨ad,ad,ad⟩ ⟨ad,ad,ad⟩;rw[L,K]at h;exact h);rw[N]at v y;have C:=hid v;have Qx:=hid y;clear hx y v k hpl N r L K;go_step;refine ah ?_;refine ag ?_;refine bh a 2 #[J R (c:Int),J R (d:Int)] ?_;refine aR (l1 (c:Int) (d:Int) _ ad ad ad) ?_;rintro e b8 ⟨rfl,g⟩;replace a:=a.aI g;refine aU ?_;refine aG (ai az) (by(go_simp;try omega)) ?_;refine an ?_;go_step;refine ah ?_;refine bh a 1 #[J R (o:Int),J R (n:Int)] ?_;refine ag ?_;refine pl a 0 0 ?_;refine aG _ (lY 3 _ _ 3 aa _ _ _ aa aa sj ad ad) ?_;refine pl a 0 0 ?_;refine ag ?_;refine aR (V _) ?_;rintro e cA ⟨rfl,g⟩;replace a:=a.aI g;refine aU ?_;iterate 3 refine ag ?_
   refine bl a #[J _ 0,J _ 0] (λU cR a=>?_);refine a' a 0 (ar _) (λdz a=>?_);refine ag ?_;refine an ?_;go_step;refine cy ?_;refine JE 3 ?_;iterate 2 refine ag ?_
   refine bh a 0 #[J R (a1:Int),J R (i:Int)] ?_;refine an ?_;have B:=(a.pick (l':=[t,aj U _ 35,aj bS _ 3,aj f _ 35,aj A _ 35,F]) [4,0,1,2,3,5]).Ey;refine Gh (D _ _ _ _ _ C p B) (λb dv hb=>?_) (λ_ _ he=>he.elim (λh=>⟨_,h.1⟩) (λh=>⟨_,h.1⟩)) (EL aa aa (by simp only[oI,j5,ln];rfl));clear B a;rcases Ga hb with⟨rfl,T,q,a⟩|⟨rfl,T,q,a⟩
   .clear hb;replace a:=a.u0;refine th ?_;refine ag ?_;refine an ?_;go_step;refine ah ?_;refine ag ?_;refine aG _ (mu 3 _ _ 3 aa _ 1 ((c+(j+1):Nat):Int) aa aa ad ad ad) ?_;refine ag ?_;refine an ?_;go_wp2_with fail;go_roundw;case rel=>exact⟨j+1,_,ad,aa,by rw[Qx.out];exact q,a.pick [2,3,4,0,5]⟩
    case measure=>grind[bQ]
   .clear hb;replace a:=a.u0;refine th ?_;refine ag ?_;refine an ?_;go_wp2_with fail;first|go_end0|refine bodyPost_ret (results_none rfl _ _ _) rfl ?_
    exact vx.cut C q ((ak.bP (l:=[aj bS _ 3,aj f _ 35]) (a.pick (l':=[aj bS _ 3,aj f _ 35,T,F]) [2,3,0,5])).pick [1,0,2])
  .obtain rfl:d=j:=ad;have Td:=List.take_of_length_le (by rw[kj];exact b9 _);rw[Td]at p;go_step;refine ah ?_;refine ag ?_;refine bh a 2 #[J R (c:Int),J R (d:Int)] ?_;refine aR (l1 (c:Int) (d:Int) _ ad ad ad) ?_;rintro e eU ⟨rfl,g⟩;replace a:=a.aI g;refine aU ?_;refine aG (ai ao) (by(go_simp;try omega)) ?_;refine an ?_;go_wp2_with fail;first|go_end0|refine bodyPost_ret (results_none rfl _ _ _) rfl ?_
   exact vx.all p trivial ((ak.bP (l:=[aj bS _ 3,aj f _ 35]) (a.pick (l':=[aj bS _ 3,aj f _ 35,t,F]) [0,1,3,4])).pick [1,0,2])
section
section
variable {P:ew} {o:cS} {a:b3} {w:aQ}
def Tv{ty t B:Nat}{v}(hb:aX w B #[v] t)(b:(P.underlying ty).map (λd=>d.isRow)=ab ao):(loadVar ty ⟨B,0,af⟩).run P w=bf v w:=by
 have hc:=hb.cell 0 aa;cases hq:P.underlying ty with
 |none=>grind
 |some d=>
  have a:d.isRow=false:=aH
  have hagg:(isAgg ty).run P w=bf ao w:=by unfold isAgg;rw[gx,run_underlying hq w];cases d<;>simp_all
  simp[loadVar,hagg,hc]
def F2{a}{p ty t B:Nat}{v tmps}(h:a.results=#[.cell p ty])(b:tmps.getD p a7=ay (ab ⟨B,0,af⟩))(hb:aX w B #[v] t)(c:(P.underlying ty).map (λd=>d.isRow)=ab ao):(nw a tmps).run P w=bf v w:=by rw[xH h,b];simp[asAddr,Tv (P:=P) hb c]
def afk {a} {p ty t B c e t2 eQ:Nat} {v v2 tmps} (h:a.results=#[.cell p ty,.cell c e]) (b:tmps.getD p a7=ay (ab ⟨B,0,af⟩)) (hb:aX w B #[v] t) (g:(P.underlying ty).map (λd=>d.isRow)=ab ao)
 (qu:tmps.getD c a7=ay (ab ⟨eQ,0,af⟩)) (hb2:aX w eQ #[v2] t2) (S4:(P.underlying e).map (λd=>d.isRow)=ab ao):(nw a tmps).run P w=bf (bn #[v,v2]) w:=by
 have h1:=Tv (P:=P) hb g;have f:=Tv (P:=P) hb2 S4;simp only[nw,h];simp only[Array.getD_eq_getD_getElem?]at b qu;simp[b,qu,asAddr,h1,f]
def aww {d g} {b f c B off n cap m c2 t:Nat} {aK old new cs} (ho:o.op=nU {callee:=pb .copy,args:=#[d,g],argTypes:=#[b,f]}) (k:a.eval d=ae (ab ⟨B,off,af⟩) n cap) (p:a.eval g=ae aK m c2) (e:aX w B old t) (hr:Cells w 1 aK m cs) (s:n<=m) (q:0<n)
 (na:off+n<=old.size) (h1:∀v∈cs,v.oneCell'=az) (k3:(old.toList.take off++cs.take n++old.toList.drop (off+n)).toArray=new) (hu:P.underlying b=ab (iJ c)) (hs:(P.info? c).map (·.size)=ab 1):
 ∃w',(bA a.eval o).run P w=bf (dc (J R (n:Int))) w'/\Turned w w' (aj B old t) (aj B new t):=by
 obtain⟨h,rfl,l⟩:=hr.2 ad;have hcs:=by simpa using hr.1
 have i:(cs.take n).length=n:=aH;have hr:=KQ (P:=P) w b f o.type _ B off n cap h m c2 _ t (cs.take n) hu hs e aH (λj v r=>l j v aH) ad (λv hv=>h1 v (List.mem_of_mem_take hv));refine⟨w.setRow B (old.toList.take off++cs.take n++old.toList.drop (off+n)).toArray,?_,vz (av.setRow w B _) ?_⟩;·unfold bA;simp only[ho,nX,nW,qV,gx,kh,jE,oI,j5,ln,k,p,hr,i];rfl
 .rw[<-k3];exact e.setRow _
end
def aw5 {P o} {a:b3} {w} (t e:Nat) (x lo) (ho:o.op=.slice t x (ab lo) af af) (d:P.underlying t=ab (iJ e)) (b:(P.info? e).map (·.size)=ab 1) (B n c i m:Nat)
 (hx:a.eval x=ae (ab ⟨B,0,af⟩) n c) (ks:a.eval lo=J R (i:Int)) (hm:i+m=n) (h2:n<=c) (hi:i<c):(bA a.eval o).run P w=bf (dc (ae (ab ⟨B,i,af⟩) m (c -i))) w:=by
 have h:=Bi (w:=w) t e 1 x lo ho d b _ n c i m hx ks hm h2;rw[agW hi]at h;exact h
def amd{bs b:List Int}{off n}(h:n<=b.length):((aM a6 bs []).toList.take off++(b.map a6).take n++(aM a6 bs []).toList.drop (off+n)).toArray=aM a6 (lB bs off (b.take n)) []:=by have e:(b.take n).length=n:=aH;simp[aM,lB,e]
def rdStep(d:dR)(o:Nat)(out:List Int)(x:Nat×Nat×Nat):List Int:=lB out (x.2.1 -o) (((nj d x.1).drop (x.2.1 -x.1*d.size)).take x.2.2)
def pK(d:dR)(o n:Nat):List Int:=(o6 d.size o n).foldl (rdStep d o) (dZ n 0)
def Hi(d:dR)(o n:Nat)(x:Nat×Nat×Nat):Prop:=x.1*d.size<=x.2.1/\o<=x.2.1/\0<x.2.2/\x.2.1+x.2.2<=o+n/\x.2.1+x.2.2<=x.1*d.size+d.size/\x.1<d.cnt
def T9{d}(b:dY d){o n}(hn:o+n<=d.bytes.length){x}(hx:x∈o6 d.size o n):Hi d o n x:=by
 obtain⟨h1,c,e⟩:=ave b.mL hx;have a:=ae0 (i:=_) b.mL c e;rw[<-h1]at a;refine⟨a.1,a.2.1,a.2.2.1,a.2.2.2.1,a.2.2.2.2,?_⟩;have f:x.1*d.size<d.cnt*d.size:=by rw[<-b.len];omega
 exact Nat.lt_of_mul_lt_mul_right f
def avt{d}(g:dY d){o n out x}(hx:Hi d o n x)(ho:out.length=n):(rdStep d o out x).length=n:=by obtain⟨h1,a,b,c,e,f⟩:=hx;grind[rdStep,I7]
def Ud{d}(a:dY d){o n}:∀(l:List (Nat×Nat×Nat)) out,(∀x∈l,Hi d o n x)->out.length=n->(l.foldl (rdStep d o) out).length=n
 |[],_,_,h=>h
 |x::l,out,hx,h=>by rw[Aa];exact Ud a l _ (λy b=>hx y (List.mem_cons_of_mem _ b)) (avt a (hx x (List.mem_cons_self ..)) h)
theorem Bc{d}(a:dY d){o n}(hn:o+n<=d.bytes.length):(pK d o n).length=n:=Ud a _ _ (λ_ hx=>T9 a hn hx) lI
def ak.am6{aq w:aQ}{FX:Nat->Prop}{l:List bq}{B:Nat}{bs:List Int}(h:ak aq FX w l)(i:Nat)(hi:l[i]?=ab (aj B (aM a6 bs []) 5):=by rfl):ak aq FX w (l.set i (cx (ab ⟨B,0,af⟩) bs.length bs)):=
 h.as i hi _ (λhb=>⟨LM hb,λb off a e=>by
  injection e with e;injection e with bE cr;subst bE;exact⟨cC _,_,hb⟩,b9 _⟩) (λb ⟨off,a,e⟩=>by
  injection e with e;injection e with bE cr;exact bE.symm)
def aac B m d(o n)w(hs:Has w (aN B m d))(f:dY d)(cV:d.down=ao)(hn:o+n<=d.bytes.length):
 aD ax 130 #[de B,gT ((o:Int),(n:Int))] w λe w'=>∃A c,e=aB (bn #[ae A n c,J R 0])/\cf w w' (cx A c (pK d o n)):=by
 have hbl:d.bytes.length<=1048576:=by rw[f.len];exact f.small
 have hs1:=f.mL;have hs2:d.size<=d.bytes.length:=by rw[f.len];exact Ch _ f.vA
 have AK:∀i:Nat,i<d.cnt->kn d i=0:=λi hi=>by grind[kn]
 have zV:aE (∀i W,i<d.cnt->Has W _->aD ax 209 _ W λe w'=>∃N T,e=aB (bn #[ae N d.size T,J R 0])/\cf W w' (cx N T (nj d i))):=hid (λi W hi h=>(ZF B m d i W h f).mono (λe w' hh=>aH));have G:aE (∀x∈o6 _ o n,Hi d o n x):=hid (λx hx=>T9 f hn hx);obtain⟨xs,L⟩:=ex (o6 d.size o n);have X0:=hid L;have hM:∀bS p,yy ax 280 #[ay (ab ⟨bS,0,af⟩),ay (ab ⟨p,0,af⟩)] (λx:Nat×Nat×Nat=>#[J R (x.1:Int),gT ((x.2.1:Int),(x.2.2:Int))]) w (λ_=>False) (both (aj bS #[J R (d.size:Int)] 3) (aj p #[J R (o:Int),J R (n:Int)] 35)) (λ_=>True) xs:=λbS p=>by grind[aeJ]
 have P:aE (pK d o n=xs.foldl (rdStep d o) (dZ n 0)):=hid (by grind[pK]);rw[L]at G;have jv:aE (∀W,Has W _->aD _ _ #[de B,ar #[J _ (o:Int),J _ (n:Int)]] W λe w'=>e=aB _/\au W w'):=hid (λW h=>Z2 B m d o n W h.dev f hn);clear AK L;refine Aq func130 aa ?_;simp only[ntmps130,iK,jQ,mq,pV,pW,qa,p7,lJ,pj];have a:=a8 w;have z:=hid hs;go_step;refine ah ?_;refine bL a (ay _) (λr w1 a=>?_);refine bL a (ar #[J _ (o:Int),J _ (n:Int)]) (λs aT a=>?_);refine bl a #[ae _ 0 0] (λdw bF a=>?_);refine bl a #[J _ 0] (λen b8 a=>?_);refine an ?_;go_step;refine ah ?_;refine pl a 3 0 ?_;refine bh a 2 #[J R (o:Int),J R (n:Int)] ?_;refine aR (jv _ (z.out.aI a.only)) ?_;rintro e cA ⟨rfl,g⟩;replace a:=a.aI g;refine aU ?_;refine ag ?_;refine an ?_;go_step;refine ah ?_;refine ag ?_;refine pk (ai ao) ?_;refine an ?_;go_step;refine ah ?_;refine ag ?_;refine pl a 2 1 ?_;refine NH a (aet n aa aa aa dW bc ad) (λj cR a=>?_);refine bl a #[ae _ 0 0] (λv dz a=>?_);refine a' a 0 (ae _ n n) (λdv a=>?_);refine an ?_;go_step;refine cy ?_;refine bR a [1,3] (λi u=>match i with|1=>J R (d.size:Int)|3=>dI (ed 280) #[] #[ay (ab ⟨u.b,0,af⟩),ay (ab ⟨u.eK,0,af⟩)]|_=>a7) (λk=>λ|3=>both (aj (k 3).b #[J R (d.size:Int)] 3) (aj (k 3).eK #[J R (o:Int),J R (n:Int)] 35)|_=>emp) (λ_=>[]) (λ|0=>[5]|2=>[4]|_=>[]) (λ|3=>[3]|_=>[]) [0,1,2,3,4,5,7,9] (λk=>?_);refine dl 0 0 ?_;refine di (λwl Fr a=>(w7 B m d _ (z.out.aI a.only).dev f).mono ?_) ?_;·rintro e dr ⟨rfl,g⟩;exact⟨{},aa,(a.aI g).dE⟩
 refine eM 0 #[J R (o:Int),J R (n:Int)] ?_;refine di (λwl Fr a=>(aeK _ o n _).mono ?_) ?_;·rintro e dr ⟨bS,p,rfl,I⟩;exact⟨{b:=bS,eK:=p},aa,a.new _ I⟩
 refine bW λeU a=>?_;generalize (k 3).b=ay2 at a⊢;generalize (k 3).eK=ay3 at a⊢;replace a:=a.drop 6;go_wp2_with fail;have S:ak _ _ _ [both _ _,bP [aj r #[ay _] 32,aj s #[J R _,J R (n:Int)] 35,aj v _ 22,aj j _ 5],bP [aj en _ 47,aj dw _ 22]]:=ak.Cr (a.pick [6,5,4,0,1,2,3]);refine JF (encs:=(λx:Nat×Nat×Nat=>#[J R (x.1:Int),gT _])) aa (lf VT bc aa) (λ_=>aa) (hM _ _) (λpre t=>t=bP [aj r _ 32,aj s _ 35,aj v _ 22,aj j (aM a6 (pre.foldl (rdStep d o) _) []) 5]) (λ_ _ _=>False) aa S ?_ ?_ ?_;all_goals clear S a
 .rintro l rd pre x W t F K o1 rfl a;replace a:=a.kM;repeat((fail_if_success (with_reducible refine at_region ?_));gi_step)
  refine jX ?_;refine ag ?_;refine an ?_;repeat((fail_if_success (with_reducible refine at_region ?_));gi_step)
  refine jX ?_;refine bl a #[J _ 0,J _ 0] (λjM gF a=>?_);refine a' a 0 (ar _) (λhI a=>?_);refine an ?_;first|refine BV ?_|skip
  simp only[Exit.then];refine Am a 5 o1 (λjK a=>?_);replace a:ak _ _ _ [aj jM _ 35,aj r _ 32,aj s _ 35,aj v _ 22,aj j _ 5,obj l _,F]:=a;have mC:=aeZ K;obtain⟨uS,o5,A6,Dq,TY,NF⟩:=G x mC;obtain⟨M,C⟩:=ex (pre.foldl (rdStep d o) (dZ n 0));have Y:M.length=n:=by rw[<-C];exact Ud f _ _ (λy hy=>G y (K.subset (List.mem_append_left _ hy))) lI
  have Q:aE ((pre++[x]).foldl _ _=lB M _ _):=hid (by rw[Yb,C];rfl);have Qg:=hid Y;rw[C]at a;clear C Y mC;obtain⟨q,V⟩:=ex (x.1*d.size);have X:(x.1:Int)*(d.size:Int)=(q:Int):=ad;rw[V]at uS TY Q;have Qc:=hid X;have Z:=Jb f NF;have H:=hid Z;clear V X Z K;repeat((fail_if_success (with_reducible refine at_region ?_));gi_step)
  refine jX ?_;refine pl a 1 0 ?_;refine ag ?_;refine aR (zV _ _ NF (z.out.aI a.only)) ?_;rintro e ke ⟨nr,U,rfl,I⟩;replace a:=a.new _ I;refine aU ?_;refine v5 ?_;refine an ?_;repeat((fail_if_success (with_reducible refine at_region ?_));gi_step)
  refine jX ?_;refine ag ?_;refine pk (ai ao) ?_;refine an ?_;repeat((fail_if_success (with_reducible refine at_region ?_));gi_step)
  refine UR a [15,19] (λi _=>match i with|15=>J R (d.size:Int)|19=>J R (x.2.2:Int)|_=>a7) (λ_=>λ|19=>aj j (aM a6 (lB M (x.2.1 -o) (((nj d x.1).drop (x.2.1 -q)).take x.2.2)) []) 5|_=>emp) (λ|19=>[5]|_=>[]) (λ|0=>[4]|2=>[1]|4=>[3]|8=>[1]|12=>[1]|14=>[2]|18=>[0]|19=>[0]|_=>[]) (λ_=>[]) [0,1,2,3,4,6,7,23,27] (λk=>?_);refine dl 0 0 ?_;refine aJ ?_;refine dl 0 0 ?_;refine aJ ?_;refine dl 0 0 ?_;refine aL _ (λ_ _ _=>ra 3 _ _ 3 aa _ _ ((x.2.1 -o:Nat):Int) aa aa ad ad ad) ?_;refine aL _ (λ_ _ _=>aw5 22 5 _ (bj 41) aa dW bc j n n _ (n -(x.2.1 -o)) aa aa ad ad ad) ?_;refine aJ ?_;refine dl 0 1 ?_;refine aL _ (λ_ _ _=>rF 22 5 1 _ _ aa dW bc _ _ _ x.2.2 aa aa ad) ?_;refine bG ?_;refine dl 0 0 ?_;refine aJ ?_;refine dl 0 0 ?_;refine di (λwl Fr a=>(w7 B m d _ (z.out.aI a.only).dev f).mono ?_) ?_;·rintro e dr ⟨rfl,g⟩;exact⟨{},aa,(a.aI g).dE⟩
  refine aL _ (λ_ _ _=>lY 3 _ _ 3 aa _ _ _ aa aa Qc ad ad) ?_;refine aL _ (λ_ _ _=>ra 3 _ _ 3 aa _ _ ((x.2.1 -q:Nat):Int) aa aa ad ad ad) ?_;refine aL _ (λ_ _ a=>Bi 22 5 1 (bj 46) _ aa dW bc nr d.size U _ (d.size -(x.2.1 -q)) aa aa ad (by have:=(a.lK 0).2.2;rw[H]at this;exact this)) ?_;refine HD (J R (x.2.2:Int)) (λ_ _ a=>aww aa aa aa (a.aW 0) (by have h:=((a.lK 1).1.Gf (c:=U) (i:=x.2.1 -q) (a.lK 1).2.2).cells;rw[tS,H]at h;exact h) ad A6 (by rw[i',Qg];omega) (xB _) (show _=aM a6 _ []from amd (by rw[tS,H];omega)) dW bc) ?_;refine bW λk9 a=>?_;replace a:=a.drop 7;repeat gi_step
  have E:=a.pk [2,3,4,7,5,6];replace E:ak _ _ _ [bP [aj r _ 32,aj s _ 35,aj v _ 22,aj j _ 5],obj l _,F]:=E.fh 4;refine⟨_,?_,E⟩;exact(by show _=_;rw[Q])
 .rintro D t u W rfl hu a;replace a:=a.kM;replace a:=(a.pk [6,0,1,2,3,4,5]).kM;go_step;refine ah ?_;refine pl a 4 0 ?_;refine a' a 1 (ae _ n n) (λmj a=>?_);refine a' a 0 (J _ 0) (λnp a=>?_);refine an ?_;have hlen:(xs.foldl (rdStep d o) (dZ n 0)).length=n:=by rw[<-P];exact Bc f hn
  go_wp2_with fail;refine zc a 7 (λw' a=>⟨afk aa aa (a.aW 1) aw aa (a.aW 0) aw,?_⟩);have O:=ak.am6 a 5;rw[hlen,<-P]at O;exact⟨_,n,aa,O.fresh 5⟩
 .simp
end
section
section
variable {P:ew} {o:cS} {a:b3} {w:aQ}
def awy {d x} {f v l c q g cap m c2:Nat} {A aK bs news} (ho:o.op=nU {callee:=pb .copy,args:=#[d,x],argTypes:=#[f,v]}) (p:a.eval d=ae (fK A c q 1) g cap) (F:a.eval x=ae aK m c2) (j:fe 0 w A c bs) (hr:Cells w 1 aK m (news.map a6)) (L:m<=g) (z:0<m) (K:q+m<=bs.length)
 (hu:P.underlying f=ab (iJ l)) (hs:(P.info? l).map (·.size)=ab 1):
 ∃w',(bA a.eval o).run P w=bf (dc (J R (m:Int))) w'/\Turned w w' (cx A c bs) (cx A c (lB bs q news)):=by
 obtain⟨y,rfl,E⟩:=hr.2 z;have hcs:=by simpa using hr.1
 obtain⟨b,off,rfl,hc⟩:=j.1 ad;obtain⟨_,cur,hb⟩:=j.2.1 b off af aa;have hlc:=j.2.2;have G:fK (ab (⟨b,off,af⟩:bT)) c q 1=ab ⟨b,off+q,af⟩:=by grind[fK,mW]
 rw[G]at p;have r:∀k,k<bs.length->cur[off+k]?=ab (a6 (bs[k]?.getD 0)):=λk hk=>by grind[World.cell?]
 have hsz:off+bs.length<=cur.size:=by have h1:=r (bs.length -1) ad;obtain⟨n,_⟩:=Array.getElem?_eq_some_iff.1 h1;omega
 have hr:=KQ (P:=P) w f v o.type _ b (off+q) g cap y m c2 _ 5 _ hu hs hb aH E aH (xB _);have B:(news.map a6).length=m:=aH;have C:=hb.setRow (cur.toList.take (off+q)++news.map a6++cur.toList.drop (off+q+m)).toArray;have D:(lB bs q news).length=bs.length:=I7 ad;refine⟨w.setRow b (cur.toList.take (off+q)++news.map a6++cur.toList.drop (off+q+m)).toArray,?_,(av.setRow w b _).mono (λi _ h=>⟨off,af,by rw[h]⟩),⟨λ_=>⟨b,off,rfl,λk hk=>?_⟩,λeK H I e=>?_,ad⟩,λi hi=>⟨?_,b1 hi⟩⟩;·unfold bA;simp only[ho,nX,nW,qV,gx,kh,jE,oI,j5,ln,p,F,hr,B];rfl
 .rw[D]at hk;refine C.cell _ ?_;have s:=r k hk;rw[<-Array.getElem?_toList]at s;rw[Ab];have t:(cur.toList.take (off+q)).length=off+q:=aH;have u:(bs.take q).length=q:=aH;unfold lB;rcases QT k q with h1|h1;·grind[tQ]
  .rcases QT k (q+m)with n|n;·rw[kD,pn ad,t,tQ ad,kD,pn ad,u,tQ ad,show off+k -(off+q)=k -q by omega,j4,cE ad];rfl
   .rw[pn aH,c7,t,hB,hcs,He,show off+q+m+(off+k -(off+q+m))=off+k by omega,s,
     pn aH,c7,u,hcs,He,show q+m+(k -(q+m))=k by omega]
 .grind
 .obtain⟨H,I,e⟩:=hi;grind
end
def mM(o:Nat)(bs:List Int)(st:Int×dR)(x:Nat×Nat×Nat):Int×dR:=
 if st.1≠0 then st else jL st.2 (x.1:Int) (lB (nj st.2 x.1) (x.2.1 -x.1*st.2.size) ((bs.drop (x.2.1 -o)).take x.2.2))
def mA(d:dR)(o:Nat)(bs:List Int):Int×dR:=(o6 d.size o bs.length).foldl (mM o bs) (0,d)
def Oh{o bs}:∀(l:List (Nat×Nat×Nat)) st,st.1≠0->l.foldl (mM o bs) st=st
 |[],_,_=>aa
 |x::l,st,h=>by rw[Aa,show mM o bs st x=st by unfold mM;rw[if_pos h]];exact Oh l st h
def ayy{d}{n:Nat}{b}:(jL d (n:Int) b).2.size=d.size/\(jL d (n:Int) b).2.cnt=d.cnt:=by
 unfold jL;split;·simp
 .split;·simp
  .split;·exact⟨aa,aa⟩
   .split;·exact⟨aa,aa⟩
    .exact⟨aa,aa⟩
def ayz{d}{n:Nat}{b}(h:(jL d (n:Int) b).1=0):(jL d (n:Int) b).2.down=d.down/\(jL d (n:Int) b).2.cache.length<=d.cache.length+1:=by
 unfold jL at h⊢;split at h;·omega
 .rename_i c;rw[if_neg c];split at h;·omega
  .rename_i h1;rw[if_neg h1];split at h;·rename_i a;rw[if_pos a];exact⟨aa,by show(d.cache++[(_,b)]).length<=_;simp⟩
   .rename_i a;rw[if_neg a];split at h;·rename_i e;rw[if_pos e];exact⟨aa,by show(d.cache++[(_,b)]).length<=_;simp⟩
    .omega
structure Et (d cI:dR) (k:Nat):Prop where
 ok:dY cI
 size:cI.size=d.size
 cnt:cI.cnt=d.cnt
 down:cI.down=ao
 dM:cI.cache.length<=d.cache.length+k
def Et.step{d cI k o bs x}(h:Et d cI k)(hk:d.cache.length+k<1073741824)(hx:(mM o bs (0,cI) x).1=0):Et d (mM o bs (0,cI) x).2 (k+1):=by unfold mM at hx⊢;rw[if_neg bg]at hx⊢;have h1:=h.dM;have a:=ayz hx;have b:=@ayy cI x.1 (lB (nj cI x.1) (x.2.1 -x.1*cI.size) ((bs.drop (x.2.1 -o)).take x.2.2));exact⟨UW h.ok _ _ ad,b.1.trans h.size,b.2.trans h.cnt,a.1.trans h.down,dT a.2 aH⟩
def aah B m d(o p)A c bs w(hs:Has w (aN B m d))(s:dY d)(cV:d.down=ao)(hn:o+bs.length<=d.bytes.length)(hf:d.cache.length<=1000000000)(hp:w.cell? ⟨p,0,af⟩=ab (ae A bs.length c))(Fi:¬(aN B m d).cT p)(hb:b2 w A bs)(Se:∀y,eh A y->¬(aN B m d).cT y):
 aD ax 291 #[de B,J R (o:Int),ae (ab ⟨p,0,af⟩) 1 1] w λe w'=>e=aB (J R (mA d o bs).1)/\∃f,Turned w w' (aN B m d) (aN B f (mA d o bs).2):=by
 have hbl:d.bytes.length<=1048576:=by rw[s.len];exact s.small
 have hs1:=s.mL;have hs2:d.size<=d.bytes.length:=by rw[s.len];exact Ch _ s.vA
 have nA:aE (∀x∈o6 _ o _,Hi d o _ x):=hid (λx hx=>T9 s hn hx);obtain⟨xs,Z⟩:=ex (o6 d.size o bs.length);have fj:xs.length<=d.bytes.length+1:=by rw[<-Z,o6,hB,Em];unfold eu;split;exact cC _;exact w0 (dT (Eo _ _) (dT (vu _ _) ad))
 have kj:=hid fj;have hM:∀bS G,yy ax 280 #[ay (ab ⟨bS,0,af⟩),ay (ab ⟨G,0,af⟩)] (λx:Nat×Nat×Nat=>#[J R (x.1:Int),gT ((x.2.1:Int),(x.2.2:Int))]) w (aN B m d).cT (both (aj bS #[J R (d.size:Int)] 3) (aj G #[J R (o:Int),J R (bs.length:Int)] 35)) (λ_=>True) xs:=λbS G=>by grind[aeJ]
 have XZ:aE (mA d o bs=xs.foldl (mM o bs) (0,d)):=hid (by grind[mA]);rw[Z]at nA;have jv:aE (∀W,Has W _->aD _ _ #[de B,ar #[J _ (o:Int),J _ (bs.length:Int)]] W λe w'=>e=aB _/\au W w'):=hid (λW h=>Z2 B m d o _ W h.dev s hn);clear Z fj;have bZ:=hid (λW g=>Hv p A c bs W (g.cell hp Fi) (hb.only g (λb off e=>Se b ⟨_,_,e⟩)) ad);clear hp hb Fi Se;refine Aq func291 aa ?_;simp only[ntmps291,iK,jQ,mq,pV,pW,qa,p7,lJ,pj];have a:=ak.start hs;go_step;refine ah ?_;refine bL a (ay _) (λH w1 a=>?_);refine bL a (J _ _) (λI aT a=>?_);refine bl a #[J _ 0] (λK bF a=>?_);refine an ?_;go_step;refine ah ?_;refine ag ?_;refine aR (bZ _ a.only) ?_;rintro e b8 ⟨n,k,rfl,hrow,g⟩;replace a:=a.lR g (Row.nk hrow);refine aU ?_;refine bl a #[ae _ 0 0] (λL cA a=>?_);refine a' a 0 (ae n _ k) (λcR a=>?_);refine an ?_;go_step;refine ah ?_;refine pl a 3 0 ?_;refine pl a 0 0 ?_;refine v2 ?_;refine bl a #[J _ 0,J _ 0] (λep dz a=>?_);refine a' a 0 (ar _) (λdv a=>?_);refine an ?_;go_step;refine ah ?_;refine pl a 5 0 ?_;refine bh a 0 #[J R (o:Int),J R (bs.length:Int)] ?_;refine aR (jv _ (a.has 6)) ?_;rintro e eU ⟨rfl,g⟩;replace a:=a.aI g;refine aU ?_;refine ag ?_;refine an ?_;go_step;refine ah ?_;refine ag ?_;refine pk (ai ao) ?_;refine an ?_;go_step;refine cy ?_;refine bR a [1,3] (λi u=>match i with|1=>J R (d.size:Int)|3=>dI (ed 280) #[] #[ay (ab ⟨u.b,0,af⟩),ay (ab ⟨u.eK,0,af⟩)]|_=>a7) (λE=>λ|3=>both (aj (E 3).b #[J R (d.size:Int)] 3) (aj (E 3).eK #[J R (o:Int),J R (bs.length:Int)] 35)|_=>emp) (λ_=>[]) (λ|0=>[5]|1=>[6]|2=>[0]|_=>[]) (λ|3=>[3]|_=>[]) [0,1,2,3,4,5,6,8,10] (λE=>?_);refine dl 0 0 ?_;refine di (λwl Fr a=>(w7 B m d _ (a.has 0).dev s).mono ?_) ?_;·rintro e dr ⟨rfl,g⟩;exact⟨{},aa,(a.aI g).dE⟩
 refine eM 0 #[J R (o:Int),J R (bs.length:Int)] ?_;refine di (λwl Fr a=>(aeK d.size o _ _).mono ?_) ?_;·rintro e dr ⟨bS,G,rfl,V⟩;exact⟨{b:=bS,eK:=G},aa,a.new _ V⟩
 refine bW λgF a=>?_;generalize (E 3).b=ay5 at a⊢;generalize (E 3).eK=ay4 at a⊢;replace a:=a.drop 7;go_wp2_with fail;have eb:ak _ _ _ [both _ _,bP [aj H #[ay _] 32,aj I #[J R _] 3,aj L _ 22,aj K _ 47,cx n k bs,aN B m d],bP [aj ep _ 35]]:=ak.Cr (a.pick [7,5,4,1,3,2,6,0]);refine JF (encs:=(λx:Nat×Nat×Nat=>#[J R (x.1:Int),gT _])) aa (lf VT bc aa) (λ_=>aa) (hM _ _) (λpre t=>∃f cI,pre.foldl (mM o bs) (0,d)=(0,cI)/\Et d cI pre.length/\t=bP [aj H _ 32,aj I #[J R (o:Int)] 3,aj L _ 22,aj K #[J R 0] 47,cx n k bs,aN B f cI]) (λc pre t=>match c with|.ret=>∃f cI bt,bt≠0/\pre.foldl (mM o bs) (0,d)=(bt,cI)/\t=bP [aj H #[ay (ab ⟨B,0,af⟩)] 32,aj I #[J R (o:Int)] 3,aj L #[ae n bs.length k] 22,aj K #[J R bt] 47,cx n k bs,aN B f cI]|_=>False) (⟨m,d,aa,⟨s,aa,aa,cV,b9 _⟩,aa⟩) eb ?_ ?_ ?_;all_goals clear eb a
 .rintro l rd pre x W t F O o1 ⟨f,cI,C,r,rfl⟩ a;replace a:=a.kM;repeat((fail_if_success (with_reducible refine at_region ?_));gi_step)
  refine jX ?_;refine ag ?_;refine an ?_;repeat((fail_if_success (with_reducible refine at_region ?_));gi_step)
  refine jX ?_;refine bl a #[J _ 0,J _ 0] (λxV hI a=>?_);refine a' a 0 (ar _) (λjK a=>?_);refine an ?_;first|refine BV ?_|skip
  simp only[Exit.then];refine Am a 7 o1 (λke a=>?_);replace a:ak _ _ _ [aj _ _ 35,aj H _ 32,aj I _ 3,aj L _ 22,aj K _ 47,cx n k bs,aN B f cI,obj l _,F]:=a;have mC:=aeZ O;have hpl:=O.length_le;rw[c7,vr]at hpl;have AO:d.cache.length+pre.length<1073741824:=by have:=kj.out;omega
  obtain⟨uS,o5,A6,Dq,TY,NF⟩:=nA x mC;have alp:=hid r;have aAR:=r.dM;have N:=r.ok;have hdd:=r.size;have hcc:x.1<cI.cnt:=by rw[r.cnt];exact NF
  have AK:kn cI (x.1:Int)=0:=by rw[kn,if_neg (by rw[r.down];simp),if_neg ad]
  have zV:aE (∀W,Has W _->aD ax 209 _ W λe w'=>∃aA aC,e=aB (bn #[ae aA d.size aC,J R 0])/\cf W w' (cx aA aC (nj cI x.1))):=hid (λW h=>(ZF B f cI x.1 W h N).mono (λe w' hh=>aH));have q2:aE (∀W,Has W _->aD _ 51 #[de B] W λe w'=>e=aB _/\au W w'):=hid (λW h=>by have q:=w7 B f cI W h.dev N;rw[hdd]at q;exact q);obtain⟨P,y1⟩:=ex (x.1*d.size);have sj:(x.1:Int)*(d.size:Int)=(P:Int):=ad;have y4:(nj cI x.1).length=d.size:=by grind[Jb]
  obtain⟨z,nb⟩:=ex (lB (nj cI x.1) (x.2.1 -P) ((bs.drop (x.2.1 -o)).take x.2.2));have hst:mM o bs (0,cI) x=jL cI (x.1:Int) z:=by grind[mM]
  have X:(pre++[x]).foldl (mM o bs) (0,d)=jL cI (x.1:Int) z:=aH;rw[y1]at uS TY;have aba:((bs.drop (x.2.1 -o)).take x.2.2).length=x.2.2:=aH;have iC:z.length=d.size:=by grind[I7]
  obtain⟨bt,dy⟩:=ex ((jL cI (x.1:Int) z).1);obtain⟨M,jB⟩:=ex ((jL cI (x.1:Int) z).2);have Y:jL cI (x.1:Int) z=(bt,M):=aH;have sR:=hid (λW fW du h h2 h3=>by have q:=ao0 B f cI x.1 fW du z W h N ad h2 ad h3;rw[iC,dy,jB]at q;exact q);have Qc:=hid sj;have Eb:=hid y4;have zT:=hid nb;have eg:=hid (hst.trans Y);rw[Y]at X;have Xq:=hid X;have azQ:=hid hdd;have azR:=hid N;clear y1 sj y4 O nb hst Y dy jB C X hdd AK mC hcc aba iC r N;repeat((fail_if_success (with_reducible refine at_region ?_));gi_step)
  refine jX ?_;refine pl a 1 0 ?_;refine ag ?_;refine aR (zV _ (a.has 6)) ?_;rintro e k9 ⟨S,U,rfl,V⟩;replace a:=a.new _ V;refine aU ?_;refine v5 ?_;refine an ?_;repeat((fail_if_success (with_reducible refine at_region ?_));gi_step)
  refine jX ?_;refine ag ?_;refine pk (ai ao) ?_;refine an ?_;repeat((fail_if_success (with_reducible refine at_region ?_));gi_step)
  refine UR a [5,18] (λi _=>match i with|5=>J R (d.size:Int)|18=>J R (x.2.2:Int)|_=>a7) (λ_=>λ|18=>cx S U (lB (nj cI x.1) (x.2.1 -P) ((bs.drop (x.2.1 -o)).take x.2.2))|_=>emp) (λ|18=>[0]|_=>[]) (λ|2=>[1]|4=>[2]|5=>[7]|8=>[0]|9=>[4]|11=>[1]|12=>[3]|14=>[6]|16=>[1]|17=>[6]|18=>[6]|_=>[]) (λ_=>[]) [1,2,3,4,5,6,7,8,9,15,28] (λE=>?_);refine bG ?_;refine dl 0 0 ?_;refine aJ ?_;refine dl 0 0 ?_;refine di (λwl Fr a=>(q2 _ (a.has 0)).mono ?_) ?_;·rintro e dr ⟨rfl,g⟩;exact⟨{},aa,(a.aI g).dE⟩
  refine aL _ (λ_ _ _=>lY 3 _ _ 3 aa _ _ _ aa aa Qc ad ad) ?_;refine aL _ (λ_ _ _=>ra 3 _ _ 3 aa _ _ ((x.2.1 -P:Nat):Int) aa aa ad ad ad) ?_;refine aL _ (λ_ _ a=>Bi 22 5 1 (bj 42) _ aa dW bc S d.size U _ (d.size -(x.2.1 -P)) aa aa ad (by have:=(a.lK 0).2.2;rw[Eb]at this;exact this)) ?_;refine dl 0 0 ?_;refine aJ ?_;refine dl 0 0 ?_;refine dl 0 0 ?_;refine aL _ (λ_ _ _=>ra 3 _ _ 3 aa _ _ ((x.2.1 -o:Nat):Int) aa aa ad ad ad) ?_;refine aL _ (λ_ _ a=>Bi 22 5 1 (bj 51) (bj 55) aa dW bc n bs.length k (x.2.1 -o) (bs.length -(x.2.1 -o)) aa aa ad (a.lK 0).2.2) ?_;refine aJ ?_;refine dl 0 1 ?_;refine aL _ (λ_ _ a=>rF 22 5 1 _ _ aa dW bc _ _ _ x.2.2 aa aa (by have:=(a.lK 0).2.2;omega)) ?_;refine HD _ (λ_ _ a=>awy aa aa aa (a.lK 0) (by have h:=(((a.lK 1).1.Gf (c:=k) (i:=x.2.1 -o) (a.lK 1).2.2).Ge (q:=x.2.2) aH).cells;rw[po,tS,Ci ad]at h;exact h) ad A6 (by rw[Eb];omega) dW bc) ?_;refine bW λmj a=>?_;replace a:=a.drop 9;rw[zT]at a;repeat((fail_if_success (with_reducible refine at_region ?_));gi_step)
  refine jX ?_;refine pl a 1 0 ?_;refine v2 ?_;refine aR (sR.out _ S U (a.has 6) (a.lK 9).1 (a.ne (i:=9) (j:=6) aa aa aS)) ?_;rintro e np ⟨rfl,Q,bM⟩;replace a:=a.eP 6 bM;refine aU ?_;refine ag ?_;refine an ?_;by_cases hz:bt=0
  .subst hz;repeat((fail_if_success (with_reducible refine at_region ?_));gi_step)
   refine jX ?_;refine ag ?_;refine pk (ai ao) ?_;refine an ?_;repeat gi_step
   have v:=a.pk [1,2,3,4,5,6,7,8];replace v:ak _ _ _ [bP [aj _ _ 32,aj _ _ 3,aj _ _ 22,aj _ _ 47,cx n k bs,aN B Q M],obj l _,F]:=v.fh 6;refine⟨_,?_,v⟩;exact⟨Q,M,Xq,by rw[c7,vr];have h:=alp.out.step (o:=o) (bs:=bs) (x:=x) AO (by rw[eg]);rw[eg]at h;exact h,aa⟩
  .have M4:=hz;repeat((fail_if_success (with_reducible refine at_region ?_));gi_step)
   refine jX ?_;refine ag ?_;refine aG (ai az) (by(go_simp;try simp[M4])) ?_;refine an ?_;repeat((fail_if_success (with_reducible refine at_region ?_));gi_step)
   refine jX ?_;refine ag ?_;refine a' a 4 (J _ bt) (λqH a=>?_);refine an ?_;repeat gi_step
   have v:=a.pk [1,2,3,4,5,6,7,8];replace v:ak _ _ _ [bP [aj H _ 32,aj I #[J R (o:Int)] 3,aj L _ 22,aj K #[J R bt] 47,cx n k bs,aN B Q M],obj l _,F]:=v.fh 6;refine⟨_,?_,v⟩;exact⟨Q,M,bt,hz,Xq,aa⟩
 .rintro D t u W ⟨f,cI,C,r,rfl⟩ hu a;replace a:=a.kM;replace a:=(a.pk [8,0,1,2,3,4,5,6,7]).kM;have T:=hid (XZ.out.trans C);clear C r;go_step;refine ah ?_;refine a' a 4 (J _ 0) (λrJ a=>?_);refine an ?_;go_wp2_with fail;refine zc a 8 (λw' a=>⟨F2 aa aa (a.aW 4) aw,?_⟩);rw[T];exact⟨aa,f,a.gl 6⟩
 .rintro D c pre t u W O h a;cases c with
  |ret=>
   obtain⟨f,cI,bt,hz,C,rfl⟩:=h;replace a:=a.kM;have T:aE (mA d o bs=(bt,cI)):=hid (by obtain⟨l,hl⟩:=O;rw[XZ,<-hl,Yb,C];exact Oh l _ hz);go_wp2_with fail;refine zc a 7 (λw' a=>⟨F2 aa aa (a.aW 3) aw,?_⟩);rw[T];exact⟨aa,f,a.gl 5⟩
  |_=>exact h.elim
end
structure Rec where
 seq:Int
 id:Int
 cur:Int
 off:Int
 data:List Int
abbrev recC(r:Rec)(A:Option bT)(c:Nat):Array Value:=#[J aF r.seq,J aF r.id,J R r.cur,J R r.off,ae A r.data.length c]
abbrev NP:Array Value:=#[J aF 0,J aF 0,J R 0,J R 0,ae af 0 0]
def ku(n:Int):Int:=if n<0\/n>1048576 then 0 else 40+n+4
def aw0 n:0<=ku n/\ku n<=1048620/\(ku n≠0->44<=ku n):=by grind[ku]
def ti:List Int:=[71,74,82,49]
structure alB where
 ok:Bool
 seq:Int
 id:Int
 cur:Int
 off:Int
 cnt:Int
 r:Rd
def H5(f:Rd):alB:=
 let e:=sf f ti 19
 let a:=lD e.2 8
 let b:=lD a.2 8
 let c:=qy b.2
 let d:=qy c.2
 let n:=lD d.2 4
 ⟨e.1,a.1,b.1,c.1,d.1,n.1,n.2⟩
def ug(bs:List Int):Option Rec:=
 let h:=H5 ⟨bs.take (gI bs.length 40),0,0,0⟩
 if h.ok=ao then af
 else if¬(h.r.bt=0/\h.r.dn=0)\/ku (R.wrap h.cnt)=0\/(bs.length:Int)<ku (R.wrap h.cnt)then af
 else(tk (bs.take (ku (R.wrap h.cnt)).toNat)).map (λall=>⟨h.seq,h.id,h.cur,h.off,all.drop 40⟩)
def wrap_i64 z:-9223372036854775808<=R.wrap z:=by grind[DW,DV]
def ad6 A c bs w(l:bs.length<=140737488355328)(hb:b2 w A bs):
 aD ax 134 #[ae A bs.length c] w λe w'=>∃B a d,e=aB (ay (ab ⟨B,0,af⟩))/\cf w w' (eA B a d ⟨bs,0,0,0⟩):=
 (atI A c bs w l hb).mono (λ_ _ ⟨B,a,d,k,lo,hr,j,hn,g⟩=>⟨B,a,d,k,g,⟨hr,j.le (cC _),λb h1 f=>hn (by have i:b=B:=h1;exact i▸f)⟩,λb hb2=>hb2.elim (λh=>by have i:b=B:=h;rw[i];exact⟨lo,aX.lt hr⟩) (λ⟨off,m,e⟩=>by obtain⟨h1,cs,f⟩:=j.2.1 b off m e;exact⟨h1,aX.lt f⟩)⟩)
def aft n w(hn:-9223372036854775808<=n):
 aD ax 199 #[J R n] w λe w'=>e=aB (J R (ku n))/\au w w':=by
 by_cases h1:n<0
 .have a:ku n=0:=by grind[ku]
  rw[a];clear a;go_enter VJ,Wc;have b:=a8 w;go_step;refine ah ?_;refine cB ?_;refine a1 (ai az) ?_;refine ag ?_;iterate 2 refine ps ?_
  refine pk (ai az) ?_;refine ah ?_;refine ag ?_;refine an ?_;go_wp2_with fail;go_ret;exact⟨aa,b.only⟩
 by_cases c:n>1048576
 .have a:ku n=0:=by grind[ku]
  rw[a];clear a;go_enter VJ,Wc;have b:=a8 w;go_step;refine ah ?_;refine cB ?_;refine a1 (ai ao) ?_;iterate 2 refine ag ?_
  refine a1 (ai az) ?_;refine pk (ai az) ?_;refine ah ?_;refine ag ?_;refine an ?_;go_wp2_with fail;go_ret;exact⟨aa,b.only⟩
 .have a:ku n=40+n+4:=by grind[ku]
  rw[a];clear a;go_enter VJ,Wc;have b:=a8 w;go_step;refine ah ?_;refine cB ?_;refine a1 (ai ao) ?_;iterate 2 refine ag ?_
  refine a1 (ai ao) ?_;refine pk (ai ao) ?_;refine b5 ?_;refine pad 40 n (40+n) ?_;refine pad _ 4 (40+n+4) ?_;refine bX ?_;go_wp2_with fail;go_ret;exact⟨aa,b.only⟩
def aue{bs d:List Int}{n}(h:tk (bs.take n)=ab d)(hn:44<=n)(a:n<=bs.length):40<=d.length:=by grind[tk]
def fe.Gf{w A c i N bs}(h:fe N w A c bs):fe N w (fK A c i 1) (c -i) (bs.drop i):=
 ⟨h.1.Gf h.2.2,h.2.1.win,by have:=h.2.2;simp;omega⟩
def avu A c bs w(hl:bs.length<=17592186044416)(hc:bs.length<=c)(hb:b2 w A bs):
 aD ax 132 #[ae A bs.length c] w λe w'=>(∃r,ug bs=ab r/\∃y C,e=aB (bn #[ar (recC r y C),J R 0])/\cf w w' (cx y C r.data))\/(ug bs=af/\e=aB (bn #[ar NP,J R 19])/\au w w'):=by
 obtain⟨u,df⟩:=ex (gI bs.length 40);have gp:aE (gI (bs.length:Int) 40=(u:Int)):=hid ad;have arh:u<=40/\u<=bs.length:=ad;have N:aE (ug bs=(let h:=H5 ⟨bs.take u,0,0,0⟩;if h.ok=ao then af else if¬(h.r.bt=0/\h.r.dn=0)\/ku (R.wrap h.cnt)=0\/(bs.length:Int)<ku (R.wrap h.cnt)then af else(tk (bs.take (ku (R.wrap h.cnt)).toNat)).map (λall=>⟨h.seq,h.id,h.cur,h.off,all.drop 40⟩))):=hid (by rw[<-df];rfl);clear df;obtain⟨s,Z⟩:∃s:Rd,(⟨bs.take u,0,0,0⟩:Rd)=s:=⟨_,aa⟩;have h0:q7 s:=by rw[<-Z];exact⟨cC _,aH⟩
 have hb0:s.bs=bs.take u:=aH;have arQ:=Z;rw[Z]at N;have T:=apH h0 ti 19;obtain⟨O,x,h1⟩:∃O x,sf s ti 19=(O,x):=⟨_,_,aa⟩;rw[h1]at T;have U:=N' T 8;have hg2:=Jv x 8;obtain⟨v2,G,D⟩:∃v r,lD x 8=(v,r):=⟨_,_,aa⟩;rw[D]at U hg2;have V:=N' U 8;have hg3:=Jv G 8;obtain⟨v3,H,h3⟩:∃v r,lD G 8=(v,r):=⟨_,_,aa⟩;rw[h3]at V hg3;have X:=adK V;have hg4:=adL H;obtain⟨v4,I,h4⟩:∃v r,qy H=(v,r):=⟨_,_,aa⟩;rw[h4]at X hg4;have Y:=adK X;have yZ:=adL I;obtain⟨v5,K,h5⟩:∃v r,qy I=(v,r):=⟨_,_,aa⟩;rw[h5]at Y yZ;have acm:=N' Y 4;have xj:=Jv K 4;obtain⟨v6,L,h6⟩:∃v r,lD K 4=(v,r):=⟨_,_,aa⟩;rw[h6]at acm xj;have abF:H5 s=⟨O,v2,v3,v4,v5,v6,L⟩:=by grind[H5]
 rw[abF]at N;have H1:aE (∀B A c W,Has W (eA B A c s)->∀M S,b2 W M ti->4<=S->(∀b,eh M b->¬(eA B A c s).cT b)->aD ax 210 #[ay (ab ⟨B,0,af⟩),ae M 4 S,J R 19] W λe w'=>e=aB (ai O)/\Turned W w' (eA B A c s) (eA B A c x)):=hid (λB A c W h M S eT fw lN=>by have q:=avN B A c s M S ti 19 W h h0 eT fw lN aS;rw[h1]at q;exact q);have eI:aE (∀B A c W,Has W (eA B A c x)->aD ax 135 #[ay (ab ⟨B,0,af⟩),J R 8] W λe w'=>e=aB (J aF v2)/\Turned W w' (eA B A c x) (eA B A c G)):=hid (λB A c W h=>by have q:=Jk B A c x 8 W h T ad;rw[D]at q;exact q);have gH:aE (∀B A c W,Has W (eA B A c G)->aD ax 135 #[ay (ab ⟨B,0,af⟩),J R 8] W λe w'=>e=aB (J aF v3)/\Turned W w' (eA B A c G) (eA B A c H)):=hid (λB A c W h=>by have q:=Jk B A c G 8 W h U ad;rw[h3]at q;exact q);have hZ:aE (∀B A c W,Has W (eA B A c H)->aD ax 211 #[ay (ab ⟨B,0,af⟩)] W λe w'=>e=aB (J R v4)/\Turned W w' (eA B A c H) (eA B A c I)):=hid (λB A c W h=>by have q:=afp B A c H W h V;rw[h4]at q;exact q);have iV:aE (∀B A c W,Has W (eA B A c I)->aD ax 211 #[ay (ab ⟨B,0,af⟩)] W λe w'=>e=aB (J R v5)/\Turned W w' (eA B A c I) (eA B A c K)):=hid (λB A c W h=>by have q:=afp B A c I W h X;rw[h5]at q;exact q);have qW:aE (∀B A c W,Has W (eA B A c K)->aD ax 135 #[ay (ab ⟨B,0,af⟩),J R 4] W λe w'=>e=aB (J aF v6)/\Turned W w' (eA B A c K) (eA B A c L)):=hid (λB A c W h=>by have q:=Jk B A c K 4 W h Y ad;rw[h6]at q;exact q);obtain⟨⟨bt,dn⟩,gK⟩:∃p:Int×Int,(L.bt,L.dn)=p:=⟨_,aa⟩;simp only[pq]at gK;obtain⟨dy,E3⟩:=gK;have P:aE (∀B A c W,Has W (eA B A c L)->aD ax 212 #[ay (ab ⟨B,0,af⟩)] W λe w'=>e=aB (ar #[J R bt,J R dn])/\au W w'):=hid (λB A c W h=>by have q:=avQ B A c L W h;rw[dy,E3]at q;exact q);simp only[dy,E3]at N;have aAY:0<=v6/\v6<18446744073709551616:=xj;clear hb0;clear h0 h1 D h3 h4 h5 h6 T U V X Y acm hg2 hg3 hg4 yZ xj abF dy E3 Z
 have rX:aE (∀W,au w W->aD ax 134 #[ae A u c] W λe w'=>∃B y C,e=aB (ay (ab ⟨B,0,af⟩))/\cf W w' (eA B y C s)):=hid (λW g=>by have q:=ad6 A c (bs.take u) W aH (b2.Ge (hb.aI g) arh.2);grind)
 have fc:aE (∀W,au w W->∀n:Nat,(n:Int)<=1048620->n<=bs.length->aD ax 213 #[ae A n c] W λe w'=>(∃d y C,tk (bs.take n)=ab d/\e=aB (bn #[ae y d.length C,ai az])/\fe W.heap.size w' y C d/\au W w')\/(tk (bs.take n)=af/\e=aB (bn #[ae af 0 0,ai ao])/\au W w')):=hid (λW g n h1 D=>by have q:=aug A c (bs.take n) W aH aH (b2.Ge (hb.aI g) D);grind);clear hb arQ;go_enter func132,ntmps132;have a:=a8 w;go_upto_region 0 with fail;refine wp_region_lit ?_;refine bl a #[J aF 0,J aF 0,J R 0,J R 0,ae af 0 0] (λcp w1 a=>?_);refine dV ?_;iterate 3 refine ag ?_
 refine aG (J R (u:Int)) (by(have h:=gp.out;go_simp;try rw[h])) ?_;refine aG _ (rF 22 5 1 _ _ aa dW aw A _ c u aa aa ad) ?_;refine aR (rX.out _ a.only) ?_;rintro e aT ⟨o,m,c1,rfl,hf⟩;replace a:=a.new _ hf;refine Gl ?_;cases O with
 |false=>
  refine b5 ?_;refine e7 a #[J dO 71,J dO 74,J dO 82,J dO 49] 5 (λDJ bF a=>?_);refine Dr a 0 (FR ti aa aa (a.aW 0) aa dW mm) (λb8 a=>?_);refine aR (H1.out o m c1 _ (a.has 1) _ 4 (a.at 0) (b9 _) (λb hb=>a.ne (i:=0) (j:=1) aa aa aS b hb)) ?_;rintro e cA ⟨rfl,k⟩;replace a:=a.eP 1 k;refine aU ?_;refine pk (ai az) ?_;refine b5 ?_;refine a' a 2 (ar #[J aF 0,J aF 0,J R 0,J R 0,ae af 0 0]) (λcR a=>?_);refine bX ?_;go_wp2_with fail;refine c' (v:=_) (mh aa aa aa (a.aW 2) aw aw) aa (cm ⟨by rw[N.out];rfl,aa,a.only⟩)
 |true=>
  refine b5 ?_;refine e7 a #[J dO 71,J dO 74,J dO 82,J dO 49] 5 (λDJ dz a=>?_);refine Dr a 0 (FR ti aa aa (a.aW 0) aa dW mm) (λdv a=>?_);refine aR (H1.out o m c1 _ (a.has 1) _ 4 (a.at 0) (b9 _) (λb hb=>a.ne (i:=0) (j:=1) aa aa aS b hb)) ?_;rintro e eU ⟨rfl,k⟩;replace a:=a.eP 1 k;refine aU ?_;refine pk (ai ao) ?_;refine b5 ?_;refine aR (eI.out o m c1 _ (a.has 1)) ?_;rintro e gF ⟨rfl,k⟩;replace a:=a.eP 1 k;refine aU ?_;refine ag ?_;refine aR (gH.out o m c1 _ (a.has 1)) ?_;rintro e hI ⟨rfl,k⟩;replace a:=a.eP 1 k;refine aU ?_;refine ag ?_;refine aR (hZ.out o m c1 _ (a.has 1)) ?_;rintro e jK ⟨rfl,k⟩;replace a:=a.eP 1 k;refine aU ?_;refine ag ?_;refine aR (iV.out o m c1 _ (a.has 1)) ?_;rintro e ke ⟨rfl,k⟩;replace a:=a.eP 1 k;refine aU ?_;refine ag ?_;refine bl a #[J aF 0,J aF 0,J R 0,J R 0,ae af 0 0] (λen k9 a=>?_);refine a' a 0 (ar #[J aF v2,J aF v3,J R v4,J R v5,ae af 0 0]) (λmj a=>?_);refine an ?_;obtain⟨l,M3⟩:=ex (R.wrap v6);have ase:-9223372036854775808<=l:=by rw[<-M3];exact wrap_i64 _
  have Q:aE (ug bs=if¬(bt=0/\dn=0)\/ku l=0\/(bs.length:Int)<ku l then af else(tk (bs.take (ku l).toNat)).map (λall=>⟨v2,v3,v4,v5,all.drop 40⟩)):=hid (by rw[<-M3];exact N.out);have alz:=hid M3;clear M3;refine b5 ?_;refine aR (qW.out o m c1 _ (a.has 2)) ?_;rintro e np ⟨rfl,k⟩;replace a:=a.eP 2 k;refine aU ?_;refine aG (J R l) (by(have h:=alz.out;go_simp;try rw[h])) ?_;refine bC (aft l _ ase) a (λqH a=>?_);refine bX ?_;have ac7:=aw0 l;have q2:aE (ku l=ku l):=hid aa;by_cases hF:bt=0/\dn=0
  .obtain⟨rfl,rfl⟩:=hF;by_cases l6:ku l=0
   .have F:=hid l6;refine b5 ?_;refine bC (P.out o m c1 _ (a.has 2)) a (λrJ a=>?_);refine ag ?_;refine aG _ (by(go_simp;try rfl)) ?_;iterate 2 refine ag ?_
    refine dp F (ai az) ?_;refine pk (ai az) ?_;refine ag ?_;iterate 4 refine ps ?_
    refine cB ?_;refine a' a 3 (ar #[J aF 0,J aF 0,J R 0,J R 0,ae af 0 0]) (λu3 a=>?_);refine bX ?_;go_wp2_with fail;refine c' (v:=_) (mh aa aa aa (a.aW 3) aw aw) aa (cm ⟨by rw[Q.out];rw[if_pos (cm (b1 F.out))],aa,a.only⟩)
   .by_cases yV:(bs.length:Int)<ku l
    .have F:=hid l6;refine b5 ?_;refine bC (P.out o m c1 _ (a.has 2)) a (λxO a=>?_);refine ag ?_;refine aG _ (by(go_simp;try rfl)) ?_;iterate 2 refine ag ?_
     refine aG (ai ao) (by(have h:=F.out;go_simp;first|done|(simp[h];done)|omega)) ?_;refine pk (ai ao) ?_;iterate 4 refine ag ?_
     refine a1 (ai az) ?_;refine pk (ai az) ?_;refine b5 ?_;refine a' a 3 (ar #[J aF 0,J aF 0,J R 0,J R 0,ae af 0 0]) (λBt a=>?_);refine bX ?_;go_wp2_with fail;refine c' (v:=_) (mh aa aa aa (a.aW 3) aw aw) aa (cm ⟨by rw[Q.out];rw[if_pos (cm (cm yV))],aa,a.only⟩)
    .have F:=hid l6;obtain⟨n,hn⟩:∃n:Nat,ku l=n:=⟨(ku l).toNat,ad⟩;have dm:=hid hn;have SJ:n<=bs.length:=ad;have arC:44<=n:=ad;have nb:(n:Int)<=1048620:=ad;refine b5 ?_;refine bC (P.out o m c1 _ (a.has 2)) a (λBu a=>?_);refine ag ?_;refine aG _ (by(go_simp;try rfl)) ?_;iterate 2 refine ag ?_
     refine aG (ai ao) (by(have h:=F.out;go_simp;first|done|omega|omega)) ?_;refine pk (ai ao) ?_;iterate 4 refine ag ?_
     refine a1 (ai ao) ?_;refine pk (ai ao) ?_;refine an ?_;have aAZ:=fc.out;clear hn;have eV:aE (ug bs=(tk (bs.take n)).map (λall=>⟨v2,v3,v4,v5,all.drop 40⟩)):=hid (by rw[Q.out,if_neg ad,dm.out];rfl);rcases hop:tk (bs.take n)with _|d
     .have E:=hid hop;clear hop;refine b5 ?_;refine aG (J R (n:Int)) (by(have h:=dm.out;go_simp;try rw[h])) ?_;refine aG _ (rF 22 5 1 _ _ aa dW aw A _ c n aa aa ad) ?_;refine aR (fc.out _ a.only n nb SJ) ?_;rintro e DD (⟨d,_,_,t,_⟩|⟨_,rfl,g⟩);·rw[E.out]at t;cases t
      replace a:=a.aI g;refine aU ?_;iterate 5 refine ag ?_
      refine b5 ?_;refine pk (ai az) ?_;refine b5 ?_;refine a' a 3 (ar #[J aF 0,J aF 0,J R 0,J R 0,ae af 0 0]) (λJA a=>?_);refine bX ?_;go_wp2_with fail;refine c' (v:=_) (mh aa aa aa (a.aW 3) aw aw) aa (cm ⟨by rw[eV.out,E.out];rfl,aa,a.only⟩)
     .have E:=hid hop;have im:40<=d.length:=aue hop arC SJ;clear hop;refine b5 ?_;refine aG (J R (n:Int)) (by(have h:=dm.out;go_simp;try rw[h])) ?_;refine aG _ (rF 22 5 1 _ _ aa dW aw A _ c n aa aa ad) ?_;refine aR (fc.out _ a.only n nb SJ) ?_;rintro e UK (⟨d2,z,f,t,rfl,AU,g⟩|⟨t,_⟩);rotate_left;·rw[E.out]at t;cases t
      rw[E.out]at t;injection t with t;subst t;replace a:=a.lR g AU;refine aU ?_;iterate 5 refine ag ?_
      refine b5 ?_;refine pk (ai ao) ?_;refine b5 ?_;refine aG (ae (fK z f 40 1) (d.length -40) (f -40)) (Bi 22 5 1 (bj 59) (.const (J R 40)) aa dW aw z d.length f 40 (d.length -40) aa aa ad (a.lK 0).2.2) ?_;refine ag ?_;refine a' a 1 (ae (fK z f 40 1) (d.length -40) (f -40)) (λUL a=>?_);refine ah ?_;refine bh a 1 #[J aF v2,J aF v3,J R v4,J R v5,ae (fK z f 40 1) (d.length -40) (f -40)] ?_;refine a' a 4 (ar #[J aF v2,J aF v3,J R v4,J R v5,ae (fK z f 40 1) (d.length -40) (f -40)]) (λUM a=>?_);refine bX ?_;go_wp2_with fail;refine c' (v:=bn #[ar #[J aF v2,J aF v3,J R v4,J R v5,ae (fK z f 40 1) (d.length -40) (f -40)],J R 0]) (mh aa aa aa (a.aW 4) aw aw) aa (b1 ⟨⟨v2,v3,v4,v5,d.drop 40⟩,by rw[eV.out,E.out];rfl,fK z f 40 1,f -40,bg,(a.as 0 aa _ (λh=>fe.Gf h) (λb hb=>Tf hb)).fresh 0⟩)
  .have aqq:=hid hF;refine b5 ?_;refine bC (P.out o m c1 _ (a.has 2)) a (λUN a=>?_);refine ag ?_;refine aG (ai az) (by(go_simp;exact λh1 D=>hF ⟨h1,D⟩)) ?_;refine ag ?_;iterate 2 refine ps ?_
   refine pk (ai az) ?_;refine ag ?_;iterate 4 refine ps ?_
   refine cB ?_;refine a' a 3 (ar #[J aF 0,J aF 0,J R 0,J R 0,ae af 0 0]) (λagS a=>?_);refine bX ?_;go_wp2_with fail;refine c' (v:=_) (mh aa aa aa (a.aW 3) aw aw) aa (cm ⟨by rw[Q.out];rw[if_pos (b1 aqq.out)],aa,a.only⟩)
def F0(a i cu of n:Nat):List Int:=ti++ja [(a,8),(i,8),(cu,8),(of,8),(n,4)]
def vG(a i cu of:Nat)(ds:List Int):List Int:=Bf (F0 a i cu of ds.length++ds)
def UU{z}(h:0<=z/\z<18446744073709551616):aF.wrap z=z:=by grind[DW,DV,Kt]
def avB(a i cu of n):(F0 a i cu of n).length=40:=bc
def Row.Jn{w N n c A bs}(h:Row N w A n c 5 1 (bs.map a6)):b2 w A bs:=by grind[b2.ot]
def Row.aw2{w N n c A}{bs:List Int}(h:Row N w A n c 5 1 (bs.map a6)):bs.length=n:=by have a:=Row.len h;simpa using a
def avI(d i cu of:Nat)A c ds w(O:d<18446744073709551616/\i<18446744073709551616/\cu<=4611686018427387903/\of<=4611686018427387903/\ds.length<=1048576)(hb:b2 w A ds):
 aD ax 290 #[ar #[J aF (d:Int),J aF (i:Int),J R (cu:Int),J R (of:Int),ae A ds.length c]] w λe w'=>∃l n,e=aB (bn #[ae l (vG d i cu of ds).length n,J R 0])/\cf w w' (cx l n (vG d i cu of ds)):=by
 have r:aE (∀a:Nat,(a:Int)<=4611686018427387903->∀W,aD ax 115 #[ar #[J R (a:Int),J R 0]] W λe w'=>e=aB (ai az)/\au W w'):=hid (λa P W=>xM (a:Int) 0 W ⟨ad,ad,ad⟩);have t:aE (∀W,au w W->b2 W A ds):=hid (λW g=>hb.aI g)
 have u:aE (∀W,(∀B F,aX W F #[J aF (d:Int),J R 8,J aF (i:Int),J R 8,J aF (cu:Int),J R 8,J aF (of:Int),J R 8,J aF (ds.length:Int),J R 4] 227->b2 W (ab ⟨B,0,af⟩) ti->aD ax 126 #[ae (ab ⟨B,0,af⟩) 4 4,ae (ab ⟨F,0,af⟩) 5 5] W λe w'=>∃l n,e=aB (bn #[ae l 40 n,ai az])/\Row W.heap.size w' l 40 n 5 1 ((F0 d i cu of ds.length).map a6)/\au W w')):=hid (λW B F j x=>by
  have q:=agU (ab ⟨B,0,af⟩) 4 ti F 0 5 [(d,8),(i,8),(cu,8),(of,8),(ds.length,4)] W ⟨aS,bg⟩ x (λf Q=>by grind[yR]) (λk f hk=>by
   obtain rfl|rfl|rfl|rfl|rfl|N:k=0\/k=1\/k=2\/k=3\/k=4\/5<=k:=ad;·cases hk;exact⟨j.cell _ aa,j.cell _ aa⟩
   .cases hk;exact⟨j.cell _ aa,j.cell _ aa⟩
   .cases hk;exact⟨j.cell _ aa,j.cell _ aa⟩
   .cases hk;exact⟨j.cell _ aa,j.cell _ aa⟩
   .cases hk;exact⟨j.cell _ aa,j.cell _ aa⟩
   grind);have v:(ti++ja [(d,8),(i,8),(cu,8),(of,8),(ds.length,4)]).length=40:=avB d i cu of ds.length;rw[v]at q;exact q);clear hb;go_enter func290,ntmps290;have b:=a8 w;go_step;refine ah ?_;refine bL b (ar #[J aF (d:Int),J aF (i:Int),J R (cu:Int),J R (of:Int),ae A ds.length c]) (λG w1 b=>?_);refine DG ?_;refine pl b 0 2 ?_;refine ag ?_;refine bC (r cu ad _) b (λS b=>?_);refine pk (ai ao) ?_;refine v2 ?_;refine pl b 0 3 ?_;refine ag ?_;refine bC (r of ad _) b (λT b=>?_);refine pk (ai ao) ?_;refine pk (ai ao) ?_;refine v2 ?_;refine pl b 0 4 ?_;refine ag ?_;refine a1 (ai ao) ?_;refine pk (ai ao) ?_;refine ah ?_;refine e7 b #[J dO 71,J dO 74,J dO 82,J dO 49] 5 (λH U b=>?_);refine Dr b 0 (FR ti aa aa (b.aW 0) aa dW mm) (λV b=>?_);refine ag ?_;refine pl b 1 0 ?_;refine v2 ?_;refine pl b 1 1 ?_;refine v2 ?_;refine pl b 1 2 ?_;refine aG (J aF (cu:Int)) (by(have h:=UU (z:=(cu:Int)) ad;go_simp;try rw[h])) ?_;refine v2 ?_;refine pl b 1 3 ?_;refine aG (J aF (of:Int)) (by(have h:=UU (z:=(of:Int)) ad;go_simp;try rw[h])) ?_;refine v2 ?_;refine pl b 1 4 ?_;refine ag ?_;refine aG (J aF (ds.length:Int)) (by(have h:=UU (z:=(ds.length:Int)) ad;go_simp;try rw[h])) ?_;refine ag ?_;refine e7 b #[J aF (d:Int),J R 8,J aF (i:Int),J R 8,J aF (cu:Int),J R 8,J aF (of:Int),J R 8,J aF (ds.length:Int),J R 4] 227 (λI X b=>?_);refine aR (u _ _ _ (b.aW 0) (b.at 1)) ?_;rintro e Y ⟨C,K,rfl,hrow,g⟩;replace b:=b.lA g hrow;refine aU ?_;refine v5 ?_;refine gV ?_;refine pl b 3 4 ?_;refine jV (m:=ds.length) b 0 1 ((t _ b.only).cells) (xB ds) (λD L Z b=>?_)
 have s:aE (∀W o p,Row 0 W o (40+ds.length) p 5 1 ((F0 d i cu of ds.length).map a6++ds.map a6)->aD ax 325 #[ae o (40+ds.length) p] W λe w'=>∃l n,e=aB (ae l (vG d i cu of ds).length n)/\fe W.heap.size w' l n (vG d i cu of ds)/\au W w'):=hid (λW o p hr=>by rw[<-fP]at hr;have e:=hr.aw2;have q:=awO o p (F0 d i cu of ds.length++ds) W ad (by rw[e];exact hr.cap) hr.Jn;rw[e]at q;exact q);refine aR (s _ _ _ (b.at 0)) ?_;rintro e eU ⟨E,M,rfl,y,g⟩;replace b:=b.lR g y;refine aU ?_;refine dU ?_;go_wp2_with fail;go_ret2;exact⟨_,_,aa,b.fresh 0⟩
def Mc{a:Type}{L:List a}{p j x}(hx:L[j]?=ab x)(b:p x=az)(hb:∀(i) y,i<j->L[i]?=ab y->p y=ao):L.findIdx? p=ab j:=by grind[QL]
theorem Mb{a:Type}{L:List a}{p}(hb:∀(i:Nat) y,L[i]?=ab y->p y=ao):L.findIdx? p=none:=by grind[p9]
abbrev RecM:=Rec×Option bT×Nat
def gh(l:List RecM):List Value:=l.flatMap (λx=>[J aF x.1.seq,J aF x.1.id,J R x.1.cur,J R x.1.off,ae x.2.1 x.1.data.length x.2.2])
theorem Jc L:(gh L).length=L.length*5:=by
 induction L with
 |nil=>rfl
 |cons x L a=>grind[gh]
def F1(L a):gh (L++a)=gh L++gh a:=X'
def Ug x:gh [x]=([J aF x.1.seq,J aF x.1.id,J R x.1.cur,J R x.1.off,ae x.2.1 x.1.data.length x.2.2]:List aP):=rfl
def avG L j x(hx:L[j]?=ab x):gh L=gh (L.take j)++(([J aF x.1.seq,J aF x.1.id,J R x.1.cur,J R x.1.off,ae x.2.1 x.1.data.length x.2.2]:List aP)++gh (L.drop (j+1))):=by obtain⟨a,hx⟩:=eJ.1 hx;rw[<-Ug,<-F1,<-F1];congr 1;subst hx;simp
def Uf L j x(hx:L[j]?=ab x):∀(i) v,(([J aF x.1.seq,J aF x.1.id,J R x.1.cur,J R x.1.off,ae x.2.1 x.1.data.length x.2.2]:List aP):List aP)[i]?=ab v->(gh L)[j*5+i]?=ab v:=λi v hv=>by
 have b:=(eJ.1 hx).1;have hi:i<5:=(eJ.1 hv).1;have a:(gh (L.take j)).length=j*5:=by grind[Jc]
 rw[avG L j x hx,pn ad,a,show j*5+i -j*5=i by omega,tQ ad];exact hv
def zn(L:List RecM)(p:RecM->Bool):Int:=match L.findIdx? p with|some k=>(k:Int)|none=>-1
def avE A (c g:Nat) lb L p w (cv:L.length<=1073741824) (hr:Row 0 w A L.length c 137 5 (gh L)) (q:∀args w,(kB g args).run ax w=bf (.enter g args) w)
 (hp:∀x W,x∈L->au w W->aD ax g (#[ar #[J aF x.1.seq,J aF x.1.id,J R x.1.cur,J R x.1.off,ae x.2.1 x.1.data.length x.2.2]]++lb) W λe w'=>e=aB (ai (p x))/\au W w'):
 aD ax 285 #[ae A L.length c,dI (ed g) #[] lb] w λe w'=>e=aB (J R (zn L p))/\au w w':=by
 have E:=hr;obtain⟨hlen,_⟩:=E;have u:=hid q;have z:=hid hp;have o:aE (∀W,au w W->Row 0 W A L.length c 137 5 (gh L)):=hid (λW g=>I8 hr g);clear hr q hp hlen;go_enter func285,ntmps285;have a:=a8 w;go_step;refine ah ?_;refine ag ?_;refine ah ?_;refine v3 ?_;refine an ?_;go_wp2_with fail;go_loopw [8] (λk wr=>∃j:Nat,j<=L.length/\k=J R (j:Int)/\(∀(i:Nat) (x:RecM),i<j->L[i]?=ab x->p x=ao)/\ak w (λ_=>False) wr []) (λk wr=>L.length -(bQ k).toNat);case atStart=>grind
 case round=>
  clear a;obtain⟨j,G,rfl,s,a⟩:=hrel;by_cases hlt:j<L.length
  .have D:(j:Int)<(L.length:Int):=ad;obtain⟨x,hx⟩:∃x,L[j]?=ab x:=⟨_,cE hlt⟩;obtain⟨d,cur,r,C,_,_,_,_⟩:=(o.out _ a.only).blk ad;obtain⟨jf,t⟩:=ex (p x);have F:=cX hx;have B:=hid (Uf L j x hx);have n:=hid hx;have b:=hid t;have m:=hid s;have l:=hid r;clear hx t s C r;go_step;refine ah ?_;refine ag ?_;refine ah ?_;refine v2 ?_;refine jk ?_;refine aG (ay (ab ⟨d,(j*5),af⟩)) (b4 235 137 5 (bj 12) (bj 13) aa x3 aw d 0 (L.length) c j ((j*5)) (by show ae A _ _=_;rw[l]) aa hlt ad) ?_;refine aG _ (by(refine eW _ _ aa d _ aa _ (Row.range (o _ a.only) l (λi v hi=>B i v hi)) Pk aa aw)) ?_;refine bC ((by have h:=z.out x _ F a.only;rw[b.out]at h;exact h)) a (λw1 a=>?_) (hr:=by(go_simp;exact u _ _));refine an ?_;cases jf with
   |true=>
    refine ah ?_;refine dU ?_;go_wp2_with fail;go_ret;exact⟨by rw[show zn L p=(j:Int)from by unfold zn;rw[show L.findIdx? p=ab j from Mc n b m]];rfl,a.only⟩
   |false=>
    refine ah ?_;refine pad (j:Int) 1 ((j+1:Nat):Int) ?_;refine bX ?_;go_wp2_with fail;go_roundw;case rel=>exact⟨j+1,ad,rfl,λi y hi f=>by rcases Nat.lt_succ_iff_lt_or_eq.1 hi with h|rfl;exact m i y h f;rw[n]at f;cases f;exact b,a⟩
    case measure=>simp[bQ]<;>omega
  .have D:¬(j:Int)<(L.length:Int):=ad;obtain rfl:j=L.length:=ad;go_step;refine ah ?_;refine ag ?_;refine ah ?_;refine ag ?_;refine an ?_;go_wp2_with fail;go_ret;exact⟨by rw[show zn L p=-1 from by grind[zn,Mb]];rfl,a.only⟩
def avD A (c g:Nat) lb L (p:RecM->Bool) w (cv:L.length<=1073741824) (hr:Row 0 w A L.length c 137 5 (gh L)) (B:∀args w,(kB g args).run ax w=bf (.enter g args) w)
 (hp:∀x W,x∈L->av (eh A) w W->aD ax g (#[ar #[J aF x.1.seq,J aF x.1.id,J R x.1.cur,J R x.1.off,ae x.2.1 x.1.data.length x.2.2]]++lb) W λe w'=>e=aB (ai (p x))/\au W w'):
 aD ax 215 #[ae A L.length c,dI (ed g) #[] lb] w λe w'=>∃P,e=aB (ae P (L.filter (λx=>!p x)).length c)/\Turned w w' (ba A L.length c 137 5 (gh L)) (ba P (L.filter (λx=>!p x)).length c 137 5 (gh (L.filter (λx=>!p x)))):=by
 have U:=hid B;have D:0<L.length->_:=λh=>hr.blk h;obtain⟨N,K⟩:=ex (zn L p);have X:aE (∀W,av (eh A) w W->Row 0 W A L.length c 137 5 (gh L)->aD ax 285 #[ae A L.length c,dI (ed g) #[] lb] W λe w'=>e=aB (J R N)/\au W w'):=hid (λW o h=>by have q:=avE A c g lb L p W cv h B (λx fg hx g2=>hp x fg hx (o.trans g2.to (λ_ _ h=>h)));rw[K]at q;exact q);have Y:=hid hp;have hr1:=hid hr;have IA:=hid (λb (hb:eh A b)=>(Row.lt hr hb).2);by_cases C4:N=-1;clear B hp
 .subst C4;have hno:L.filter (λx=>!p x)=L:=by grind[z',zn]
  rw[hno];clear hno K D hr;go_enter Tryz.func215,Tryz.ntmps215;have a:=ak.start (t:=ba A L.length c 137 5 (gh L)) ⟨hr1,IA⟩;go_step;refine ah ?_;refine kg ?_;refine bC (X.out _ a.only (a.at 0)) a (λw1 a=>?_);refine cB ?_;refine pk (ai az) ?_;refine ah ?_;refine dU ?_;go_wp2_with fail;go_ret;exact⟨A,aa,a.gl 0⟩
 .obtain⟨d,qn⟩:∃d,L.findIdx? p=ab d:=by grind[zn]
  have Sv:N=(d:Int):=by grind[zn]
  subst Sv;obtain⟨jC,uz,hb1⟩:=QL.1 qn;obtain⟨G,cur,rfl,k2,j9,hcm,hcs,E⟩:=D ad;have arE:¬(d:Int)=-1:=ad;have Sr:(L.take d).filter (λx=>!p x)=L.take d:=by grind[z',p9]
  have hx1:L[d]?=ab L[d]:=cE jC
  have hst:∃f fD,cur=(gh ((L.take (d+1)).filter (λx=>!p x))++(f++(gh (L.drop (d+1))++fD))).toArray/\f.length=5/\((L.take (d+1)).filter (λx=>!p x)).length=d:=by
   have bE:(L.take (d+1)).filter (λx=>!p x)=L.take d:=by grind[gq]
   refine⟨gh [L[d]],cur.toList.drop (L.length*5),?_,bc,aH⟩;rw[bE,<-kD,<-kD,<-F1,<-F1,show L.take d++[L[d]]++L.drop _=L by simp,<-E,oa]
  obtain⟨f,fD,H2,fU,l⟩:=hst;have aqt:∀b,eh (ab (⟨G,0,af⟩:bT)) b->b=G:=λb ⟨off,sp,e⟩=>by grind
  have hsz:cur.size=c*5:=hcs;have k6:fD.length+L.length*5=c*5:=by grind[Jc]
  have Qs:=hid k6;have r:=hid j9;have Q:=hid hcm;have q2:=hid hsz;have oB:=hid H2;have BY:=hid E;have lg:=hid k2;clear k6 K qn hb1 Sr uz hx1 j9 hcm hcs E D hr k2 hsz H2;go_enter Tryz.func215,Tryz.ntmps215;have a:ak w (eh (ab (⟨G,0,af⟩:bT))) w [aj G cur 137]:=(ak.start (t:=ba (ab (⟨G,0,af⟩:bT)) L.length c 137 5 (gh L)) ⟨hr1,IA⟩).as 0 aa _ (λ_=>lg) (λb hb=>⟨0,af,by rw[show b=G from hb]⟩);go_step;refine ah ?_;refine kg ?_;refine bC (X.out _ a.only (by have h:=Jh (n:=L.length) (a.aW 0) r Q q2;rw[show cur.toList.take (L.length*5)=gh L from BY]at h;exact h)) a (λaT a=>?_);refine cB ?_;refine a1 (ai ao) ?_;refine b5 ?_;refine pad (d:Int) 1 ((d+1:Nat):Int) ?_;refine bX ?_;have bJ:=a;rw[oB]at a;go_wp2_with fail;go_loopw [5,6] (λaO O wr=>∃(i j:Nat) (f:List aP),i<j/\j<=L.length/\aO=J R (i:Int)/\O=J R (j:Int)/\((L.take j).filter (λx=>!p x)).length=i/\f.length+i*5=j*5/\ak w (eh (ab (⟨G,0,af⟩:bT))) wr [aj G (gh ((L.take j).filter (λx=>!p x))++(f++(gh (L.drop j)++fD))).toArray 137]) (λaO O wr=>L.length -(bQ O).toNat);case atStart=>exact⟨d,d+1,_,ad,ad,aa,aa,l,ad,a⟩
  case round=>
   clear a bJ l fU;obtain⟨i,j,f,je,hj,rfl,rfl,l,fU,a⟩:=hrel;by_cases hlt:j<L.length
   .have cb:(j:Int)<(L.length:Int):=ad;obtain⟨x,hx⟩:∃x,L[j]?=ab x:=⟨_,cE hlt⟩;have mC:=cX hx;obtain⟨jf,oZ⟩:=ex (p x);have hdr:gh (L.drop j)=([J aF x.1.seq,J aF x.1.id,J R x.1.cur,J R x.1.off,ae x.2.1 x.1.data.length x.2.2]:List aP)++gh (L.drop (j+1)):=by rw[<-Ug,<-F1];congr 1;obtain⟨h1,rfl⟩:=eJ.1 hx;simp
    obtain⟨pre,M⟩:=ex (gh ((L.take j).filter (λx=>!p x)));have SU:pre.length=i*5:=by grind[Jc]
    obtain⟨eM,I⟩:=ex (gh (L.drop (j+1)));rw[hdr,M,I]at a
    have xo:∀(k:Nat) (v:aP),(([J aF x.1.seq,J aF x.1.id,J R x.1.cur,J R x.1.off,ae x.2.1 x.1.data.length x.2.2]:List aP):List aP)[k]?=ab v->(pre++(f++(([J aF x.1.seq,J aF x.1.id,J R x.1.cur,J R x.1.off,ae x.2.1 x.1.data.length x.2.2]:List aP)++eM++fD)))[j*5+k]?=ab v:=λk v hk=>by have ara:k<5:=(eJ.1 hk).1;rw[pn ad,pn ad,kD,tQ (by show _<5;omega),show j*5+k -pre.length -f.length=k by omega];exact hk
    have Z:=hid SU;have pf:=hid xo;have u:=hid hx;have s:=hid oZ;have wS:=hid M;have T:=hid I;have m:=hid l;have akt:=hid hdr;clear hx oZ M I hdr xo l;go_step;refine ah ?_;refine v4 ?_;refine gV ?_;refine aG (ay (ab ⟨G,(j*5),af⟩)) (b4 235 137 5 (bj 22) (bj 23) aa x3 aw G 0 (L.length) c j ((j*5)) aa aa hlt ad) ?_;refine aG _ (by(refine eW _ _ aa G _ aa _ ((a.aW 0).rangeAt _ _ (λk v hk=>by rw[Ab];exact pf k v hk)) Pk aa aw)) ?_;refine bl a #[J aF 0,J aF 0,J R 0,J R 0,ae af 0 0] (λfl bF a=>?_);refine a' a 0 (ar #[J aF x.1.seq,J aF x.1.id,J R x.1.cur,J R x.1.off,ae x.2.1 x.1.data.length x.2.2]) (λb8 a=>?_);refine an ?_;cases jf with
    |true=>
     refine b5 ?_;refine bh a 0 #[J aF x.1.seq,J aF x.1.id,J R x.1.cur,J R x.1.off,ae x.2.1 x.1.data.length x.2.2] ?_;refine bC ((by have h:=Y.out x _ mC a.only;rw[s.out]at h;exact h)) a (λcA a=>?_) (hr:=by(first|(go_simp;done)|(go_simp;exact U.out _ _)));refine cB ?_;refine pad (j:Int) 1 ((j+1:Nat):Int) ?_;refine bX ?_;go_wp2_with fail;go_roundw;case rel=>exact⟨i,j+1,f++([J aF _,J aF _,J R _,J R _,ae x.2.1 _ x.2.2]:List _),ad,ad,aa,aa,by rw[show(L.take _).filter (λx=>!p x)=(L.take j).filter (λx=>!p x)from by rw[gq,u,sT];simp[s.out]];exact m,by rw[c7];show f.length+5+_=_;omega,by rw[show(L.take _).filter (λx=>!p x)=(L.take j).filter (λx=>!p x)from by rw[gq,u,sT];simp[s.out],wS.out,T.out];have h:ak _ _ _ [aj G (pre++(f++(([J aF x.1.seq,J aF x.1.id,J R x.1.cur,J R x.1.off,ae x.2.1 x.1.data.length x.2.2]:List aP)++eM++fD))).toArray 137]:=a.pick [1];simpa using h⟩
     case measure=>simp[bQ]<;>omega
    |false=>
     refine b5 ?_;refine bh a 0 #[J aF x.1.seq,J aF x.1.id,J R x.1.cur,J R x.1.off,ae x.2.1 x.1.data.length x.2.2] ?_;refine bC ((by have h:=Y.out x _ mC a.only;rw[s.out]at h;exact h)) a (λcR a=>?_) (hr:=by(first|(go_simp;done)|(go_simp;exact U.out _ _)));refine kg ?_;refine bh a 0 #[J aF x.1.seq,J aF x.1.id,J R x.1.cur,J R x.1.off,ae x.2.1 x.1.data.length x.2.2] ?_;refine aG _ (b4 235 137 5 _ _ aa x3 aw G 0 _ c i ((i*5)) aa aa ad ad) ?_;refine NG a 1 (F9 (cs':=(pre++(([J aF x.1.seq,J aF x.1.id,J R x.1.cur,J R x.1.off,ae x.2.1 x.1.data.length x.2.2]:List aP)++(f++(([J aF x.1.seq,J aF x.1.id,J R x.1.cur,J R x.1.off,ae x.2.1 x.1.data.length x.2.2]:List aP)++eM++fD)).drop 5)).toArray) (ar #[J aF x.1.seq,J aF x.1.id,J R x.1.cur,J R x.1.off,ae x.2.1 x.1.data.length x.2.2]) aa aa aa (a.aW 1) (by show i*5+5<=_;rw[iK,c7,c7,c7,c7,Z];show _<=_+(_+(5+_+_));omega) aw aw (by have e:=zb ([J aF x.1.seq,J aF x.1.id,J R x.1.cur,J R x.1.off,ae x.2.1 x.1.data.length x.2.2]:List aP) pre (f++(([J aF x.1.seq,J aF x.1.id,J R x.1.cur,J R x.1.off,ae x.2.1 x.1.data.length x.2.2]:List aP)++eM++fD)) (by rw[c7,c7,c7];show 5<=_+(5+_+_);omega);rw[Z]at e;exact e)) (λdz a=>?_);refine b5 ?_;refine pad (i:Int) 1 ((i+1:Nat):Int) ?_;refine cB ?_;refine pad (j:Int) 1 ((j+1:Nat):Int) ?_;refine bX ?_;go_wp2_with fail;go_roundw;case rel=>exact⟨i+1,j+1,(f++([J aF x.1.seq,J aF x.1.id,J R x.1.cur,J R x.1.off,ae x.2.1 x.1.data.length x.2.2]:List aP)).drop 5,ad,ad,aa,aa,by rw[(show(L.take _).filter (λx=>!p x)=(L.take j).filter (λx=>!p x)++[x]from by rw[gq,u,sT];simp[s.out]),c7,m];rfl,by rw[tS,c7];show f.length+5 -5+_=_;omega,by rw[(show(L.take _).filter (λx=>!p x)=(L.take j).filter (λx=>!p x)++[x]from by rw[gq,u,sT];simp[s.out]),F1,wS,Ug,T];have h:ak _ _ _ [aj G (pre++(([J aF x.1.seq,J aF x.1.id,J R x.1.cur,J R x.1.off,ae x.2.1 x.1.data.length x.2.2]:List aP)++(f++(([J aF x.1.seq,J aF x.1.id,J R x.1.cur,J R x.1.off,ae x.2.1 x.1.data.length x.2.2]:List aP)++eM++fD)).drop 5)).toArray 137]:=a.pick [1];rw[show pre++(([J aF x.1.seq,J aF x.1.id,J R x.1.cur,J R x.1.off,ae x.2.1 x.1.data.length x.2.2]:List aP)++(f++(([J aF x.1.seq,J aF x.1.id,J R x.1.cur,J R x.1.off,ae x.2.1 x.1.data.length x.2.2]:List aP)++eM++fD)).drop 5)=pre++([J aF x.1.seq,J aF x.1.id,J R x.1.cur,J R x.1.off,ae x.2.1 x.1.data.length x.2.2]:List aP)++((f++([J aF x.1.seq,J aF x.1.id,J R x.1.cur,J R x.1.off,ae x.2.1 x.1.data.length x.2.2]:List aP)).drop 5++(eM++fD))from by rw[kD,kD,<-kD f,List.drop_append_of_le_length (by rw[c7];show 5<=_+5;omega)]]at h;exact h⟩
     case measure=>simp[bQ]<;>omega
   .have cb:¬(j:Int)<(L.length:Int):=ad;obtain rfl:j=L.length:=ad;rw[lp]at a l;rw[List.drop_length]at a;have m:=hid l;clear l;go_step;refine ah ?_;refine v4 ?_;refine an ?_;obtain⟨cu,z⟩:=ex ((gh (L.filter (λx=>!p x))++(f++(gh []++fD))).toArray);have H3:cu.size=c*5:=by rw[<-z,iK,c7,c7,c7,Jc,m];have:=Qs.out;show _+(_+(0+_))=_;omega
    have hcut:cu.toList.take (i*5)=gh (L.filter (λx=>!p x)):=by rw[<-z,<-m,<-Jc];simp
    rw[z]at a;have S:=hid H3;have D4:=hid hcut;clear z H3 hcut;refine gV ?_;refine aG (ae (ab ⟨G,i*5,af⟩) (L.length -i) (c -i)) (af1 235 137 5 (bj 36) (bj 37) aa x3 aw G L.length c i (L.length -i) aa aa ad r.out (by have:=r.out;omega)) ?_;refine aeH (C:=λy=>y.size=cu.size/\y.toList.take (i*5)=cu.toList.take (i*5)) a 0 (afA (sz:=5) aa bc x3 bc bc aw ad (a.aW 0) (by rw[S];have:=r.out;omega)) (λhI y Si a=>?_);refine an ?_;obtain⟨F,H⟩:=Si;rw[D4]at H;rw[S]at F;replace a:ak _ _ _ [aj G y 137]:=a;have Qz:=hid F;have vm:=hid H;clear F H;refine gV ?_;refine aG (ae (ab (⟨G,0,af⟩:bT)) i c) (rF 235 137 5 (bj 39) (bj 40) aa x3 aw (ab (⟨G,0,af⟩:bT)) L.length c i aa aa (by have:=r.out;omega)) ?_;refine bX ?_;have V:=a.uZ 0 i c 5 (gh (L.filter (λx=>!p x))) vm (by have:=r.out;omega) Q Qz;rw[<-m]at V;go_wp2_with fail;go_ret;exact⟨_,by rw[m.out];rfl,V.gl 0⟩
def afB{o}{a:b3}{w x v n}(ho:o.op=nU {callee:=.invoke x n,args:=#[],argTypes:=#[]})(hx:a.eval x=.iface 137 v)(b:(callMethod (.iface 137 v) n #[]).run ax w=bf (.enter 408 #[v]) w:=by rfl):(bA a.eval o).run ax w=bf (.enter 408 #[v]) w:=by have h1:(kB 408 #[v]).run _ w=bf (.enter 408 _) w:=lf Tryz.func408 aw aa _ _;unfold bA;simp only[ho,nX,hx,nW,gx,kh,jE];simpa using b
def qK:RecM:=(⟨0,0,0,0,[]⟩,af,0)
def js:List RecM->RecM
 |[]=>qK
 |x::l=>l.foldl (λb y=>if y.1.seq>b.1.seq then y else b) x
def amW l x:js (l++[x])=if l=[]\/x.1.seq>(js l).1.seq then x else js l:=by
 cases l with
 |nil=>rfl
 |cons y l=>grind[js]
def YP:∀(l),js l=qK\/js l∈l:=by
 intro l;cases l with
 |nil=>exact b1 aa
 |cons x l=>
  right;show l.foldl _ x∈_
  have key:∀(l:List RecM) x,l.foldl (λb y=>if y.1.seq>b.1.seq then y else b) x=x\/l.foldl (λb y=>if y.1.seq>b.1.seq then y else b) x∈l:=by
   intro l;induction l with
   |nil=>simp
   |cons y l a=>
    intro x;rw[Aa];rcases a (if y.1.seq>x.1.seq then y else x)with h|h
    .rw[h];split;·simp
     .simp
    .grind
  grind
def aef(x:RecM)w:
 aD ax 408 #[ar #[J aF x.1.seq,J aF x.1.id,J R x.1.cur,J R x.1.off,ae x.2.1 x.1.data.length x.2.2]] w λe w'=>e=aB (J aF x.1.seq)/\au w w':=by
 go_enter Tryz.func408,ntmps408;have a:=a8 w;go_step;refine ah ?_;refine bL a (ar _) (λb w1 a=>?_);refine cB ?_;refine pl a 0 0 ?_;refine bX ?_;go_wp2_with fail;go_ret;exact⟨aa,a.only⟩
def aqc A c L w(cv:L.length<=1073741824)(hr:Row 0 w A L.length c 137 5 (gh L)):
 aD ax 214 #[ae A L.length c] w λe w'=>e=aB (bn #[ar #[J aF (js L).1.seq,J aF (js L).1.id,J R (js L).1.cur,J R (js L).1.off,ae (js L).2.1 (js L).1.data.length (js L).2.2],ai (decide (0<L.length))])/\au w w':=by
 have s:aE (∀W,au w W->Row 0 W A _ c _ 5 _):=hid (λW g=>I8 hr g);clear hr;obtain⟨hD,hbl⟩:=ex (js L);obtain⟨lb,n⟩:=ex (decide (0<L.length));rw[hbl,n];have B:=hid n;have z:=hid hbl;clear n hbl;go_enter func214,ntmps214;have a:=a8 w;go_step;refine ah ?_;refine bl a #[J _ 0,J _ 0,J _ 0,J _ 0,ae _ 0 0] (λp w1 a=>?_);refine dV ?_;refine bl a #[J aF 0,J aF 0,J R 0,J R 0,ae af 0 0] (λq I a=>?_);refine ah ?_;refine v3 ?_;refine an ?_;replace a:ak _ _ _ [aj q #[J _ (js []).1.seq,J _ (js []).1.id,J R (js []).1.cur,J _ (js []).1.off,ae (js []).2.1 (js []).1.data.length (js []).2.2] 137,aj p #[J aF qK.1.seq,J _ qK.1.id,J _ qK.1.cur,J _ qK.1.off,ae qK.2.1 qK.1.data.length qK.2.2] 137]:=a;go_wp2_with fail;go_loopw [9] (λo wr=>∃j:Nat,j<=L.length/\o=J R (j:Int)/\ak w (λ_=>False) wr [aj q #[J aF (js (L.take j)).1.seq,J aF (js (L.take j)).1.id,J R (js (L.take j)).1.cur,J R (js (L.take j)).1.off,ae (js (L.take j)).2.1 (js (L.take j)).1.data.length (js (L.take j)).2.2] 137,aj p #[J aF qK.1.seq,J aF qK.1.id,J R qK.1.cur,J R qK.1.off,ae qK.2.1 qK.1.data.length qK.2.2] 137]) (λo wr=>L.length -(bQ o).toNat);case atStart=>exact⟨0,cC _,aa,a⟩
 case round=>
  clear a;obtain⟨j,H,rfl,a⟩:=hrel;by_cases hlt:j<L.length
  .have E:(j:Int)<(L.length:Int):=ad;obtain⟨x,hx⟩:∃x,L[j]?=ab x:=⟨_,cE hlt⟩;obtain⟨l,cur,t,D,_,_,_,_⟩:=(s.out _ a.only).blk ad;have C:=hid (Uf L j x hx);have u:L.take (j+1)=L.take j++[x]:=by rw[gq,hx];rfl
   obtain⟨b,hb⟩:=ex (js (L.take j));rw[hb]at a;have f:aE (js (L.take _)=if j=0\/x.1.seq>b.1.seq then x else b):=hid (by rw[u,amW,hb];congr 1;rw[eq_iff_iff];refine or_congr_left ⟨λh=>?_,λh=>by rw[h];rfl⟩;have:=congrArg q4 h;rw[po,mq]at this;omega);have r:=hid t;clear hx D t u hb;go_step;refine ah ?_;refine cB ?_;refine aG (ay (ab ⟨l,(j*5),af⟩)) (b4 235 137 5 (bj 7) (bj 9) aa x3 aw l 0 (L.length) c j ((j*5)) (by show ae A _ _=_;rw[r]) aa hlt ad) ?_;refine aG _ (by(refine eW 137 _ aa l _ aa _ (Row.range (s _ a.only) r (λi v hi=>C i v hi)) Pk aa aw)) ?_;refine bl a #[J _ 0,J _ 0,J _ 0,J _ 0,ae _ 0 0] (λG K a=>?_);refine ag ?_;refine a' a 0 (ar _) (λM a=>?_);refine an ?_;by_cases m:j=0
   .have d:(j:Int)=0:=ad;refine cy ?_;refine bR a [] (λ_ _=>a7) (λ_ _=>emp) (λ_=>[]) (λ_=>[]) (λ_=>[]) [0,1,2] (λF=>?_);refine aJ ?_;refine aL (ai az) (λ_ _ _=>by(go_simp;try simp[d])) ?_;refine aJ ?_;iterate 7 refine ds ?_
    refine fT (ai az) ?_;refine bW λN a=>?_;refine ah ?_;refine bh a 0 #[J aF x.1.seq,J aF x.1.id,J R x.1.cur,J R x.1.off,ae x.2.1 x.1.data.length x.2.2] ?_;refine a' a 1 (ar _) (λO a=>?_);refine an ?_;have y:=hid m;clear m d;refine ah ?_;refine pad (j:Int) 1 ((j+1:Nat):Int) ?_;refine bX ?_;go_wp2_with fail;go_roundw;case rel=>exact⟨j+1,ad,aa,by rw[f,if_pos (b1 y.out)];exact a.pick [1,2]⟩
    case measure=>simp[bQ]<;>omega
   .have d:¬(j:Int)=0:=ad;obtain⟨du,hcb⟩:=ex (decide (x.1.seq>b.1.seq));have k:=hid hcb;clear hcb;refine cy ?_;refine bR a [5,8] (λi _=>match i with|5=>J aF x.1.seq|8=>J aF b.1.seq|_=>a7) (λ_ _=>emp) (λ_=>[]) (λ|3=>[0]|6=>[1]|_=>[]) (λ_=>[]) [0,1,2,8,11] (λF=>?_);refine aJ ?_;refine aL (ai ao) (λ_ _ _=>by(go_simp;try simp[d])) ?_;refine aJ ?_;refine eM 0 #[J aF x.1.seq,J aF x.1.id,J R x.1.cur,J R x.1.off,ae x.2.1 x.1.data.length x.2.2] ?_;refine aJ ?_;refine dK (λ_ _ _=>aef x _) ?_ (hr:=by(intro _;exact afB aa aa));refine eM 0 #[J aF b.1.seq,J aF b.1.id,J R b.1.cur,J R b.1.off,ae b.2.1 b.1.data.length b.2.2] ?_;refine aJ ?_;refine dK (λ_ _ _=>aef b _) ?_ (hr:=by(intro _;exact afB aa aa));refine aL (ai du) (λ_ _ _=>by(have h:=k.out;go_simp;try simp[h])) ?_;refine fT (ai du) ?_;refine bW λP a=>?_;replace a:=a.drop 3;replace a:=a.drop 3;cases du with
    |true=>
     refine ah ?_;refine bh a 0 #[J aF x.1.seq,J aF x.1.id,J R x.1.cur,J R x.1.off,ae x.2.1 x.1.data.length x.2.2] ?_;refine a' a 1 (ar _) (λQ a=>?_);refine ah ?_;refine pad (j:Int) 1 ((j+1:Nat):Int) ?_;refine bX ?_;go_wp2_with fail;go_roundw;case rel=>exact⟨j+1,ad,aa,by rw[f,if_pos (cm (of_decide_eq_true k))];exact a.pick [1,2]⟩
     case measure=>simp[bQ]<;>omega
    |false=>
     refine ah ?_;refine pad (j:Int) 1 ((j+1:Nat):Int) ?_;refine bX ?_;go_wp2_with fail;go_roundw;case rel=>exact⟨j+1,ad,aa,by rw[f,if_neg (λh=>h.elim m (of_decide_eq_false k))];exact a.pick [1,2]⟩
     case measure=>simp[bQ]<;>omega
  .have E:¬(j:Int)<(L.length:Int):=ad;obtain rfl:j=L.length:=ad;rw[lp,z]at a;go_step;refine ah ?_;refine dV ?_;refine bh a 0 #[J aF hD.1.seq,J aF hD.1.id,J R hD.1.cur,J R hD.1.off,ae hD.2.1 hD.1.data.length hD.2.2] ?_;refine v2 ?_;refine aG (ai lb) (by(have h:=B.out;first|(go_simp;done)|(go_simp;rw[<-h];done)|(go_simp;rw[<-h];simp))) ?_;refine a' a 1 (ar _) (λS a=>?_);refine bX ?_;go_wp2_with fail;refine c' (v:=_) (mh aa aa aa (a.aW 1) aw aw) aa (⟨aa,a.only⟩)
def atL(x:RecM)id B w(hb:aX w B #[J aF id] 42):
 aD ax 217 #[ar #[J aF x.1.seq,J aF x.1.id,J R x.1.cur,J R x.1.off,ae x.2.1 x.1.data.length x.2.2],ay (ab ⟨B,0,af⟩)] w λe w'=>e=aB (ai (decide (x.1.id≠id)))/\au w w':=by
 obtain⟨d,b⟩:=ex (decide (x.1.id≠id));have c:=hid b;rw[b];clear b;go_enter Tryz.func217,ntmps217;have a:=a8 w;go_step;refine ah ?_;refine bL a (ar _) (λf w1 a=>?_);refine cB ?_;refine pl a 0 1 ?_;refine jf hb a.only ?_;refine aG (ai d) (by(have h:=c.out;go_simp;rw[<-h];simp[bne,BEq.beq])) ?_;refine bX ?_;go_wp2_with fail;go_ret;exact⟨aa,a.only⟩
def avF{L u}(h:u∈gh L):u.oneCell'=true:=by obtain⟨x,_,hx⟩:=List.mem_flatMap.1 h;simp only[gy,fQ,or_false]at hx;rcases hx with rfl|rfl|rfl|rfl|rfl<;>rfl
def Row.cells{w A}{n c e sz:Nat}{xs}(h:Row 0 w A n c e sz xs):Cells w sz A n xs:=by
 refine⟨h.1,λhn=>?_⟩;obtain⟨g,cur,rfl,hb,h1,d,f,b⟩:=h.blk hn;refine⟨_,rfl,λj u a=>?_⟩;rw[mW,iY];refine hb.cell j ?_;rw[<-b,tR]at a;split at a;·grind
 .grind
def anK A c L w(cv:L.length<=1073741824)(hr:Row 0 w A L.length c 137 5 (gh L))(f:L.length=0->A=af)(hc0:L.length=0->c=0):
 aD ax 216 #[ae A L.length c] w λe w'=>∃b d,e=aB (ae b L.length d)/\Row w.heap.size w' b L.length d 137 5 (gh L)/\au w w':=by
 by_cases n:L.length=0;·have hnil:=j3 n;subst hnil;have o:=f aa;subst o;obtain rfl:=hc0 aa;go_enter Tryz.func216,Tryz.ntmps216;have a:=a8 w;go_step;refine ah ?_;refine cB ?_;refine pk (ai az) ?_;refine ah ?_;refine ag ?_;refine an ?_;go_wp2_with fail;go_ret;exact⟨_,0,aa,Row.nil _ _ _ _,a.only⟩
 .obtain⟨s,cur,rfl,p,_,_,_,_⟩:=hr.blk ad;have j:aE (∀W,au w W->Row 0 W _ _ c _ 5 _):=hid (λW g=>I8 hr g);clear hr p f hc0;go_enter Tryz.func216,Tryz.ntmps216;have a:=a8 w;go_step;refine ah ?_;refine cB ?_;refine pk (ai ao) ?_;refine ah ?_;refine e7 a #[] 137 (λr w1 a=>?_);refine ag ?_;have k:ak _ _ _ [ba _ 0 0 _ 5 []]:=a.uZ 0 0 0 5 [] aa (b9 _) (cC _) aa;refine jV (m:=_) k 0 56 (by have h:=j.out _ a.only;exact Row.cells h) (λu q=>avF q) (λi l t a=>?_) (hby:=by omega);refine bX ?_;rw[iY,lJ]at a;go_wp2_with fail;go_ret;exact⟨i,l,aa,(a.fresh 0).row,a.only⟩
def xz(id:Int)(L:List RecM):RecM×Bool:=(js (L.filter (λx=>!decide (x.1.id≠id))),decide (0<(L.filter (λx=>!decide (x.1.id≠id))).length))
def ad9 id A c L w(cv:L.length<=1073741824)(hr:Row 0 w A L.length c 137 5 (gh L))(m:L.length=0->A=af)(hc0:L.length=0->c=0)(p:∀x∈L,b2 w x.2.1 x.1.data/\x.1.data.length<=140737488355328):
 aD ax 133 #[J aF id,ae A L.length c] w λe w'=>∃d k,e=aB (bn #[ar (recC (xz id L).1.1 d k),ai (xz id L).2])/\cf w w' (cx d k (xz id L).1.1.data):=by
 obtain⟨f,l⟩:=ex (L.filter (λx=>!decide (x.1.id≠id)));have S:f.length<=L.length:=aH;obtain⟨b,hb⟩:=ex (js f);obtain⟨lb,r⟩:=ex (decide (0<f.length))
 have iO:∀W,au w W->b2 W _ b.1.data:=λW g=>by
  rcases YP f with h|h;·rw[hb]at h;rw[h];exact b2.nil
  .rw[hb,<-l]at h;exact(p b ((List.mem_filter.1 h).1)).1.aI g
 have hbl:b.1.data.length<=140737488355328:=by
  rcases YP f with h|h;·rw[hb]at h;rw[h];exact cC _
  .grind
 have n:xz id L=(b,lb):=by grind[xz]
 rw[n];have t:=hid (λW g=>anK A c L W cv (I8 hr g) m hc0)
 have y:aE (∀W aK c2 B,Row 0 W aK _ c2 _ 5 _->aX W B _ 42->¬eh aK B->aD _ _ #[ae aK _ c2,dI (ed 217) #[] _] W λe w'=>∃d,e=aB _/\Turned W w' _ _):=hid (λW aK c2 B h hb2 hn=>by have q:=avD aK c2 _ #[ay _] L (λx=>decide _) W cv h (lf Tryz.func217 aw aa) (λx C _ o=>atL x id B C (o.heap hb2 hn));rw[l]at q;exact q);have u:aE (∀W,au w W->aD _ 65 _ W λe w'=>∃d k,e=aB _/\fe _ w' d k _/\au W w'):=hid (λW g=>(w6 _ b.2.2 _ W (iO W g) hbl).mono (λe w' ⟨d,k,h1,E,F⟩=>⟨d,k,h1,Row.nk E,F⟩));have z:=hid (λW aK c2 h=>by have q:=aqc aK c2 f W ad h;rw[hb,r]at q;exact q);clear hr p m hc0 l hb r iO n;go_enter func133,ntmps133;have a:=a8 w;go_step;refine ah ?_;refine bL a (J _ id) (λN w1 a=>?_);refine bl a #[J _ 0,J _ 0,J _ 0,J _ 0,ae _ 0 0] (λO U a=>?_);refine cB ?_;refine aR (t.out _ a.only) ?_;rintro e V ⟨K,Q,rfl,G,g⟩;replace a:=a.lA g G;refine aU ?_;refine ag ?_;refine aR (y _ _ _ _ (a.atR 0) (a.aW 2) (λh=>a.ne (i:=0) (j:=2) aa aa aS _ h aa)) ?_;rintro e X ⟨M,rfl,H⟩;replace a:=a.eP 0 H;refine aU ?_;refine bC (z _ _ _ (a.atR 0)) a (λY a=>?_);refine v3 ?_;refine bl a #[J _ 0,J _ 0,J _ 0,J _ 0,ae _ 0 0] (λP Z a=>?_);refine a' a 0 (ar _) (λdz a=>?_);refine cB ?_;refine pl a 0 4 ?_;refine aR (u _ a.only) ?_;rintro e dv ⟨s,D,rfl,I,g⟩;replace a:=a.lR g I;refine aU ?_;refine ag ?_;refine a' a 1 (ae _ _ _) (λeU a=>?_);refine ah ?_;refine bh a 1 #[J aF b.1.seq,J aF b.1.id,J R b.1.cur,J R b.1.off,ae s b.1.data.length D] ?_;refine ag ?_;refine a' a 3 (ar _) (λT a=>?_);refine bX ?_;go_wp2_with fail;refine c' (v:=_) (mh aa aa aa (a.aW 3) aw aw) aa (⟨_,_,aa,a.fresh 0⟩)
def gE(size bound:Nat):Nat:=(bound+43)/size+1
def aw3{size bound}(h:1<=size):bound+44<=gE size bound*size:=by unfold gE;have h1:=Yk (bound+43) size;have a:=Lm (bound+43) h;rw[Ae,Ln _ _];omega
def we(d:dR)(bound:Nat):Nat:=gE d.size bound*d.size
def uJ(d:dR)(first bound i:Nat):Nat:=(first+i*gE d.size bound)*d.size
structure kC (d:dR) (first bound:Nat):Prop where
 dev:dY d
 eF:1<=bound
 eK:bound<=65536
 fits:first+2*gE d.size bound<=d.cnt
def kC.room{d first bound}(h:kC d first bound){i}(hi:i<=1):uJ d first bound i+we d bound<=d.bytes.length:=by unfold uJ we;rw[<-Nat.add_mul,h.dev.len];refine tW _ ?_;have:=h.fits;grind[Nat.le_one_iff_eq_zero_or_eq_one]
def kC.small{d first bound}(h:kC d first bound):d.bytes.length<=1048576/\d.cnt<=1048576/\d.size<=1048576:=by have h1:=h.dev.small;have a:=h.dev.mL;have b:=h.dev.vA;have c:d.cnt<=d.cnt*d.size:=yw _ a;have e:d.size<=d.cnt*d.size:=Ch _ b;rw[h.dev.len];omega
def adm(size bound:Nat)(h1:1<=size)(f:1<=bound)(g:bound<=65536)w:
 aD ax 114 #[J R (size:Int),J R (bound:Int)] w λe w'=>e=aB (J R (gE size bound:Int))/\au w w':=by
 obtain⟨q,a⟩:=ex ((bound+43)/size);have i:q<=bound+43:=by rw[<-a];exact vu _ _
 have c:=hid a;have e:gE size bound=q+1:=by rw[gE,a]
 rw[e];clear a e;have d:aE (∀W,aD ax 199 #[J R (bound:Int)] W λe w'=>e=aB (J R ((bound+44:Nat):Int))/\au W w'):=hid (λW=>by have h:=aft (bound:Int) W ad;grind[ku]);go_enter func114,ntmps114;have b:=a8 w;go_step;refine ah ?_;refine cB ?_;refine a1 (ai ao) ?_;refine v2 ?_;refine a1 (ai ao) ?_;refine v3 ?_;refine a1 (ai ao) ?_;refine cB ?_;refine bC (d.out _) b (λw1 b=>?_);refine jW _ 1 ((bound+43:Nat):Int) ?_;refine ag ?_;refine aG _ (s0 _ _ _ _ aa _ _ q aa aa h1 c ad) ?_;refine pad _ 1 ((q+1:Nat):Int) ?_;refine bX ?_;go_wp2_with fail;go_ret;exact⟨aa,b.only⟩
def adk B m d(first bound)w(c:Has w (aN B m d))(b:kC d first bound):
 aD ax 206 #[ar #[ay (ab ⟨B,0,af⟩),J R (first:Int),J R (bound:Int)]] w λe w'=>e=aB (J R (gE d.size bound:Int))/\au w w':=by
 have f:=hid c;clear c;go_enter func206,ntmps206;have a:=a8 w;go_step;refine ah ?_;refine bL a (ar #[ay (ab ⟨B,0,af⟩),J R (first:Int),J R (bound:Int)]) (λg w1 a=>?_);refine hX ?_;refine bR a [2,5] (λi _=>match i with|2=>J R (d.size:Int)|5=>J R (gE d.size bound:Int)|_=>a7) (λ_ _=>emp) (λ_=>[]) (λ|1=>[0]|4=>[0]|_=>[]) (λ_=>[]) [0,3,6] (λh=>?_);refine aJ ?_;refine dl 0 0 ?_;refine dK (λ_ _ a=>w7 B m d _ (f.out.aI a.only).dev b.dev) ?_;refine aJ ?_;refine dl 0 2 ?_;refine dK (λ_ _ _=>adm _ _ b.dev.mL b.eF b.eK _) ?_;refine aJ ?_;refine bW λj a=>?_;replace a:=a.drop 1;replace a:=a.drop 1;go_wp2_with fail;go_ret;exact⟨aa,a.only⟩
def asE B m d(first bound)w(c:Has w (aN B m d))(b:kC d first bound):
 aD ax 128 #[ar #[ay (ab ⟨B,0,af⟩),J R (first:Int),J R (bound:Int)]] w λe w'=>e=aB (J R 0)/\au w w':=by
 obtain⟨hb1,hb2,hb3⟩:=b.small;have k:=b.fits;obtain⟨n,hn⟩:=ex (gE d.size bound);have o:1<=n:=by rw[<-hn];exact w0 (cC _)
 rw[hn]at k;have j:aE (∀W,au w W->aD ax 206 #[ar #[ay (ab ⟨B,0,af⟩),J R (first:Int),J R (bound:Int)]] W λe w'=>e=aB (J R (n:Int))/\au W w'):=hid (λW g=>by have h:=adk B m d first bound W (c.aI g) b;rw[hn]at h;exact h);have f:=hid c;clear c hn;go_enter func128,ntmps128;have a:=a8 w;go_step;refine ah ?_;refine bL a (ar #[ay (ab ⟨B,0,af⟩),J R (first:Int),J R (bound:Int)]) (λl w1 a=>?_);refine dV ?_;refine bh a 0 #[ay (ab ⟨B,0,af⟩),J R (first:Int),J R (bound:Int)] ?_;refine bC (j _ a.only) a (λq a=>?_);refine cB ?_;refine pl a 0 0 ?_;refine pk (ai ao) ?_;refine cB ?_;refine a1 (ai ao) ?_;refine hX ?_;refine bR a [8,14] (λi _=>match i with|8=>J R (d.cnt:Int)|14=>J R (d.cnt:Int)|_=>a7) (λ_ _=>emp) (λ_=>[]) (λ|1=>[0]|5=>[0]|7=>[0]|13=>[0]|16=>[0]|_=>[]) (λ_=>[]) [0,9,15] (λp=>?_);refine aJ ?_;refine dl 0 1 ?_;refine aL (ai ao) (λ_ _ _=>by(go_simp;try omega)) ?_;refine bG ?_;refine dl 0 1 ?_;refine aJ ?_;refine dl 0 0 ?_;refine dK (λ_ _ a=>L5 B m d _ (f.out.aI a.only).dev b.dev) ?_;refine aL (ai ao) (λ_ _ _=>by(go_simp;try omega)) ?_;refine da ?_;refine dl 0 0 ?_;refine dK (λ_ _ a=>L5 B m d _ (f.out.aI a.only).dev b.dev) ?_;refine aJ ?_;refine dl 0 1 ?_;refine aL (J R ((d.cnt -first:Nat):Int)) (λ_ _ _=>ra 3 (bj 28) (bj 30) 3 aa ((d.cnt:Int)) ((first:Int)) ((d.cnt -first:Nat):Int) aa aa ad ad ad) ?_;refine aJ ?_;refine aL (J R ((2*n:Nat):Int)) (λ_ _ _=>lY 3 (.const (J R 2)) (bj 32) 3 aa 2 ((n:Int)) ((2*n:Nat):Int) aa aa ad ad ad) ?_;refine aL (ai ao) (λ_ _ _=>by(go_simp;try omega)) ?_;refine bG ?_;refine bW λr a=>?_;replace a:=a.drop 1;replace a:=a.drop 1;refine ah ?_;refine ag ?_;refine an ?_;go_wp2_with fail;go_ret;exact⟨aa,a.only⟩
def adj B m d(first bound)w(c:Has w (aN B m d))(b:kC d first bound)(i:Nat)(hi:i<=1):
 aD ax 131 #[ar #[ay (ab ⟨B,0,af⟩),J R (first:Int),J R (bound:Int)],J R (i:Int)] w λe w'=>e=aB (gT ((uJ d first bound i:Int),(we d bound:Int)))/\au w w':=by
 obtain⟨hb1,hb2,hb3⟩:=b.small;have u:=b.fits;obtain⟨n,hn⟩:=ex (gE d.size bound);have C:1<=n:=by rw[<-hn];exact w0 (cC _)
 rw[hn]at u;have q:aE (∀W,au w W->aD ax 206 #[ar #[ay (ab ⟨B,0,af⟩),J R (first:Int),J R (bound:Int)]] W λe w'=>e=aB (J R (n:Int))/\au W w'):=hid (λW g=>by have h:=adk B m d first bound W (c.aI g) b;rw[hn]at h;exact h);have j:=hid c;obtain⟨z,hz⟩:=ex (i*n);have D:z<=n:=by rw[<-hz];exact dT (tW _ hi) (Nat.le_of_eq (Nat.one_mul _))
 have l:(i:Int)*(n:Int)=(z:Int):=ad;obtain⟨o,ho⟩:=ex ((first+z)*d.size);have hoi:((first+z:Nat):Int)*(d.size:Int)=(o:Int):=ad;obtain⟨f,x⟩:=ex (n*d.size);have k:(n:Int)*(d.size:Int)=(f:Int):=ad;have y:=b.room hi;have bE:uJ d first bound i=o:=by grind[uJ]
 have cr:we d bound=f:=by grind[we]
 rw[bE,cr]at y⊢;have t:=hid l;have s:=hid hoi;have r:=hid k;clear c hn bE cr hz l ho hoi x k;go_enter func131,ntmps131;have a:=a8 w;go_step;refine ah ?_;refine bL a (ar #[ay (ab ⟨B,0,af⟩),J R (first:Int),J R (bound:Int)]) (λA w1 a=>?_);refine bl a #[J R 0,J R 0] (λp F a=>?_);refine ah ?_;refine bh a 1 #[ay (ab ⟨B,0,af⟩),J R (first:Int),J R (bound:Int)] ?_;refine bC (q _ a.only) a (λG a=>?_);refine hX ?_;refine bR a [8,13,16] (λi _=>match i with|8=>J R (d.size:Int)|13=>J R (d.size:Int)|_=>a7) (λ_=>λ|16=>aj p #[J R (o:Int),J R (f:Int)] 35|_=>emp) (λ|16=>[0]|_=>[]) (λ|1=>[1]|7=>[1]|12=>[1]|_=>[]) (λ_=>[]) [1,10,15,18] (λE=>?_);refine aJ ?_;refine dl 0 1 ?_;refine bG ?_;refine aL _ (λ_ _ _=>lY 3 _ _ 3 aa _ _ _ aa aa t ad ad) ?_;refine aL _ (λ_ _ _=>mu 3 _ _ 3 aa _ _ ((first+z:Nat):Int) aa aa ad ad ad) ?_;refine aJ ?_;refine dl 0 0 ?_;refine dK (λ_ _ a=>w7 B m d _ (j.out.aI a.only).dev b.dev) ?_;refine aL _ (λ_ _ _=>lY 3 _ _ 3 aa _ _ _ aa aa s ad ad) ?_;refine bG ?_;refine dl 0 0 ?_;refine dK (λ_ _ a=>w7 B m d _ (j.out.aI a.only).dev b.dev) ?_;refine aL _ (λ_ _ _=>lY 3 _ _ 3 aa _ _ _ aa aa r ad ad) ?_;refine aJ ?_;refine fS _ ?_;refine bW λH a=>?_;replace a:=a.drop 1;replace a:=a.drop 1;go_wp2_with fail;refine c' (v:=_) (gG aa _ _ _ _ _ _ _ aa (a.aW 1) x4 aa aw) aa (⟨aa,a.only⟩)
def xG(L:List RecM):bq:=⟨λb=>∃x∈L,eh x.2.1 b,λw=>∀x∈L,fe 0 w x.2.1 x.2.2 x.1.data,λw w' h a c x hx=>(cx x.2.1 x.2.2 x.1.data).nG w w' (λb hb=>h b ⟨x,hx,hb⟩) (λb hb=>a b ⟨x,hx,hb⟩) (c x hx)⟩
def ak.avA{aq w FX l L r A c}(h:ak aq FX w (xG L::cx A c r.data::l)):ak aq FX w (xG (L++[(r,A,c)])::l):=
 h.star.as 0 aa (xG (L++[(r,A,c)])) (λh x hx=>by
  rcases iX.1 hx with hx|hx;·exact h.1 x hx
  .obtain rfl:x=(r,A,c):=aH;exact h.2.1) (λb ⟨x,hx,hb⟩=>by
  rcases iX.1 hx with hx|hx;·exact b1 ⟨x,hx,hb⟩
  .obtain rfl:x=(r,A,c):=aH;exact cm hb)
def avC L x:gh (L++[x])=gh L++[J aF x.1.seq,J aF x.1.id,J R x.1.cur,J R x.1.off,ae x.2.1 x.1.data.length x.2.2]:=by grind[gh]
def Bj(d:dR)(first bound i:Nat):Option Rec:=ug (pK d (uJ d first bound i) (we d bound))
def Has.only{w w' t F}(h:Has w t)(g:av F w w')(hn:∀b,t.cT b->¬F b):Has w' t:=⟨t.only h.1 h.2 g hn,λb hb=>wZ (h.2 b hb) g.size⟩
def w4(l:List Rec)(o:Option Rec):List Rec:=l++o.toList
def uR(B:Nat)(first bound:Nat)(id:Int)(a d dC b:Nat)(L:List RecM)(A:Option bT)(c:Nat):bq:=
 bP [aj a #[ay (ab ⟨B,0,af⟩)] 32,aj d #[ay (ab ⟨dC,0,af⟩)] 125,aj dC #[ay (ab ⟨B,0,af⟩),J R (first:Int),J R (bound:Int),J aF id,J aF 1,J aF 0,J aF 0,J R 0,J R 0,ae af 0 0,ai ao] 233,aj b #[ae A L.length c] 235,ba A L.length c 137 5 (gh L),xG L]
def aud B m d(first bound)id(j l dC k i:Nat)L A c w(hs:Has w (uR B first bound id j l dC k L A c))(hv:Has w (aN B m d))(U:∀b,(aN B m d).cT b->¬(uR B first bound id j l dC k L A c).cT b)(p:kC d first bound)(P:d.down=ao)(hi:i<=1)(cv:L.length<=2):
 aD ax 129 #[J R (i:Int),ay (ab ⟨j,0,af⟩),ay (ab ⟨l,0,af⟩),ay (ab ⟨k,0,af⟩)] w λe w'=>e=aB (J R 0)/\∃C,C.map (·.1)=w4 (L.map (·.1)) (Bj d first bound i)/\∃aK c2,aE (C.length=0->aK=A/\c2=c)/\Turned w w' (uR B first bound id j l dC k L A c) (uR B first bound id j l dC k C aK c2):=by
 obtain⟨hb1,hb2,hb3⟩:=p.small;have Q:=p.room hi;obtain⟨of,G⟩:=ex (uJ d first bound i);obtain⟨f,F⟩:=ex (we d bound);obtain⟨bs,E⟩:=ex (pK d of f);have hbl:bs.length=f:=by rw[<-E];exact Bc p.dev ad
 rw[G,F]at Q;obtain⟨y,V⟩:=ex (ug bs);have S:Bj d first bound i=y:=by grind[Bj]
 rw[S];have jx:aE (∀W,Has W (aN B m d)->aD ax 131 #[ar #[ay (ab ⟨B,0,af⟩),J R (first:Int),J R (bound:Int)],J R (i:Int)] W λe w'=>e=aB (ar #[J R (of:Int),J R (f:Int)])/\au W w'):=hid (λW h=>by have q:=adj B m d first bound W h p i hi;rw[G,F]at q;exact q);have Z:aE (∀W,Has W (aN B m d)->aD ax 130 #[de B,ar #[J R (of:Int),J R (f:Int)]] W λe w'=>∃A c,e=aB (bn #[ae A f c,J R 0])/\cf W w' (cx A c bs)):=hid (λW h=>by have q:=aac B m d of f W h p.dev P Q;rw[E]at q;exact q);have K:aE (∀W aK c2,fe 0 W aK c2 bs->aD ax 132 #[ae aK f c2] W λe w'=>(∃r,y=ab r/\∃s v,e=aB (bn #[ar (recC r s v),J R 0])/\cf W w' (cx s v r.data))\/(y=af/\e=aB (bn #[ar NP,J R 19])/\au W w')):=hid (λW aK c2 h=>by have q:=avu aK c2 bs W ad h.2.2 h.1;rw[hbl,V]at q;exact q);have M:aE (∀W,av (uR B first bound id j l dC k L A c).cT w W->Has W (aN B m d)):=hid (λW g=>Has.only hv g U);clear hv U p P G F E V S hi;go_enter func129,ntmps129;have a:ak w (uR B first bound id j l dC k L A c).cT w [aj j #[ay (ab ⟨B,0,af⟩)] 32,aj l #[ay (ab ⟨dC,0,af⟩)] 125,aj dC #[ay (ab ⟨B,0,af⟩),J R (first:Int),J R (bound:Int),J aF id,J aF 1,J aF 0,J aF 0,J R 0,J R 0,ae af 0 0,ai ao] 233,aj k #[ae A L.length c] 235,ba A L.length c 137 5 (gh L),xG L]:=(ak.start (t:=bP _) hs).kd;go_step;refine ah ?_;refine hX ?_;refine bR a [6,7] (λi u=>match i with|6=>ar #[J R (of:Int),J R (f:Int)]|7=>bn #[ae u.A f u.c,J R 0]|_=>a7) (λx=>λ|7=>cx ((x 7).A) ((x 7).c) bs|_=>emp) (λ_=>[]) (λ|0=>[0]|1=>[1]|4=>[2]|_=>[]) (λ|7=>[7]|_=>[]) [0,1,2,3,4,5,12,13] (λx=>?_);refine dl 0 0 ?_;refine dl 0 0 ?_;refine bG ?_;refine eM 0 #[ay (ab ⟨B,0,af⟩),J R (first:Int),J R (bound:Int)] ?_;refine aJ ?_;refine dK (λ_ _ a=>jx _ (M _ a.only)) ?_;refine di (λwl Fr a=>(Z _ (M _ a.only)).mono ?_) ?_;·rintro e dr ⟨X,kY,rfl,D⟩;exact⟨{A:=X,c:=kY},aa,a.new _ D⟩
 refine oz ?_;refine bW λw1 a=>?_;generalize (x 7).A=H at a⊢;generalize (x 7).c=N at a⊢;replace a:=a.drop 6;refine b5 ?_;refine pk (ai ao) ?_;refine an ?_;cases y with
 |none=>
  have z:aE (∀W aK c2,fe 0 W aK c2 bs->aD ax 132 #[ae aK f c2] W λe w'=>e=aB (bn #[ar NP,J R 19])/\au W w'):=hid (λW aK c2 h=>(K W aK c2 h).mono (λe w' hh=>aH));refine b5 ?_;refine bC (z.out _ H N (a.lK 6)) a (λaT a=>?_);refine v3 ?_;refine bl a #[J aF 0,J aF 0,J R 0,J R 0,ae af 0 0] (λY bF a=>?_);refine a' a 0 (ar #[J aF 0,J aF 0,J R 0,J R 0,ae af 0 0]) (λb8 a=>?_);refine cB ?_;refine pk (ai ao) ?_;refine ah ?_;refine ag ?_;refine an ?_;have o:=a.pk [1,2,3,4,5,6];replace o:ak _ _ _ [uR B first bound id j l dC k L A c]:=o.fh 6;go_wp2_with fail;go_ret;exact⟨aa,L,by simp[w4],A,c,(by first|exact hid (λ_=>⟨aa,aa⟩)|exact hid trivial),o.gl 0⟩
 |some r=>
  have z:aE (∀W aK c2,fe 0 W aK c2 bs->aD ax 132 #[ae aK f c2] W λe w'=>∃s v,e=aB (bn #[ar #[J aF r.seq,J aF r.id,J R r.cur,J R r.off,ae s r.data.length v],J R 0])/\cf W w' (cx s v r.data)):=hid (λW aK c2 h=>(K W aK c2 h).mono (λe w' hh=>aH));refine b5 ?_;refine aR (z.out _ H N (a.lK 6)) ?_;rintro e cA ⟨n,bt,rfl,D⟩;replace a:=a.new _ D;refine aU ?_;refine v3 ?_;refine bl a #[J aF 0,J aF 0,J R 0,J R 0,ae af 0 0] (λY cR a=>?_);refine a' a 0 (ar #[J aF r.seq,J aF r.id,J R r.cur,J R r.off,ae n r.data.length bt]) (λdz a=>?_);refine cB ?_;refine pk (ai az) ?_;refine ah ?_;refine pl a 5 0 ?_;refine bh a 0 #[J aF r.seq,J aF r.id,J R r.cur,J R r.off,ae n r.data.length bt] ?_;refine e7 a #[J aF r.seq,J aF r.id,J R r.cur,J R r.off,ae n r.data.length bt] 137 (λKi dv a=>?_);refine jV (m:=1) a 7 56 (aX.cellsOf (m:=1) (a.aW 0) aa) (by intro u T;simp only[gy,fQ,or_false]at T;rcases T with rfl|rfl|rfl|rfl|rfl<;>rfl) (λI O eU a=>?_) (hby:=by omega);refine a' a 6 (ae I (L.length+1) O) (λgF a=>?_);refine ah ?_;refine ag ?_;refine an ?_;replace a:=a.pk [8,2,3,4,5,6,7];replace a:=a.avA;have bE:gh L++[J aF r.seq,J aF r.id,J R r.cur,J R r.off,ae n r.data.length bt]=gh (L++[(r,n,bt)]):=(avC L (r,n,bt)).symm;have cr:L.length+1=(L++[(r,n,bt)]).length:=bg;rw[bE,cr]at a;have o:=a.pk [1,2,3,4,5,0];replace o:ak _ _ _ [uR B first bound id j l dC k (L++[(r,n,bt)]) I O]:=o.fh 6;go_wp2_with fail;go_ret;exact⟨aa,L++[(r,n,bt)],by simp[w4],_,_,(by first|exact hid (λh=>absurd h bg)|exact hid trivial|simp[azX]),o.gl 0⟩
structure pg where
 next:Int
 last:Rec
 has:Bool
def ayD:Rec:=⟨0,0,0,0,[]⟩
def Rb:List Rec->Rec
 |[]=>ayD
 |x::l=>l.foldl (λb y=>if y.seq>b.seq then y else b) x
def ze(id:Int)(l:List Rec):Rec×Bool:=(Rb (l.filter (λx=>!decide (x.id≠id))),decide (0<(l.filter (λx=>!decide (x.id≠id))).length))
theorem amV L:(js L).1=Rb (L.map (·.1)):=by
 cases L with
 |nil=>rfl
 |cons x L=>
  show(L.foldl _ x).1=(L.map _).foldl _ x.1;induction L generalizing x with
  |nil=>rfl
  |cons y L a=>
   rw[Aa,j5,Aa,a];congr 1;split<;>rfl
def ad8 id L:(xz id L).1.1=(ze id (L.map (·.1))).1/\(xz id L).2=(ze id (L.map (·.1))).2:=by
 have e:(L.map (·.1)).filter (λx=>!decide (x.id≠id))=(L.filter (λx=>!decide (x.1.id≠id))).map (·.1):=by rw[List.filter_map];rfl
 grind[xz,ze,amV]
def Di:List Rec->Int
 |[]=>1
 |[a]=>aF.wrap (a.seq+1)
 |a::b::_=>aF.wrap (max a.seq b.seq+1)
def uV(d:dR)(first bound:Nat):List Rec:=w4 (w4 [] (Bj d first bound 0)) (Bj d first bound 1)
def sr(d:dR)(first bound:Nat)(id:Int):pg:=⟨Di (uV d first bound),(ze id (uV d first bound)).1,(ze id (uV d first bound)).2⟩
def aeu d(first bound)id:(sr d first bound id).next =Di (uV d first bound):=by rw[sr]
theorem TT d(first bound)id:(sr d first bound id).last=(ze id (uV d first bound)).1:=by rw[sr]
theorem TS d(first bound)id:(sr d first bound id).has=(ze id (uV d first bound)).2:=by rw[sr]
abbrev M7(B first bound:Nat)(id:Int)(j:pg)(A:Option bT)(c:Nat):Array Value:=#[ay (ab ⟨B,0,af⟩),J R (first:Int),J R (bound:Int),J aF id,J aF j.next,J aF j.last.seq,J aF j.last.id,J R j.last.cur,J R j.last.off,ae A j.last.data.length c,ai j.has]
def qx(dC B first bound:Nat)(id:Int)(j:pg)(A:Option bT)(c:Nat):bq:=both (aj dC (M7 B first bound id j A c) 233) (cx A c j.last.data)
def kL{P o}{a:b3}{w}{g n c e sz i:Nat}{xs v ty x}(h:Row 0 w (ab ⟨g,0,af⟩) n c e sz xs)(hv:xs[i]?=ab v)(ho:o.op=.load ty x)(hx:a.eval x=ay (ab ⟨g,i,af⟩))(j:(P.underlying ty).map (λd=>d.isRow)=ab ao):(bA a.eval o).run P w=bf (dc v) w:=by
 have hn:0<n:=by
  rcases lX n with b|b;·have h1:=h.1;grind
  .omega
 obtain⟨g2,cur,cr,hb,_,_,_,f⟩:=h.blk hn;grind[fH]
def aoI{bs r}(h:ug bs=ab r):r.data.length<=bs.length:=by grind[ug,tk]
theorem afe{d first bound}(a:kC d first bound)r(h:r∈uV d first bound):r.data.length<=140737488355328:=by
 have key:∀i,i<=1->∀r,Bj d _ _ i=ab r->r.data.length<=140737488355328:=λi hi r hr=>by have h1:=aoI hr;have b:=a.room hi;have c:=a.small;rw[Bc a.dev b]at h1;omega
 grind[uV,w4]
def Jo(d:dR)(first bound:Nat):Nat->List Rec
 |0=>[]
 |j+1=>w4 (Jo d first bound j) (Bj d first bound j)
def af2 d(first bound):∀j,(Jo d first bound j).length<=j
 |0=>b9 _
 |j+1=>by have:=af2 d first bound j;rw[Jo,w4,c7];cases Bj d first bound j<;>simp<;>omega
def asN B m d(first bound)id w(hs:Has w (aN B m d))(hj:kC d first bound)(cV:d.down=ao):
 aD ax 54 #[de B,J R (first:Int),J R (bound:Int),J aF id] w λe w'=>∃dC,e=aB (bn #[ay (ab ⟨dC,0,af⟩),J R 0])/\∃A c,cf w w' (qx dC B first bound id (sr d first bound id) A c):=by
 have jv:=hid (λW g=>asE B m d _ _ W (hs.aI g) hj);have qt:=hs.2;obtain⟨k,tb⟩:=ex (sr d first bound id);have S:=hid tb;rw[tb];clear tb;go_enter func54,ntmps54;have a:=a8 w;go_step;refine ah ?_;refine bL a (ay _) (λC w1 a=>?_);refine v2 ?_;refine ah ?_;refine pl a 0 0 ?_;refine v5 ?_;refine bL a (ar _) (λo aT a=>?_);refine bl a #[ay _] (λE bF a=>?_);refine a' a 0 (ay _) (λb8 a=>?_);refine ah ?_;refine pl a 0 0 ?_;refine v2 ?_;refine bh a 1 #[ay (ab ⟨B,0,af⟩),J R (first:Int),J R (bound:Int)] ?_;refine bC (jv _ a.only) a (λcA a=>?_);refine cB ?_;refine pk (ai ao) ?_;refine ah ?_;refine bl a #[ae af 0 0] (λz cR a=>?_);refine ah ?_;refine v2 ?_;refine ah ?_;refine ag ?_;refine an ?_;replace a:=(a.new (xG []) ⟨av.refl _ _,λx hx=>absurd hx fQ,λb ⟨x,hx,_⟩=>absurd hx fQ⟩).new (ba _ 0 0 137 5 []) ⟨av.refl _ _,Row.nil _ _ _ _,λb ⟨_,_,e⟩=>by cases e⟩;replace a:ak w (λ_=>False) cR [uR B _ _ id C E o z [] af 0]:=(a.pick (l':=[aj C _ 32,aj _ _ 125,aj o _ 233,aj z _ 235,ba af 0 0 137 5 [],xG []]) [5,3,4,2,0,1]).fh 6;go_wp2_with fail;go_loopw [34] (λt wr=>∃(j:Nat) (L:List RecM) (A:Option bT) (c:Nat),j<=2/\t=J R (j:Int)/\L.map (·.1)=(Jo d first bound j)/\(L.length=0->A=af/\c=0)/\ak w (λ_=>False) wr [uR B first bound id C E o z L A c]) (λt wr=>2 -(bQ t).toNat);case atStart=>exact⟨0,[],_,0,ad,rfl,rfl,λ_=>⟨aa,aa⟩,a⟩
 case round=>
  clear a;obtain⟨j,L,A,c,E8,rfl,cv,G,a⟩:=hrel;have xb:L.length<=j:=by have h:=congrArg q4 cv;rw[hB]at h;rw[h];exact af2 _ _ _ _
  by_cases hlt:j<2
  .have cb:(j:Int)<2:=ad
   have bV:aE (∀W,au w W->Has W _->(∀b,(uR B first bound id C E o z L A c).cT b->w.heap.size<=b)->aD ax 129 _ W λe w'=>e=aB (J R 0)/\∃s,s.map (·.1)=(Jo d first bound (j+1))/\∃aK c2,(s.length=0->aK=af/\c2=0)/\Turned W w' _ (uR B first bound id C E o z s aK c2)):=hid (λW g h hf=>by have q:=aud B m d _ _ id _ _ _ _ j L A c W h (hs.aI g) (λb hb hb2=>by have h1:=hf b hb2;have F:=qt b hb;omega) hj cV ad ad;rw[cv]at q;exact q.mono (λe aT ⟨h1,s,F,aK,c2,h3,h4⟩=>⟨h1,s,F,aK,c2,λn=>by have Y:=congrArg q4 F;rw[hB,n]at Y;have h6:L.length=0:=(by rw[<-hB (f:=(·.1)),cv];unfold w4 at Y;rw[c7]at Y;omega);exact⟨(h3 n).1.trans (G h6).1,(h3 n).2.trans (G h6).2⟩,h4⟩));clear cv xb G;go_step;refine ah ?_;refine ag ?_;refine ah ?_;refine v2 ?_;refine gV ?_;refine aR (bV.out _ a.only (a.has 0) (λb hb=>((a.low _ (vs.2 aa) b hb).2).resolve_right (λh=>h))) ?_;rintro e dz ⟨rfl,s,ES,aK,c2,ta,bM⟩;replace a:=a.eP 0 bM;refine aU ?_;refine cB ?_;refine pk (ai ao) ?_;refine ah ?_;refine pad (j:Int) 1 ((j+1:Nat):Int) ?_;refine bX ?_;go_wp2_with fail;go_roundw;case rel=>exact⟨j+1,s,aK,c2,ad,aa,ES,ta,a⟩
   case measure=>simp[bQ]<;>omega
  .have cb:¬(j:Int)<2:=ad;obtain rfl:j=2:=ad;have H:L.map _=uV d _ _:=cv;have im:∀x∈L,x.1.data.length<=140737488355328:=λx hx=>afe hj _ (by rw[<-H];exact List.mem_map_of_mem hx);have D5:=hid im;have I:=hid G;have vL:k.next=Di (L.map (·.1)):=by rw[<-S,aeu,H]
   have iq:k.last=(xz id L).1.1/\k.has=(xz id L).2:=⟨by rw[<-S,(ad8 id L).1,H,TT],by rw[<-S,(ad8 id L).2,H,TS]⟩;have Xy:=hid vL;have K:=hid iq;clear cv H im G vL iq;go_step;refine ah ?_;refine bX ?_;replace a:=a.kM;refine ah ?_;refine pl a 3 0 ?_;refine dU ?_;go_wp2_with fail;go_loopw [46] (λt wr=>∃(q:Nat) (nx:Int),q<=L.length/\t=J R (q:Int)/\(L.length=0->nx=1)/\(q=1->L.length=1->nx=Di (L.map (·.1)))/\ak w (λ_=>False) wr [aj C #[ay (ab ⟨B,0,af⟩)] 32,aj E #[ay (ab ⟨o,0,af⟩)] 125,aj o #[ay (ab ⟨B,0,af⟩),J R (first:Int),J R (bound:Int),J aF id,J aF nx,J aF 0,J aF 0,J R 0,J R 0,ae af 0 0,ai ao] 233,aj z #[ae A L.length c] 235,ba A L.length c 137 5 (gh L),xG L]) (λt wr=>L.length -(bQ t).toNat);case atStart=>exact⟨0,1,ad,rfl,λ_=>rfl,λh=>absurd h ad,a⟩
   case round=>
    clear a;obtain⟨q,nx,hq,rfl,l6,om,a⟩:=hrel;by_cases Ig:q<L.length
    .have arv:(q:Int)<(L.length:Int):=ad;obtain⟨x,hx⟩:∃x,L[q]?=ab x:=⟨_,cE Ig⟩;obtain⟨D,cur,M,k2,_,_,_,_⟩:=(a.atR 4).blk ad;have dG:=hid (Uf L q x hx);have hx0:q=0->L.length=1->Di (L.map (·.1))=aF.wrap (x.1.seq+1):=λh h1=>by subst h;obtain⟨y,hy⟩:=List.length_eq_one_iff.1 h1;subst hy;injection hx with hx;subst hx;rfl
     have alq:=hid hx0;have azU:=hid l6;have azV:=hid om;have cq:=hid M;clear hx k2 M l6 om hx0;go_step;refine ah ?_;refine cB ?_;refine aG (ay (ab ⟨D,(q*5),af⟩)) (b4 235 137 5 (bj 44) (bj 46) aa x3 aw D 0 (L.length) c q ((q*5)) (by show ae A _ _=_;rw[cq]) aa Ig ad) ?_;refine aG _ (by(refine eW 137 _ aa D _ aa _ (Row.range (a.atR 4) cq (λi v hi=>dG i v hi)) Pk aa aw)) ?_;refine bl a #[J _ 0,J _ 0,J _ 0,J _ 0,ae _ 0 0] (λOL dv a=>?_);refine ag ?_;refine a' a 0 (ar _) (λeU a=>?_);refine an ?_;by_cases uA:q=0
     .have N:(q:Int)=0:=ad;refine cy ?_;refine bR a [] (λ_ _=>a7) (λ_ _=>emp) (λ_=>[]) (λ_=>[]) (λ_=>[]) [0,1,2,3,4,5,6] (λl=>?_);refine aJ ?_;refine aL (ai az) (λ_ _ _=>by(go_simp;try simp[N])) ?_;refine aJ ?_;iterate 7 refine ds ?_
      refine fT (ai az) ?_;refine bW λgF a=>?_;refine ah ?_;refine pl a 2 0 ?_;refine ag ?_;refine pl a 0 0 ?_;refine pk (J aF (aF.wrap (x.1.seq+1))) ?_;refine v2 ?_;refine a' a 3 (J _ _) (λhI a=>?_);refine an ?_;have ak5:=hid uA;clear N uA;refine ah ?_;refine pad (q:Int) 1 ((q+1:Nat):Int) ?_;refine bX ?_;go_wp2_with fail;go_roundw;case rel=>exact⟨q+1,_,ad,rfl,λh=>absurd h ad,λ_ h=>(alq ak5 h).symm,a.pick [1,2,3,4,5,6]⟩
      case measure=>simp[bQ]<;>omega
     .have N:¬(q:Int)=0:=ad;obtain⟨du,hcb⟩:=ex (decide (nx<=x.1.seq));have wQ:=hid hcb;clear hcb;refine cy ?_;refine bR a [] (λ_ _=>a7) (λ_ _=>emp) (λ_=>[]) (λ|4=>[0]|5=>[2]|8=>[3]|_=>[]) (λ_=>[]) [0,1,2,3,4,5,6] (λl=>?_);refine aJ ?_;refine aL (ai ao) (λ_ _ _=>by(go_simp;try simp[N])) ?_;refine bG ?_;refine dl 0 0 ?_;refine dl 0 0 ?_;refine bG ?_;refine dl 0 4 ?_;refine aL (ai du) (λ_ _ _=>by(have h:=wQ.out;first|(go_simp;done)|(go_simp;rw[<-h];done)|(go_simp;simp[<-h]))) ?_;refine fT (ai du) ?_;refine bW λjK a=>?_;cases du with
      |true=>
       refine ah ?_;refine pl a 2 0 ?_;refine ag ?_;refine pl a 0 0 ?_;refine pk (J aF (aF.wrap (x.1.seq+1))) ?_;refine v2 ?_;refine a' a 3 (J _ _) (λke a=>?_);refine ah ?_;refine pad (q:Int) 1 ((q+1:Nat):Int) ?_;refine bX ?_;go_wp2_with fail;go_roundw;case rel=>exact⟨q+1,_,ad,rfl,λh=>absurd h ad,λh=>absurd h ad,a.pick [1,2,3,4,5,6]⟩
       case measure=>simp[bQ]<;>omega
      |false=>
       refine ah ?_;refine pad (q:Int) 1 ((q+1:Nat):Int) ?_;refine bX ?_;go_wp2_with fail;go_roundw;case rel=>exact⟨q+1,nx,ad,rfl,λh=>absurd h ad,λh=>absurd h ad,a.pick [1,2,3,4,5,6]⟩
       case measure=>simp[bQ]<;>omega
    .have arv:¬(q:Int)<(L.length:Int):=ad;obtain rfl:q=L.length:=ad;go_step;refine ah ?_;refine bX ?_;by_cases F:L.length=2
     .have aqj:(L.length:Int)=2:=ad;obtain⟨r,cW,rfl⟩:∃r cW,L=[r,cW]:=by rcases L with _|⟨r,_|⟨cW,_|⟨bk,L⟩⟩⟩<;>first|exact⟨_,_,aa⟩|(simp at F)
      obtain⟨D,cur,M,_,_,_,_,_⟩:=(a.atR 4).blk (Lo _);subst M;have xb:=b9 2;skip;refine ah ?_;refine pl a 3 0 ?_;refine ag ?_;refine pk (ai az) ?_;refine cy ?_;refine bR a [13] (λ_ _=>a7) (λ_=>λ|13=>aj o #[ay (ab ⟨B,0,af⟩),J R (first:Int),J R (bound:Int),J aF id,J aF (aF.wrap (max r.1.seq cW.1.seq+1)),J aF 0,J aF 0,J R 0,J R 0,ae af 0 0,ai ao] 233|_=>emp) (λ|13=>[2]|_=>[]) (λ|0=>[1]|1=>[3]|4=>[4]|5=>[3]|8=>[4]|_=>[]) (λ_=>[]) [0,1,3,4,5,19] (λl=>?_);refine dl 0 0 ?_;refine dl 0 0 ?_;refine aL _ (λ_ _ _=>b4 235 137 5 _ _ aa x3 aw D 0 2 c 0 0 aa aa aS aa) ?_;refine aJ ?_;refine aL _ (λ_ _ a=>kL (a.atR 0) (i:=0) aa aa aa aw) ?_;refine dl 0 0 ?_;refine aL _ (λ_ _ _=>b4 235 137 5 _ _ aa x3 aw D 0 2 c 1 5 aa aa aS aa) ?_;refine aJ ?_;refine aL _ (λ_ _ a=>kL (a.atR 0) (i:=5) aa aa aa aw) ?_;refine aL _ (λ_ _ _=>by(go_simp;try with_reducible rfl)) ?_;refine fT (J aF (aF.wrap (max r.1.seq cW.1.seq+1))) ?_;refine bG ?_;refine fS _ ?_;refine bW λk9 a=>?_;have hR:aF.wrap (max r.1.seq cW.1.seq+1)=k.next:=by rw[Xy];rfl
      have R4:([r,cW]).length<=1073741824:=by show 2<=_;omega
      have T:aE (∀W,Row 0 W _ _ c 137 5 _->(xG _).p W->aD _ 133 _ W λe w'=>∃O U,e=aB (bn #[ar #[J aF _,J aF _,J R _,J R _,ae O _ U],ai _])/\cf W w' _):=hid (λW h hd=>by have q:=ad9 id _ c _ W R4 h (λn=>(I n).1) (λn=>(I n).2) (λx hx=>⟨(hd x hx).1,D5 x hx⟩);rw[<-K.1,<-K.2]at q;exact q);refine cy ?_;refine bR a [4,10,13] (λi u=>match i with|4=>bn #[ar #[J aF k.last.seq,J aF k.last.id,J R k.last.cur,J R k.last.off,ae u.A k.last.data.length u.c],ai k.has]|_=>a7) (λl=>λ|4=>cx ((l 4).A) ((l 4).c) k.last.data|10=>aj o #[ay (ab ⟨B,0,af⟩),J R (first:Int),J R (bound:Int),J aF id,J aF (aF.wrap (max r.1.seq cW.1.seq+1)),J aF k.last.seq,J aF k.last.id,J R k.last.cur,J R k.last.off,ae (l 4).A k.last.data.length (l 4).c,ai ao] 233|13=>aj o #[ay (ab ⟨B,0,af⟩),J R (first:Int),J R (bound:Int),J aF id,J aF (aF.wrap (max r.1.seq cW.1.seq+1)),J aF k.last.seq,J aF k.last.id,J R k.last.cur,J R k.last.off,ae (l 4).A k.last.data.length (l 4).c,ai k.has] 233|_=>emp) (λ|10=>[5]|13=>[16]|_=>[]) (λ|0=>[1]|1=>[1]|3=>[2]|4=>[3,4]|_=>[]) (λ|4=>[4]|10=>[4]|13=>[4]|_=>[]) [0,1,2,3,4,10,19] (λl=>?_);refine dl 0 0 ?_;refine dl 0 0 ?_;refine aJ ?_;refine dl 0 0 ?_;refine di (λwl Fr a=>(T _ (a.atR 0) (a.at 1)).mono ?_) ?_;·rintro e dr ⟨Q,X,rfl,Z⟩;exact⟨{A:=Q,c:=X},aa,a.new _ Z⟩
      refine oz ?_;refine fS _ ?_;refine bG ?_;refine fS _ ?_;refine bW λmj a=>?_;generalize (l 4).A=P at a⊢;generalize (l 4).c=V at a⊢;refine ah ?_;refine pl a 1 0 ?_;refine dU ?_;replace a:=(a.pick (l':=[aj o _ 233,cx P V _]) [6,5]).star;rw[hR]at a;go_wp2_with fail;go_ret2;exact⟨_,aa,_,_,a.fresh 0⟩
     .have aqj:¬(L.length:Int)=2:=ad;refine ah ?_;refine pl a 3 0 ?_;refine ag ?_;refine a1 (ai ao) ?_;refine an ?_
      have hR:nx=k.next:=by
       rw[Xy];rcases lX L.length with n|n;·rw[l6 n,j3 n];rfl
       .exact om ad ad
      have R4:(L).length<=1073741824:=ad;have T:aE (∀W,Row 0 W A _ c 137 5 _->(xG L).p W->aD _ _ _ W λe w'=>∃O U,e=aB (bn #[ar #[J _ _,J _ _,J _ _,J _ _,ae O _ U],ai _])/\cf W w' _):=hid (λW h hd=>by have q:=ad9 id A c L W R4 h (λn=>(I n).1) (λn=>(I n).2) (λx hx=>⟨(hd x hx).1,D5 x hx⟩);rw[<-K.1,<-K.2]at q;exact q);refine cy ?_;refine bR a [4,10,13] (λi u=>match i with|4=>bn #[ar #[J aF k.last.seq,J aF k.last.id,J R k.last.cur,J R k.last.off,ae u.A k.last.data.length u.c],ai k.has]|_=>a7) (λl=>λ|4=>cx ((l 4).A) ((l 4).c) k.last.data|10=>aj o #[ay (ab ⟨B,0,af⟩),J R (first:Int),J R (bound:Int),J aF id,J aF nx,J aF k.last.seq,J aF k.last.id,J R k.last.cur,J R k.last.off,ae (l 4).A k.last.data.length (l 4).c,ai ao] 233|13=>aj o #[ay (ab ⟨B,0,af⟩),J R (first:Int),J R (bound:Int),J aF id,J aF nx,J aF k.last.seq,J aF k.last.id,J R k.last.cur,J R k.last.off,ae (l 4).A k.last.data.length (l 4).c,ai k.has] 233|_=>emp) (λ|10=>[2]|13=>[16]|_=>[]) (λ|0=>[1]|1=>[1]|3=>[3]|4=>[4,5]|_=>[]) (λ|4=>[4]|10=>[4]|13=>[4]|_=>[]) [0,1,3,4,5,10,19] (λl=>?_);refine dl 0 0 ?_;refine dl 0 0 ?_;refine aJ ?_;refine dl 0 0 ?_;refine di (λwl Fr a=>(T _ (a.atR 0) (a.at 1)).mono ?_) ?_;·rintro e dr ⟨Q,X,rfl,Z⟩;exact⟨{A:=Q,c:=X},aa,a.new _ Z⟩
      refine oz ?_;refine fS _ ?_;refine bG ?_;refine fS _ ?_;refine bW λnp a=>?_;generalize (l 4).A=P at a⊢;generalize (l 4).c=V at a⊢;refine ah ?_;refine pl a 1 0 ?_;refine dU ?_;replace a:=(a.pick (l':=[aj _ _ 233,cx P V _]) [6,5]).star;rw[hR]at a;go_wp2_with fail;go_ret2;exact⟨_,aa,_,_,a.fresh 0⟩
def aqe(n:Nat)w(h1:n<=140737488355328):
 aD ax 185 #[ae af 0 0,J R (n:Int)] w λe w'=>∃A c,e=aB (ae A 0 c)/\Row w.heap.size w' A 0 c 5 1 []/\au w w':=
 (aap n w h1).mono (λe w' ⟨v,h1,a,b⟩=>by
  rcases a.2 with⟨rfl,_⟩|⟨g,cap,cur,rfl,_⟩;·grind
  .grind)
def am1{P o}{a:b3}{w}t(x y)d(ho:o.op=.binOp .rem t x y d)(p:Nat)(hx:a.eval x=J aF (p:Int))(c:a.eval y=J aF 2):
 (bA a.eval o).run P w=bf (dc (J aF ((p%2:Nat):Int))) w:=by
 have b:(p:Int).tmod 2=((p%2:Nat):Int):=bc;unfold bA;simp[ho,hx,c,eqGuard,binOp,Op.intDiv,b]
def anU w:
 aD ax 93 #[ae af 0 0] w λe w'=>∃A c,e=aB (ae A 0 c)/\Row w.heap.size w' A 0 c 5 1 []/\au w w':=by
 go_enter func93,ntmps93;have a:=a8 w;go_step;refine ah ?_;refine ag ?_;refine ah ?_;refine ag ?_;refine ah ?_;refine v3 ?_;refine an ?_;go_wp2_with fail;go_loopw [3,11] (λd b wr=>d=J R 0/\b=J R 0/\ak w (λ_=>False) wr []) (λd b wr=>0);case atStart=>grind
 case round=>
  clear a;obtain⟨rfl,rfl,a⟩:=hrel;go_step;refine ah ?_;refine cB ?_;refine aR (aqe 0 _ ad) ?_;rintro e w1 ⟨f,bC,rfl,h,g⟩;replace a:=a.lA g h;refine aU ?_;refine ag ?_;refine ah ?_;refine v3 ?_;refine an ?_;go_wp2_with fail;go_loopw [6,27] (λd b wr=>d=ae f 0 bC/\b=J R 0/\ak w (λ_=>False) wr [ba f 0 bC 5 1 []]) (λd b wr=>0);case atStart=>grind
  case round=>
   clear a;obtain⟨rfl,rfl,a⟩:=hrel;go_step;refine ah ?_;refine ag ?_;refine ah ?_;refine dU ?_;go_wp2_with fail;go_ret;exact⟨f,bC,aa,(a.fresh 0).row,a.only⟩
def Tl(dC B first bound)id j A c w(b:Has w (qx dC B first bound id j A c))(o:j.last.data.length<=140737488355328):
 aD ax 58 #[ay (ab ⟨dC,0,af⟩)] w λe w'=>match j.has with|false=>e=aB (bn #[ar NP,ai ao])/\au w w'|true=>∃d f,e=aB (bn #[ar (recC j.last d f),ai az])/\cf w w' (cx d f j.last.data):=by
 have q:=hid b;cases hh:j.has with
 |false=>
  have i:aE (aX w dC _ 233):=hid (by have h:=b.1.1;rw[M7,hh]at h;exact h);clear b hh;go_enter Tryz.func58,Tryz.ntmps58;have a:=a8 w;go_step;refine ah ?_;refine bl a #[J _ 0,J _ 0,J _ 0,J _ 0,ae _ 0 0] (λk w1 a=>?_);refine cB ?_;refine pk (ai ao) ?_;refine v4 ?_;refine jf i a.only ?_;refine DG ?_;refine a' a 0 (ar #[J aF 0,J aF 0,J R 0,J R 0,ae af 0 0]) (λr a=>?_);refine bX ?_;go_wp2_with fail;refine c' (v:=_) (mh aa aa aa (a.aW 0) aw aw) aa (⟨aa,a.only⟩)
 |true=>
  have i:aE (aX w dC _ 233):=hid (by have h:=b.1.1;rw[M7,hh]at h;exact h);have l:aE (∀W,au w W->aD _ 65 _ W λe w'=>∃d f,e=aB _/\fe _ w' d f _/\au W w'):=hid (λW g=>(w6 A c _ W (b.1.2.1.1.aI g) o).mono (λe w' ⟨d,f,h1,m,n⟩=>⟨d,f,h1,Row.nk m,n⟩));clear b hh;go_enter Tryz.func58,Tryz.ntmps58;have a:=a8 w;go_step;refine ah ?_;refine bl a #[J _ 0,J _ 0,J _ 0,J _ 0,ae _ 0 0] (λk s a=>?_);refine cB ?_;refine pk (ai ao) ?_;refine v4 ?_;refine jf i a.only ?_;refine v2 ?_;refine jk ?_;refine aG (ar #[J aF j.last.seq,J aF j.last.id,J R j.last.cur,J R j.last.off,ae A j.last.data.length c]) (mH (cs':=#[J aF j.last.seq,J aF j.last.id,J R j.last.cur,J R j.last.off,ae A j.last.data.length c]) aa aa (aX.aI i.out a.only) aw (of_decide_eq_true aw) aw aw) ?_;refine bl a #[J _ 0,J _ 0,J _ 0,J _ 0,ae _ 0 0] (λp t a=>?_);refine a' a 0 (ar _) (λu a=>?_);refine b5 ?_;refine pl a 0 4 ?_;refine aR (l _ a.only) ?_;rintro e x ⟨aK,c2,rfl,b,g⟩;replace a:=a.lR g b;refine aU ?_;refine ag ?_;refine a' a 1 (ae aK _ c2) (λy a=>?_);refine ah ?_;refine bh a 1 #[J aF j.last.seq,J aF j.last.id,J R j.last.cur,J R j.last.off,ae aK j.last.data.length c2] ?_;refine a' a 2 (ar _) (λz a=>?_);refine bX ?_;go_wp2_with fail;refine c' (v:=_) (mh aa aa aa (a.aW 2) aw aw) aa (⟨aK,c2,aa,a.fresh 0⟩)
def jG(d:dR)(first bound:Nat)(id:Nat)(j:pg)(nx cu of:Nat)(ds:List Int):Int×pg×dR:=
 let wr:=mA d (uJ d first bound (nx%2)) (vG nx id cu of ds)
 if wr.1≠0 then(wr.1,j,wr.2)
 else if(mz wr.2).1≠0 then((mz wr.2).1,j,(mz wr.2).2)
 else(0,⟨aF.wrap ((nx:Int)+1),⟨(nx:Int),(id:Int),(cu:Int),(of:Int),ds⟩,az⟩,(mz wr.2).2)
theorem amz(a b c d e):(ja [(a,8),(b,8),(c,8),(d,8),(e,4)]).length=36:=bc
theorem ZP(nx id cu of)ds:(vG nx id cu of ds).length=44+ds.length:=by unfold vG Bf F0 ti L1;grind[jQ,amz]
def aae{d o bs}(a:dY d)(hn:o+bs.length<=d.bytes.length)(b:d.down=ao)(e:d.cache.length<=1000000000):dY (mA d o bs).2:=by
 have hsm:d.bytes.length<=1048576:=by rw[a.len];exact a.small
 have key:∀(l:List _) k cI,Et d cI k->d.cache.length+k+l.length<1073741824->dY (l.foldl (mM o bs) (0,cI)).2:=by
  intro l;induction l with
  |nil=>intro k cI h _;exact h.ok
  |cons x l g=>
   intro k cI h hk;rw[jQ]at hk;rw[Aa];by_cases hx:(mM o bs (0,cI) x).1=0;·have c:=h.step ad hx;grind
   .rw[Oh l _ hx];unfold mM;rw[if_neg bg];exact UW h.ok _ _ (by have:=h.dM;omega)
 refine key _ 0 d ⟨a,aa,aa,b,b9 _⟩ ?_
 have f:(o6 d.size o bs.length).length<=d.bytes.length+1:=by
  rw[o6,hB,Em];unfold eu;split;·omega
  .exact w0 (dT (Eo _ _) (dT (vu _ _) ad))
 omega
def adi (dC B first bound id nx cu of:Nat) j A c m d ds ae4 w (hs:Has w (both (qx dC B first bound (id:Int) j A c) (aN B m d))) (O:j.next=(nx:Int)) (r:kC d first bound) (M:d.down=ao) (N:d.cache.length<=1000000000) (E1:ds.length<=bound) (D:nx<18446744073709551616/\id<18446744073709551616/\cu<=4611686018427387903/\of<=4611686018427387903)
 (hp:∀W,av (both (qx dC B first bound (id:Int) j A c) (aN B m d)).cT w W->aD ax 93 #[ae4] W λe w'=>∃E F,e=aB (ae E ds.length F)/\fe W.heap.size w' E F ds/\au W w'):
 aD ax 227 #[ay (ab ⟨dC,0,af⟩),J R (cu:Int),J R (of:Int),ae4] w λe w'=>e=aB (J R (jG d first bound id j nx cu of ds).1)/\∃E F aZ,Turned w w' (both (qx dC B first bound (id:Int) j A c) (aN B m d)) (both (qx dC B first bound (id:Int) (jG d first bound id j nx cu of ds).2.1 E F) (aN B aZ (jG d first bound id j nx cu of ds).2.2)):=by
 obtain⟨hb1,hb2,hb3⟩:=r.small;have xk:nx%2<=1:=ad;have Fl:=r.room xk;obtain⟨z,P⟩:=ex (uJ d first bound (nx%2));obtain⟨Q,G⟩:=ex (we d bound);have na:bound+44<=Q:=by rw[<-G];exact aw3 r.dev.mL
 rw[P,G]at Fl;obtain⟨bs,Y⟩:=ex (vG nx id cu of ds);have hbl:bs.length=44+ds.length:=by grind[ZP]
 obtain⟨bt,Z⟩:=ex ((mA d z bs).1);obtain⟨o,L⟩:=ex ((mA d z bs).2);obtain⟨k,hce⟩:=ex ((mz o).1);obtain⟨n,EZ⟩:=ex ((mz o).2);have Ff:dY o:=by rw[<-L];exact aae r.dev ad M N
 have aAT:=r.eK;have hap:jG d first bound id j nx cu of ds=if bt≠0 then(bt,j,o)else if k≠0 then(k,j,n)else(0,⟨aF.wrap ((nx:Int)+1),⟨(nx:Int),(id:Int),(cu:Int),(of:Int),ds⟩,az⟩,n):=by grind[jG]
 have bZ:=hid hp;have GV:=hid (λW ac cd h=>by have q:=avI nx id cu of ac cd ds W ⟨D.1,D.2.1,D.2.2.1,D.2.2.2,ad⟩ h;rw[Y]at q;exact q);have jx:aE (∀W,Has W _->aD _ 131 _ W λe w'=>e=aB (ar #[J _ (z:Int),J R (Q:Int)])/\au W w'):=hid (λW h=>by have q:=adj B m d _ _ W h r _ xk;rw[P,G]at q;exact q);have sR:=hid (λW p fW du h I h3 h4 h5=>by have q:=aah B m d z p fW du bs W h r.dev M ad N I h3 h4 h5;rw[Z,L]at q;exact q);have lW:=hid (λW S h=>by have q:=ZC B S o W h Ff;rw[hce,EZ]at q;exact q);have x:=hid hap;have lg:=hid hbl;clear hbl hp D P G Y Z L hce EZ hap Ff r M N;go_enter func227,ntmps227;have a:ak w (both (qx dC B first bound (id:Int) j A c) (aN B m d)).cT w [aj dC #[ay (ab ⟨B,0,af⟩),J R (first:Int),J R (bound:Int),J aF (id:Int),J aF (nx:Int),J aF j.last.seq,J aF j.last.id,J R j.last.cur,J R j.last.off,ae A j.last.data.length c,ai j.has] 233,cx A c j.last.data,aN B m d]:=by have h:=(ak.start (t:=_) hs).fx.fx;rw[M7,O]at h;exact h
 go_step;refine ah ?_;refine cB ?_;refine pk (ai ao) ?_;refine cy ?_;refine bR a [11,13,14] (λi u=>match i with|11=>ae u.A ds.length u.c|13=>ay (ab ⟨u.b,0,af⟩)|_=>a7) (λf=>λ|11=>cx ((f 11).A) ((f 11).c) ds|13=>aj ((f 13).b) #[J aF 0,J aF 0,J R 0,J R 0,ae af 0 0] 137|14=>aj ((f 13).b) #[J aF (nx:Int),J aF (id:Int),J R (cu:Int),J R (of:Int),ae (f 11).A ds.length (f 11).c] 137|_=>emp) (λ|14=>[16]|_=>[]) (λ|3=>[0]|7=>[0]|_=>[]) (λ|11=>[11]|13=>[13]|14=>[11,13]|_=>[]) [0,1,2,14,17] (λf=>?_);refine da ?_;refine dl 0 4 ?_;refine da ?_;refine dl 0 3 ?_;refine da ?_;refine di (λwl Fr a=>(bZ _ a.only).mono ?_) ?_;·rintro e dr ⟨nR,ano,rfl,uD,g⟩;exact⟨{A:=nR,c:=ano},aa,a.lR g uD⟩
 refine aJ ?_;refine rh _ ?_;refine fS _ ?_;refine bW λw1 a=>?_;generalize (f 11).A=T at a⊢;generalize (f 11).c=V at a⊢;generalize (f 13).b=jM at a⊢;refine ah ?_;refine bh a 4 #[J aF (nx:Int),J aF (id:Int),J R (cu:Int),J R (of:Int),ae T ds.length V] ?_;refine aR (GV _ _ _ (a.lK 3).1) ?_;rintro e aT ⟨U,X,rfl,hF⟩;replace a:=a.new _ hF;refine aU ?_;refine v5 ?_;refine cy ?_;refine bR a [] (λ_ _=>a7) (λ_ _=>emp) (λ_=>[]) (λ|4=>[5]|10=>[1]|_=>[]) (λ_=>[]) [0,1,2,3,4,5] (λf=>?_);refine aJ ?_;refine fT (ai ao) ?_;refine bG ?_;refine dl 0 4 ?_;refine oz ?_;refine dl 0 2 ?_;refine aL (ai ao) (λ_ _ _=>by(go_simp;try omega)) ?_;refine aJ ?_;refine bW λbF a=>?_;refine cy ?_;refine bR a [15,18,19] (λi u=>match i with|15=>ar #[J R (z:Int),J R (Q:Int)]|18=>ae (ab ⟨u.b,0,af⟩) 1 1|19=>J R bt|_=>a7) (λf=>λ|18=>aj ((f 18).b) #[ae U bs.length X] 22|19=>aN B (f 19).m o|_=>emp) (λ|19=>[3]|_=>[]) (λ|4=>[1]|8=>[1]|12=>[1]|15=>[3]|19=>[0,24]|_=>[]) (λ|18=>[18]|19=>[19]|_=>[]) [0,1,2,4,5,21,24,25] (λf=>?_);refine hW ?_;refine dl 0 0 ?_;refine da ?_;refine eM 0 #[ay (ab ⟨B,0,af⟩),J R (first:Int),J R (bound:Int)] ?_;refine da ?_;refine dl 0 4 ?_;refine aL _ (λ_ _ _=>am1 _ _ _ _ aa nx aa aa) ?_;refine aL (J R ((nx%2:Nat):Int)) (λ_ _ _=>by(go_simp;exact IntWalk.i64_in _ ad)) ?_;refine dK (λ_ _ a=>jx _ (a.has 0)) ?_;refine fT (J R (z:Int)) ?_;refine aJ ?_;refine kH _ 22 ?_;refine di (λwl Fr a=>(sR.out _ _ U X (a.has 0) (aX.cell (a.aW 2) 0 aa) (λh=>a.ne (i:=0) (j:=2) aa aa aS _ h aa) (a.lK 1).1 (λy h1 I=>a.ne (i:=1) (j:=0) aa aa aS _ h1 I)).mono ?_) ?_;·rintro e dr ⟨rfl,S,K⟩;exact⟨{m:=S},aa,a.xK K⟩
 refine aJ ?_;refine bW λb8 a=>?_;generalize (f 18).b=azb at a⊢;generalize (f 19).m=aB1 at a⊢;replace a:=a.drop 5;by_cases hz:bt=0
 .have hc1:(if bt≠0 then(bt,j,o)else if k≠0 then(k,j,n)else(0,(⟨_,_,az⟩:pg),n))=if k≠0 then(k,j,n)else(0,(⟨aF.wrap ((nx:Int)+1),⟨(nx:Int),(id:Int),(cu:Int),(of:Int),ds⟩,az⟩:pg),n):=if_neg (λh=>h hz);have s:=hid hc1;clear hc1;subst hz;refine b5 ?_;refine pk (ai ao) ?_;refine o9 ?_;refine pl a 1 0 ?_;refine aR (lW _ _ (a.has 6)) ?_;rintro e cA ⟨rfl,m3,K⟩;replace a:=a.eP 6 K;refine Gl ?_;by_cases H:k=0;·have C:=hid (show(if k≠0 then(k,j,n)else(0,(⟨aF.wrap ((nx:Int)+1),⟨(nx:Int),(id:Int),(cu:Int),(of:Int),ds⟩,az⟩:pg),n))=_ from if_neg (λh=>h H));subst H;refine b5 ?_;refine pk (ai ao) ?_;refine gV ?_;refine bh a 4 #[J aF (nx:Int),J aF (id:Int),J R (cu:Int),J R (of:Int),ae T ds.length V] ?_;refine v2 ?_;refine a' a 1 (ar _) (λcR a=>?_);refine v2 ?_;refine a' a 1 (ai _) (λdz a=>?_);refine jk ?_;refine pl a 1 4 ?_;refine pk (J aF (aF.wrap ((nx:Int)+1))) ?_;refine v2 ?_;refine a' a 1 (J _ _) (λdv a=>?_);refine ah ?_;refine ag ?_;refine an ?_;have v:=a.pk [1,3,6];go_wp2_with fail;go_ret;exact⟨by rw[x,s,C];rfl,_,_,m3,by rw[x.out,s.out,C.out];refine ak.gl (l:=[_]) (i:=0) ?_;show ak _ _ _ [both (both (aj dC _ _) (cx _ _ _)) (aN B _ _)];exact v.star.star⟩
  .have C:=hid (show(if k≠0 then(k,j,n)else(0,(⟨aF.wrap ((nx:Int)+1),⟨(nx:Int),(id:Int),(cu:Int),(of:Int),ds⟩,az⟩:pg),n))=_ from if_pos H);have asc:=H;refine b5 ?_;refine aG (ai az) (by(go_simp;try simp[asc])) ?_;refine ah ?_;refine dU ?_;have v:=a.pk [1,2,6];rw[<-O]at v;go_wp2_with fail;go_ret;exact⟨by rw[x,s,C];rfl,A,c,m3,by rw[x,s,C];refine ak.gl (l:=[_]) (i:=0) ?_;show ak _ _ _ [both (both (aj dC _ _) (cx _ _ _)) (aN B _ _)];exact v.star.star⟩
 .have s:=hid (show(if bt≠0 then(bt,j,o)else if k≠0 then(k,j,n)else(0,(⟨aF.wrap ((nx:Int)+1),⟨(nx:Int),(id:Int),(cu:Int),(of:Int),ds⟩,az⟩:pg),n))=_ from if_pos hz);have M4:=hz;refine b5 ?_;refine aG (ai az) (by(go_simp;try simp[M4])) ?_;refine ah ?_;refine dU ?_;have v:=a.pk [1,2,6];rw[<-O]at v;go_wp2_with fail;go_ret;exact⟨by rw[x,s];rfl,A,c,_,by rw[x.out,s.out];refine ak.gl (l:=[_]) (i:=0) ?_;show ak _ _ _ [both (both (aj dC _ _) (cx _ _ _)) (aN B _ _)];exact v.star.star⟩
def gv(size bound N:Nat):Nat:=(eu size 0 N).2+2*gE size bound
def mF(size bound N:Nat):Array Value:=#[J R (size:Int),J R (bound:Int),J R 0,J R (N:Int),J R ((eu size 0 N).2:Int),J R ((2*gE size bound:Nat):Int),J R ((gv size bound N:Nat):Int)]
theorem afJ(s N):(eu s 0 N).2<=N+1:=by
 unfold eu;split;·omega
 .exact w0 (dT (Eo _ _) (dT (vu _ _) ad))
theorem afY(s b):gE s b<=b+44:=w0 (vu _ _)
def adM(size bound o n:Nat)(h1:1<=size/\size<=1048576)(i:1<=bound/\bound<=65536)(t:o<=1048576)(u:n<=1048576)w:
 aD ax 48 #[J R (size:Int),J R (bound:Int),J R (o:Int),J R (n:Int)] w λe w'=>e=aB (bn #[ar (mF size bound (max o n)),J R 0])/\au w w':=by
 obtain⟨N,j⟩:=ex (max o n);rw[j];have k:max (o:Int) (n:Int)=(N:Int):=ad;have l:=hid k;have x:N<=1048576:=ad;obtain⟨b,d⟩:=ex ((eu size 0 N).2);obtain⟨lC,c⟩:=ex (gE size bound);have y:b<=N+1:=by grind[afJ]
 have A:lC<=bound+44:=by grind[afY]
 have hs1:1<=lC:=by rw[<-c];exact w0 (cC _)
 have hlc:mF size bound N=#[J R (size:Int),J R (bound:Int),J R 0,J R (N:Int),J R (b:Int),J R ((2*lC:Nat):Int),J R ((b+2*lC:Nat):Int)]:=by rw[mF,gv,d,c]
 rw[hlc];have p:=hid (λW=>by have q:=adm _ _ h1.1 i.1 i.2 W;rw[c]at q;exact q);have m:aE (∀W,aD _ _ #[J _ _,ar #[J _ 0,J _ (N:Int)]] W λe w'=>∃z,e=aB (ar #[J _ z,J _ (b:Int)])/\au W w'):=hid (λW=>by have q:=afK _ 0 N ⟨h1.1,ad⟩ ad W;rw[d]at q;exact q.mono (λ_ _ h=>⟨_,h⟩));clear j k d c hlc;go_enter func48,ntmps48;have a:=a8 w;go_step;refine ah ?_;refine bl a #[J _ 0,J _ 0,J _ 0,J _ 0,J _ 0,J _ 0,J _ 0] (λs w1 a=>?_);refine kg ?_;refine bC (p.out _) a (λD a=>?_);refine cB ?_;refine a1 (ai ao) ?_;refine gV ?_;refine bC (xM 0 (o:Int) _ ⟨ad,ad,ad⟩) a (λE a=>?_);refine v4 ?_;refine bC (xM 0 (n:Int) _ ⟨ad,ad,ad⟩) a (λF a=>?_);refine v2 ?_;refine o9 ?_;refine aG (J R (N:Int)) (by(have h:=l.out;go_simp;try simp[h];try with_reducible rfl)) ?_;refine v2 ?_;refine bl a #[J _ 0,J _ 0,J _ 0,J _ 0,J _ 0,J _ 0,J _ 0] (λr G a=>?_);refine a' a 0 (ar _) (λH a=>?_);refine gV ?_;refine bh a 0 #[J R 0,J R (N:Int)] ?_;refine aR (m _) ?_;rintro e I ⟨M,rfl,g⟩;replace a:=a.aI g;refine aU ?_;refine pk (J R (b:Int)) ?_;refine ag ?_;refine aG _ (lY 3 _ _ 3 aa 2 _ ((2*lC:Nat):Int) aa aa ad ad ad) ?_;refine v2 ?_;refine a' a 0 (ar #[J R _,J _ ((2*lC:Nat):Int)]) (λK a=>?_);refine b5 ?_;refine bh a 0 #[J R (b:Int),J R ((2*lC:Nat):Int)] ?_;refine bC (l1 (b:Int) ((2*lC:Nat):Int) _ ad ad ad) a (λL a=>?_);refine ag ?_;refine a' a 0 (J _ _) (λB a=>?_);refine ah ?_;refine bh a 0 #[J R (size:Int),J R (bound:Int),J R 0,J R (N:Int),J R (b:Int),J R ((2*lC:Nat):Int),J R ((b:Int)+((2*lC:Nat):Int))] ?_;refine a' a 1 (ar _) (λC a=>?_);refine bX ?_;have f:(b:Int)+((2*lC:Nat):Int)=((b+2*lC:Nat):Int):=ad;rw[f]at a;clear f;go_wp2_with fail;refine c' (v:=_) (mh aa aa aa (a.aW 1) aw aw) aa (⟨aa,a.only⟩)
def adS(size bound o n:Nat)(g1 g2)S(h1:1<=size/\size<=1048576)(b:1<=bound/\bound<=65536)(c:o<=1048576)(d:n<=1048576)w:
 aD ax 39 #[J R (size:Int),J R (bound:Int),eL (o:Int) (n:Int) g1 g2 S] w λe w'=>e=aB (bn #[ar (mF size bound (max o n)),J R 0])/\au w w':=by
 go_enter func39,ntmps39;have a:=a8 w;go_step;refine ah ?_;refine bL a (ar _) (λf w1 a=>?_);refine bl a #[J _ 0,J _ 0,J _ 0,J _ 0,J _ 0,J _ 0,J _ 0] (λg h a=>?_);refine J7 ?_;refine pl a 1 0 ?_ (hv:=kI);refine ag ?_;refine pl a 1 1 ?_ (hv:=ih);refine bC (adM _ _ o n h1 b c d _) a (λi a=>?_);refine v2 ?_;refine a' a 0 (ar #[J R _,J R _,J R 0,J R _,J R _,J R _,J R _]) (λj a=>?_);refine bX ?_;go_wp2_with fail;refine c' (v:=_) (mh aa aa aa (a.aW 0) aw aw) aa (⟨aa,a.only⟩)
def adE(size bound N B)m d w(g:Has w (aN B m d))(b:dY d)(hsz:d.size=size)(hn:gv size bound N<=d.cnt):
 aD ax 52 #[ar (mF size bound N),de B] w λe w'=>e=aB (J R 0)/\au w w':=by
 have c:=hid g;have l:=b.Cw;clear g;obtain⟨h,f⟩:=ex (gv size bound N);rw[f]at hn;have hlc:mF size bound N=#[J R (size:Int),J R (bound:Int),J R 0,J R ((N:Nat):Int),J R ((eu size 0 N).2:Int),J R ((2*gE size bound:Nat):Int),J R (h:Int)]:=by grind[mF]
 rw[hlc];subst hsz;clear f hlc;go_enter func52,ntmps52;have a:=a8 w;go_step;refine ah ?_;refine bL a (ar _) (λk w1 a=>?_);refine cB ?_;refine pk (ai ao) ?_;refine hX ?_;refine bR a [1] (λi _=>match i with|1=>J R (d.size:Int)|_=>a7) (λ_ _=>emp) (λ_=>[]) (λ|3=>[0]|_=>[]) (λ_=>[]) [0,2] (λj=>?_);refine aJ ?_;refine dK (λ_ _ a=>w7 B m d _ (c.out.aI a.only).dev b) ?_;refine aJ ?_;refine dl 0 0 ?_;refine aL (ai ao) (λ_ _ _=>by(go_simp;try simp)) ?_;refine aJ ?_;refine bW λn a=>?_;replace a:=a.drop 1;refine cy ?_;refine bR a [1] (λi _=>match i with|1=>J R (d.cnt:Int)|_=>a7) (λ_ _=>emp) (λ_=>[]) (λ|3=>[0]|_=>[]) (λ_=>[]) [0,2] (λj=>?_);refine aJ ?_;refine dK (λ_ _ a=>L5 B m d _ (c.out.aI a.only).dev b) ?_;refine aJ ?_;refine dl 0 6 ?_;refine aL (ai ao) (λ_ _ _=>by(go_simp;try omega)) ?_;refine aJ ?_;refine bW λo a=>?_;replace a:=a.drop 1;refine ah ?_;refine ag ?_;refine an ?_;go_wp2_with fail;go_ret;exact⟨aa,a.only⟩
def M'{s N e x}(b:1<=s):N<=s*((eu s 0 N).2+x+e):=by
 rcases lX N with h|h;·omega
 .have h1:(eu s 0 N).2=(N -1)/s+1:=by unfold eu;rw[if_neg ad];simp
  have a:N<=s*(eu s 0 N).2:=by rw[h1,Nat.mul_succ];have c:=Yk (N -1) s;have d:=Lm (N -1) b;omega
  exact dT a (Nat.mul_le_mul_left _ ad)
def adU(size bound N ex p)A c b w(h1:1<=size)(hc:size*(gv size bound N+ex)<=1048576)(hb1:b.length<=N)(l:w.cell? ⟨p,0,af⟩=ab (ae A b.length c))(hb:b2 w A b):
 aD ax 40 #[ar (mF size bound N),J R (ex:Int),ae (ab ⟨p,0,af⟩) 1 1] w λe w'=>∃B m,e=aB (bn #[de B,J R 0])/\cf w w' (aN B m (nM size (gv size bound N+ex) b)):=by
 obtain⟨d,f⟩:∃z,gv size bound N=z:=⟨_,aa⟩;rw[f]at hc⊢;have hlc:mF size bound N=#[J R (size:Int),J R (bound:Int),J R 0,J R ((N:Nat):Int),J R ((eu size 0 N).2:Int),J R ((2*gE size bound:Nat):Int),J R (d:Int)]:=by rw[mF,f]
 rw[hlc];have E:1<=d:=by rw[<-f,gv];have:1<=gE size bound:=w0 (cC _);omega
 have hle:d+ex<=size*(d+ex):=Ch _ h1;have hbl:b.length<=size*(d+ex):=dT hb1 (by rw[<-f,gv];exact M' h1);have r:aE (∀W,au w W->aD _ 93 _ W λe w'=>∃i j,e=aB _/\fe _ w' i j b/\au W w'):=hid (λW g=>(Hv p A c b W (g.cell l (λh=>h)) (hb.aI g) ad).mono (λe w' ⟨i,j,h1,s,t⟩=>⟨i,j,h1,Row.nk s,t⟩));have o:=hid (λW q aK c2 h u=>aoT size _ q aK c2 b W h1 ad hc hbl h u);have k:=TI (size:=_) (cnt:=_) (b:=b) h1 ad hc hbl;have n:=hid (λW B m h=>by have q:=adE size _ N B m _ W h k aa (by rw[f];show d<=d+ex;omega);rw[hlc]at q;exact q);have y:¬size=0:=ad;have F:d+ex<=1048576:=ad;clear l hb f hlc k hle;go_enter func40,ntmps40;have a:=a8 w;go_step;refine ah ?_;refine bL a (ar _) (λC w1 a=>?_);iterate 2 refine ag ?_
 refine an ?_;go_step;refine ah ?_;refine ag ?_;refine aR (r _ a.only) ?_;rintro e G ⟨aK,c2,rfl,x,g⟩;replace a:=a.lR g x;refine aU ?_;refine ag ?_;refine an ?_;go_step;refine ah ?_;refine ag ?_;refine aG (ai ao) (by(go_simp;try omega)) ?_;iterate 5 refine ag ?_
 refine pl a 1 3 ?_;refine aG (ai ao) (by(go_simp;try omega)) ?_;refine ag ?_;refine an ?_;go_step;refine ah ?_;refine ag ?_;refine pl a 1 0 ?_;refine ag ?_;refine pl a 1 6 ?_;refine ag ?_;refine aG _ (mu 3 _ _ 3 aa _ _ ((d+ex:Nat):Int) aa aa ad ad ad) ?_;refine ag ?_;refine e7 a #[ae aK b.length c2] 22 (λD H a=>?_);refine aR (o _ _ aK c2 (aX.cell (a.aW 0) 0 aa) (a.lK 1).1) ?_;rintro e I ⟨B,m,rfl,v⟩;replace a:=a.new _ v;refine aU ?_;refine ag ?_;refine an ?_;go_step;refine ah ?_;refine ag ?_;refine an ?_;go_step;refine ah ?_;refine bh a 3 #[J R (size:Int),J R (bound:Int),J R 0,J R ((N:Nat):Int),J R ((eu size 0 N).2:Int),J R ((2*gE size bound:Nat):Int),J R (d:Int)] ?_;refine ag ?_;refine aG (ai ao) (by(go_simp;try simp[y])) ?_;iterate 2 refine ag ?_
 refine bh a 3 #[J R (size:Int),J R (bound:Int),J R 0,J R ((N:Nat):Int),J R ((eu size 0 N).2:Int),J R ((2*gE size bound:Nat):Int),J R (d:Int)] ?_;refine ag ?_;refine aR (n.out _ B m (a.has 0)) ?_;rintro e K ⟨rfl,g⟩;replace a:=a.aI g;refine aU ?_;iterate 2 refine ag ?_
 refine an ?_;go_step;refine ah ?_;iterate 3 refine ag ?_
 refine an ?_;go_wp2_with fail;go_ret2;exact⟨B,m,aa,a.fresh 0⟩
def aoC {P:ew} {ops:Array cS} {rest:List cS} {Q:Exit->b3->aQ->Prop} {o:cS} {a j:b3} {aq:aQ} {FX:Nat->Prop} {dst:Nat->Option Tmp} {LE:List Nat} {e:Nat->ff->aP} {c:List bq} {out:(Nat->ff)->Nat->bq} {ins rd:Nat->List Nat} {fin:List Nat} {QP:List PanicEntry->aQ->Prop} {b:Nat->ff} {i k:Nat} {s:bq} (f:ff)
 (hr:∀w (Fr:List bq),ak aq FX w ((ins i).map (dk c out b)++((rd i).map (dk c out b)++Fr))->∃w',(bA a.eval o).run P w=bf (dc (e i f)) w'/\Turned w w' s (out (dF b i f) i)) (h:cL P ops Q dst LE e aq FX c out ins rd fin QP b (i+1) rest j)
 (hn:ins i=[k]:=by rfl) (hk:dk c out b k=s:=by rfl) (hd:dst i=o.dst:=by rfl) (hlt:(match o.dst with|some d=>decide (d<a.tmps.size)|none=>ao)=true:=by kernel_rfl)
 (hi:decide (i∈LE)=true:=by kernel_rfl) (hw:Region.wanted o (yielded ops a.tmps)=true:=by kernel_rfl) (ha:a.put o.dst (e i (b i))=j:=by((try simp only[Act.put,List.setIfInBounds_toArray,List.set_cons_zero,List.set_cons_succ]);rfl)):cL P ops Q dst LE e aq FX c out ins rd fin QP b i (o::rest) a:=by
 refine w8 (λw Fr g K n=>?_) h hi ha;rw[if_pos hw];obtain⟨w',h1,m⟩:=hr w Fr g;rw[hn]at g;have l:ak aq FX w (s::((rd i).map (dk c out b)++Fr)):=aH;unfold Oper.wp;rw[h1];show K _ _;refine n f _ _ ?_ (put_defers _ _ _) (l.xK m);rw[hd];cases hq:o.dst with
 |none=>grind
 |some d=>simp only[hq,decide_eq_true_eq]at hlt;simp[lS,Act.eval,Act.put,hlt]
def eD(L:List Nat):Array Value:=(L.map (λ(n:Nat)=>J R (n:Int))).toArray
def UP(B t:Nat)L cs w(hb:aX w B cs t)(hcs:eD L=cs)(cv:∀n∈L,(n:Int)<=4611686018427387903)(h:L.length<=1048576):
 aD ax 204 #[ae (ab ⟨B,0,af⟩) L.length L.length] w λe w'=>e=aB (ai az)/\au w w':=by
 subst hcs;have d:=hid hb;clear hb;go_enter func204,ntmps204;have a:=a8 w;go_step;refine ah ?_;refine dV ?_;iterate 3 refine ag ?_
 refine an ?_;go_wp2_with fail;go_loopw [7] (λb wr=>∃j:Nat,j<=L.length/\b=J R (j:Int)/\ak w (λ_=>False) wr []) (λb wr=>L.length -(bQ b).toNat);case atStart=>grind
 case round=>
  clear a;obtain⟨j,i,rfl,a⟩:=hrel;by_cases hlt:j<L.length
  .have g:(j:Int)<(L.length:Int):=ad;obtain⟨x,hx⟩:∃x,L[j]?=ab x:=⟨_,cE hlt⟩;have k:=cv x (cX hx);have c:(eD L)[j]?=ab (J R (x:Int)):=by grind[eD]
   have f:=hid c;clear hx c;go_step;refine ah ?_;refine dV ?_;refine aG (ay (ab ⟨B,j,af⟩)) (b4 82 3 1 (bj 5) (bj 7) aa Tryz.underlying82 aw B 0 (L.length) (L.length) j j aa aa hlt ad) ?_;refine aG _ (fH aa aa (aX.aI d a.only) f aw) ?_;refine dV ?_;iterate 2 refine ag ?_
   refine bC (xM 0 (x:Int) _ ⟨ad,ad,ad⟩) a (λw1 a=>?_);refine dV ?_;refine pad (j:Int) 1 ((j+1:Nat):Int) ?_;refine bX ?_;go_wp2_with fail;go_roundw;case rel=>exact⟨j+1,ad,aa,a⟩
   case measure=>grind[bQ]
  .have g:¬(j:Int)<(L.length:Int):=ad;go_step;refine ah ?_;refine ag ?_;refine ah ?_;refine ag ?_;refine an ?_;go_wp2_with fail;go_ret;exact⟨aa,a.only⟩
def u64_in x(h:0<=x/\x<18446744073709551616):aF.wrap x=x:=by grind[DW,DV,Kt]
def CF(n:Nat)w(hn:(n:Int)<=4611686018427387903):
 aD ax 127 #[J R (n:Int)] w λe w'=>e=aB (ar #[J aF (n:Int),J R 8])/\au w w':=by
 go_enter func127,ntmps127;have a:=a8 w;go_step;refine ah ?_;refine bl a #[J aF 0,J R 0] (λb w1 a=>?_);refine b5 ?_;refine aG (J aF (n:Int)) (by(go_simp;exact u64_in _ ad)) ?_;refine ag ?_;refine a' a 0 (ar #[J aF (n:Int),J R 8]) (λc a=>?_);refine an ?_;go_wp2_with fail;refine c' (v:=_) (gG aa _ _ _ _ _ _ _ aa (a.aW 0) underlying227 aa aw) aa (⟨aa,a.only⟩)
def aoP(o n:Nat)(g1 g2)A c ms w(ho:(o:Int)<=4611686018427387903/\(n:Int)<=4611686018427387903)(C:cU w A ms)(hv:∀m∈ms,gd m)(U:ms.length<=1048576):
 aD ax 125 #[eL (o:Int) (n:Int) g1 g2 (ae A ms.length c)] w λe w'=>e=aB (J R 0)/\au w w':=by
 have I:=hid C;have L:=hv;clear C hv;go_enter func125,ntmps125;have a:=a8 w;go_step;refine ah ?_;refine bL a (ar (bb (o:Int) (n:Int) g1 g2 (ae A ms.length c))) (λE w1 a=>?_);refine cB ?_;refine pl a 0 0 ?_ (hv:=kI);refine ag ?_;refine pl a 0 1 ?_ (hv:=ih);refine e7 a #[J R (o:Int),J R (n:Int)] 3 (λF V a=>?_);refine bC (UP F 3 [o,n] _ _ (a.aW 0) aa (by intro x hx;simp only[gy,fQ,or_false]at hx;omega) (by show _<=_;simp)) a (λW a=>?_);refine cB ?_;refine pl a 1 66 ?_ (hv:=e');iterate 2 refine ag ?_
 refine an ?_;go_wp2_with fail;go_loopw [3,15] (λok t wr=>∃j:Nat,j<=ms.length/\ok=ai az/\t=J R (j:Int)/\ak w (λ_=>False) wr [aj E (bb (o:Int) (n:Int) g1 g2 (ae A ms.length c)) 26]) (λok t wr=>ms.length -(bQ t).toNat);case atStart=>exact⟨0,cC _,aa,aa,a.pick [1]⟩
 case round=>
  clear a;obtain⟨j,T,rfl,rfl,a⟩:=hrel;by_cases hlt:j<ms.length
  .have N:(j:Int)<(ms.length:Int):=ad;obtain⟨m,s⟩:∃m,ms[j]?=ab m:=⟨_,cE hlt⟩;obtain⟨q,i,l,r,v,y,z⟩:=cU.jb I s;have G:=hid v;have S:=hid y;have H:=hid z;have K:=hid s;clear v y z s;have O:=L m (cX K);go_step;refine ah ?_;refine dV ?_;refine aG (ay (ab ⟨q,(i+j*5),af⟩)) (b4 24 73 5 (bj 13) (bj 15) aa ee aw q i (ms.length) c j ((i+j*5)) (by show ae A _ _=_;rw[G]) aa hlt aa) ?_;refine aG (ar #[J R m.k,J R m.to,J R m.fr,J R m.n,ae l m.data.length r]) (by(refine eW 73 (bj 17) aa q (i+j*5) aa ([J R m.k,J R m.to,J R m.fr,J R m.n,ae l m.data.length r]:List aP) (H _ a.only) fO aa aw)) ?_;refine bl a #[J R 0,J R 0,J R 0,J R 0,ae af 0 0] (λQ X a=>?_);refine a' a 0 (ar #[J R m.k,J R m.to,J R m.fr,J R m.n,ae l m.data.length r]) (λY a=>?_);refine b5 ?_;refine pl a 0 0 ?_;refine an ?_;rcases O with⟨hk,⟨u,v2,v3⟩,⟨nP,ox,pO⟩,l6,qk⟩|⟨hk,⟨u,v2,v3⟩,yY,l6,qk⟩
   .simp only at u v2 v3 nP ox pO;obtain⟨cQ,d⟩:∃x:Nat,m.to=(x:Int):=⟨m.to.toNat,ad⟩;obtain⟨dn,B⟩:∃x:Nat,m.fr=(x:Int):=⟨m.fr.toNat,ad⟩;obtain⟨P,D⟩:∃x:Nat,m.n=(x:Int):=⟨m.n.toNat,ad⟩;have M:(m.data.length:Int)=0:=by rw[qk];rfl
    have g:=hid hk;have b:=hid d;have f:=hid B;have h:=hid D;clear hk d B D;refine ah ?_;refine dp g (ai az) ?_;refine dV ?_;iterate 3 refine ag ?_
    refine pl a 0 1 ?_;refine ag ?_;refine pl a 0 2 ?_;refine ag ?_;refine pl a 0 3 ?_;refine e7 a #[J R m.to,J R m.fr,J R m.n] 3 (λp Z a=>?_);refine bC (UP p 3 [cQ,dn,P] _ _ (a.aW 0) (by rw[b,f,h];rfl) (by intro x hx;simp only[gy,fQ,or_false]at hx;have:=b.out;have:=f.out;have:=h.out;omega) (by show _<=_;simp)) a (λdz a=>?_);iterate 3 refine ag ?_
    refine pl a 1 4 ?_;refine ag ?_;refine aG (ai az) (by(go_simp;try simp[M];try omega)) ?_;iterate 2 refine ag ?_
    refine ah ?_;refine pad (j:Int) 1 ((j+1:Nat):Int) ?_;refine bX ?_;go_wp2_with fail;go_roundw;case rel=>exact⟨j+1,ad,aa,aa,a.pick [2]⟩
    case measure=>simp[bQ]<;>omega
   .simp only at u v2 v3;obtain⟨cQ,d⟩:∃x:Nat,m.to=(x:Int):=⟨m.to.toNat,ad⟩;have g:=hid hk;have b:=hid d;have f:=hid yY;have h:=hid l6;clear hk d yY l6;refine ah ?_;refine dp g (ai ao) ?_;refine dV ?_;refine dp g (ai az) ?_;refine dV ?_;iterate 3 refine ag ?_
    refine pl a 0 1 ?_;refine e7 a #[J R m.to] 3 (λp dv a=>?_);refine bC (UP p 3 [cQ] _ _ (a.aW 0) (by rw[b];rfl) (by intro x hx;simp only[gy,fQ,or_false]at hx;have:=b.out;omega) (by show _<=_;simp)) a (λeU a=>?_);iterate 3 refine ag ?_
    refine pl a 1 2 ?_;refine dp f (ai az) ?_;iterate 3 refine ag ?_
    refine pl a 1 3 ?_;refine dp h (ai az) ?_;iterate 2 refine ag ?_
    refine ah ?_;refine pad (j:Int) 1 ((j+1:Nat):Int) ?_;refine bX ?_;go_wp2_with fail;go_roundw;case rel=>exact⟨j+1,ad,aa,aa,a.pick [2]⟩
    case measure=>simp[bQ]<;>omega
  .have N:¬(j:Int)<(ms.length:Int):=ad;go_step;refine ah ?_;refine dV ?_;iterate 2 refine ag ?_
   refine ah ?_;refine ag ?_;refine an ?_;go_wp2_with fail;go_ret;exact⟨aa,a.only⟩
def r9(m:bO):List Int:=if m.k=1 then ja [(1,1),(m.to.toNat,8),(m.fr.toNat,8),(m.n.toNat,8)]else ja [(2,1),(m.to.toNat,8),(m.data.length,8)]++m.data
def FG:List Int:=[71,82,70,84]
def oX(o n:Nat):List Int:=FG++ja [(1,1),(o,8),(n,8)]
def xf(o n:Nat)(g1 g2:dq):List Int:=oX o n++g1.l++g2.l
def rp(o n:Nat)(g1 g2:dq)(k:Nat):List Int:=xf o n g1 g2++ja [(k,4)]
def jR(o n:Nat)(g1 g2:dq)(ms:List bO):List Int:=rp o n g1 g2 ms.length++ms.flatMap r9
def apq(o n)(g1 g2)ms j:(rp o n g1 g2 ms.length++(ms.take j).flatMap r9).length<=(jR o n g1 g2 ms).length:=by grind[jR,oa]
def AE(fs:List (Nat×Nat)):List Value:=fs.flatMap (λf=>[J aF (f.1:Int),J R (f.2:Int)])
def ap2{fs i f}(h:fs[i]?=ab f):(AE fs)[i*2]?=ab (J aF (f.1:Int))/\(AE fs)[i*2+1]?=ab (J R (f.2:Int)):=by
 induction fs generalizing i with
 |nil=>grind
 |cons x r a=>
  cases i with
  |zero=>cases h;exact⟨aa,aa⟩
  |succ i=>
   have:=a (i:=i) aH;exact⟨by rw[show(i+1)*2=i*2+1+1 by omega];exact this.1,by rw[show(i+1)*2+1=i*2+1+1+1 by omega];exact this.2⟩
def Of A c bs F jc fs w(n:bs.length<=8796093022208/\fs.length<=1048576)(h:0<fs.length)(hb:b2 w A bs)(o:∀f∈fs,yR f)(l:Row 0 w F fs.length jc 227 2 (AE fs)):
 aD ax 126 #[ae A bs.length c,ae F fs.length jc] w λe w'=>∃a b,e=aB (bn #[ae a (bs++ja fs).length b,ai az])/\Row w.heap.size w' a (bs++ja fs).length b 5 1 ((bs++ja fs).map a6)/\au w w':=by
 obtain⟨g,cur,rfl,hb2,_,_,_,j⟩:=l.blk h;refine agU A c bs g 0 jc fs w n hb o (λi f m=>?_);have d:=ap2 m
 have key:∀(k) v,(AE fs)[k]?=ab v->w.cell? _=ab v:=λk v hk=>by
  rw[<-j,tR]at hk;split at hk;·exact hb2.cell k aH
  .grind
 rw[iY];exact⟨key _ _ d.1,key _ _ d.2⟩
def Z'{w B cs}fs(hb:aX w B cs 227)(hc:cs.toList=AE fs)(hn:fs.length<=1048576):Row 0 w (ab ⟨B,0,af⟩) fs.length fs.length 227 2 (AE fs):=by
 have a:(AE fs).length=fs.length*2:=by
  clear hc hn;induction fs with
  |nil=>rfl
  |cons x r b=>grind[AE]
 have h:=Jh (n:=fs.length) (c:=_) (sz:=2) hb (b9 _) (by grind[eB]) aH;grind
def Zu{w}{B t:Nat}{o n g1 g2 S}(h:aX w B (bb o n g1 g2 S) t):b2 w (ab ⟨B,2,af⟩) g1.l/\b2 w (ab ⟨B,34,af⟩) g2.l:=by
 have h1:=g1.len;have b:=g2.len;refine⟨λ_=>⟨B,2,rfl,λj a=>h.cell (2+j) ?_⟩,λ_=>⟨B,34,rfl,λj a=>h.cell (34+j) ?_⟩⟩;·rw[bb,Ab,show 2+j=j+1+1 by omega,vq,vq,tQ aH,j4,cE ad];simp
 .rw[bb,Ab,show 34+j=(32+j)+1+1 by omega,vq,vq,pn aH,hB,h1,show 32+j -32=j by omega,tQ aH,j4,cE ad];simp
def apQ(o n:Nat)(g1 g2)A c ms w(ho:(o:Int)<=4611686018427387903/\(n:Int)<=4611686018427387903)(X:cU w A ms)(hv:∀m∈ms,gd m)(eR:ms.length<=1048576)(hle:(jR o n g1 g2 ms).length<=8796093022208):
 aD ax 53 #[eL (o:Int) (n:Int) g1 g2 (ae A ms.length c)] w λe w'=>∃r s,e=aB (bn #[ae r (jR o n g1 g2 ms).length s,J R 0])/\cf w w' (cx r s (jR o n g1 g2 ms)):=by
 have cK:=hid X;have cJ:=hid hv;have jv:=hid (λW g=>aoP o n g1 g2 A c ms W ho (X.aI g) hv eR);have hg1:=g1.len;have hg2:=g2.len;have RW:(oX o n).length<=1000:=by grind[oX,FG,ja,r7]
 have PI:aE (∀W k F,b2 W (ab ⟨k,0,af⟩) FG->aX W F #[J aF 1,J R 1,J aF (o:Int),J R 8,J aF (n:Int),J R 8] 227->aD ax 126 #[ae (ab ⟨k,0,af⟩) 4 4,ae (ab ⟨F,0,af⟩) 3 3] W λe w'=>∃r s,e=aB (bn #[ae r (oX o n).length s,ai az])/\Row W.heap.size w' r (oX o n).length s 5 1 ((oX o n).map a6)/\au W w'):=hid (λW k F h1 B=>Of _ 4 FG (ab ⟨F,0,af⟩) 3 [(1,1),(o,8),(n,8)] W ⟨aS,bg⟩ (Lo _) h1 (λf D=>by grind[yR]) (Z' [(1,1),(o,8),(n,8)] B aa bg));have PJ:aE (∀W k t F,b2 W k (xf o n g1 g2)->aX W F #[J aF (ms.length:Int),J R 4] 227->aD ax 126 #[ae k (xf o n g1 g2).length t,ae (ab ⟨F,0,af⟩) 1 1] W λe w'=>∃r s,e=aB (bn #[ae r (rp o n g1 g2 ms.length).length s,ai az])/\Row W.heap.size w' r (rp o n g1 g2 ms.length).length s 5 1 ((rp o n g1 g2 ms.length).map a6)/\au W w'):=hid (λW k t F h1 B=>Of k t (xf o n g1 g2) (ab ⟨F,0,af⟩) 1 [(ms.length,4)] W ⟨by grind[xf],bg⟩ (Lo _) h1 (λf D=>by grind[yR]) (Z' [(ms.length,4)] B aa bg));have P:=hid hle;have P:=hid hle;have ZQ:=λj=>apq o n g1 g2 ms j;clear X hv hle;go_enter func53,ntmps53;have a:=a8 w;go_step;refine ah ?_;refine bL a (ar _) (λM w1 a=>?_);iterate 2 refine ag ?_
 refine ah ?_;refine bh a 0 (bb (o:Int) (n:Int) g1 g2 (ae A ms.length c)) ?_ (hv:=(e6 _)) (hk:=by omega) (hz:=(by rw[bH];rfl));refine bC (jv _ a.only) a (λaT a=>?_);refine cB ?_;refine pk (ai ao) ?_;refine cy ?_;refine bR a [0,1,5,8,9,10] (λi u=>match i with|0=>ae (ab ⟨u.b,0,af⟩) 4 4|1=>ae (ab ⟨u.b,0,af⟩) 4 4|5=>ar #[J aF (o:Int),J R 8]|8=>ar #[J aF (n:Int),J R 8]|9=>ae (ab ⟨u.b,0,af⟩) 3 3|10=>bn #[ae u.A (oX o n).length u.c,ai az]|_=>a7) (λd=>λ|0=>aj ((d 0).b) #[J dO 71,J dO 82,J dO 70,J dO 84] 5|1=>ro (ab ⟨(d 1).b,0,af⟩) FG|9=>aj ((d 9).b) #[J aF 1,J R 1,J aF (o:Int),J R 8,J aF (n:Int),J R 8] 227|10=>ba ((d 10).A) ((oX o n).length) ((d 10).c) 5 1 ((oX o n).map a6)|_=>emp) (λ|1=>[1]|_=>[]) (λ|4=>[0]|7=>[0]|10=>[2,10]|_=>[]) (λ|0=>[0]|1=>[1]|9=>[9]|10=>[10]|_=>[]) [0,2,6,9,10,11] (λd=>?_);refine kH _ 5 ?_;refine aoC _ (λ_ _ a=>FR _ aa aa (a.aW 0) aa dW mm) ?_;refine bG ?_;refine dl 0 0 ?_ (hv:=kI);refine dK (λ_ _ _=>CF o _ ad) ?_;refine aJ ?_;refine dl 0 1 ?_ (hv:=ih);refine dK (λ_ _ _=>CF n _ ad) ?_;refine kH _ _ ?_;refine di (λwl Fr a=>(PI _ _ _ (a.at 0) (a.aW 1)).mono ?_) ?_;·rintro e dr ⟨hL,gS,rfl,hrow,g⟩;exact⟨{A:=hL,c:=gS},aa,a.lA g hrow⟩
 refine oz ?_;refine bW λbF a=>?_;generalize (d 0).b=OL at a⊢;generalize (d 1).b=qN at a⊢;generalize (d 9).b=aza at a⊢;generalize (d 10).A=Ka at a⊢;generalize (d 10).c=LP at a⊢;replace a:=a.drop 2;replace a:=a.drop 2;refine cy ?_;refine bR a [3,6] (λi u=>match i with|3=>ae u.A ((oX o n).length+32) u.c|6=>ae u.A (((oX o n).length+32)+32) u.c|_=>a7) (λd=>λ|3=>ba ((d 3).A) ((oX o n).length+32) ((d 3).c) 5 1 ((oX o n).map a6++(g1.l.map a6))|6=>ba ((d 6).A) (((oX o n).length+32)+32) ((d 6).c) 5 1 (((oX o n).map a6++(g1.l.map a6))++(g2.l.map a6))|_=>emp) (λ|3=>[3]|6=>[7]|_=>[]) (λ|3=>[0]|6=>[0]|_=>[]) (λ|3=>[3]|6=>[6]|_=>[]) [0,1,2,10] (λd=>?_);refine bG ?_;refine fT (ae (ab ⟨M,2,af⟩) 32 32) ?_;refine ri (m:=32) 1 (λ_ _ a=>(by have h:=(Zu (a.aW 1)).1.cells;rw[hg1]at h;exact h)) (xB _) ?_ (hby:=by omega);refine aJ ?_;refine fT (ae (ab ⟨M,34,af⟩) 32 32) ?_;refine ri (m:=32) 1 (λ_ _ a=>(by have h:=(Zu (a.aW 1)).2.cells;rw[hg2]at h;exact h)) (xB _) ?_ (hby:=by omega);refine aJ ?_;refine bW λb8 a=>?_;generalize (d 3).A=qL at a⊢;generalize (d 3).c=rb at a⊢;generalize (d 6).A=U' at a⊢;generalize (d 6).c=YX at a⊢;have ZL:(((oX o n).map a6++(g1.l.map a6))++(g2.l.map a6))=(xf o n g1 g2).map a6:=by simp[xf]
 have Q:(((oX o n).length+32)+32)=(xf o n g1 g2).length:=by simp only[xf,c7,hg1,hg2]
 rw[ZL,Q]at a;clear ZL;rw[Q];clear Q;refine ah ?_;iterate 2 refine ag ?_
 refine pl a 0 66 ?_ (hv:=e');refine ag ?_;refine aG (J aF _) (by(go_simp;exact u64_in _ ad)) ?_;refine ag ?_;refine e7 a #[J aF (ms.length:Int),J R 4] 227 (λay9 cA a=>?_);refine aR (PJ _ _ _ _ (a.atR 4).Jn (a.aW 0)) ?_;rintro e cR ⟨wv,t',rfl,hrow,g⟩;replace a:=a.lA g hrow;refine U7 ?_;refine pl a 2 66 ?_ (hv:=e');iterate 2 refine ag ?_
 refine an ?_;have dE:(rp o n g1 g2 ms.length)=((rp o n g1 g2 ms.length)++(ms.take 0).flatMap r9):=bg;have bJ:=a.pk [0,2];go_wp2_with fail;go_loopw [5,51] (λek Z wr=>∃(j:Nat) (k:Option bT) (t:Nat),j<=ms.length/\ek=ae k ((rp o n g1 g2 ms.length)++(ms.take j).flatMap r9).length t/\Z=J R (j:Int)/\ak w (λ_=>False) wr [ba k (((rp o n g1 g2 ms.length)++(ms.take j).flatMap r9).length) t 5 1 (((rp o n g1 g2 ms.length)++(ms.take j).flatMap r9).map a6),aj M (bb (o:Int) (n:Int) g1 g2 (ae A ms.length c)) 26]) (λek Z wr=>ms.length -(bQ Z).toNat);case atStart=>exact⟨0,wv,t',cC _,by rw[<-dE],aa,by rw[<-dE];exact bJ⟩
 case round=>
  clear a bJ dE;obtain⟨j,k,t,hj,rfl,rfl,a⟩:=hrel;by_cases hlt:j<ms.length
  .have cb:(j:Int)<(ms.length:Int):=ad;have U:=dT (ZQ j) P;obtain⟨m,Y⟩:∃m,ms[j]?=ab m:=⟨_,cE hlt⟩;obtain⟨E,H,aV,aY,bx,et,db⟩:=cU.jb cK Y;have cq:=hid bx;have O:=hid et;have L:=hid db;have cg:=hid Y;clear bx et db Y;obtain⟨bs,S⟩:=ex (((rp o n g1 g2 ms.length)++(ms.take j).flatMap r9));have hR:((rp o n g1 g2 ms.length)++(ms.take (j+1)).flatMap r9)=bs++r9 m:=by rw[gq,cg,X',<-kD,S];simp
   rw[S]at a U⊢;have v:=hid hR;clear hR S;have j':=cJ m (cX cg);rcases j' with⟨hk,⟨z,v2,v3⟩,⟨nP,ox,pO⟩,G,I⟩|⟨hk,⟨z,v2,v3⟩,T,G,I⟩
   .simp only at z v2 v3 nP ox pO;obtain⟨cQ,dn,x,rfl⟩:∃cQ dn x:Nat,m=⟨1,(cQ:Int),(dn:Int),(x:Int),[]⟩:=⟨m.to.toNat,m.fr.toNat,m.n.toNat,by rcases m with⟨mk,mt,atD,pE,p⟩;simp only at hk z v2 v3 nP ox pO G I⊢;rw[hk,QA z,QA nP,QA v2,j3 I]⟩;dsimp only at L O v z v2 v3 nP ox pO;have hcb:r9 ⟨1,(cQ:Int),(dn:Int),(x:Int),[]⟩=ja [(1,1),(cQ,8),(dn,8),(x,8)]:=bc;rw[hcb]at v;obtain⟨y,C⟩:=ex (bs++ja [(1,1),(cQ,8),(dn,8),(x,8)]);rw[C]at v;have N:aE (∀W F jc,b2 W k bs->Row 0 W F 4 jc 227 2 [J aF 1,J R 1,J aF (cQ:Int),J R 8,J aF (dn:Int),J R 8,J aF (x:Int),J R 8]->aD ax 126 #[ae k bs.length t,ae F 4 jc] W λe w'=>∃r s,e=aB _/\Row _ w' r y.length s 5 1 _/\au W w'):=hid (λW F jc h1 B=>by have q:=Of k t bs F jc [(1,1),(cQ,8),(dn,8),(x,8)] W ⟨U,bg⟩ (Lo _) h1 (λf D=>by simp only[gy,fQ,or_false]at D;rcases D with rfl|rfl|rfl|rfl<;>(unfold yR;simp;try omega)) B;rw[C]at q;exact q);clear C hcb hk G I;go_step;refine ah ?_;refine dV ?_;refine aG (ay (ab ⟨E,(H+j*5),af⟩)) (b4 24 73 5 (bj 49) (bj 51) aa ee aw E H (ms.length) c j ((H+j*5)) (by show ae A _ _=_;rw[cq]) aa hlt aa) ?_;refine aG _ (by(refine eW 73 _ aa E _ aa _ (L _ a.only) fO aa aw)) ?_;refine bl a #[J _ 0,J _ 0,J _ 0,J _ 0,ae _ 0 0] (λjM dz a=>?_);refine a' a 0 (ar #[J R 1,J R _,J R _,J R _,ae aV 0 aY]) (λdv a=>?_);refine cy ?_;refine bR a [6,7] (λi u=>match i with|6=>ar #[J aF (cQ:Int),J R 8]|7=>ae (ab ⟨u.b,0,af⟩) 2 2|_=>a7) (λd=>λ|7=>aj ((d 7).b) #[J aF 1,J R 1,J aF (cQ:Int),J R 8] 227|_=>emp) (λ_=>[]) (λ|1=>[0]|5=>[0]|_=>[]) (λ|7=>[7]|_=>[]) [0,1,2,9,10] (λd=>?_);refine aJ ?_;refine dl 0 0 ?_;refine fT (J aF 1) ?_;refine bG ?_;refine dl 0 1 ?_;refine dK (λ_ _ _=>CF cQ _ ad) ?_;refine kH _ _ ?_;refine aJ ?_;refine bW λeU a=>?_;generalize (d 7).b=ahG at a⊢;replace a:=a.drop 3;refine b5 ?_;refine pl a 0 0 ?_;refine pk (ai az) ?_;refine an ?_;replace a:=a.uZ 3 2 2 2 [J _ 1,J _ 1,J _ _,J _ 8] aa (b9 _) (by unfold eB;omega) aa;refine cy ?_;refine bR a [4,7,8,9,10] (λi u=>match i with|4=>ar #[J aF (dn:Int),J R 8]|7=>ar #[J aF (x:Int),J R 8]|8=>ae (ab ⟨u.b,0,af⟩) 2 2|9=>ae u.A (2+2) u.c|10=>bn #[ae u.A y.length u.c,ai az]|_=>a7) (λd=>λ|8=>aj ((d 8).b) #[J aF (dn:Int),J R 8,J aF (x:Int),J R 8] 227|9=>ba ((d 9).A) (2+2) ((d 9).c) 227 2 ([J aF 1,J R 1,J aF (cQ:Int),J R 8]++([J aF (dn:Int),J R 8,J aF (x:Int),J R 8]))|10=>ba ((d 10).A) y.length ((d 10).c) 5 1 (y.map a6)|_=>emp) (λ|9=>[3]|_=>[]) (λ|3=>[0]|6=>[0]|9=>[12]|10=>[1,13]|_=>[]) (λ|8=>[8]|9=>[9]|10=>[10]|_=>[]) [0,1,2,8,11,12,13,14] (λd=>?_);refine da ?_;refine dl 0 2 ?_;refine dK (λ_ _ _=>CF dn _ ad) ?_;refine aJ ?_;refine dl 0 3 ?_;refine dK (λ_ _ _=>CF x _ ad) ?_;refine kH _ _ ?_;refine ri (m:=2) 16 (λ_ _ a=>aX.cellsOf (m:=2) (a.aW 1) aa) (by intro u K;simp only[gy,fQ,or_false]at K;rcases K with rfl|rfl|rfl|rfl<;>rfl) ?_ (hby:=by decide);refine di (λwl Fr a=>(N _ _ _ (a.atR 0).Jn (a.atR 1)).mono ?_) ?_;·rintro e dr ⟨kx,mv,rfl,hrow,g⟩;exact⟨{A:=kx,c:=mv},aa,a.lA g hrow⟩
    refine hW ?_;refine bW λgF a=>?_;generalize (d 8).b=ahF at a⊢;generalize (d 9).A=ayW at a⊢;generalize (d 9).c=aAf at a⊢;generalize (d 10).A=Vc at a⊢;generalize (d 10).c=Rm at a⊢;replace a:=a.drop 3;replace a:=a.drop 3;refine ah ?_;refine pad (j:Int) 1 ((j+1:Nat):Int) ?_;refine bX ?_;go_wp2_with fail;go_roundw;case rel=>exact⟨j+1,_,_,ad,by rw[v],aa,by rw[v];exact a.pick [5,2]⟩
    case measure=>simp[bQ]<;>omega
   .simp only at z v2 v3;obtain⟨cQ,p,rfl⟩:∃(cQ:Nat) (p:List Int),m=⟨2,(cQ:Int),0,0,p⟩:=⟨m.to.toNat,m.data,by rcases m with⟨mk,mt,atD,pE,p⟩;simp only at hk z T G⊢;rw[hk,QA z,T,G]⟩;dsimp only at L O v z v2 v3 I;have hcb:r9 ⟨2,(cQ:Int),0,0,p⟩=ja [(2,1),(cQ,8),(p.length,8)]++p:=bc;rw[hcb,<-kD]at v;obtain⟨y,C⟩:=ex (bs++ja [(2,1),(cQ,8),(p.length,8)]);rw[C]at v;have V:=ZQ (j+1);rw[v]at V;have aq7:=dT V P;rw[c7]at aq7;have N:aE (∀W F jc,b2 W k bs->Row 0 W F 3 jc 227 2 [J aF 2,J R 1,J aF (cQ:Int),J R 8,J aF (p.length:Int),J R 8]->aD ax 126 #[ae k bs.length t,ae F 3 jc] W λe w'=>∃r s,e=aB _/\Row W.heap.size w' r y.length s 5 1 _/\au W w'):=hid (λW F jc h1 B=>by have q:=Of k t bs F jc [(2,1),(cQ,8),(p.length,8)] W ⟨U,bg⟩ (Lo _) h1 (λf D=>by simp only[gy,fQ,or_false]at D;rcases D with rfl|rfl|rfl<;>(unfold yR;simp;try omega)) B;rw[C]at q;exact q);clear C hcb hk T G V;go_step;refine ah ?_;refine dV ?_;refine aG (ay (ab ⟨E,(H+j*5),af⟩)) (b4 24 73 5 (bj 49) (bj 51) aa ee aw E H (ms.length) c j ((H+j*5)) (by show ae A _ _=_;rw[cq]) aa hlt aa) ?_;refine aG _ (by(refine eW 73 _ aa E _ aa _ (L _ a.only) fO aa aw)) ?_;refine bl a #[J _ 0,J _ 0,J _ 0,J _ 0,ae _ 0 0] (λjM hI a=>?_);refine a' a 0 (ar _) (λjK a=>?_);refine cy ?_;refine bR a [6,7] (λi u=>match i with|6=>ar #[J aF (cQ:Int),J R 8]|7=>ae (ab ⟨u.b,0,af⟩) 2 2|_=>a7) (λd=>λ|7=>aj ((d 7).b) #[J aF 2,J R 1,J aF (cQ:Int),J R 8] 227|_=>emp) (λ_=>[]) (λ|1=>[0]|5=>[0]|_=>[]) (λ|7=>[7]|_=>[]) [0,1,2,9,10] (λd=>?_);refine aJ ?_;refine dl 0 0 ?_;refine fT (J aF 2) ?_;refine bG ?_;refine dl 0 1 ?_;refine dK (λ_ _ _=>CF cQ _ ad) ?_;refine kH _ _ ?_;refine aJ ?_;refine bW λke a=>?_;generalize (d 7).b=ahG at a⊢;replace a:=a.drop 3;refine b5 ?_;refine pl a 0 0 ?_;refine pk (ai ao) ?_;refine an ?_;replace a:=a.uZ 3 2 2 2 [J _ 2,J _ 1,J _ _,J _ 8] aa (b9 _) (by unfold eB;omega) aa;refine ah ?_;iterate 3 refine ag ?_
    refine pl a 0 4 ?_;refine ag ?_;refine bC (CF p.length _ ad) a (λk9 a=>?_);refine e7 a #[J aF (p.length:Int),J R 8] 227 (λahF mj a=>?_);refine jV (m:=1) a 4 16 (aX.cellsOf (m:=1) (a.aW 0) aa) (by intro u K;simp only[gy,fQ,or_false]at K;rcases K with rfl|rfl<;>rfl) (λayX aAg np a=>?_) (hby:=by decide);refine aR (N.out _ _ _ (a.atR 2).Jn (a.atR 4)) ?_;rintro e qH ⟨kx,mv,rfl,hrow,g⟩;replace a:=a.lA g hrow;refine aU ?_;refine v4 ?_;refine ah ?_;iterate 2 refine ag ?_
    refine pl a 2 4 ?_;refine jV (m:=p.length) a 0 1 ((O.out _ a.only).1.cells) (xB _) (λayY aAh rJ a=>?_) (hby:=by omega);refine bX ?_;have vE:(y.map a6++(p.map a6))=(y++p).map a6:=bg;have EG:y.length+p.length=(y++p).length:=by rw[c7]
    rw[vE]at a;have Vo:=hid EG;clear vE EG;refine ah ?_;refine pad (j:Int) 1 ((j+1:Nat):Int) ?_;refine bX ?_;go_wp2_with fail;go_roundw;case rel=>exact⟨j+1,_,_,ad,by rw[v,<-Vo],aa,by rw[v,<-Vo];exact a.pick [0,4]⟩
    case measure=>simp[bQ]<;>omega
  .have cb:¬(j:Int)<(ms.length:Int):=ad;have td:j=ms.length:=ad;have hQ:((rp o n g1 g2 ms.length)++(ms.take j).flatMap r9)=jR o n g1 g2 ms:=by rw[td,lp,jR]
   rw[hQ]at a⊢;go_step;refine ah ?_;refine dV ?_;iterate 2 refine ag ?_
   refine ah ?_;iterate 3 refine ag ?_
   refine an ?_;go_wp2_with fail;go_ret2;exact⟨k,t,aa,cf.TO a.only (Row.nk (a.fresh 0).row)⟩
def nd(bs:List Int):Int:=(lD ⟨ij bs,0,0,0⟩ 8).1
def apS(p c1)A c bs w(E:bs.length<=8796093022208)(l:w.cell? ⟨p,0,af⟩=ab (ae A bs.length c))(hb:b2 w A bs)(j:∀b off,A=ab ⟨b,off,af⟩->b<w.heap.size):
 aD ax 55 #[ae (ab ⟨p,0,af⟩) 1 c1] w λe w'=>e=aB (J aF (nd bs))/\au w w':=by
 obtain⟨D,i⟩:=ex (ij bs);have f:D.length=32:=by grind[s8]
 have t:aE (∀W,au w W->aD ax 76 #[ae (ab ⟨p,0,af⟩) 1 c1] W λe w'=>e=aB (ar (aM a6 D []))/\au W w'):=hid (λW g=>by have q:=afR p 0 c1 A c bs W ad (g.cell l (λh=>h)) (hb.aI g) (λb off e=>wZ (j b off e) g.size);rw[i]at q;exact q);have k:nd bs=(lD ⟨D,0,0,0⟩ 8).1:=by rw[nd,i]
 rw[k];have s:aE (∀W d,b2 W (ab ⟨d,0,af⟩) D->aD ax 134 #[ae (ab ⟨d,0,af⟩) 32 32] W λe w'=>∃B m u,e=aB (ay (ab ⟨B,0,af⟩))/\cf W w' (eA B m u ⟨D,0,0,0⟩)):=hid (λW d h=>by have q:=ad6 (ab ⟨d,0,af⟩) 32 D W ad h;rw[f]at q;exact q);have C:q7 ⟨D,0,0,0⟩:=⟨cC _,aH⟩;clear k l hb i j;go_enter func55,ntmps55;have a:=a8 w;go_step;refine ah ?_;refine cB ?_;refine bC (t.out _ a.only) a (λw1 a=>?_);refine bl a (aM a6 (dZ 32 0) []) (λo F a=>?_);refine NG a 0 (F9 (ar (aM a6 D [])) aa aa aa (a.aW 0) (by show 0+(aM a6 D []).size<=(aM a6 (dZ 32 0) []).size;rw[i',i',f];simp) (by show _=ab (aM a6 D []).size;rw[i',f];kernel_rfl) (Lx (λ_=>aa) (λv hv=>absurd hv fQ)) (lay_all (by show(aM a6 D []).size=(aM a6 (dZ 32 0) []).size;rw[i',i',f];simp))) (λG a=>?_);refine ah ?_;refine pk (ae (ab ⟨o,0,af⟩) 32 32) ?_;refine aR (s _ _ (LM (a.aW 0))) ?_;rintro e H ⟨r,n,x,rfl,y⟩;replace a:=a.new _ y;refine aU ?_;refine aR (Jk r n x _ 8 _ (a.has 0) C ad) ?_;rintro e I ⟨rfl,z⟩;replace a:=a.eP 0 z;refine Gl ?_;go_wp2_with fail;go_ret;exact⟨aa,a.only⟩
section
theorem Hs{w w' p v}(g:au w w')(h:w.cell? p=ab v):w'.cell? p=ab v:=(World.cell?_of_block (w:=w) (g.block p.block (World.block_lt_of_cell? w _ h) (λh=>h))).trans h
section
variable {aq w:aQ} {FX:Nat->Prop}
def ak.tail(l l')(h:ak aq FX w (l++l')):ak aq FX w (l++[Go.Proofs.YtcmhplknoglbkaaGreat.bP l']):=by have h1:ak aq FX w (l'++l):=h.perm vt;exact h1.bP.perm (by simpa using(Hg (Go.Proofs.YtcmhplknoglbkaaGreat.bP l') l).symm)
def ak.iF(l l')(h:ak aq FX w (l++[Go.Proofs.YtcmhplknoglbkaaGreat.bP l'])):ak aq FX w (l++l'):=by have h1:ak aq FX w (Go.Proofs.YtcmhplknoglbkaaGreat.bP l'::l):=h.perm (Hg _ _);exact h1.kd.perm vt
end
end
end Go.Proofs.YtcmhplknoglbkaaGreat
