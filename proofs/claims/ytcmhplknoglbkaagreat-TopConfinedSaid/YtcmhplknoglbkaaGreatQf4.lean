/- Part 4 of the proof of TopConfinedSaid. -/
import Derived.Deep.AppendSrc
import Derived.Lib.JoinLaws
import Derived.DeepKeys4
import Derived.Maps.OwnOps
import Derived.Shelf.Bytes.SlSmallAll
import Derived.Test.YtcmhplknoglbkaaGreatQf0
import Derived.Test.YtcmhplknoglbkaaGreatQf2
import Derived.Test.YtcmhplknoglbkaaGreatQf3
set_option linter.all false
set_option maxRecDepth 100000
set_option maxHeartbeats 4000000
open Go.Proofs.Tryz
open Array renaming ext'->ahD,toList_extract->ahG
open BitVec renaming ofInt->mM
open Bool renaming false->ao,true->az
open Go renaming Act->b3,Addr->bT,Calls->aC,Oper->cT,Program->ew,Value->aO,World->aP,bodyPost_ret->c8,builtin->qR,cell_of_row->fH,execOp->bz,grownCap_ge->zZ,grownCap_le_maxLen->z1,growslice_fits->KY,heap_alloc_new->fO,invoke->n1,isAgg->tR,loadCellsFrom->PL,maxLen->eG,resolve->n2,results_cell_row->gH,run_append_grow_src->Xo,run_copy_row->K2,run_firstCells_some->K3,run_underlying->gO,sizeOf->mQ,typeInfo->nv,undef->a1,wpList->cQ,wpList_nil->an,wp_region_lit->cy
open Go.Addr renaming add->u'
open Go.Builtin renaming append_->pa,firstCells->rV,lenOf->wx,zeroCells->ns
open Go.Callee renaming builtin->pb
open Go.ChangeMaps renaming setBlock->la
open Go.Ending renaming returned->aB
open Go.Fn renaming func->eu
open Go.IntKind renaming bits->D0,i64->R,signed->KF,u32->wA,u64->aF,u8->dR,wrap->D1
open Go.Lib renaming bytesOf->GD
open Go.Next renaming value->da
open Go.Obj renaming cells->bp
open Go.Op renaming call->nY,equalIn->Pf,indexAddr->D2
open Go.Operand renaming const->pX,tmp->bj
open Go.Proofs.Tryz renaming func209->V1,func218->V2,func281->Pm,func283->Wa,ntmps209->Wu,ntmps218->Wv,ntmps281->Ps,ntmps283->Wz,prog->ax,underlying118->vb,underlying22->dK,underlying23->sW,underlying3->jH,underlying354->WR,underlying435->WX
open Go.Region renaming wanted->c7
open Go.Result renaming andThen_ok->jI,ok->bf
open Go.RowKit renaming Hid->aE,intOf->bR
open Go.Sem renaming run_bind->gC,run_pure->kg
open Go.Src renaming ofSlice->Xe
open Go.TypeDesc renaming array->vd,slice->iE
open Go.Value renaming agg->ar,bool->ai,func->dS,int->J,map->dP,pointer->ay,slice->ae,tuple->bo
open List renaming all_cons->QT,append_assoc->kQ,append_nil->kR,drop_succ_cons->Yo,eq_nil_of_length_eq_zero->j8,extract->alV,foldl_cons->yG,getElem?_eq_getElem->cF,getElem?_eq_some_iff->eM,getElem?_map->jU,length_append->db,length_drop->s9,length_map->hM,length_replicate->lI,length_set->t',map_append->fR,map_cons->kj,map_nil->lJ,map_toArray->pj,mem_cons_self->s',mem_map->gQ,mem_of_getElem?->cW,mem_singleton->ua,not_mem_nil->fS,perm_append_comm->vw,range->dU,range'->al2,range_succ->ta,replicate->ea,take_add_one->gx,take_left'->al4,take_of_length_le->ub
open Nat renaming add_sub_cancel_left->uc,eq_zero_or_pos->l1,le_mul_of_pos_right->yK,le_refl->b7,mul_le_mul_right->oK,succ_mul->Ap,zero_add->js,zero_le->cB
open Option renaming getD_some->vB,isSome_iff_exists->Rc,map_some->q6,none->af,some->ab
open Option.some renaming injEq->wZ
open Or renaming inl->bZ,inr->cc
open Prod.mk renaming injEq->pn
open Std.Legacy.Range renaming forIn_eq_forIn_range'->az9,size->aAa
namespace Go.Proofs.YtcmhplknoglbkaaGreat
section
open Go.RowKit Go.MapKept
def agZ(bs:List Int)(i:Nat):Int:=pE (pE (pE (mE (gy (bs[4*i]?.getD 0)) 24) (mE (gy (bs[4*i+1]?.getD 0)) 16)) (mE (gy (bs[4*i+2]?.getD 0)) 8)) (gy (bs[4*i+3]?.getD 0))
def uM(bs:List Int):Nat->List Int
 |0=>ea 16 0
 |i+1=>(uM bs i).set i (agZ bs i)
def Ng(bs:List Int):∀q,(uM bs q).length=16
 |0=>aa
 |q+1=>by rw[uM,t'];exact Ng bs q
def Bh(t:Nat)(w:List Int):List Int:=if 16<=t then w.set (t%16) (a32 (w[t%16]?.getD 0) (a32 (a32 (h9 (h9 (k7 (w[(t+1)%16]?.getD 0) 25) (k7 (w[(t+1)%16]?.getD 0) 14)) (jg (w[(t+1)%16]?.getD 0) 3)) (w[(t+9)%16]?.getD 0)) (h9 (h9 (k7 (w[(t+14)%16]?.getD 0) 15) (k7 (w[(t+14)%16]?.getD 0) 13)) (jg (w[(t+14)%16]?.getD 0) 10))))else w
def awR{t:Nat}{w:List Int}{n:Nat}(h:w.length=n):(Bh t w).length=n:=by
 unfold Bh;split;·rw[t'];exact h
 .exact h
def Bj(v:List Int):List Int:=v.take 1++v.take 7
def DE{v:List Int}(h:v.length=8):(Bj v).length=8:=by simp[Bj,h]
def agC(k a:Int)(v:List Int):Int:=a32 (a32 (a32 (a32 (v[7]?.getD 0) (h9 (h9 (k7 (v[4]?.getD 0) 26) (k7 (v[4]?.getD 0) 21)) (k7 (v[4]?.getD 0) 7))) (h9 (v[6]?.getD 0) (n32 (v[4]?.getD 0) (h9 (v[5]?.getD 0) (v[6]?.getD 0))))) k) a
def axI(v:List Int):Int:=a32 (h9 (h9 (k7 (v[0]?.getD 0) 30) (k7 (v[0]?.getD 0) 19)) (k7 (v[0]?.getD 0) 10)) (pE (n32 (v[0]?.getD 0) (v[1]?.getD 0)) (n32 (v[2]?.getD 0) (pE (v[0]?.getD 0) (v[1]?.getD 0))))
def Ux(k a:Int)(v:List Int):List Int:=((Bj v).set 4 (a32 ((Bj v)[4]?.getD 0) (agC k a v))).set 0 (a32 (agC k a v) (axI v))
def av2{k a:Int}{v:List Int}(h:v.length=8):(Ux k a v).length=8:=by simp only[Ux,t'];exact DE h
def Ju(t:Nat)(p:List Int×List Int):List Int×List Int:=(Bh t p.1,Ux (zo[t]?.getD 0) ((Bh t p.1)[t%16]?.getD 0) p.2)
def awl{t:Nat}{p:List Int×List Int}(h:p.1.length=16/\p.2.length=8):(Ju t p).1.length=16/\(Ju t p).2.length=8:=⟨awR h.1,av2 h.2⟩
def wk(bs ws:List Int):Nat->List Int×List Int
 |0=>(bs,ws)
 |t+1=>Ju t (wk bs ws t)
def Ur{bs ws:List Int}(hb:bs.length=16)(h:ws.length=8):∀t,(wk bs ws t).1.length=16/\(wk bs ws t).2.length=8
 |0=>⟨hb,h⟩
 |t+1=>by rw[wk];exact awl (Ur hb h t)
def Bq(v:List Int)(ws:List Int):Nat->List Int
 |0=>ws
 |i+1=>(Bq v ws i).set i (a32 ((Bq v ws i)[i]?.getD 0) (v[i]?.getD 0))
def Og{v ws:List Int}(h:ws.length=8):∀i,(Bq v ws i).length=8
 |0=>h
 |i+1=>by rw[Bq,t'];exact Og h i
def EH(ws bs:List Int):List Int:=Bq (wk (uM bs 16) ws 64).2 ws 8
theorem EI{ws bs:List Int}(h:ws.length=8):(EH ws bs).length=8:=Og h 8
def agb{v:List Int}(h:v.length=8):((aM bw v []).toList.take 1++(v.take 7).map bw++(aM bw v []).toList.drop (1+7)).toArray=aM bw (Bj v) []:=by
 have h1:(aM bw v []).toList=v.map bw:=by simp[aM]
 rw[h1];have a:(v.map bw).drop (1+7)=[]:=List.drop_eq_nil_of_le (by simp[h]);rw[a];simp[aM,Bj,List.map_take]
def ZE{w:aP}{B t j:Nat}{v:aO}{b:List Int}(hb:aX w B (aM bw b []) t)(c:b.length=8)(a:((b.take 7).map bw)[j]?=ab v):w.cell? ((⟨B,0,af⟩:bT).add j)=ab v:=by
 rw[mW,js];refine aX.cell hb j ?_;rw[jU,List.getElem?_take]at a;simp only[aM,kR,List.getElem?_toArray,jU];split at a;·exact a
 .cases a
section
variable {P:ew} {o:cT} {a:b3} {w:aP}
def ZD{d m:Operand}{e l f B off c h g k t n:Nat}{b:bT}{old new:Array aO}(cs:List aO)(ho:o.op=nY {callee:=pb .copy,args:=#[d,m],argTypes:=#[e,l]})(q:a.eval d=ae (ab ⟨B,off,af⟩) c h)(y:a.eval m=ae (ab b) g k)(i:aX w B old t)(x:∀j v,cs[j]?=ab v->w.cell? (b.add j)=ab v)(p:cs.length=n)(s:(old.toList.take off++cs++old.toList.drop (off+n)).toArray=new)(hcs:n=Nat.min g c)(r:off+n<=old.size)(h1:∀v∈cs,v.oneCell'=az)(z:P.underlying e=ab (iE f))(u:(P.info? f).map (·.size)=ab 1):
 ∃w',(bz a.eval o).run P w=bf (da (J R (n:Int))) w'/\Turned w w' (aj B old t) (aj B new t):=by
 subst p;have hr:=K2 (P:=P) w e l o.type f B off c h b g k old t cs z u i hcs x r h1;refine⟨w.setRow B (old.toList.take off++cs++old.toList.drop (off+cs.length)).toArray,?_,vE (av.setRow w B _) (s▸i.setRow _)⟩;unfold bz;simp only[ho,n2,n1,qR,gC,kg,jI,pj,kj,lJ,q,y,hr];rfl
end
set_option maxHeartbeats 8000000 in
def anc(B t:Nat)(ws:List Int)(s:aO)(n:Int)(A:Option bT)(du:Nat)(bs:List Int)(w:aP)(ht:t≠5)(rA:ws.length=8)(hl:bs.length=64)(hb:bX w A bs)(hne:∀off sp,A≠ab ⟨B,off,sp⟩)(U:aX w B (aM bw ws [s,J R n]) t):
 aC ax 299 #[ay (ab ⟨B,0,af⟩),ae A 64 du] w λe w'=>e=aB (bo #[])/\av (λb=>b=B) w w'/\aX w' B (aM bw (EH ws bs) [s,J R n]) t:=by
 obtain⟨l,g,rfl,P⟩:=hb ad;have E:=hid P;have u:=hid rA;have aBE:l≠B:=λe=>hne g af (by rw[e]);clear hb P hne;go_enter func299,ntmps299;have a:=ak.start (t:=aj B (aM bw ws [s,J R n]) t) ⟨U,λb e=>(show b=B from e)▸aX.lt U⟩;go_upto_region 0 with fail;refine cy ?_;refine bn a (aM bw (uM bs 0) []) (λD w1 a=>?_);refine an ?_;go_upto_region 1 with fail;refine cy ?_;refine ag ?_;refine Mh ?_;go_loopw [21] (λh wr=>∃q:Nat,q<=16/\h=J R q/\ak w (λb=>b=B) wr [aj D (aM bw (uM bs q) []) 434,aj B (aM bw (ws) [s,J R n]) t]) (λh wr=>16 -(bR h).toNat);case atStart=>exact⟨0,cB _,aa,a⟩
 case round=>
  clear a;obtain⟨q,T,rfl,a⟩:=hrel;by_cases hlt:q<16
  .have S:(q:Int)<16:=ad;obtain⟨kk,hb0⟩:=ex (bs[4*q]?.getD 0);have X:=E (4*q) ad;rw[hb0]at X;obtain⟨dX,hb1⟩:=ex (bs[4*q+1]?.getD 0);have Y:=E (4*q+1) ad;rw[hb1]at Y;obtain⟨dY,hb2⟩:=ex (bs[4*q+2]?.getD 0);have Z:=E (4*q+2) ad;rw[hb2]at Z;obtain⟨pr,hb3⟩:=ex (bs[4*q+3]?.getD 0);have z3:=E (4*q+3) ad;rw[hb3]at z3;have F:=hid (And.intro hb0 (And.intro hb1 (And.intro hb2 hb3)));clear hb0 hb1 hb2 hb3;go_upto_region 3 with fail;refine cy ?_;refine v2 ?_;refine an ?_;go_upto_region 4 with fail;refine bN a [35] (λ_ _=>a1) (λ_=>λ|35=>aj D (aM bw ((uM bs q).set q (pE (pE (pE (mE (gy kk) 24) (mE (gy dX) 16)) (mE (gy dY) 8)) (gy pr))) []) 434|_=>emp) (λ|35=>[0]|_=>[]) (λ_=>[]) (λ_=>[]) [1,37] (λo=>?_);refine c5 ?_;refine AF 4 (q:Int) ((4*q:Nat):Int) ?_;refine aK (ay (ab ⟨l,(g+(4*q)),af⟩)) (λ_ _ _=>b4 22 5 1 (bj 25) (bj 27) aa dK aw l g 64 du ((4*q)) ((g+(4*q))) aa aa ad ad) ?_;refine jL X ?_;refine fJ (bw (gy kk)) ?_;refine fJ (bw (mE (gy kk) 24)) ?_;refine bx ?_;refine AF 4 (q:Int) ((4*q:Nat):Int) ?_;refine qe ((4*q:Nat):Int) 1 ((4*q+1:Nat):Int) ?_;refine aK (ay (ab ⟨l,(g+(4*q+1)),af⟩)) (λ_ _ _=>b4 22 5 1 (bj 32) (bj 35) aa dK aw l g 64 du ((4*q+1)) ((g+(4*q+1))) aa aa ad ad) ?_;refine jL Y ?_;refine fJ (bw (gy dX)) ?_;refine fJ (bw (mE (gy dX) 16)) ?_;refine iq ?_;refine bx ?_;refine AF 4 (q:Int) ((4*q:Nat):Int) ?_;refine qe ((4*q:Nat):Int) 2 ((4*q+2:Nat):Int) ?_;refine aK (ay (ab ⟨l,(g+(4*q+2)),af⟩)) (λ_ _ _=>b4 22 5 1 (bj 41) (bj 44) aa dK aw l g 64 du ((4*q+2)) ((g+(4*q+2))) aa aa ad ad) ?_;refine jL Z ?_;refine fJ (bw (gy dY)) ?_;refine fJ (bw (mE (gy dY) 8)) ?_;refine iq ?_;refine bx ?_;refine AF 4 (q:Int) ((4*q:Nat):Int) ?_;refine qe ((4*q:Nat):Int) 3 ((4*q+3:Nat):Int) ?_;refine aK (ay (ab ⟨l,(g+(4*q+3)),af⟩)) (λ_ _ _=>b4 22 5 1 (bj 50) (bj 53) aa dK aw l g 64 du ((4*q+3)) ((g+(4*q+3))) aa aa ad ad) ?_;refine jL z3 ?_;refine fJ (bw (gy pr)) ?_;refine iq ?_;refine kW ?_;refine RT (Ng ..) ?_;refine bQ λaU a=>?_;go_wp2_with fail;go_roundw;case rel=>exact⟨q+1,ad,by go_num,by rw[uM,agZ,F.1,F.2.1,F.2.2.1,F.2.2.2];exact a.pick [1,0]⟩
   case measure=>simp[bR];omega
  .obtain rfl:q=16:=ad;go_upto_region 6 with fail;refine cy ?_;refine v3 ?_;refine zz a 1 u ?_;refine bn a (aM bw (ea 8 0) []) (λL bI a=>?_);refine pH a 0 (lI ..) u (λb9 a=>?_);refine an ?_;go_upto_region 7 with fail;refine cy ?_;refine bH (TB _) a (λcE a=>?_);refine ag ?_;refine Mh ?_;go_loopw [65] (λh wr=>∃q:Nat,q<=64/\h=J R q/\ak w (λb=>b=B) wr [aj L (aM bw ((wk (uM bs 16) ws q).2) []) 352,aj D (aM bw ((wk (uM bs 16) ws q).1) []) 434,aj B (aM bw (ws) [s,J R n]) t]) (λh wr=>64 -(bR h).toNat);case atStart=>exact⟨0,cB _,aa,a⟩
   case round=>
    clear a;obtain⟨q,T,rfl,a⟩:=hrel;obtain⟨d,I⟩:=ex (wk (uM bs 16) ws q).1;obtain⟨f,H⟩:=ex (wk (uM bs 16) ws q).2;have hl4:d.length=16:=by rw[<-I];exact(Ur (Ng bs 16) u q).1
    have Q:f.length=8:=by rw[<-H];exact(Ur (Ng bs 16) u q).2
    rw[I,H]at a;have y:=hid (And.intro I H);have r:=hid hl4;have c:=hid Q;clear I H hl4 Q;by_cases hlt:q<64
    .have S:(q:Int)<64:=ad;obtain⟨k,hx0⟩:=ex (q%16);obtain⟨cX,hx1⟩:=ex ((q+1)%16);obtain⟨K,W⟩:=ex ((q+9)%16);obtain⟨p,V⟩:=ex ((q+14)%16);by_cases G:16<=q
     .have aql:(16:Int)<=(q:Int):=ad;go_upto_region 9 with fail;refine cy ?_;refine ag ?_;refine aI (bw (zo[q]?.getD 0)) (Tx 435 315 64 (bj 64) (bj 65) aa WX aw aw bw zo q aa aa hlt TA) ?_;refine v2 ?_;refine an ?_;go_upto_region 10 with fail;refine cy ?_;refine v2 ?_;refine an ?_;go_upto_region 11 with fail;refine bN a [] (λ_ _=>a1) (λ_ _=>emp) (λ_=>[]) (λ|4=>[1]|9=>[1]|_=>[]) (λ_=>[]) [0,1,2] (λo=>?_);refine aJ ?_;refine qe (q:Int) 1 ((q+1:Nat):Int) ?_;refine aK (J R (cX:Int)) (λ_ _ _=>EG 3 (bj 72) (pX (J R 15)) 3 aa ((q+1)) aa aa ad cX ad) ?_;refine kW ?_;refine l4 0 r ?_;refine aJ ?_;refine qe (q:Int) 14 ((q+14:Nat):Int) ?_;refine aK (J R (p:Int)) (λ_ _ _=>EG 3 (bj 77) (pX (J R 15)) 3 aa ((q+14)) aa aa ad p ad) ?_;refine kW ?_;refine l4 0 r ?_;refine bx ?_;refine bQ λcV a=>?_;go_upto_region 12 with fail;refine cy ?_;refine ag ?_;refine bH (qA _ (-7) 25 _ aS) a (λdJ a=>?_);refine ag ?_;refine bH (qA _ (-18) 14 _ aS) a (λdB a=>?_);refine pu ?_;refine ag ?_;refine pk (bw (jg (d[cX]?.getD 0) 3)) ?_;refine pu ?_;refine ag ?_;refine an ?_;go_upto_region 13 with fail;refine cy ?_;refine ag ?_;refine bH (qA _ (-17) 15 _ aS) a (λeZ a=>?_);refine ag ?_;refine bH (qA _ (-19) 13 _ aS) a (λgV a=>?_);refine pu ?_;refine ag ?_;refine pk (bw (jg (d[p]?.getD 0) 10)) ?_;refine pu ?_;refine ag ?_;refine an ?_;go_upto_region 14 with fail;refine bN a [15] (λ_ _=>a1) (λ_=>λ|15=>aj D (aM bw (d.set k (a32 (d[k]?.getD 0) (a32 (a32 (h9 (h9 (k7 (d[cX]?.getD 0) 25) (k7 (d[cX]?.getD 0) 14)) (jg (d[cX]?.getD 0) 3)) (d[K]?.getD 0)) (h9 (h9 (k7 (d[p]?.getD 0) 15) (k7 (d[p]?.getD 0) 13)) (jg (d[p]?.getD 0) 10))))) []) 434|_=>emp) (λ|15=>[1]|_=>[]) (λ|3=>[1]|9=>[1]|_=>[]) (λ_=>[]) [0,2,18] (λo=>?_);refine aJ ?_;refine aK (J R (k:Int)) (λ_ _ _=>EG 3 (bj 97) (pX (J R 15)) 3 aa q aa aa ad k ad) ?_;refine kW ?_;refine l4 0 r ?_;refine bx ?_;refine qe (q:Int) 9 ((q+9:Nat):Int) ?_;refine aK (J R (K:Int)) (λ_ _ _=>EG 3 (bj 103) (pX (J R 15)) 3 aa ((q+9)) aa aa ad K ad) ?_;refine kW ?_;refine l4 0 r ?_;refine iq ?_;refine aJ ?_;iterate 2 refine iq ?_
      refine kW ?_;refine RT r ?_;refine bQ λhZ a=>?_;obtain⟨z,m⟩:=ex (d.set k (a32 (d[k]?.getD 0) (a32 (a32 (h9 (h9 (k7 (d[cX]?.getD 0) 25) (k7 (d[cX]?.getD 0) 14)) (jg (d[cX]?.getD 0) 3)) (d[K]?.getD 0)) (h9 (h9 (k7 (d[p]?.getD 0) 15) (k7 (d[p]?.getD 0) 13)) (jg (d[p]?.getD 0) 10)))));rw[m]at a;have C:z.length=16:=by rw[<-m];exact(t'.trans r)
      have N:aE (Bh q d=z):=hid (by rw[<-m];unfold Bh;first|rw[if_pos G,hx0,hx1,W,V]|rw[if_neg G]);have M:=hid C;clear m C;go_upto_region 15 with fail;refine bN a [] (λ_ _=>a1) (λ_ _=>emp) (λ_=>[]) (λ|1=>[0]|3=>[0]|_=>[]) (λ_=>[]) [0,1,2] (λo=>?_);refine kW ?_;refine l4 0 c ?_;refine kW ?_;refine l4 0 c ?_;refine bx ?_;refine bQ λjQ a=>?_;go_upto_region 16 with fail;refine cy ?_;refine kG ?_;refine ox a 0 c ?_;refine ag ?_;refine kG ?_;refine ox a 0 c ?_;refine kG ?_;refine ox a 0 c ?_;iterate 3 refine pu ?_
      refine ag ?_;refine an ?_;go_upto_region 17 with fail;refine cy ?_;refine ag ?_;refine kG ?_;refine ox a 0 c ?_;refine pu ?_;refine kG ?_;refine ox a 0 c ?_;refine ag ?_;refine kG ?_;refine ox a 0 c ?_;iterate 3 refine pu ?_
      refine ag ?_;refine an ?_;go_upto_region 18 with fail;refine bN a [3,5,8] (λi _=>match i with|3=>bw (k7 (f[4]?.getD 0) 26)|5=>bw (k7 (f[4]?.getD 0) 21)|8=>bw (k7 (f[4]?.getD 0) 7)|_=>a1) (λ_ _=>emp) (λ_=>[]) (λ|1=>[0]|18=>[2]|_=>[]) (λ_=>[]) [0,1,2,6,8,11] (λo=>?_);refine kW ?_;refine l4 0 c ?_;refine aJ ?_;refine dA (λ_ _ _=>qA _ (-6) 26 _ aS) ?_;refine aJ ?_;refine dA (λ_ _ _=>qA _ (-11) 21 _ aS) ?_;refine iq ?_;refine aJ ?_;refine dA (λ_ _ _=>qA _ (-25) 7 _ aS) ?_;iterate 2 refine iq ?_
      refine aJ ?_;refine iq ?_;refine aJ ?_;refine iq ?_;refine aJ ?_;refine aK (J R (k:Int)) (λ_ _ _=>EG 3 (bj 153) (pX (J R 15)) 3 aa q aa aa ad k ad) ?_;refine kW ?_;refine l4 0 M ?_;refine iq ?_;refine aJ ?_;refine bQ λke a=>?_;replace a:=a.drop 3;replace a:=a.drop 3;replace a:=a.drop 3;go_upto_region 19 with fail;refine cy ?_;refine ag ?_;refine bH (qA _ (-2) 30 _ aS) a (λk8 a=>?_);refine ag ?_;refine bH (qA _ (-13) 19 _ aS) a (λmn a=>?_);refine pu ?_;refine ag ?_;refine bH (qA _ (-22) 10 _ aS) a (λnn a=>?_);refine pu ?_;refine ag ?_;refine pu ?_;refine ag ?_;refine an ?_;go_upto_region 20 with fail;refine bN a [2] (λi _=>match i with|2=>J R 7|_=>a1) (λ_=>λ|2=>aj L (aM bw (Bj f) []) 352|_=>emp) (λ|2=>[0]|_=>[]) (λ_=>[]) (λ_=>[]) [1,2,5] (λo=>?_);refine bx ?_;refine HL (J R 7) (λ_ _ a=>ZD ((f.take 7).map bw) aa aa aa (a.aV 0) (λj v O=>ZE (a.aV 0) c O) (n:=7) (by simp[c.out]) (agb c) aa (by rw[i',c];decide) (λv hv=>by obtain⟨x,_,rfl⟩:=gQ.1 hv;rfl) aa aw) ?_;refine bQ λpO a=>?_;go_upto_region 21 with fail;refine cy ?_;refine kG ?_;refine ox a 2 (DE c) ?_;refine ag ?_;refine pu ?_;refine kG ?_;refine xJ a 2 (DE c) (λrK a=>?_);refine an ?_;go_upto_region 22 with fail;refine cy ?_;refine v2 ?_;refine pu ?_;refine kG ?_;refine xJ a 2 (t'.trans (DE c)) (λu4 a=>?_);refine an ?_;go_wp2_with fail;go_roundw;case rel=>exact⟨q+1,ad,by go_num,by rw[wk,Ju,y.1,y.2,N,hx0];exact a.pick [2,1,0]⟩
      case measure=>simp[bR];omega
     .have aql:¬(16:Int)<=(q:Int):=ad;go_upto_region 9 with fail;refine cy ?_;refine ag ?_;refine aI (bw (zo[q]?.getD 0)) (Tx 435 315 64 (bj 64) (bj 65) aa WX aw aw bw zo q aa aa hlt TA) ?_;refine v2 ?_;refine an ?_;go_upto_region 10 with fail;refine cy ?_;refine v2 ?_;refine an ?_;obtain⟨z,m⟩:=ex d;rw[m]at a;have C:z.length=16:=by rw[<-m];exact r
      have N:aE (Bh q d=z):=hid (by rw[<-m];unfold Bh;first|rw[if_pos G,hx0,hx1,W,V]|rw[if_neg G]);have M:=hid C;clear m C;go_upto_region 15 with fail;refine bN a [] (λ_ _=>a1) (λ_ _=>emp) (λ_=>[]) (λ|1=>[0]|3=>[0]|_=>[]) (λ_=>[]) [0,1,2] (λo=>?_);refine kW ?_;refine l4 0 c ?_;refine kW ?_;refine l4 0 c ?_;refine bx ?_;refine bQ λx0 a=>?_;go_upto_region 16 with fail;refine cy ?_;refine kG ?_;refine ox a 0 c ?_;refine ag ?_;refine kG ?_;refine ox a 0 c ?_;refine kG ?_;refine ox a 0 c ?_;iterate 3 refine pu ?_
      refine ag ?_;refine an ?_;go_upto_region 17 with fail;refine cy ?_;refine ag ?_;refine kG ?_;refine ox a 0 c ?_;refine pu ?_;refine kG ?_;refine ox a 0 c ?_;refine ag ?_;refine kG ?_;refine ox a 0 c ?_;iterate 3 refine pu ?_
      refine ag ?_;refine an ?_;go_upto_region 18 with fail;refine bN a [3,5,8] (λi _=>match i with|3=>bw (k7 (f[4]?.getD 0) 26)|5=>bw (k7 (f[4]?.getD 0) 21)|8=>bw (k7 (f[4]?.getD 0) 7)|_=>a1) (λ_ _=>emp) (λ_=>[]) (λ|1=>[0]|18=>[1]|_=>[]) (λ_=>[]) [0,1,2,6,8,11] (λo=>?_);refine kW ?_;refine l4 0 c ?_;refine aJ ?_;refine dA (λ_ _ _=>qA _ (-6) 26 _ aS) ?_;refine aJ ?_;refine dA (λ_ _ _=>qA _ (-11) 21 _ aS) ?_;refine iq ?_;refine aJ ?_;refine dA (λ_ _ _=>qA _ (-25) 7 _ aS) ?_;iterate 2 refine iq ?_
      refine aJ ?_;refine iq ?_;refine aJ ?_;refine iq ?_;refine aJ ?_;refine aK (J R (k:Int)) (λ_ _ _=>EG 3 (bj 153) (pX (J R 15)) 3 aa q aa aa ad k ad) ?_;refine kW ?_;refine l4 0 M ?_;refine iq ?_;refine aJ ?_;refine bQ λBw a=>?_;replace a:=a.drop 3;replace a:=a.drop 3;replace a:=a.drop 3;go_upto_region 19 with fail;refine cy ?_;refine ag ?_;refine bH (qA _ (-2) 30 _ aS) a (λBx a=>?_);refine ag ?_;refine bH (qA _ (-13) 19 _ aS) a (λDK a=>?_);refine pu ?_;refine ag ?_;refine bH (qA _ (-22) 10 _ aS) a (λJM a=>?_);refine pu ?_;refine ag ?_;refine pu ?_;refine ag ?_;refine an ?_;go_upto_region 20 with fail;refine bN a [2] (λi _=>match i with|2=>J R 7|_=>a1) (λ_=>λ|2=>aj L (aM bw (Bj f) []) 352|_=>emp) (λ|2=>[0]|_=>[]) (λ_=>[]) (λ_=>[]) [1,2,5] (λo=>?_);refine bx ?_;refine HL (J R 7) (λ_ _ a=>ZD ((f.take 7).map bw) aa aa aa (a.aV 0) (λj v O=>ZE (a.aV 0) c O) (n:=7) (by simp[c.out]) (agb c) aa (by rw[i',c];decide) (λv hv=>by obtain⟨x,_,rfl⟩:=gQ.1 hv;rfl) aa aw) ?_;refine bQ λU0 a=>?_;go_upto_region 21 with fail;refine cy ?_;refine kG ?_;refine ox a 2 (DE c) ?_;refine ag ?_;refine pu ?_;refine kG ?_;refine xJ a 2 (DE c) (λU1 a=>?_);refine an ?_;go_upto_region 22 with fail;refine cy ?_;refine v2 ?_;refine pu ?_;refine kG ?_;refine xJ a 2 (t'.trans (DE c)) (λU2 a=>?_);refine an ?_;go_wp2_with fail;go_roundw;case rel=>exact⟨q+1,ad,by go_num,by rw[wk,Ju,y.1,y.2,N,hx0];exact a.pick [2,0,1]⟩
      case measure=>simp[bR];omega
    .obtain rfl:q=64:=ad;replace a:=a.drop 1;go_upto_region 24 with fail;refine cy ?_;refine zz a 0 c ?_;refine ag ?_;refine Mh ?_;go_loopw [182] (λh wr=>∃q:Nat,q<=8/\h=J R q/\ak w (λb=>b=B) wr [aj B (aM bw (Bq f ws q) [s,J R n]) t]) (λh wr=>8 -(bR h).toNat);case atStart=>exact⟨0,cB _,aa,a.drop 0⟩
     case round=>
      clear a;obtain⟨q,T,rfl,a⟩:=hrel;by_cases hlt:q<8
      .have S:(q:Int)<8:=ad;go_upto_region 26 with fail;refine cy ?_;refine ag ?_;refine aI (bw (f[q]?.getD 0)) (Tx 352 315 8 (bj 181) (bj 182) aa underlying352 aw aw bw f q aa aa hlt c) ?_;refine v2 ?_;refine an ?_;go_upto_region 27 with fail;refine bN a [11] (λ_ _=>a1) (λ_=>λ|11=>aj B (aM bw ((Bq f ws q).set q (a32 ((Bq f ws q)[q]?.getD 0) (f[q]?.getD 0))) [s,J R n]) t|_=>emp) (λ|11=>[0]|_=>[]) (λ|5=>[0]|_=>[]) (λ_=>[]) [12] (λo=>?_);refine hG ?_;refine kW ?_;refine l4 0 (Og u q) ?_;refine aJ ?_;refine iq ?_;refine bx ?_;refine kW ?_;refine RT (Og u q) ?_;refine bQ λU3 a=>?_;go_wp2_with fail;go_roundw;case rel=>exact⟨q+1,ad,by go_num,a⟩
       case measure=>simp[bR];omega
      .obtain rfl:q=8:=ad;refine dM ?_;refine⟨aa,a.only,?_⟩;rw[EH,y.2];exact a.aV 0
end
section
open Go.RowKit Go.MapKept
def af7{t fr}g:∀(b) o (w:aP) cur,w.heap[g]?=ab (bp cur t fr)->
 ∃a,(w.setCells g o b).heap[g]?=ab (bp a t fr)/\a.size=cur.size/\∀j,a[j]?=if o<=j/\j<o+b.length/\j<cur.size then b[j -o]? else cur[j]?
 |[],o,w,cur,h=>⟨cur,h,rfl,λj=>aG⟩
 |v::r,o,w,cur,h=>by
  have h1:(w.setCell ⟨g,o,af⟩ v).heap[g]?=ab (bp (cur.setIfInBounds o v) t fr):=by grind[World.setCell]
  obtain⟨a,c,d,e⟩:=af7 g r (o+1) _ _ h1;refine⟨a,c,aG,λj=>?_⟩;grind
def av.aw1 w(g o)a:av (λk=>k=g) w (w.setCells g o a):=by
 induction a generalizing o w with
 |nil=>exact av.refl _ _
 |cons v r b=>exact(av.setCell (F:=λk=>k=g) w (p:=_) aa v).trans (b _ _) (λ_ _ h=>h)
def e9(N:Nat)(w:aP)(A:Option bT)(n c:Nat)(e:TypeId)(xs:List aO):Prop:=xs.length=n/\((A=af/\n=0/\c=0)\/
 ∃g off cur,A=ab ⟨g,off,af⟩/\N<=g/\aX w g cur e/\n<=c/\c<=eG/\off+c<=cur.size/\∀j,j<n->cur[off+j]?=xs[j]?)
section
variable {F:Nat->Prop} {w w':aP} {N n c e b8 B m:Nat} {A:Option bT} {xs:List aO}
theorem e9.nil N w e:e9 N w af 0 0 e []:=⟨aa,bZ ⟨aa,aa,aa⟩⟩
def e9.only(h:e9 N w A n c e xs)(k:av F w w')(hn:∀b,ej A b->¬F b):e9 N w' A n c e xs:=by
 refine⟨h.1,?_⟩;rcases h.2 with h2|⟨g,off,cur,rfl,hb,hg,r⟩;·grind
 .exact cc ⟨g,_,_,aa,hb,k.heap hg (hn g ⟨_,_,aa⟩),r⟩
def e9.mem(h:e9 N w A n c e xs):Mem N w A e:=λb off f a=>by
 rcases h.2 with⟨rfl,_⟩|⟨g,o,cur,rfl,hb,d,_⟩;·grind
 grind
def e9.lt(h:e9 N w A n c e xs){b}(hb:ej A b):N<=b/\b<w.heap.size:=by obtain⟨off,d,e⟩:=hb;obtain⟨h1,cs,a⟩:=h.mem b off d e;exact⟨h1,aX.lt a⟩
def e9.cap(h:e9 N w A n c e xs):n<=c:=by
 rcases h.2 with⟨_,a,b⟩|⟨_,_,_,_,_,_,d,_⟩;·omega
 .omega
def e9.atX{cs}(h:e9 N w A n c e xs)(hb:aX w B cs b8)(g:b8≠e):¬ej A B:=λ⟨off,b,a⟩=>by obtain⟨_,d,f⟩:=h.mem B off b a;grind
def e9.ofRow(h:Row N w A n c e 1 xs):e9 N w A n c e xs:=by
 refine⟨by simpa using h.1,?_⟩;rcases h.2 with⟨hv,d⟩|⟨g,cap,cur,hv,hb,a,hn,b,i,k⟩;·grind
 .injection hv with h1 h2 h3;subst h3;refine cc ⟨g,0,_,h1,hb,a,hn,b,ad,λj f=>?_⟩;grind
def e9.drop(h:e9 N w A n c e xs){i}(hi:i<=n):e9 N w (fm A c i 1) (n -i) (c -i) e (xs.drop i):=by
 refine⟨by rw[s9,h.1],?_⟩;rcases h.2 with⟨rfl,a,b⟩|⟨g,off,cur,rfl,h1,a,b,f,k,l⟩;·grind[fm]
 .right;by_cases hc:c=i;·exact⟨g,off,cur,by grind[fm],h1,a,ad,ad,ad,λj d=>ad⟩
  .refine⟨g,off+i,cur,by grind[fm,mW],h1,a,ad,ad,ad,λj d=>?_⟩;grind
def e9.nj{bs}(h:e9 N w A bs.length c 5 (bs.map a6)):eU N w A c bs:=by
 refine⟨λi=>?_,h.mem,h.cap⟩;rcases h.2 with⟨_,a,_⟩|⟨g,off,cur,rfl,h1,a,b,d,e,f⟩;·omega
 grind[aX.cell]
end
section
variable {P:ew} (w:aP)
def aws N (t ty e) i z (d:P.underlying t=ab (iE e)) (hi:P.info? e=ab i) (hz:i.zero=ab z) (hsize:i.size=1) (hzs:z.cells.size=1)
 A (n c) xs (df:e9 N w A n c e xs) aL (m c2) news (hr:Cells w 1 aL m news) (h1:∀u∈news,u.oneCell'=az)
 (h63:n+m<=eG) (hbytes:(n+m)*i.bytes<=140737488355328) (d':N<=w.heap.size):
 ∃a f w',(pa #[t,t] ty #[ae A n c,ae aL m c2]).run P w=bf (ae a (n+m) f) w'/\e9 N w' a (n+m) f e (xs++news)/\vs (ej A) w w'/\(∀b,ej a b->ej A b\/w.heap.size<=b):=by
 have hlen:(xs++news).length=n+m:=by rw[db,df.1,hr.1];omega
 rcases l1 m with p|p
 .subst p;have hn:=j8 (by simpa using hr.1);subst hn;refine⟨A,c,w,?_,aG,au.keep (av.refl _ w),λb hb=>bZ hb⟩;have hc:=df.cap;rcases aL with _|o
  .rcases df.2 with⟨rfl,rfl,rfl⟩|⟨g,off,cur,rfl,_⟩;·simp[pa,gO d,mQ,nv,hi,wx,rV]
   .simp[pa,gO d,mQ,nv,hi,wx,rV,hc,storeCells]
  .rcases df.2 with⟨rfl,rfl,rfl⟩|⟨g,off,cur,rfl,_⟩;·simp[pa,gO d,mQ,nv,hi,wx,rV,loadCells,PL]
   .simp[pa,gO d,mQ,nv,hi,wx,rV,loadCells,PL,hc,storeCells]
 .obtain⟨o,rfl,hnews⟩:=hr.2 p;have r:Src P i.size t _ m _ w:=Xe w d o m c2 _ (by rw[hr.1,hsize]) hnews h1
  have grow:c<n+m->(rV i.size n (ae A n c)).run P w.drew=bf xs.toArray w.drew->
   ∃a f w',(pa #[t,t] ty #[ae A n c,ae (ab o) m c2]).run P w=bf (ae a (n+m) f) w'/\e9 N w' a (n+m) f e (xs++news)/\vs (ej A) w w'/\(∀b,ej a b->ej A b\/w.heap.size<=b):=by
   intro hc hold;have hrun:=Xo (P:=P) w t t ty e i z d hi hz A n c xs hold _ m news r hc (by grind[eG]) (KY hc hbytes);have B:=zZ w (n+m) c e;have C:=z1 w _ c e h63;have y:∀D,au w (w.drew.alloc D):=λ_=>au.trans (av.drew _) (av.alloc _ _);refine⟨_,_,_,hrun,⟨hlen,cc ⟨w.heap.size,0,_,aa,d',fO w.drew _,B,C,?_,λj q=>?_⟩⟩,(y _).keep.aeC,λb ⟨_,_,F⟩=>aG⟩;·grind[ns]
   .grind
  rcases df.2 with⟨rfl,rfl,rfl⟩|⟨g,off,cur,rfl,s,h,G,v,H,x⟩;·obtain rfl:=j8 df.1;grind[run_firstCells_none]
  .have hcell:∀(j) u,xs[j]?=ab u->w.cell? _=ab u:=λj u l=>by rw[fH w g _ _ _ _ h,x j (by rw[<-df.1];exact(eM.1 l).1),l]
   by_cases hroom:n+m<=c
   .have hrun:=run_append_room_src (P:=P) w t t ty e i d hi g off n c _ m _ r hroom (λj q=>by rw[fH w g _ _ _ _ h,hsize];have:=hr.1;simp;omega) (λj _=>by grind[World.frozen?]);rw[hsize,Nat.mul_one]at hrun;obtain⟨E,dX,dY,pr⟩:=af7 g news (off+n) w cur h;refine⟨_,_,_,hrun,⟨hlen,cc ⟨g,_,_,rfl,s,dX,hroom,v,ad,λj q=>?_⟩⟩,?_,λb hb=>bZ hb⟩;·have hx:=df.1;grind
    .have k:=vs.aeB (av.aw1 w g _ _) h dX dY;exact⟨k.only.mono (λb _ e=>⟨off,af,by rw[e]⟩),k.shape⟩
   .refine grow ad ?_;rw[hsize];exact K3 _ 1 n _ n c xs (by have:=df.1;omega) (λj u l=>by rw[mW];exact hcell j u l)
end
def ww(A:Option bT)(n c:Nat)(e:TypeId)(xs:List aO):bu:=⟨ej A,λw=>e9 0 w A n c e xs,λw w' h _ d=>
 ⟨d.1,d.2.elim bZ (λ⟨g,off,cur,a,f,b,r⟩=>cc ⟨g,off,cur,a,f,(h g (a▸⟨off,af,aa⟩) (aX.lt b)).trans b,r⟩)⟩⟩
def ayq {P o} {a:b3} {w s x} {t e n c m c2:Nat} {A aL xs news} bytes (ho:o.op=nY {callee:=pb .append,args:=#[s,x],argTypes:=#[t,t]}) (l:a.eval s=ae A n c) (hx:a.eval x=ae aL m c2) (hown:(ww A n c e xs).p w) (hr:Cells w 1 aL m news) (h1:∀u∈news,u.oneCell'=az) (hbytes:(n+m)*bytes<=140737488355328) (hb0:0<bytes) (q:P.underlying t=ab (iE e))
 (lq:(P.info? e).map (λi=>(i.zero.isSome,(i.zero.map (·.cells.size)).getD 0,i.size,i.bytes))=ab (az,1,1,bytes)):
 ∃d f w',(bz a.eval o).run P w=bf (da (ae d (n+m) f)) w'/\Turned w w' (ww A n c e xs) (ww d (n+m) f e (xs++news)):=by
 cases hq:P.info? e with
 |none=>grind
 |some i=>
  rw[hq]at lq;simp only[q6,wZ,pn]at lq;obtain⟨bF,cq,g,h⟩:=lq;obtain⟨z,hz⟩:=Rc.1 bF;rw[hz]at cq;simp only[q6,vB]at cq;subst h;have hle:(n+m)<=(n+m)*i.bytes:=yK _ hb0;obtain⟨d,f,w',hrun,h1,j,k⟩:=aws (P:=P) w 0 t o.type e i z q hq hz g cq A n c xs hown aL m c2 news hr h1 (by grind[eG]) hbytes (cB _);refine⟨d,f,w',?_,j.only,h1,λb hb=>⟨(h1.lt hb).2,k b hb⟩⟩;unfold bz;simp only[ho,n2,n1,qR,gC,kg,jI,pj,kj,lJ,l,hx,hrun]
def LS{bs:List Int}:∀u∈bs.map a6,u.oneCell'=true:=λu a=>by obtain⟨x,_,rfl⟩:=gQ.1 a;rfl
end
open Go.RowKit Go.MapKept
def p9(ws:List Int)(l:List Int):List Int×List Int:=if 64<=l.length then p9 (EH ws (l.take 64)) (l.drop 64)else(ws,l)
termination_by l.length
decreasing_by grind
theorem LL{ws l}(h:64<=l.length):p9 ws l=p9 (EH ws (l.take 64)) (l.drop 64):=by grind[p9]
def LM{ws l}(h:¬64<=l.length):p9 ws l=(ws,l):=by grind[p9]
def YM(ws l)(h:ws.length=8):(p9 ws l).1.length=8/\(p9 ws l).2.length<64/\(p9 ws l).2.length<=l.length:=by
 by_cases h1:64<=l.length;·rw[LL h1];have:=YM (EH ws (l.take 64)) (l.drop 64) (EI h);rw[s9]at this;omega
 .rw[LM h1];exact⟨h,by show l.length<64;omega,b7 _⟩
termination_by l.length
decreasing_by grind
def YL(ws l x):p9 ws (l++x)=p9 (p9 ws l).1 ((p9 ws l).2++x):=by
 by_cases h1:64<=l.length;·rw[LL h1,LL (by rw[db];omega),List.take_append_of_le_length h1,List.drop_append_of_le_length h1];exact YL _ _ _
 .rw[LM h1]
termination_by l.length
decreasing_by grind
def zn:List Int:=[1779033703,3144134277,1013904242,2773480762,1359893119,2600822924,528734635,1541459225]
def jh(msg:List Int):List Int×List Int:=p9 zn msg
def DD msg:(jh msg).1.length=8/\(jh msg).2.length<64/\(jh msg).2.length<=msg.length:=YM _ _ aa
def iS(t B:Nat)(A:Option bT)(msg:List Int):bu:=⟨λb=>b=B\/ej A b,λw=>t≠5/\∃c,aX w B (aM bw (jh msg).1 [ae A (jh msg).2.length c,J R (msg.length:Int)]) t/\e9 0 w A (jh msg).2.length c 5 ((jh msg).2.map a6),λw w' h a ⟨e,c,h1,d⟩=>
 ⟨e,c,(h B (bZ aa) (a B (bZ aa))).trans h1,(ww A _ c 5 _).nG w w' (λb hb=>h b (cc hb)) (λb hb=>a b (cc hb)) d⟩⟩
abbrev iA(B:Nat)(A:Option bT)(msg:List Int):bu:=iS 357 B A msg
def iS.split{aq w FX l t B A msg}(h:ak aq FX w (iS t B A msg::l)):∃c,ak aq FX w (aj B (aM bw (jh msg).1 [ae A (jh msg).2.length c,J R (msg.length:Int)]) t::ww A (jh msg).2.length c 5 ((jh msg).2.map a6)::l):=by obtain⟨d,c,h1,a⟩:=h.at 0;exact⟨c,(h.as 0 aa (both (aj B _ t) (ww A _ c 5 _)) (λ_=>⟨h1,a,λb hb hb2=>e9.atX a h1 d ((show b=B from hb)▸hb2)⟩) (λ_ hb=>hb)).fw⟩
def iS.close{aq w FX l}{t B c:Nat}{A msg}(a:t≠5)(h:ak aq FX w (aj B (aM bw (jh msg).1 [ae A (jh msg).2.length c,J R (msg.length:Int)]) t::ww A (jh msg).2.length c 5 ((jh msg).2.map a6)::l)):ak aq FX w (iS t B A msg::l):=
 h.star.as 0 aa (iS t B A msg) (λh=>⟨a,c,h.1,h.2.1⟩) (λ_ hb=>hb)
def Uw(w:aP)(B:Nat):Nat:=match w.cell? ⟨B,8,af⟩with
 |some (ae _ n _)=>n
 |_=>0
def afz{w B n c A}(h:w.cell? ⟨B,8,af⟩=ab (ae A n c)):Uw w B=n:=by grind[Uw]
def Ts{A c i sz b}(h:ej (fm A c i sz) b):ej A b:=by
 obtain⟨off,d,e⟩:=h;unfold fm at e;split at e;·exact⟨_,d,e⟩
 .cases A with
  |none=>grind
  |some a=>
   simp at e;obtain⟨kk,f,g⟩:=a;have:kk=b:=by grind[u']
   subst this;exact⟨_,_,aa⟩
def take_at(B t)(A aL)c2(msg bs)w(I:msg.length+bs.length<=70368744177664)(hst:Has w (iS t B A msg))(hb:bX w aL bs)(hne:∀b off,aL=ab ⟨b,off,af⟩->¬(iS t B A msg).cU b):
 aC ax 241 #[ay (ab ⟨B,0,af⟩),ae aL bs.length c2] w λe w'=>e=aB (bo #[])/\∃D,Turned w w' (iS t B A msg) (iS t B D (msg++bs)):=by
 have C:=hst.1.1;obtain⟨b0,o⟩:=iS.split (ak.start hst);have hlen:=DD msg;obtain⟨ws,s⟩:=ex (jh msg).1;obtain⟨rs,r⟩:=ex (jh msg).2;rw[s,r]at o hlen;have v:=hid (And.intro s r);have m:=hid hlen;have E:=hid hb;have N:=hid I;obtain⟨u,z⟩:=ex (msg++bs).length;have S:msg.length+bs.length=u:=aG;have F:=hid z;clear z hb s r hst;go_enter func241,ntmps241;have a:=o;clear o;go_step;refine ah ?_;refine v3 ?_;refine pl a 0 9 ?_ (hv:=td (k:=1) m.1 aa);refine v2 ?_;refine pad _ _ (u:Int) ?_;refine v2 ?_;refine bb a 0 (J _ _) (λw1 a=>?_) (hk:=LI m.1 (of_decide_eq_true aa)) (hc:=LK (k:=1) m.1);refine an ?_;go_step;refine ah ?_;refine v4 ?_;refine pl a 0 8 ?_ (hv:=td (k:=0) m.1 aa);refine ag ?_;refine ae0 a 1 (ayq 1 aa aa aa (a.at 1) (bX.cells (E.out.only a.only hne)) LS ad aS dK ba) (λM P T a=>?_);refine v2 ?_;refine bb a 0 (ae _ _ _) (λU a=>?_) (hk:=LI m.1 (of_decide_eq_true aa)) (hc:=LK (k:=0) m.1);refine an ?_;rw[<-db,<-fR]at a;have y:p9 ws (rs++bs)=jh (msg++bs):=by rw[<-v.1,<-v.2];exact(YL _ _ bs).symm
 have O:=hid y;clear y;go_wp2_with fail;go_loopw [] (λwr=>∃(n l:List Int) (f:Option bT) (d:Nat),aE (n.length=8/\p9 n l=jh (msg++bs))/\ak w (iS t B A msg).cU wr [aj B (aM bw (n) [ae f l.length d,J R (u:Int)]) t,ww f l.length d 5 (l.map a6)]) (λwr=>Uw wr B);case atStart=>grind
 case round=>
  clear a;obtain⟨n,l,f,d,x,a⟩:=hrel;have g:=hid x.1;have Q:=e9.cap (a.at (t:=_) 1);by_cases p:64<=l.length
  .have G:(64:Int)<=(l.length:Int):=ad;have K:=afz (aX.cell (a.aV 0) 8 (td (k:=0) g aa));go_step;refine ah ?_;refine v3 ?_;refine pl a 0 8 ?_ (hv:=td (k:=0) g aa);refine ag ?_;refine a7 (ai az) ?_;refine an ?_;go_step;refine ah ?_;refine v4 ?_;refine pl a 0 8 ?_ (hv:=td (k:=0) g aa);refine aI (ae f 64 d) (rF 22 5 1 (bj 32) (pX (J R 64)) aa dK ba f _ d 64 aa aa ad) ?_;refine aR (anc B t n _ _ f d (l.take 64) _ C g aG (bX.Gl (e9.nj (a.at (t:=_) 1)).1 p) (λoff L e=>a.ne (i:=0) (j:=1) aa aa aS B aa ⟨_,L,e⟩) (a.aV 0)) ?_;rintro e V ⟨rfl,H,hb⟩;replace a:=a.eQ 0 (vE H hb);refine aT ?_;refine an ?_;go_step;refine ah ?_;refine v4 ?_;refine pl a 0 8 ?_ (hv:=td (k:=0) (EI g) aa);refine aI (ae (fm f d 64 1) (l.length -64) (d -64)) (UK 22 5 1 (bj 39) (pX (J R 64)) aa dK ba f _ d 64 aa aa ad ad) ?_;refine v2 ?_;refine bb a 0 (ae _ _ _) (λW a=>?_) (hk:=LI (EI g) (of_decide_eq_true aa)) (hc:=LK (k:=0) (EI g));refine an ?_;go_wp2_with fail;go_roundw
   case rel=>
    replace a:=a.as 1 aa (ww _ _ _ 5 _) (λh=>by have q:=e9.drop h p;rwa [<-s9,<-List.map_drop]at q) (λb hb=>Ts hb);grind[hid,EI,LL]
   case measure=>rw[afz (aX.cell (a.aV 0) 8 (td (k:=0) (EI g) aa)),K];omega
  .have G:¬(64:Int)<=(l.length:Int):=ad;go_step;refine ah ?_;refine v3 ?_;refine pl a 0 8 ?_ (hv:=td (k:=0) g aa);refine ag ?_;refine a7 (ai ao) ?_;refine an ?_;go_wp2_with fail;first|go_end0|refine bodyPost_ret (results_none rfl _ _ _) rfl ?_
   have hz:=x.2;rw[LM p]at hz;refine⟨aa,f,ak.gu (iS.close (l:=[]) C (msg:=_) (c:=d) ?_) 0⟩;rw[<-hz,F];exact a
def asx:zn.length=8:=rfl
def aw2:jh []=(zn,[]):=by rw[jh,LM aS]
def asp w:
 aC ax 240 #[] w λe w'=>e=aB (ar (aM bw zn [ae af 0 0,J R 0]))/\au w w':=by
 go_enter func240,ntmps240;have a:=a8 w;go_step;refine ah ?_;refine bn a (aM bw (ea 8 0) _) (λb w1 a=>?_);refine ah ?_;refine pk (ar (aM bw zn [])) ?_;refine pk (ar (aM bw zn [ae af 0 0,J R 0])) ?_;refine NU a 0 (lI ..) asx (λc a=>?_);refine an ?_;go_wp2_with fail;refine c8 (v:=ar (aM bw zn [ae af 0 0,J R 0])) (gH aa _ _ _ _ _ _ _ aa (a.aV 0) WR aa ba) aa (⟨aa,a.only⟩)
def A8 w:
 aC ax 162 #[] w λe w'=>∃B,e=aB (ay (ab ⟨B,0,af⟩))/\cj w w' (iA B af []):=by
 go_enter func162,ntmps162;have a:=a8 w;go_step;refine ah ?_;refine ed ?_;refine bH (asp _) a (λw1 a=>?_);refine pk (ar (aM bw zn [ae af 0 0,J R 0])) ?_;refine bL a (ar _) (λd f a=>?_);refine Kk ?_;exact⟨d,aa,(iS.close (t:=357) (msg:=[]) (A:=af) (c:=0) (l:=[]) aS (by rw[aw2];exact((a.as 0 aa (both (aj d (aM bw zn [ae af 0 0,J R 0]) 357) (ww af 0 0 5 [])) (λh=>⟨h,e9.nil _ _ _,λ_ _ ⟨_,_,h⟩=>aG⟩) (λb hb=>hb.elim id (λ⟨_,_,h⟩=>aG))).fw))).fresh 0⟩
def aod(B t)A msg w(x:msg.length<=70368744177664)(hst:(iS t B A msg).p w):
 aC ax 242 #[ay (ab ⟨B,0,af⟩)] w λe w'=>∃m o,e=aB (ar (aM bw (jh msg).1 [ae m (jh msg).2.length o,J R (msg.length:Int)]))/\cj w w' (ww m (jh msg).2.length o 5 ((jh msg).2.map a6)):=by
 obtain⟨y,b0,j,l⟩:=hst;have hlen:=DD msg;obtain⟨ws,i⟩:=ex (jh msg).1;obtain⟨rs,c⟩:=ex (jh msg).2;rw[i,c]at j hlen;rw[c]at l;have u:=hid (And.intro i c);have b:=hid hlen;have q:=hid (e9.nj l).1;have n:=hid j;rw[i,c];clear i c hlen l j;go_enter func242,ntmps242;have a:=a8 w;go_step;refine ah ?_;refine bn a (aM bw (ea 8 0) _) (λr w1 a=>?_);refine gW ?_;refine aI (ar (aM bw ws [ae A rs.length b0,J R (msg.length:Int)])) (atc 354 (bj 5) aa B aa (av.heap a.only n.out (λh=>h)) WR aa (by rw[i',b.1];rfl)) ?_;refine bn a (aM bw (ea 8 0) _) (λs z a=>?_);refine NU a 0 (lI ..) b.1 (λC a=>?_);refine jk ?_;refine aI (ae A rs.length b0) (fM aa aa (av.heap a.only n.out (λh=>h)) (td (k:=0) b.out.1 aa) aw) ?_;refine aR (w6 A b0 rs _ (q.out.aH a.only) (by have:=b.out;omega)) ?_;rintro e D ⟨d,f,rfl,hrow,g⟩;replace a:=a.lz g hrow;refine aT ?_;refine ag ?_;refine bb a 1 (ae d _ f) (λE a=>?_) (hk:=LI b.1 (of_decide_eq_true aa)) (hc:=LK (k:=0) b.1);refine ah ?_;refine bh a 1 (aM bw ws [ae d rs.length f,J R (msg.length:Int)]) ?_ (hv:=(e4 _)) (hk:=by omega) (hz:=(by rw[i',b.1];rfl));refine NU a 2 (lI ..) b.1 (λF a=>?_);refine an ?_;go_wp2_with fail;refine c8 (v:=_) (gH aa _ _ _ _ _ _ _ aa (a.aV 2) WR aa (by rw[i',b.1];rfl)) aa (⟨d,f,aa,(a.as 0 aa (ww d _ f 5 _) e9.ofRow (λ_ h=>h)).fresh 0⟩)
def xz(n i:Nat):Int:=dR.wrap ((n:Int).fdiv (2^(8*i)))
def Ub(a:Nat):Nat:=(119 -a)%64
def vK(n:Nat)(r:Nat):List Int:=(dU (8 -r)).map (λj=>xz n (7 -j))
def apv{n i}(h:i<8):vK n i=vK n (i+1)++[xz n i]:=by unfold vK;rw[show 8 -i=(8 -(i+1))+1 by omega,ta,fR,kj,lJ,show 7 -(8 -(i+1))=i by omega]
def sh(msg:List Int):List Int:=128::(ea (Ub (jh msg).2.length) 0++vK (msg.length*8) 0)
def apu msg:(sh msg).length=1+Ub (jh msg).2.length+8:=by grind[sh,vK]
def uS(W:List Int)(i:Nat):Int:=dR.wrap ((W[i/4]?.getD 0).fdiv (2^(24 -i%4*8)))
def zx(W:List Int):Nat->List Int
 |0=>ea 32 0
 |i+1=>(zx W i).set i (uS W i)
def F1 W:∀q,(zx W q).length=32
 |0=>lI ..
 |q+1=>by rw[zx,t'];exact F1 W q
def im(msg:List Int):List Int:=zx (jh (msg++sh msg)).1 32
theorem tk msg:(im msg).length=32:=F1 _ _
def finish_at(B t)A msg w(hm:msg.length<=35184372088832)(hst:Has w (iS t B A msg)):
 aC ax 243 #[ay (ab ⟨B,0,af⟩)] w λe w'=>e=aB (ar (aM a6 (im msg) []))/\Turned w w' (iS t B A msg) emp:=by
 have ht:=hst.1.1;obtain⟨b0,E⟩:=iS.split (ak.start hst);have hlen:=DD msg;obtain⟨ws,M⟩:=ex (jh msg).1;obtain⟨rs,s⟩:=ex (jh msg).2;rw[M,s]at E hlen;obtain⟨f,G⟩:=ex (Ub rs.length);have arh:(119 -rs.length)%64=f:=G;have aBr:f<64:=ad;obtain⟨d,H⟩:=ex msg.length;have uE:d<=35184372088832:=ad;have L:=apu msg;rw[s,G]at L;have Q:sh msg=128::(ea f 0++vK (d*8) 0):=by rw[sh,s,G,H]
 have D:=hid (And.intro M (And.intro s H));have N:=hid hlen;have aBM:=hlen.2.1;have C:=hid (And.intro L Q);rw[H]at E;clear M s hlen H L Q G hst;go_enter func243,ntmps243;have a:=E;clear E;go_upto_region 0 with fail;refine cy ?_;refine bn a (aM a6 (ea 32 0) []) (λI w1 a=>?_);refine an ?_;have ar6:aF.wrap (d:Int)=(d:Int):=by simp[D1,KF,D0];omega
 have ar4:aF.wrap ((d:Int)*8)=((d*8:Nat):Int):=by simp[D1,KF,D0];omega
 go_upto_region 1 with fail;refine cy ?_;refine v3 ?_;refine pl a 1 9 ?_ (hv:=td (k:=1) N.1 aa);refine aI (J aF (d:Int)) (by(show _=_;go_simp;try rw[ar6])) ?_;refine aI (J aF ((d*8:Nat):Int)) (by(show _=_;go_simp;try rw[ar4])) ?_;refine pk (J aF ((d*8:Nat):Int)) ?_;refine an ?_;go_upto_region 2 with fail;refine cy ?_;refine e' a #[J dR 128] 5 (λe0 aU a=>?_);refine v3 ?_;refine pl a 2 8 ?_ (hv:=td (k:=0) N.1 aa);refine ag ?_;refine j0 119 (rs.length:Int) ((119 -rs.length:Nat):Int) ?_;refine aI (J R ((f:Nat):Int)) (Ay 3 (bj 20) (pX (J R 64)) 3 aa (119 -rs.length) 64 f aa aa aS arh ad) ?_;replace a:=a.u1 0 1 1 1 [a6 128] aa (b7 _) aS aa;refine ae0 a 0 (amU 1 R (a6 0) aa aa aa (a.atR 0) ad aS dK jH aw aa) (λX w5 bI a=>?_);have dM:[a6 128]++ea f (a6 0)=(128::(ea f 0++vK (d*8) 8)).map a6:=by simp[vK]
 rw[dM]at a;clear dM;refine ag ?_;refine an ?_;go_upto_region 3 with fail;refine cy ?_;refine ag ?_;refine an ?_;go_wp2_with fail;go_loopw [4,5] (λev n wr=>∃(r z:Nat) (x:Int) (h:Option bT) (p:Nat),(r<=8/\z+r=8/\x+1=(r:Int))/\n=J R x/\ev=ae h (1+f+z) p/\ak w (iS t B A msg).cU wr [bg h (1+f+z) p 5 1 ((128::(ea f 0++vK (d*8) r)).map a6),aj I (aM a6 (ea 32 0) []) 23,aj B (aM bw (ws) [ae A rs.length b0,J R (d:Int)]) t,ww A rs.length b0 5 (rs.map a6)]) (λ_ n _=>(bR n+1).toNat);case atStart=>exact⟨8,0,7,X,w5,ad,aa,aa,a⟩
 case round=>
  clear a;obtain⟨r,z,x,h,p,⟨M0,adv,aq4⟩,rfl,rfl,a⟩:=hrel;obtain rfl|⟨i,rfl⟩:r=0\/∃i,r=i+1:=by cases r;exact bZ aa;exact cc ⟨_,aa⟩
  .obtain rfl:x=-1:=ad;obtain rfl:z=8:=ad;replace a:=iS.close (msg:=msg) (c:=b0) ht (l:=[bg h (sh msg).length p 5 1 ((sh msg).map a6),aj I (aM a6 (ea 32 0) []) 23]) (by rw[D.out.1,D.out.2.1,D.out.2.2,C.out.1,C.out.2];exact a.pick [2,3,0,1]);have ez:aE (∀W,Has W (iS t B A msg)->bX W h (sh msg)->(∀b off,h=ab ⟨b,off,af⟩->¬(iS t B A msg).cU b)->aC ax 241 #[ay (ab ⟨B,0,af⟩),ae h (1+f+8) p] W λe w'=>e=aB (bo #[])/\∃U,Turned W w' (iS t B A msg) (iS t B U (msg++sh msg))):=hid (λW h1 h2 h3=>by rw[<-C.1];exact take_at B t A h p msg (sh msg) W (by have:=C.1;have:=D.2.2;omega) h1 h2 h3);go_upto_region 7 with fail;refine cy ?_;refine v2 ?_;refine aR (ez _ (a.has 0) (Row.nj (a.atR 1)).1 (λb off e=>a.ne (i:=1) (j:=0) aa aa aS b ⟨off,af,e⟩)) ?_;rintro e b9 ⟨rfl,Y,bP⟩;replace a:=a.eQ 0 bP;refine aT ?_;refine an ?_;obtain⟨mx,K⟩:=iS.split a;obtain⟨g,F⟩:=ex (jh (msg++sh msg)).1;have P:g.length=8:=by rw[<-F];exact(DD _).1
   rw[F]at K;replace a:=K.pk [0,3];have alu:=hid P;have alv:=hid F;clear P F K;obtain⟨amg,O⟩:=ex (ae Y (jh (msg++sh msg)).2.length mx);obtain⟨n9,S⟩:=ex (J R ((msg++sh msg).length:Int));rw[O,S]at a;clear O S;go_upto_region 8 with fail;refine cy ?_;refine bn a (aM a6 (zx g 0) []) (λZ cE a=>?_);refine an ?_;go_upto_region 9 with fail;refine cy ?_;refine ag ?_;refine an ?_;go_wp2_with fail;go_loopw [38] (λn wr=>∃q:Nat,q<=32/\n=J R q/\ak w (iS t B A msg).cU wr [aj Z (aM a6 (zx g q) []) 23,aj B (aM bw (g) [amg,n9]) t,aj I (aM a6 (ea 32 0) []) 23]) (λn wr=>32 -(bR n).toNat);case atStart=>exact⟨0,ad,aa,a⟩
   case round=>
    clear a;obtain⟨q,hq,rfl,a⟩:=hrel;by_cases hlt:q<32
    .have cf:(q:Int)<32:=ad;obtain⟨hR,T⟩:=ex (q/4);have aBX:hR<8:=ad;obtain⟨o,hr4⟩:=ex (q%4);have aBL:o<4:=ad;obtain⟨y,IP⟩:=ex (24 -o*8);have arS:y<=32:=ad;go_upto_region 11 with fail;refine cy ?_;refine v2 ?_;refine an ?_;go_upto_region 12 with fail;refine cy ?_;refine v3 ?_;refine aI (J R (hR:Int)) (te 3 (bj 43) (pX (J R 4)) 3 aa q 4 hR aa aa aS T ad) ?_;refine v2 ?_;refine kG ?_;refine ox a 1 alu ?_;refine ag ?_;refine aI (J R (o:Int)) (Ay 3 (bj 49) (pX (J R 4)) 3 aa q 4 o aa aa aS hr4 ad) ?_;refine Bd (o:Int) 8 ((o*8:Nat):Int) ?_;refine j0 24 ((o*8:Nat):Int) (y:Int) ?_;refine aI (bw ((g[hR]?.getD 0).fdiv (2^y))) (yR 315 (bj 48) (bj 52) 3 aa wA R _ y aa aa arS) ?_;refine pk (a6 (dR.wrap ((g[hR]?.getD 0).fdiv (2^y)))) ?_;refine kG ?_;refine xJ a 0 (F1 ..) (λcV a=>?_);refine an ?_;go_wp2_with fail;go_roundw;case rel=>exact⟨q+1,ad,by go_num,by rw[zx,uS,T,hr4,IP];exact a.pick [0,1,2]⟩
     case measure=>simp[bR];omega
    .have aqT:im msg=zx g q:=by rw[im,alv,show q=32 by omega]
     have cf:¬((q:Int)<32):=ad;go_upto_region 14 with fail;refine cy ?_;refine zz a 0 (F1 ..) ?_;refine pH a 2 (lI ..) (F1 ..) (λdJ a=>?_);refine an ?_;go_wp2_with fail;refine c8 (v:=ar (aM a6 (zx g q) [])) (gH aa _ _ _ _ _ _ _ aa (a.aV 2) sW aa (by rw[i',(F1 ..)];rfl)) aa (⟨by first|rfl|rw[aqT],a.dM.gu 0⟩)
  .obtain rfl:x=(i:Int):=ad;have SJ:8*i<=64:=ad;go_upto_region 6 with fail;refine cy ?_;refine v3 ?_;refine Bd 8 (i:Int) ((8*i:Nat):Int) ?_;refine aI (J aF (((d*8:Nat):Int).fdiv (2^(8*i)))) (yR 42 (bj 28) (bj 30) 3 aa aF R _ (8*i) aa aa SJ) ?_;refine pk (a6 (xz (d*8) i)) ?_;refine e' a #[a6 (xz (d*8) i)] 5 (λhJ dB a=>?_);refine kd (m:=1) a 1 1 (aX.cellsOf (m:=1) (a.aV 0) aa) (by intro u hu;rw[ua.1 hu];rfl) (λV Hz eZ a=>?_);refine ag ?_;refine an ?_;go_upto_region 5 with fail;refine cy ?_;refine ag ?_;refine j0 (i:Int) 1 ((i:Int) -1) ?_;refine ag ?_;refine an ?_;go_wp2_with fail;go_roundw;case rel=>exact⟨i,z+1,(i:Int) -1,V,Hz,ad,by go_num,aa,by rw[apv ad,show(128::(ea f 0++(vK (d*8) (i+1)++[xz (d*8) i]))).map a6=((128::(ea f 0++vK (d*8) (i+1))).map a6++([a6 (xz (d*8) i)])) by simp];exact a.pick [1,2,3,4]⟩
   case measure=>simp[bR]<;>omega
attribute [irreducible] im sh
theorem axF(B t)A msg w(l:msg.length<=35184372088832)(hst:(iS t B A msg).p w)(c:∀b,(iS t B A msg).cU b->b<w.heap.size):
 aC ax 164 #[ay (ab ⟨B,0,af⟩)] w λe w'=>e=aB (ar (aM a6 (im msg) []))/\au w w':=by
 have i:=hid (λW (g:au w W)=>bu.only _ hst c g (λ_ _ h=>h));clear hst c;go_enter func164,ntmps164;have a:=a8 w;go_step;refine ah ?_;refine bn a (aM a6 (ea 32 0) []) (λm w1 a=>?_);refine ah ?_;refine v2 ?_;refine jk ?_;refine aR (aod B t A msg _ ad (i.out _ a.only)) ?_;rintro e o ⟨d,n,rfl,k⟩;replace a:=a.new _ k;refine aT ?_;refine bn a (aM bw (ea 8 0) _) (λf q a=>?_);refine NU a 0 (lI ..) (DD _).1 (λr a=>?_);refine an ?_;replace a:=iS.close (t:=_) aS a;refine ah ?_;refine aR (finish_at f 354 d msg _ l (a.has 0)) ?_;rintro e s ⟨rfl,j⟩;replace a:=a.eQ 0 j;refine aT ?_;refine pH a 1 (lI ..) (tk _) (λu a=>?_);refine an ?_;go_wp2_with fail;refine c8 (v:=_) (gH aa _ _ _ _ _ _ _ aa (a.aV 1) sW aa (by rw[i',(tk _)];rfl)) aa (⟨aa,a.only⟩)
theorem iS.low{w t B A msg}(h:(iS t B A msg).p w):∀b,(iS t B A msg).cU b->b<w.heap.size:=λb hb=>by
 obtain⟨_,c,h1,a⟩:=h;rcases hb with rfl|hb;·grind
 .exact(e9.lt a hb).2
def zH B A msg w(a:msg.length<=35184372088832)(h:(iA B A msg).p w):
 aC ax 164 #[ay (ab ⟨B,0,af⟩)] w λe w'=>e=aB (ar (aM a6 (im msg) []))/\au w w':=by grind[axF,iS.low]
def ag9(B o l D)(A aL)c2(msg bs)w(F:msg.length+bs.length<=70368744177664)(hst:Has w (iA B A msg))(hcell:w.cell? ⟨o,l,af⟩=ab (ae aL bs.length c2))(hb:bX w aL bs)(hne:∀b off,aL=ab ⟨b,off,af⟩->¬(iA B A msg).cU b):
 aC ax 163 #[ay (ab ⟨B,0,af⟩),ae (ab ⟨o,l,af⟩) 1 D] w λe w'=>∃d,e=aB (J R (bs.length:Int))/\Turned w w' (iA B A msg) (iA B d (msg++bs)):=by
 have v:=hid hcell;have s:=hid hb;have z:=hid hne;obtain⟨f,p⟩:=ex ((msg.length:Int));have L:0<=f/\f<=70368744177664:=ad;obtain⟨I,r⟩:=ex (((msg++bs).length:Int));have cd:I -f=(bs.length:Int):=aG;have C:=hid r;have y:=hid p;clear hcell hb hne r p;go_enter func163,ntmps163;have a:=ak.start hst;go_upto_region 0 with fail;refine cy ?_;refine ag ?_;refine ah ?_;refine eg ?_;obtain⟨_,b0,c,_⟩:=a.at (t:=iS 357 B _ _) 0;rw[y]at c;refine o8 ?_;refine aI (J R f) (fM aa aa c (td (k:=1) (DD msg).1 aa) aw) ?_;refine bU ?_;clear c;refine ah ?_;refine v3 ?_;refine an ?_;go_wp2_with fail;go_loopw [17] (λi wr=>∃(q:Nat) (d:Option bT) (j:List Int),q<=1/\i=J R q/\aE (q=0/\d=A/\j=msg/\wr=w\/q=1/\j=msg++bs)/\ak w (iA B A msg).cU wr [iA B d j]) (λi _=>1 -(bR i).toNat);case atStart=>grind[hid]
 case round=>
  clear a;obtain⟨q,m,H,M,rfl,n,a⟩:=hrel;by_cases hlt:q<1
  .have G:(q:Int)<1:=ad;obtain⟨rfl,rfl,rfl,g⟩:=n.out.resolve_right (λh=>ad);have x:=hid (g.symm▸v.out);have u:=hid (g.symm▸s.out);clear g;go_upto_region 6 with fail;refine cy ?_;refine aI _ (b4 193 22 1 _ _ aa Tryz.underlying193 aw _ _ _ _ _ l aa aa aS ad) ?_;refine aI _ (mc aa aa x aw) ?_;refine zP ?_;refine aR (take_at B 357 m aL c2 H bs _ F (a.has 0) u.out z.out) ?_;rintro e w1 ⟨rfl,K,E⟩;replace a:=a.eQ 0 E;refine x4 ?_;go_wp2_with fail;go_roundw;case rel=>grind[hid]
   case measure=>grind[bR]
  .have G:¬(q:Int)<1:=ad;obtain⟨rfl,rfl⟩:=n.out.resolve_left (λh=>ad);obtain⟨_,b0,c,_⟩:=a.at (t:=iS 357 B _ _) 0;rw[C]at c;go_upto_region 9 with fail;refine cy ?_;refine v4 ?_;refine aI _ (fM aa aa c (td (k:=1) (DD _).1 aa) aw) ?_;refine ag ?_;refine aI _ (ra 3 _ _ 3 aa _ _ _ aa aa cd ad ad) ?_;refine bU ?_;go_wp2_with fail;go_ret;exact⟨aa,m,a.gu 0⟩
def Vc(B a c d)(A aL)c2(msg bs)w(g:msg.length+bs.length<=70368744177664)(hst:Has w (iA B A msg))(hcell:w.cell? ⟨a,c,af⟩=ab (ae aL bs.length c2))(hb:bX w aL bs)(hne:∀b,ej aL b->¬(iA B A msg).cU b):
 aC ax 163 #[ay (ab ⟨B,0,af⟩),ae (ab ⟨a,c,af⟩) 1 d] w λe w'=>∃f,e=aB (J R (bs.length:Int))/\Turned w w' (iA B A msg) (iA B f (msg++bs)):=ag9 B a c d A aL c2 msg bs w g hst hcell hb λb off e=>hne b ⟨off,af,e⟩
def aga(c d g)aL c2 bs w(p:bs.length<=35184372088832)(hcell:w.cell? ⟨c,d,af⟩=ab (ae aL bs.length c2))(hb:bX w aL bs)(i:∀b off,aL=ab ⟨b,off,af⟩->b<w.heap.size):
 aC ax 76 #[ae (ab ⟨c,d,af⟩) 1 g] w λe w'=>e=aB (ar (aM a6 (im bs) []))/\au w w':=by
 have l:=hid hb;have m:=hid hcell;have k:=hid i;have hl2:=p;clear hcell hb i;go_enter func76,ntmps76;have a:=a8 w;go_step;refine ah ?_;refine bn a (aM a6 (ea 32 0) []) (λq w1 a=>?_);refine ah ?_;refine aR (A8 _) ?_;rintro e s ⟨f,rfl,o⟩;replace a:=a.new _ o;refine aT ?_;refine kf ?_;refine aR (ag9 f c d g af aL c2 [] bs _ aG (a.has 0) (a.only.cell m.out (λh=>h)) (l.out.aH a.only) (λb off e h=>(a.low _ (s' ..) _ h).2.elim (λr=>absurd (k.out b off e) ad) id)) ?_;rintro e t ⟨j,rfl,n⟩;replace a:=a.eQ 0 n;refine aT ?_;refine b5 ?_;refine bH (zH f j bs _ ad (a.at 0)) a (λu a=>?_);refine pH a 1 (lI ..) (tk bs) (λx a=>?_);refine an ?_;go_wp2_with fail;refine c8 (v:=_) (gH aa _ _ _ _ _ _ _ aa (a.aV 1) sW aa (by rw[i',(tk bs)];rfl)) aa (⟨aa,a.only⟩)
section
section
variable {P:ew} {o:cT} {a:b3} {w:aP}
def agk (t e sz:Nat) (x hi b) (ho:o.op=.slice t x af (ab hi) (ab b)) (d:P.underlying t=ab (iE e)) (f:(P.info? e).map (·.size)=ab sz) A (n c q m:Nat)
 (hx:a.eval x=ae A n c) (zc:a.eval hi=J R (q:Int)) (hmx:a.eval b=J R (m:Int)) (h1:q<=m) (h2:m<=c):
 (bz a.eval o).run P w=bf (da (ae A q m)) w:=by
 cases hq:P.info? e with
 |none=>grind
 |some g=>
  unfold bz;simp[ho,hx,zc,hmx,Instr.sliceAt,Instr.slice,Instr.sliceBounds,Instr.sliceBound,asIntOf,gC,gO d,mQ,nv,hq,h1,h2];intro _;cases A<;>simp[u']
def awq w N (t ty e) i z (d:P.underlying t=ab (iE e)) (hi:P.info? e=ab i) (hz:i.zero=ab z) (hsize:i.size=1) (hzs:z.cells.size=1)
 A n xs (hx:Cells w 1 A n xs) aL (m c2) news (hr:Cells w 1 aL m news) (h1:∀u∈news,u.oneCell'=az) (hm:0<m)
 (h63:n+m<=eG) (hbytes:(n+m)*i.bytes<=140737488355328) (d':N<=w.heap.size):
 ∃B c w',(pa #[t,t] ty #[ae A n n,ae aL m c2]).run P w=bf (ae (ab ⟨B,0,af⟩) (n+m) c) w'/\Row N w' (ab ⟨B,0,af⟩) (n+m) c e 1 (xs++news)/\au w w'/\w.heap.size<=B:=by
 have hlx:=by simpa using hx.1
 have j:=by simpa using hr.1
 obtain⟨a,rfl,hnews⟩:=hr.2 hm;have h:Src P i.size t (ae (ab a) m c2) m news w:=Xe w d a m c2 news aG hnews h1
 have hold:(rV i.size n (ae A n n)).run P w.drew=bf xs.toArray w.drew:=by
  rw[hsize];rcases l1 n with b|b
  .subst b;obtain rfl:=j8 hlx;cases A with
   |none=>rfl
   |some a=>rfl
  .obtain⟨a,rfl,hc⟩:=hx.2 b;exact K3 _ 1 n a n n xs ad hc
 have hrun:=Xo (P:=P) w t t ty e i z d hi hz A n n xs hold _ m news h ad (by grind[eG]) (KY ad hbytes);have f:=zZ w (n+m) n e;have g:=z1 w _ n e h63;refine⟨_,_,_,hrun,⟨aG,cc ⟨_,_,_,aa,d',fO _ _,f,g,?_,?_⟩⟩,au.trans (av.drew _) (av.alloc _ _),b7 _⟩;·grind[ns]
 .grind
def amD {s x} {t e n m c2:Nat} {A aL xs news} bytes (ho:o.op=nY {callee:=pb .append,args:=#[s,x],argTypes:=#[t,t]}) (j:a.eval s=ae A n n) (hx:a.eval x=ae aL m c2) (hown:Cells w 1 A n xs) (hr:Cells w 1 aL m news) (h1:∀u∈news,u.oneCell'=az) (h:0<m) (hbytes:(n+m)*bytes<=140737488355328) (hb0:0<bytes) (k:P.underlying t=ab (iE e))
 (lq:(P.info? e).map (λi=>(i.zero.isSome,(i.zero.map (·.cells.size)).getD 0,i.size,i.bytes))=ab (az,1,1,bytes)):
 ∃c b w',(bz a.eval o).run P w=bf (da (ae c (n+m) b)) w'/\cj w w' (bg c (n+m) b e 1 (xs++news)):=by
 cases hq:P.info? e with
 |none=>grind
 |some i=>
  rw[hq]at lq;simp only[q6,wZ,pn]at lq;obtain⟨bF,cq,d,f⟩:=lq;obtain⟨z,hz⟩:=Rc.1 bF;rw[hz]at cq;simp only[q6,vB]at cq;subst f;have hle:(n+m)<=(n+m)*i.bytes:=yK _ hb0;obtain⟨B,b,w',hrun,h1,g,l⟩:=awq (P:=P) w w.heap.size t o.type e i z k hq hz d cq A n xs hown aL m c2 news hr h1 h (by grind[eG]) hbytes (b7 _);refine⟨_,b,w',?_,cj.aeA g h1⟩;unfold bz;simp only[ho,n2,n1,qR,gC,kg,jI,pj,kj,lJ,j,hx,hrun]
def auS {ops:Array cT} {rest:List cT} {Q:Exit->b3->aP->Prop} {aq:aP} {FX:Nat->Prop} {l:List bu} {d:Option bT->Nat->b3} {b:Option bT->Nat->aO} {t:Option bT->Nat->bu} (e:ak aq FX w l) (hr:∃A c w',(bz a.eval o).run P w=bf (da (b A c)) w'/\cj w w' (t A c)) (h:∀A c w',ak aq FX w' (t A c::l)->cQ P ops Q rest (d A c) w')
 (hw:c7 o (yielded ops a.tmps)=true:=by kernel_rfl) (ha:∀A c,a.put o.dst (b A c)=d A c:=by(intro _ _;(try simp only[Act.put,List.setIfInBounds_toArray,List.set_cons_zero,List.set_cons_succ]);rfl)):cQ P ops Q (o::rest) a w:=by
 obtain⟨A,c,w',h1,f⟩:=hr;refine wpList_step λK g=>?_;rw[if_pos hw];unfold Oper.wp;rw[h1];show K _ _;rw[ha];exact g _ _ (h A c w' (e.new _ f))
def asA(t e sz m:Nat)(x c)g(ho:o.op=D2 t x c)(f:P.underlying t=ab (vd m e))(n:(P.info? e).map (·.size)=ab sz)(b off i k:Nat)(hx:a.eval x=ay (ab ⟨b,off,af⟩))(hi:a.eval c=J g (i:Int))(h:i<m)(hk:off+i*sz=k):
 (bz a.eval o).run P w=bf (da (ay (ab ⟨b,k,af⟩))) w:=by
 cases hq:P.info? e with
 |none=>grind
 |some j=>
  have hsz:j.size=sz:=aG;subst hk;have d:(⟨b,off,_⟩:bT).add (i*sz)=⟨b,_,_⟩:=Addr.add_mid _ _ _;unfold bz;simp[ho,hx,hi,Instr.indexAt,Instr.sureAddr,asIntOf,gC,gO f,mQ,nv,hq,hsz,d];intro l;omega
def aeY {ops:Array cT} {rest:List cT} {Q:Exit->b3->aP->Prop} {d:b3} (h:cQ P ops Q rest d w) {f:IntKind} {t e m b i:Nat} {x c:Operand} (ho:o.op=D2 t x c:=by rfl) (k:P.underlying t=ab (vd m e):=by rfl) (j:(P.info? e).map (·.size)=ab 1:=by kernel_rfl) (hx:a.eval x=ay (ab ⟨b,0,af⟩):=by rfl) (hi:a.eval c=J f (i:Int):=by rfl) (g:i<m:=by omega) (l:c7 o (yielded ops a.tmps)=true:=by kernel_rfl)
 (ha:a.put o.dst (ay (ab ⟨b,i,af⟩))=d:=by((try simp only[Act.put,List.setIfInBounds_toArray,List.set_cons_zero,List.set_cons_succ]);rfl)):cQ P ops Q (o::rest) a w:=ag h l (asA t e 1 m x c f ho k j b 0 i i hx hi g ad) ha
end
end
def aem(x:Int):Int:=wA.wrap (0 -x)
def A9(x:Int):Int:=h9 4294967295 x
def Ds(x:Int):Nat:=(mM 32 x&&& mM 32 15).toNat
theorem TY x:Ds x<16:=by grind[Ds,Nat.and_le_right]
def ael x:n32 x 15=((Ds x:Nat):Int):=by grind[TY,n32,Ds,D1,D0]
def aog(x:Int):Int:=h9 (jg x 1) (n32 3988292384 (aem (n32 x 1)))
def CC(x:Int):Nat->Int
 |0=>x
 |i+1=>aog (CC x i)
def zJ:Nat->List Int
 |0=>ea 16 0
 |i+1=>(zJ i).set i (CC (gy (i:Int)) 4)
def UR:∀q,(zJ q).length=16
 |0=>lI ..
 |q+1=>by rw[zJ,t'];exact UR q
def AA:List Int:=zJ 16
def EO:AA.length=16:=UR 16
def aoh{q}(h:q=16):zJ q=AA:=by rw[h];rfl
attribute [irreducible] AA
def axJ w:
 aC ax 357 #[] w λe w'=>e=aB (ar (aM bw AA []))/\au w w':=by
 go_enter func357,ntmps357;have a:=a8 w;go_upto_region 0 with fail;refine cy ?_;refine bn a (aM bw (ea 16 0) []) (λd w1 a=>?_);refine ah ?_;refine bn a (aM bw (zJ 0) []) (λf r a=>?_);refine ah ?_;refine ag ?_;refine an ?_;go_wp2_with fail;go_loopw [4] (λb wr=>∃q:Nat,q<=16/\b=J R q/\ak w (λ_=>False) wr [aj f (aM bw (zJ q) []) 434,aj d (aM bw (ea 16 0) []) 434]) (λb wr=>16 -(bR b).toNat);case atStart=>grind
 case round=>
  clear a;obtain⟨q,o,rfl,a⟩:=hrel;by_cases hlt:q<16
  .have l:(q:Int)<16:=ad;go_upto_region 4 with fail;refine cy ?_;refine DN ?_;refine pk (bw (gy (q:Int))) ?_;refine ag ?_;refine ah ?_;refine ag ?_;refine an ?_;go_wp2_with fail;go_loopw [3,9] (λh c wr=>∃j:Nat,j<=4/\c=J R j/\aE (h=bw (CC (gy (q:Int)) j))/\ak w (λ_=>False) wr [aj f (aM bw (zJ q) []) 434,aj d (aM bw (ea 16 0) []) 434]) (λh c wr=>4 -(bR c).toNat);case atStart=>exact⟨0,ad,aa,hid aa,a⟩
   case round=>
    clear a;obtain⟨j,m,rfl,i,a⟩:=hrel;obtain rfl:=i.out;by_cases n:j<4
    .have k:(j:Int)<4:=ad;go_upto_region 8 with fail;refine cy ?_;refine ag ?_;refine pk (bw (jg (CC (gy (q:Int)) j) 1)) ?_;refine ag ?_;refine pu ?_;refine pk (bw (aem (n32 (CC (gy (q:Int)) j) 1))) ?_;iterate 2 refine pu ?_
     refine ed ?_;refine pad (j:Int) 1 ((j+1:Nat):Int) ?_;refine bU ?_;go_wp2_with fail;go_roundw;case rel=>exact⟨j+1,ad,aa,hid aa,a⟩
     case measure=>simp[bR]<;>omega
    .have k:¬(j:Int)<4:=ad;obtain⟨hR,g⟩:=ex (CC (gy (q:Int)) j);have p:CC (gy (q:Int)) 4=hR:=by rw[<-g,show j=4 by omega]
     rw[g];go_upto_region 10 with fail;refine cy ?_;refine v2 ?_;refine kG ?_;refine xJ a 0 (UR ..) (λs a=>?_);refine an ?_;go_wp2_with fail;go_roundw;case rel=>exact⟨q+1,ad,by go_num,by grind[zJ]⟩
     case measure=>grind[bR]
  .have l:¬(q:Int)<16:=ad;rw[aoh (show q=16 by omega)]at a;go_upto_region 12 with fail;refine cy ?_;refine zz a 0 EO ?_;refine pH a 1 (lI ..) EO (λt a=>?_);refine an ?_;go_wp2_with fail;refine c8 (v:=_) (gH aa _ _ _ _ _ _ _ aa (a.aV 1) underlying434 aa (by rw[i',EO];rfl)) aa (⟨aa,a.only⟩)
def L5(r:Int):Int:=h9 (jg r 4) (AA[Ds r]?.getD 0)
def ZK(r c:Int):Int:=L5 (L5 (h9 r (gy c)))
def L6(r:Int)(bs:List Int):Nat->Int
 |0=>r
 |i+1=>ZK (L6 r bs i) (bs[i]?.getD 0)
def RQ(s:Int)(bs:List Int):Int:=A9 (L6 (A9 s) bs bs.length)
def HI(bs:List Int):Int:=RQ 0 bs
def apP s(o i C)aL c2 bs w(O:bs.length<=35184372088832)(hcell:w.cell? ⟨o,i,af⟩=ab (ae aL bs.length c2))(hb:bX w aL bs):
 aC ax 323 #[bw s,ae (ab ⟨o,i,af⟩) 1 C] w λe w'=>e=aB (bw (RQ s bs))/\au w w':=by
 have z:=hid hb;have l:=hid hcell;obtain⟨hC,hbl⟩:=ex bs.length;have I:hC<=35184372088832:=ad;rw[hbl]at l;have d:=hid hbl;clear hcell hb hbl;go_enter func323,ntmps323;have a:=a8 w;go_upto_region 0 with fail;refine cy ?_;refine ed ?_;refine bH (axJ _) a (λw1 a=>?_);refine bn a (aM bw (ea 16 0) []) (λk Q a=>?_);refine pH a 0 (lI ..) EO (λS a=>?_);refine b5 ?_;refine pk (bw (A9 s)) ?_;refine ag ?_;refine ah ?_;refine v3 ?_;refine an ?_;go_wp2_with fail;go_loopw [6,16] (λv f wr=>∃q:Nat,q<=1/\f=J R q/\∃r,v=bw r/\aE (q=0/\r=A9 s\/q=1/\A9 r=RQ s bs)/\ak w (λ_=>False) wr [aj k (aM bw (AA) []) 434]) (λv f wr=>1 -(bR f).toNat);case atStart=>grind[hid]
 case round=>
  clear a;obtain⟨q,P,rfl,r,rfl,m,a⟩:=hrel;by_cases hlt:q<1
  .have F:(q:Int)<1:=ad;obtain⟨rfl,t⟩:=m.out.resolve_right (λh=>ad);have B:=hid t;clear t;go_upto_region 5 with fail;refine cy ?_;refine aI _ (b4 _ 22 1 _ _ aa Tryz.underlying193 aw _ _ _ _ _ i aa aa aS ad) ?_;refine NY l a.only ?_;refine ag ?_;refine ah ?_;refine v3 ?_;refine an ?_;go_wp2_with fail;go_loopw [6,22] (λx g wr=>∃j:Nat,j<=hC/\g=J R j/\∃b,x=bw b/\aE (b=L6 r bs j)/\ak w (λ_=>False) wr [aj k (aM bw (AA) []) 434]) (λx g wr=>hC -(bR g).toNat);case atStart=>exact⟨0,ad,aa,_,aa,hid aa,a⟩
   case round=>
    clear a;obtain⟨j,N,rfl,b,rfl,n,a⟩:=hrel;by_cases p:j<hC
    .have E:(j:Int)<(hC:Int):=ad;obtain⟨H,G,rfl,D⟩:=z (by rw[d];omega);obtain⟨c,hc⟩:=ex (bs[j]?.getD 0);have y:=D j (by rw[d];exact p);rw[hc]at y;have A:=hid hc;clear hc;go_upto_region 8 with fail;refine cy ?_;refine aI _ (b4 22 5 1 _ _ aa dK aw _ _ _ _ _ ((G+j)) aa aa p ad) ?_;refine NY y a.only ?_;refine kf ?_;refine pk (bw (gy c)) ?_;refine pu ?_;refine bU ?_;obtain⟨cX,hx1⟩:=ex (Ds (h9 b (gy c)));have K:cX<16:=by rw[<-hx1];exact TY _
     refine b5 ?_;refine pk (bw (jg (h9 b (gy c)) 4)) ?_;refine ag ?_;refine aI (J wA (cX:Int)) (by(rw[<-hx1,<-ael];show _=_;kernel_rfl)) ?_;refine aeY ?_;refine ox a 0 EO ?_;refine pu ?_;refine bU ?_;obtain⟨u,hr2⟩:=ex (h9 (jg (h9 b (gy c)) 4) (AA[cX]?.getD 0));rw[hr2];obtain⟨bk,hx2⟩:=ex (Ds u);have L:bk<16:=by rw[<-hx2];exact TY _
     refine b5 ?_;refine pk (bw (jg u 4)) ?_;refine ag ?_;refine aI (J wA (bk:Int)) (by(rw[<-hx2,<-ael];show _=_;kernel_rfl)) ?_;refine aeY ?_;refine ox a 0 EO ?_;refine pu ?_;refine ed ?_;refine pad (j:Int) 1 ((j+1:Nat):Int) ?_;refine bU ?_;go_wp2_with fail;go_roundw;case rel=>exact⟨j+1,ad,aa,_,aa,hid (by rw[L6,ZK,A,<-n,L5,L5,hx1,hr2,hx2]),a⟩
     case measure=>simp[bR]<;>omega
    .have E:¬(j:Int)<(hC:Int):=ad;go_upto_region 13 with fail;refine cy ?_;refine pad 0 1 ((1:Nat):Int) ?_;refine bU ?_;go_wp2_with fail;go_roundw;case rel=>exact⟨1,ad,aa,_,aa,hid (cc ⟨aa,by rw[n,show j=bs.length by rw[d];omega,B];rfl⟩),a⟩
     case measure=>simp[bR]<;>omega
  .have F:¬(q:Int)<1:=ad;have M:=(m.out.resolve_left (λh=>ad)).2;go_upto_region 14 with fail;refine cy ?_;refine ag ?_;refine pk (bw (A9 r)) ?_;refine bU ?_;go_wp2_with fail;go_ret;exact⟨ba,a.only⟩
def ZL(b c d)aL c2 bs w(f:bs.length<=35184372088832)(hcell:w.cell? ⟨b,c,af⟩=ab (ae aL bs.length c2))(hb:bX w aL bs):
 aC ax 284 #[ae (ab ⟨b,c,af⟩) 1 d] w λe w'=>e=aB (bw (HI bs))/\au w w':=by
 go_enter func284,ntmps284;have a:=a8 w;go_step;refine ah ?_;refine cA ?_;refine bH (apP 0 b c d aL c2 bs _ f hcell hb) a (λw1 a=>?_);refine bU ?_;go_wp2_with fail;go_ret;exact⟨aa,a.only⟩
def yT(s:Int)(i:Nat):Int:=dR.wrap (s.fdiv (2^(8*i)))
def anp s:yT s 0=dR.wrap s:=by simp[yT]
def L7(s:Int):List Int:=[yT s 0,yT s 1,yT s 2,yT s 3]
def Bi(bs:List Int):List Int:=bs++L7 (HI bs)
def af0 bs:(Bi bs).length=bs.length+4:=by simp[Bi,L7]
def awT A c bs w(o:bs.length<=17592186044416)(hc:bs.length<=c)(hb:bX w A bs):
 aC ax 325 #[ae A bs.length c] w λe w'=>∃d g,e=aB (ae d (Bi bs).length g)/\eU w.heap.size w' d g (Bi bs)/\au w w':=by
 have f:=hid hb;obtain⟨s,b⟩:=ex (HI bs);have i:=hid b;have uy:=hid (ZL (bs:=bs));rw[b]at uy;clear b hb;go_enter func325,ntmps325;have a:=a8 w;go_step;refine ah ?_;refine cA ?_;refine e' a #[ae A bs.length c] 22 (λl w1 a=>?_);refine bH (uy _ 0 1 A c _ ad ((a.aV 0).cell 0 aa) (f.out.aH a.only)) a (λp a=>?_);refine ag ?_;refine ah ?_;refine v5 ?_;refine aI _ (agk 22 5 1 _ _ _ aa dK aw A _ c _ _ aa aa aa (b7 _) hc) ?_;refine ag ?_;refine pk (a6 (dR.wrap s)) ?_;refine ag ?_;refine pk (bw (jg s 8)) ?_;refine pk (a6 (dR.wrap (jg s 8))) ?_;refine ag ?_;refine pk (bw (jg s 16)) ?_;refine pk (a6 (dR.wrap (jg s 16))) ?_;refine ag ?_;refine pk (bw (jg s 24)) ?_;refine pk (a6 (dR.wrap (jg s 24))) ?_;refine e' a #[a6 (dR.wrap s),a6 (dR.wrap (jg s 8)),a6 (dR.wrap (jg s 16)),a6 (dR.wrap (jg s 24))] 5 (λsQ q a=>?_);refine auS a (amD 1 aa aa aa (bX.cells (f.out.aH a.only)) (aX.cellsOf (m:=4) (a.aV 0) aa) (by intro u h;simp at h;rcases h with rfl|rfl|rfl|rfl<;>rfl) aS ad aS dK aw) (λk n r a=>?_);refine bU ?_;go_wp2_with fail;go_ret;have j:bs.map a6++[a6 (dR.wrap s),a6 (dR.wrap (jg s 8)),a6 (dR.wrap (jg s 16)),a6 (dR.wrap (jg s 24))]=(Bi bs).map a6:=by rw[Bi,i,L7,anp,fR];rfl
 rw[j,<-af0]at a;exact⟨_,_,by rw[af0];rfl,Row.nj (a.fresh 0).row,a.only⟩
def tv(bs:List Int):Option (List Int):=if 4<=bs.length/\∀i,i<4->bs[bs.length -4+i]?.getD 0=yT (HI (bs.take (bs.length -4))) i then ab (bs.take (bs.length -4))else af
def auk A c bs w(U:bs.length<=17592186044416)(hc:bs.length<=c)(hb:bX w A bs):
 aC ax 213 #[ae A bs.length c] w λe w'=>(∃d t B,tv bs=ab d/\e=aB (bo #[ae t d.length B,ai az])/\eU w.heap.size w' t B d/\au w w')\/(tv bs=af/\e=aB (bo #[ae af 0 0,ai ao])/\au w w'):=by
 have I:=hid hb;by_cases N:4<=bs.length
 .obtain⟨n,hn⟩:∃n,bs.length=n+4:=⟨bs.length -4,ad⟩;obtain⟨g,f,rfl,D⟩:=hb ad;have K:=hid D;have x:=hid hn;have T:n+4<=c:=ad;have Y:fm (ab ⟨g,f,af⟩) c n 1=ab ⟨g,f+n,af⟩:=by grind[fm,mW]
  have F:(bs.take n).length=n:=aG;have y:=hid (bX.Gl I (show n<=bs.length by omega));have l:=hid F;obtain⟨s,p⟩:=ex (HI (bs.take n));have z:=hid p;have uy:aE (∀o W,W.cell? ⟨o,0,af⟩=ab (ae (ab ⟨g,f,af⟩) n c)->bX W (ab ⟨g,f,af⟩) (bs.take n)->aC ax 284 _ W λe w'=>e=aB (bw s)/\au W w'):=hid (λo W h1 k=>by rw[<-p];exact ZL o 0 1 _ c _ W ad aG k);rw[hn];clear D p hb F;go_enter Tryz.func213,Tryz.ntmps213;have a:=a8 w;go_upto_region 0 with fail;refine cy ?_;refine v2 ?_;refine gW ?_;refine j0 ((n+4:Nat):Int) 4 ((n:Nat):Int) ?_;refine ag ?_;refine ah ?_;refine v2 ?_;refine gW ?_;refine aI (ae (ab ⟨g,f,af⟩) n c) (rF 22 5 1 (bj 13) (bj 14) aa dK aw (ab ⟨g,f,af⟩) (n+4) c n aa aa ad) ?_;refine e' a #[ae (ab ⟨g,f,af⟩) n c] 22 (λQ w1 a=>?_);refine bH (uy.out _ _ ((a.aV 0).cell 0 aa) (y.out.aH a.only)) a (λZ a=>?_);refine bU ?_;have P:ae (ab ⟨g,(f+n),af⟩) 4 (c -n)=ae (fm (ab ⟨g,f,af⟩) c n 1) ((n+4) -n) (c -n):=aG;refine gW ?_;refine aI (ae (ab ⟨g,(f+n),af⟩) 4 (c -n)) (by(rw[P];exact UK 22 5 1 _ _ aa dK aw _ _ c n aa aa ad ad)) ?_;refine eg ?_;have L:=a.only;go_wp2_with fail;go_loopw [22] (λr wr=>∃q:Nat,q<=4/\r=J R q/\aE (∀i,i<q->bs[n+i]?.getD 0=yT s i)/\ak w (λ_=>False) wr []) (λr wr=>4 -(bR r).toNat);case atStart=>exact⟨0,ad,aa,hid (λi hi=>absurd hi ad),a.drop 0⟩
  case round=>
   clear a L;obtain⟨q,X,rfl,u,a⟩:=hrel;by_cases hlt:q<4
   .have V:(q:Int)<4:=ad;have G:=K (n+q) ad;obtain⟨b,hb⟩:=ex (bs[n+q]?.getD 0);rw[hb,<-Nat.add_assoc]at G;have v:=hid hb;clear hb;obtain⟨d,E⟩:=ex (yT s q);have j:=hid E;have C:8*q<=32:=ad;clear E;go_upto_region 7 with fail;refine cy ?_;refine ag ?_;refine aI _ (b4 22 5 1 _ _ aa dK aw _ _ 4 _ _ ((f+n+q)) aa aa hlt ad) ?_;refine NY G a.only ?_;refine eg ?_;by_cases iK:b=d
    .subst iK;refine jk ?_;refine Bd 8 (q:Int) ((8*q:Nat):Int) ?_;refine aI (bw _) (yR _ _ _ 3 aa _ _ _ _ aa aa C) ?_;refine aI (a6 b) (by(rw[<-j];show _=_;kernel_rfl)) ?_;refine ed ?_;refine pad (q:Int) 1 ((q+1:Nat):Int) ?_;refine bU ?_;go_wp2_with fail;go_roundw;case rel=>exact⟨q+1,ad,aa,hid (λi hi=>by rcases Nat.lt_succ_iff_lt_or_eq.1 hi with h|rfl;exact u i h;rw[v];exact j.out.symm),a⟩
     case measure=>grind[bR]
    .have O:=iK;refine jk ?_;refine Bd 8 (q:Int) ((8*q:Nat):Int) ?_;refine aI (bw _) (yR _ _ _ 3 aa _ _ _ _ aa aa C) ?_;refine aI (a6 d) (by(rw[<-j];show _=_;kernel_rfl)) ?_;refine ag ?_;refine ah ?_;refine eg ?_;go_wp2_with fail;go_ret2;refine cc ⟨?_,aa,a.only⟩;refine if_neg (λh=>O ?_);have k:=h.2 q hlt;rw[x,show n+4 -4=n by omega,z,v]at k;rw[k,j]
   .obtain rfl:q=4:=ad;go_upto_region 11 with fail;refine cy ?_;refine v2 ?_;refine aI _ (rF 22 5 1 _ _ aa dK aw _ _ c n aa aa ad) ?_;replace a:=a.new (bg _ 0 0 5 1 []) (cj.aeA (av.refl _ _) (Row.nil _ _ _ _));refine kd (m:=n) a 0 1 (by have q:=bX.cells (y.out.aH a.only);rw[l.out]at q;exact q) LS (λH M bI a=>?_) (hby:=by omega);refine eg ?_;go_wp2_with fail;go_ret2;refine bZ ⟨_,H,M,?_,by rw[l];simp,Row.nj (by rw[l];have q:=(a.fresh 0).row;simpa using q),a.only⟩;unfold tv;rw[x,show n+4 -4=n by omega,z];exact if_pos ⟨ad,u⟩
 .have S:((bs.length:Nat):Int) -4<0:=ad;go_enter Tryz.func213,Tryz.ntmps213;have a:=a8 w;go_upto_region 0 with fail;refine cy ?_;refine v2 ?_;refine gW ?_;refine j0 (bs.length:Int) 4 ((bs.length:Int) -4) ?_;refine ag ?_;refine ah ?_;refine v2 ?_;refine ah ?_;refine eg ?_;go_wp2_with fail;go_ret2;exact cc ⟨if_neg (λh=>N h.1),aa,a.only⟩
def aw4{v s:Nat}(h:v<2^s)(b:1<=s):((v:Int).fdiv (2^(s -1))).fdiv (2^1)=0:=by
 have bF:(v:Int).fdiv (2^(s -1))=((v/2^(s -1):Nat):Int):=aG;rw[bF,show((2:Int)^1)=((2:Nat):Int) by rfl];have cq:((v/2^(s -1):Nat):Int).fdiv ((2:Nat):Int)=((v/2^(s -1)/2:Nat):Int):=aG;rw[cq,Nat.div_div_eq_div_mul];have a:2^(s -1)*2=2^s:=by rw[<-Nat.pow_succ];congr 1;omega
 rw[a,Nat.div_eq_of_lt h];rfl
def y3(f:Nat×Nat):Prop:=(f.2=1\/f.2=4\/f.2=8)/\f.1<2^(8*f.2)
def ap4 f(h:y3 f)w:
 aC ax 205 #[ar #[J aF (f.1:Int),J R (f.2:Int)]] w λe w'=>e=aB (ai az)/\au w w':=by
 obtain⟨v,s⟩:=f;obtain⟨rfl|rfl|rfl,hv⟩:=h
 all_goals
  dsimp only at hv⊢;have hz:=aw4 hv aS;clear hv;go_enter func205,ntmps205;have a:=a8 w;go_step;refine ah ?_;refine bL a _ (λde w1 a=>?_);refine cA ?_;refine pl a 0 1 ?_;refine v3 ?_;refine pl a 0 1 ?_;refine v4 ?_;refine pl a 0 0 ?_;refine ag ?_;refine pl a 0 1 ?_;refine v2 ?_;refine aI _ (yR _ _ _ _ aa aF R _ _ aa aa aS) ?_;refine aI (J aF 0) (by(rw[<-hz];show _=_;kernel_rfl)) ?_;refine v3 ?_;refine an ?_;go_wp2_with fail;go_ret;exact⟨aa,a.only⟩
def r8(v s r:Nat):List Int:=(dU (s -r)).map (λj=>xz v (s -1 -j))
def amY{v s i}(h:i<s):r8 v s i=r8 v s (i+1)++[xz v i]:=by unfold r8;rw[show s -i=(s -(i+1))+1 by omega,ta,fR,kj,lJ,show s -1 -(s -(i+1))=i by omega]
theorem Y9(v s r):(r8 v s r).length=s -r:=by simp[r8]
def ja(fs:List (Nat×Nat)):List Int:=fs.flatMap (λf=>r8 f.1 f.2 0)
def amG fs f:ja (fs++[f])=ja fs++r8 f.1 f.2 0:=by simp[ja]
def amE{fs}(h:∀f∈fs,y3 f):(ja fs).length<=fs.length*8:=by
 induction fs with
 |nil=>simp[ja]
 |cons f l b=>
  have h1:=b (λg a=>h g (List.mem_cons_of_mem _ a));have c:=(h f (s' ..)).1;grind[ja,Y9]
def ag0 A c bs(p C jb)fs w(W:bs.length<=8796093022208/\fs.length<=1048576)(hb:bX w A bs)(Z:∀f∈fs,y3 f)(I:∀i f,fs[i]?=ab f->w.cell? ⟨p,C+i*2,af⟩=ab (J aF (f.1:Int))/\w.cell? ⟨p,C+i*2+1,af⟩=ab (J R (f.2:Int))):
 aC ax 126 #[ae A bs.length c,ae (ab ⟨p,C,af⟩) fs.length jb] w λe w'=>∃D H,e=aB (bo #[ae D (bs++ja fs).length H,ai az])/\Row w.heap.size w' D (bs++ja fs).length H 5 1 ((bs++ja fs).map a6)/\au w w':=by
 have O:=hid hb;have P:=hid I;have F:=hid Z;have cO:=hid W;clear hb I;go_enter func126,ntmps126;have a:=a8 w;go_upto_region 0 with fail;refine cy ?_;refine DN ?_;refine aR (w6 A c bs _ (O.out.aH a.only) ad) ?_;rintro e w1 ⟨ahy,anj,rfl,hrow,g⟩;replace a:=a.lz g hrow;refine aT ?_;refine ag ?_;refine ah ?_;refine v3 ?_;refine an ?_;go_wp2_with fail;go_loopw [6,14] (λev y wr=>∃(q L:Nat) (b:Option bT) (d:Nat),q<=fs.length/\y=J R q/\ev=ae b L d/\aE (L=(bs++ja (fs.take q)).length)/\ak w (λ_=>False) wr [bg b L d 5 1 ((bs++ja (fs.take q)).map a6)]) (λev y wr=>fs.length -(bR y).toNat);case atStart=>exact⟨0,_,_,_,ad,aa,aa,hid (by simp[ja]),by grind[ja]⟩
 case round=>
  clear a;obtain⟨q,L,b,d,hq,rfl,rfl,o,a⟩:=hrel;have aAV:L<=8796093022208+8388608:=by have U:=amE (fs:=fs.take q) (λf j=>F f (List.mem_of_mem_take j));rw[List.length_take]at U;rw[o,db];omega
  by_cases hlt:q<fs.length
  .have X:(q:Int)<(fs.length:Int):=ad;obtain⟨⟨v,s⟩,j⟩:∃f,fs[q]?=ab f:=⟨_,cF hlt⟩;obtain⟨M,N⟩:=P q (v,s) j;have n:=F _ (cW j);have Q:=hid (ap4 _ n);have v7:s<=8:=by have:=n.1;simp only at this;omega
   have hs1:1<=s:=by have:=n.1;simp only at this;omega
   have T:=hid j;have G:=hid (And.intro M N);clear j n M N;go_upto_region 4 with fail;refine cy ?_;refine aI _ (b4 _ _ 2 _ _ aa underlying229 aw _ _ _ _ q _ aa aa hlt aa) ?_;refine aI _ (adZ _ aa aa (a.only.cell G.1 (λh=>h)) (a.only.cell G.2 (λh=>h)) underlying227 aa aw) ?_;refine bn a #[J _ 0,J _ 0] (λE aU a=>?_);refine bb a 0 (ar _) (λbI a=>?_);refine ah ?_;refine bh a 0 #[J aF (v:Int),J R (s:Int)] ?_;refine bH (Q _) a (λb9 a=>?_);refine cA ?_;refine pl a 0 1 ?_;refine j0 _ 1 ((s:Int) -1) ?_;refine bU ?_;replace a:=a.pk [1,0];replace a:ak w (λ_=>False) b9 [bg b (L+0) d 5 1 (((bs++ja (fs.take q))++r8 v s s).map a6),aj E #[J aF (v:Int),J R (s:Int)] 227]:=by simpa [r8]using a
   go_wp2_with fail;go_loopw [6,9] (λev B wr=>∃(r z:Nat) (k:Int) (Y:Option bT) (l:Nat),(r<=s/\z+r=s/\k+1=(r:Int))/\B=J R k/\ev=ae Y (L+z) l/\ak w (λ_=>False) wr [bg Y (L+z) l 5 1 (((bs++ja (fs.take q))++r8 v s r).map a6),aj E #[J aF (v:Int),J R (s:Int)] 227]) (λev B wr=>(bR B+1).toNat);case atStart=>exact⟨s,0,_,b,d,ad,aa,aa,a⟩
   case round=>
    clear a;obtain⟨r,z,k,Y,l,⟨M0,adv,aq4⟩,rfl,rfl,a⟩:=hrel;obtain rfl|⟨i,rfl⟩:r=0\/∃i,r=i+1:=by cases r;exact bZ aa;exact cc ⟨_,aa⟩
    .obtain rfl:k=-1:=ad;obtain rfl:z=s:=ad;go_upto_region 11 with fail;refine cy ?_;refine pad _ 1 ((q+1:Nat):Int) ?_;refine bU ?_;go_wp2_with fail;have uK:fs.take (q+1)=fs.take q++[(v,z)]:=by rw[gx,T];rfl
     have hap:bs++ja (fs.take (q+1))=bs++ja (fs.take q)++r8 v z 0:=by rw[uK,amG,kQ]
     go_roundw;case rel=>exact⟨q+1,_,Y,l,ad,aa,aa,hid (by rw[hap,db,Y9,<-o];omega),by rw[hap];exact a.drop 1⟩
     case measure=>simp[bR]<;>omega
    .obtain rfl:k=(i:Int):=ad;have V:8*i<=64:=ad;go_upto_region 10 with fail;refine cy ?_;refine v2 ?_;refine pl a 1 0 ?_;refine ag ?_;refine Bd 8 _ ((8*i:Nat):Int) ?_;refine aI _ (yR 42 _ _ 3 aa _ _ _ _ aa aa V) ?_;refine pk (a6 (xz v i)) ?_;refine e' a #[a6 (xz v i)] 5 (λhJ cE a=>?_);refine kd (m:=1) a 1 1 (aX.cellsOf (m:=1) (a.aV 0) aa) (by intro u hu;rw[ua.1 hu];rfl) (λVq Zj cV a=>?_);refine cA ?_;refine j0 (i:Int) 1 ((i:Int) -1) ?_;refine bU ?_;go_wp2_with fail;go_roundw;case rel=>exact⟨i,z+1,_,_,_,ad,aa,aa,by rw[amY ad,<-kQ,fR];exact a.pick [1,2]⟩
     case measure=>simp[bR]<;>omega
  .have X:¬(q:Int)<(fs.length:Int):=ad;have K:fs.take q=fs:=ub ad;have x:=o.out;rw[K]at x;have S:=hid x;rw[K]at a;clear x;go_upto_region 12 with fail;refine cy ?_;refine v3 ?_;refine an ?_;go_wp2_with fail;go_ret2;have t:=S.out;rw[db]at t;exact⟨b,d,by rw[<-t];rfl,by rw[<-t,<-fR];exact(a.fresh 0).row,a.only⟩
structure Rd where
 bs:List Int
 p:Nat
 bt:Int
 dn:Int
def lU(A:Option bT)(c:Nat)(r:Rd):Array Value:=#[ae A r.bs.length c,J R (r.p:Int),J R r.bt,J R r.dn]
def xG(x c:Int):Int:=aF.wrap ((mM 64 (aF.wrap (x*2^8))|||BitVec.ofInt 64 (aF.wrap c)).toNat:Int)
def na(r:Rd)(k a:Int):Rd:=if r.bt=0/\¬k=0 then{r with bt:=k,dn:=a}else r
def atL A c bs w(l:bs.length<=140737488355328)(hb:bX w A bs):
 aC ax 134 #[ae A bs.length c] w λe w'=>∃B b d,e=aB (ay (ab ⟨B,0,af⟩))/\w.heap.size<=B/\aX w' B (lU b d ⟨bs,0,0,0⟩) 333/\eU w.heap.size w' b d bs/\¬ej b B/\au w w':=by
 go_enter func134,ntmps134;have a:=a8 w;go_step;refine ah ?_;refine cA ?_;refine aR (w6 A c bs _ (hb.aH a.only) l) ?_;rintro e w1 ⟨f,k,rfl,hrow,g⟩;replace a:=a.lz g hrow;refine aT ?_;refine v2 ?_;refine bL a (ar _) (λm n a=>?_);refine bU ?_;go_wp2_with fail;go_ret;exact⟨_,f,k,aa,(a.fresh 0).2.2 _ aa|>.1,a.aV 0,Row.nj (a.fresh 1).row,λh=>a.ne (i:=1) (j:=0) aa aa aS _ h aa,a.only⟩
def at3 w:
 aC ax 219 #[] w λe w'=>∃B,e=aB (dS (eu 286) #[] #[ay (ab ⟨B,0,af⟩)])/\w.heap.size<=B/\aX w' B #[J aF 0] 42/\au w w':=by
 go_enter func219,ntmps219;have a:=a8 w;go_step;refine ah ?_;refine ed ?_;refine bn a #[J aF 0] (λb w1 a=>?_);refine bb a 0 (J _ 0) (λc a=>?_);refine ah ?_;refine eg ?_;go_wp2_with fail;go_ret;exact⟨_,aa,(a.fresh 0).2.2 _ aa|>.1,a.aV 0,a.only⟩
def at2 B(x c)w(hx:aX w B #[J aF x] 42):
 aC ax 286 #[J dR c,ay (ab ⟨B,0,af⟩)] w λe w'=>e=aB (J aF (xG x c))/\av (λb=>b=B) w w'/\aX w' B #[J aF (xG x c)] 42:=by
 go_enter func286,ntmps286;have a:=ak.start (t:=aj B _ 42) ⟨hx,λb e=>(show b=B from e)▸aX.lt hx⟩;go_step;refine ah ?_;refine ed ?_;refine pl a 0 0 ?_;refine pk (J aF (aF.wrap (x*2^8))) ?_;refine ag ?_;refine pk (J aF (aF.wrap c)) ?_;refine pk (J aF (xG x c)) ?_;refine bb a 0 (J _ _) (λw1 a=>?_);refine ah ?_;refine pl a 0 0 ?_;refine bU ?_;go_wp2_with fail;go_ret;exact⟨aa,a.only,a.aV 0⟩
def avS(B t:Nat)A c r(g a)w(f:aX w B (lU A c r) t):
 aC ax 283 #[ay (ab ⟨B,0,af⟩),J R g,J R a] w λe w'=>e=aB (bo #[])/\av (λb=>b=B) w w'/\aX w' B (lU A c (na r g a)) t:=by
 obtain⟨bs,p,bt,dn⟩:=r;have d:=ak.start (t:=aj B #[ae A bs.length c,J _ (p:Int),J _ bt,J _ dn] t) ⟨f,λb e=>(show b=B from e)▸aX.lt f⟩;clear f;by_cases i:bt=0
 .subst i;by_cases k:g=0
  .subst k;go_enter Wa,Wz;go_step;refine ah ?_;refine v4 ?_;refine pl d 0 2 ?_;refine pk (ai az) ?_;refine v2 ?_;refine pk (ai ao) ?_;refine bU ?_;go_wp2_with fail;first|go_end0|refine bodyPost_ret (results_none rfl _ _ _) rfl ?_
   exact⟨aa,d.only,by rw[na,if_neg bc];exact d.aV 0⟩
  .have l:=k;go_enter Wa,Wz;go_step;refine ah ?_;refine v4 ?_;refine pl d 0 2 ?_;refine pk (ai az) ?_;refine v2 ?_;refine aI (ai az) (by(go_simp;try simp[l])) ?_;refine ag ?_;refine ah ?_;refine v6 ?_;refine bb d 0 (ar _) (λw1 d=>?_);refine an ?_;go_wp2_with fail;first|go_end0|refine bodyPost_ret (results_none rfl _ _ _) rfl ?_
   exact⟨aa,d.only,by rw[na,if_pos ⟨aa,l⟩];exact d.aV 0⟩
 .have j:=i;go_enter Wa,Wz;go_step;refine ah ?_;refine v4 ?_;refine pl d 0 2 ?_;refine aI (ai ao) (by(go_simp;try simp[j])) ?_;refine ag ?_;iterate 2 refine ps ?_
  refine bU ?_;go_wp2_with fail;first|go_end0|refine bodyPost_ret (results_none rfl _ _ _) rfl ?_
  exact⟨aa,d.only,by rw[na,if_neg (λh=>j h.1)];exact d.aV 0⟩
def afP(B t:Nat)A c r n w(b:Has w (aj B (lU A c r) t))(d:r.bt=0)(hn:r.p+n<=r.bs.length)(hc:r.bs.length<=c)(cd:r.bs.length<=140737488355328):
 aC ax 218 #[ay (ab ⟨B,0,af⟩),J R (n:Int)] w λe w'=>e=aB (bo #[ae (fm A c r.p 1) n (c -r.p),ai az])/\Turned w w' (aj B (lU A c r) t) (aj B (lU A c {r with p:=r.p+n}) t):=by
 obtain⟨bs,p,bt,dn⟩:=r;obtain rfl:=d;replace b:Has w (aj B #[ae A bs.length c,J _ (p:Int),J _ 0,J _ dn] t):=b;replace hn:p+n<=bs.length:=hn;replace hc:bs.length<=c:=hc;replace cd:bs.length<=140737488355328:=cd;have g:p+n<=140737488355328:=ad;go_enter V2,Wv;have a:=ak.start b;go_step;refine ah ?_;refine v2 ?_;refine o8 ?_;refine pl a 0 2 ?_;refine pk (ai ao) ?_;refine cA ?_;refine a7 (ai ao) ?_;refine hI ?_;refine bN a [] (λ_ _=>a1) (λ_ _=>emp) (λ_=>[]) (λ|4=>[0]|9=>[0]|_=>[]) (λ_=>[]) [0] (λf=>?_);refine hG ?_;refine dl 0 0 ?_;refine hG ?_;refine dl 0 1 ?_;refine aK _ (λ_ _ _=>ra 3 _ _ 3 aa _ _ ((bs.length:Int) -(p:Int)) aa aa ad ad ad) ?_;refine aK (ai ao) (λ_ _ _=>by(go_simp;try omega)) ?_;refine aJ ?_;refine bQ λw1 a=>?_;refine jk ?_;refine pl a 0 1 ?_;refine ag ?_;refine pad _ _ ((p+n:Nat):Int) ?_;refine v2 ?_;refine bb a 0 (J _ _) (λh a=>?_);refine cx ?_;refine bN a [] (λ_ _=>a1) (λ_ _=>emp) (λ_=>[]) (λ|3=>[0]|7=>[0]|13=>[0]|_=>[]) (λ_=>[]) [0] (λf=>?_);refine c5 ?_;refine dl 0 0 ?_;refine c5 ?_;refine dl 0 1 ?_;refine aJ ?_;refine aK _ (λ_ _ _=>ra 3 _ _ 3 aa _ _ ((p:Nat):Int) aa aa ad ad ad) ?_;refine c5 ?_;refine dl 0 1 ?_;refine aK _ (λ_ _ _=>Bl 22 5 1 _ _ _ aa dK aw A _ c p _ n aa aa aa ad ad) ?_;refine bx ?_;refine bQ λi a=>?_;go_wp2_with fail;go_ret2;exact⟨aa,a.gu 0⟩
def qb(r:Rd)(n:Int):Rd:=if n<0 then na r 2 r.p else na r 8 r.bs.length
def N3(B t:Nat)A c r(b a)w(g:Has w (aj B (lU A c r) t)):
 aC ax 283 #[ay (ab ⟨B,0,af⟩),J R b,J R a] w λe w'=>e=aB (bo #[])/\Turned w w' (aj B (lU A c r) t) (aj B (lU A c (na r b a)) t):=
 (avS B t A c r b a w g.1).mono (λ_ _ ⟨h1,d,f⟩=>⟨h1,vE d f⟩)
def afO(B t:Nat)A c r n w(b:Has w (aj B (lU A c r) t))(i:r.p<=r.bs.length)(cd:r.bs.length<=140737488355328)(j:-1<=n/\n<=4611686018427387904)(f:r.bt≠0\/n<0\/(r.bs.length:Int)<r.p+n):
 aC ax 218 #[ay (ab ⟨B,0,af⟩),J R n] w λe w'=>e=aB (bo #[ae af 0 0,ai ao])/\Turned w w' (aj B (lU A c r) t) (aj B (lU A c (qb r n)) t):=by
 obtain⟨bs,p,bt,dn⟩:=r;replace b:Has w (aj B #[ae A bs.length c,J _ (p:Int),J _ bt,J _ dn] t):=b;replace i:p<=bs.length:=i;replace cd:bs.length<=140737488355328:=cd;by_cases g:bt=0
 .subst g;replace f:n<0\/(bs.length:Int)<p+n:=f.resolve_left (λh=>h aa);go_enter V2,Wv;have a:=ak.start b;go_step;refine ah ?_;refine v2 ?_;refine o8 ?_;refine pl a 0 2 ?_;refine pk (ai ao) ?_;refine bU ?_;by_cases hn:n<0
  .have hb:qb (⟨bs,p,0,dn⟩:Rd) n=na (⟨bs,p,0,dn⟩:Rd) 2 p:=by grind[qb]
   refine b5 ?_;refine a7 (ai az) ?_;refine zP ?_;refine pl a 0 1 ?_;refine aR (N3 B t A c (⟨bs,p,0,dn⟩:Rd) 2 p _ (a.has 0)) ?_;rintro e w1 ⟨rfl,d⟩;replace a:=a.eQ 0 d;refine aT ?_;refine ah ?_;refine eg ?_;go_wp2_with fail;go_ret2;exact⟨aa,aG⟩
  .have hb:qb (⟨bs,p,0,dn⟩:Rd) n=na (⟨bs,p,0,dn⟩:Rd) 8 bs.length:=by grind[qb]
   refine b5 ?_;refine a7 (ai ao) ?_;refine hI ?_;refine bN a [] (λ_ _=>a1) (λ_ _=>emp) (λ_=>[]) (λ|4=>[0]|9=>[0]|_=>[]) (λ_=>[]) [0] (λk=>?_);refine hG ?_;refine dl 0 0 ?_;refine hG ?_;refine dl 0 1 ?_;refine aK _ (λ_ _ _=>ra 3 _ _ 3 aa _ _ ((bs.length:Int) -(p:Int)) aa aa ad ad ad) ?_;refine aK (ai az) (λ_ _ _=>by(go_simp;try omega)) ?_;refine aJ ?_;refine bQ λl a=>?_;refine o8 ?_;refine pl a 0 0 ?_;refine ag ?_;refine aR (N3 B t A c (⟨bs,p,0,dn⟩:Rd) 8 _ _ (a.has 0)) ?_;rintro e m ⟨rfl,d⟩;replace a:=a.eQ 0 d;refine aT ?_;refine ah ?_;refine eg ?_;go_wp2_with fail;go_ret2;exact⟨aa,by first|exact a.gu 0|(rw[hb];exact a.gu 0)⟩
 .have hb:qb (⟨bs,p,bt,dn⟩:Rd) n=(⟨bs,p,bt,dn⟩:Rd):=by grind[qb,na]
  go_enter V2,Wv;have a:=ak.start b;go_step;refine ah ?_;refine v2 ?_;refine o8 ?_;refine pl a 0 2 ?_;refine aI (ai az) (by(go_simp;try simp[g])) ?_;refine ag ?_;refine ah ?_;refine eg ?_;go_wp2_with fail;go_ret2;exact⟨aa,by first|exact a.gu 0|(rw[hb];exact a.gu 0)⟩
def eF(B:Nat)(A:Option bT)(c:Nat)(r:Rd):bu:=both (aj B (lU A c r) 333) (cz A c r.bs)
def uR(l:List Int):Int:=l.foldl xG 0
theorem at1 l x:uR (l++[x])=xG (uR l) x:=by simp[uR]
def wrap_u64 z:0<=aF.wrap z/\aF.wrap z<18446744073709551616:=by grind[D1,D0,KF]
theorem at0(x c):0<=xG x c/\xG x c<18446744073709551616:=wrap_u64 _
theorem T1 l:0<=uR l/\uR l<18446744073709551616:=by
 have h:∀(l:List Int) (a:Int),0<=a/\a<18446744073709551616->0<=l.foldl xG a/\l.foldl xG a<18446744073709551616:=by
  intro l;induction l with
  |nil=>simp
  |cons x l b=>grind[at0]
 exact h l 0 ad
def tA(r:Rd)(n:Nat):List Int:=(r.bs.drop r.p).take n
def awn B A c r s w(u:Has w (eF B A c r))(D:r.bt=0)(hn:r.p+s<=r.bs.length)(hs1:1<=s/\s<=8)(cd:r.bs.length<=140737488355328):
 aC ax 135 #[ay (ab ⟨B,0,af⟩),J R (s:Int)] w λe w'=>e=aB (J aF (uR (tA r s)))/\Turned w w' (eF B A c r) (eF B A c {r with p:=r.p+s}):=by
 obtain⟨bs,p,bt,dn⟩:=r;obtain rfl:bt=0:=D;replace hn:p+s<=bs.length:=hn;replace cd:bs.length<=140737488355328:=cd;have hb0:=u.1.2.1;have hc:bs.length<=c:=hb0.2.2;have d:=bX.win hb0.1 hc (i:=p) (q:=p+s) hn;rw[uc]at d;obtain⟨kk,v,t,_⟩:=d aG;have n:=hid t;clear t d hb0
 have z:aE (∀l W,ak w (eF B A c ⟨bs,p,0,dn⟩).cU W l->∀j,l[j]?=ab (cz A c bs)->∀q,q<s->W.cell? ⟨kk,v+q,af⟩=ab (J dR ((tA ⟨bs,p,0,dn⟩ s)[q]?.getD 0))):=hid (λl W h j E q G=>by have h1:=bX.win (ak.at h j E).1 hc (i:=p) (q:=p+s) hn;rw[uc]at h1;obtain⟨dX,gr,e,C⟩:=h1 aG;rw[n]at e;cases e;exact C q aG);go_enter Tryz.func135,Tryz.ntmps135;have a:ak w (eF B A c ⟨bs,p,0,dn⟩).cU w [aj B #[ae A bs.length c,J R (p:Int),J R 0,J R dn] 333,cz A c bs]:=(ak.start u).fw;go_upto_region 0 with fail;refine cy ?_;refine cA ?_;refine pk (ai ao) ?_;refine b5 ?_;refine a7 (ai ao) ?_;refine v2 ?_;refine a7 (ai ao) ?_;refine zP ?_;refine aR ((by have h:=afP B 333 A c (⟨bs,p,0,dn⟩:Rd) s _ (a.has 0) aa hn hc cd;rw[n.out]at h;exact h)) ?_;rintro e w1 ⟨rfl,b⟩;replace b:Turned _ _ _ (aj B #[ae A bs.length c,J R ((p+s:Nat):Int),J R 0,J R dn] 333):=b;replace a:=a.eQ 0 b;refine Vm ?_;refine pk (ai ao) ?_;refine OC ?_;refine aR (at3 _) ?_;rintro e I ⟨m,rfl,lo,hx,g⟩;replace a:=a.new _ (yS g hx lo);refine aT ?_;refine ag ?_;refine ah ?_;refine v3 ?_;refine an ?_;go_wp2_with fail;go_loopw [7,32] (λy k wr=>∃q:Nat,q<=s/\y=J aF (uR ((tA ⟨bs,p,0,dn⟩ s).take q))/\k=J R q/\ak w (eF B A c ⟨bs,p,0,dn⟩).cU wr [aj m #[J aF (uR ((tA ⟨bs,p,0,dn⟩ s).take q))] 42,aj B #[ae A bs.length c,J R ((p+s:Nat):Int),J R 0,J R dn] 333,cz A c bs]) (λy k wr=>s -(bR k).toNat);case atStart=>exact⟨0,ad,aa,aa,a.pick [0,1,2]⟩
 case round=>
  clear a;obtain⟨q,G,rfl,rfl,a⟩:=hrel;by_cases hlt:q<s
  .have F:(q:Int)<(s:Int):=ad;obtain⟨x,hx⟩:∃x,(tA ⟨bs,p,0,dn⟩ s)[q]?=ab x:=⟨_,cF (by grind[tA])⟩;have hcell:=z _ _ a 2 aa q hlt;rw[hx,vB]at hcell;have o:aE (uR ((tA ⟨bs,p,0,dn⟩ s).take (q+1))=xG (uR ((tA ⟨bs,p,0,dn⟩ s).take q)) x):=hid (by grind[gx,at1]);clear hx;go_upto_region 12 with fail;refine cy ?_;refine aI _ (b4 22 5 1 _ _ aa dK aw _ _ _ _ _ ((v+q)) aa aa hlt ad) ?_;refine v2 ?_;refine gW ?_;refine aR (at2 m (uR ((tA ⟨bs,p,0,dn⟩ s).take q)) x _ (a.aV 0)) ?_;rintro e K ⟨rfl,H,h1⟩;replace a:=a.eQ 0 (vE H h1);refine aT ?_;refine ed ?_;refine pad (q:Int) 1 ((q+1:Nat):Int) ?_;refine bU ?_;go_wp2_with fail;go_roundw;case rel=>exact⟨q+1,ad,by rw[o],aa,by rw[o];exact a⟩
   case measure=>grind[bR]
  .have F:¬(q:Int)<(s:Int):=ad;obtain rfl:q=s:=ad;have f:(tA ⟨bs,p,0,dn⟩ q).take q=(tA ⟨bs,p,0,dn⟩ q):=ub (by grind[tA]);rw[f]at a;simp only[f];clear f;go_upto_region 15 with fail;refine cy ?_;refine eg ?_;go_wp2_with fail;go_ret;exact⟨aa,(a.pick (l':=[aj B _ _,cz A c bs]) [1,2]).star.gu 0⟩
def q7(r:Rd):Prop:=r.p<=r.bs.length/\r.bs.length<=140737488355328
def lB(r:Rd)(s:Nat):Int×Rd:=if r.bt=0/\r.p+s<=r.bs.length then(uR (tA r s),{r with p:=r.p+s})else(0,qb r s)
theorem HQ r(k a):(na r k a).bs=r.bs/\(na r k a).p=r.p:=by grind[na]
theorem LU r n:(qb r n).bs=r.bs/\(qb r n).p=r.p:=by grind[qb,HQ]
theorem On{r}(h:q7 r)s:q7 (lB r s).2:=by grind[lB,q7,LU]
def JH r s:0<=(lB r s).1/\(lB r s).1<18446744073709551616:=by
 unfold lB;split;·exact T1 _
 .simp
def qv(r:Rd):Int×Rd:=if(lB r 8).1>4611686018427387903 then(0,na (lB r 8).2 2 r.p)else lB r 8
def ad2{r}(h:q7 r):q7 (qv r).2:=by grind[qv,q7,HQ,On]
def ad3 r:0<=(qv r).1/\(qv r).1<=4611686018427387903:=by
 unfold qv;have:=JH r 8;split;·simp
 .omega
def Jw B A c r(s:Nat)w(g:Has w (eF B A c r))(b:q7 r)(hs1:1<=s/\s<=8):
 aC ax 135 #[ay (ab ⟨B,0,af⟩),J R (s:Int)] w λe w'=>e=aB (J aF (lB r s).1)/\Turned w w' (eF B A c r) (eF B A c (lB r s).2):=by
 by_cases d:r.bt=0/\r.p+s<=r.bs.length;·refine(awn B A c r s w g d.1 d.2 hs1 b.2).mono (λe w' h=>?_);grind[lB]
 have cq:lB r s=(0,qb r s):=by grind[lB]
 rw[cq];clear cq;have f:r.bt≠0\/(s:Int)<0\/(r.bs.length:Int)<r.p+(s:Int):=ad;clear d;have j:=hid (λW (h:Has W (aj B (lU A c r) 333))=>afO B 333 A c r s W h b.1 b.2 ad f);have i:=hid (LU r s).1;clear f b;go_enter Tryz.func135,Tryz.ntmps135;have a:ak w (eF B A c r).cU w [aj B (lU A c r) 333,cz A c r.bs]:=(ak.start g).fw;go_step;refine ah ?_;refine cA ?_;refine pk (ai ao) ?_;refine b5 ?_;refine a7 (ai ao) ?_;refine v2 ?_;refine a7 (ai ao) ?_;refine zP ?_;refine aR (j.out _ (a.has 0)) ?_;rintro e w1 ⟨rfl,k⟩;replace a:=a.eQ 0 k;refine Vm ?_;refine pk (ai az) ?_;refine ah ?_;refine ag ?_;refine an ?_;go_wp2_with fail;go_ret;exact⟨aa,(by have h:=(a.pick (l':=[aj B (lU A c (qb r s)) 333,cz A c r.bs]) [0,1]).star;unfold eF;rw[i];exact ak.gu (s:=_) h 0)⟩
def ak.rd{aq w:aP}{FX:Nat->Prop}{l:List bu}{B c:Nat}{A:Option bT}{r:Rd}(h:ak aq FX w l)(i:Nat)(hi:l[i]?=ab (eF B A c r):=by rfl):aX w B (lU A c r) 333:=(h.at i hi).1
def avT B A c r(b a)w(i:Has w (eF B A c r)):
 aC ax 283 #[ay (ab ⟨B,0,af⟩),J R b,J R a] w λe w'=>e=aB (bo #[])/\Turned w w' (eF B A c r) (eF B A c (na r b a)):=by
 have d:ak w (eF B A c r).cU w [aj B (lU A c r) 333,cz A c r.bs]:=(ak.start i).fw;refine(N3 B 333 A c r b a w (d.has 0)).mono (λe w' ⟨h1,f⟩=>⟨h1,?_⟩);have h:=(d.xV f).star;have e:=(HQ r b a).1;have g:ak w (eF B A c r).cU w' [eF B A c (na r b a)]:=by grind[eF]
 exact g.gu 0
def afH B A c r w(u:Has w (eF B A c r))(m:q7 r):
 aC ax 211 #[ay (ab ⟨B,0,af⟩)] w λe w'=>e=aB (J R (qv r).1)/\Turned w w' (eF B A c r) (eF B A c (qv r).2):=by
 have j:=hid (λW (h:Has W (eF B A c r))=>Jw B A c r 8 W h m ad);have d:=hid (JH r 8);have C:r.p<=140737488355328:=by grind[q7]
 obtain⟨v,b,i⟩:∃v b,lB r 8=(v,b):=⟨_,_,aa⟩;rw[i]at d;obtain⟨x,f,hx,bF,cq⟩:∃x f,qv r=(x,f)/\(v>4611686018427387903->x=0/\f=na b 2 r.p)/\(¬v>4611686018427387903->v=x/\b=f):=by grind[qv]
 rw[hx];have o:=hid bF;have q:=hid cq;have s:aE (∀W,Has W (eF B A c r)->aC ax 135 #[ay (ab ⟨B,0,af⟩),J R 8] W λe w'=>e=aB (J aF v)/\Turned W w' (eF B A c r) (eF B A c b)):=hid (λW h=>by have l:=j W h;rw[i]at l;exact l);clear j bF cq i hx m;have hv0:=d.1;have y:=d.2;clear d;simp only at hv0 y;go_enter func211,ntmps211;have a:ak w (eF B A c r).cU w [eF B A c r]:=ak.start u;go_step;refine ah ?_;refine cA ?_;refine pk (ai ao) ?_;refine o8 ?_;refine aI (J R (r.p:Int)) (fM (B:=B) (k:=1) (t:=333) (cs:=lU A c r) aa aa (ak.rd a 0) aa aw) ?_;refine cA ?_;refine aR (s.out _ (a.has 0)) ?_;rintro e w1 ⟨rfl,g⟩;replace a:=a.eQ 0 g;refine Gr ?_;by_cases n:v>4611686018427387903;·obtain⟨rfl,rfl⟩:=o n;refine b5 ?_;refine a7 (ai az) ?_;refine o8 ?_;refine aR (avT B A c b 2 r.p _ (a.has 0)) ?_;rintro e D ⟨rfl,g⟩;replace a:=a.eQ 0 g;refine aT ?_;refine ah ?_;refine ag ?_;refine an ?_;go_wp2_with fail;go_ret;exact⟨aa,a.gu 0⟩
 .obtain⟨rfl,rfl⟩:=q n;refine b5 ?_;refine a7 (ai ao) ?_;refine b5 ?_;refine aI (J R v) (by(have z:R.wrap v=v:=IntWalk.i64_in _ ⟨ad,ad⟩;go_simp;try rw[z])) ?_;refine bU ?_;go_wp2_with fail;go_ret;exact⟨aa,a.gu 0⟩
def avU B A c r w(b:Has w (eF B A c r)):
 aC ax 212 #[ay (ab ⟨B,0,af⟩)] w λe w'=>e=aB (ar #[J R r.bt,J R r.dn])/\au w w':=by
 go_enter func212,ntmps212;have a:=a8 w;have hr:aX w B (lU A c r) 333:=b.1.1;go_step;refine ah ?_;refine bn a #[J R 0,J R 0] (λd w1 a=>?_);refine b5 ?_;refine pk (ai ao) ?_;refine o8 ?_;refine aI (ar #[J R r.bt,J R r.dn]) (mG (cs':=#[J R r.bt,J R r.dn]) aa aa (aX.aH hr a.only) aw (of_decide_eq_true aw) aw aw) ?_;refine bb a 0 (ar #[J R r.bt,J R r.dn]) (λf a=>?_);refine an ?_;go_wp2_with fail;refine c8 (v:=_) (gH aa _ _ _ _ _ _ _ aa (a.aV 0) Tryz.underlying49 aa aw) aa (⟨aa,a.only⟩)
structure dF where
 size:Nat
 cnt:Nat
 bytes:List Int
 writes:Int
 keep:Int
 eD:Int
 hD:Int
 iv:Int
 hi:Int
 mo:Int
 cache:List (Nat×List Int)
 down:Bool
def nX.plain(m:nX):List (Nat×List Int):=m.L.map (λx=>(x.sec,x.bs))
def qf(m:nX)(d:dF):Array Value:=#[J R (d.size:Int),ae (ab ⟨m.cG,0,af⟩) d.bytes.length d.bytes.length,J R d.writes,J aF d.keep,J R d.eD,J R d.hD,J R d.iv,J R d.hi,J R d.mo,ae m.A m.L.length m.c,dP (ab m.fc),ai d.down]
def sv(l:List Nat)(i:Nat):Option Nat:=(l.foldl (λ(p:Nat×Option Nat) j=>(p.1+1,if j=i then ab p.1 else p.2)) (0,af)).2
def adO i:∀(l:List Nat) p,(l.foldl (λ(p) j=>(p.1+1,if j=i then ab p.1 else p.2)) p).1=p.1+l.length
 |[],p=>by simp
 |j::l,p=>by rw[yG,adO i l];simp;omega
theorem adP l(j i):sv (l++[j]) i=if j=i then ab l.length else sv l i:=by unfold sv;rw[List.foldl_append,yG,List.foldl_nil];have h:=adO i l (0,af);rw[h];simp
def TD{l i k}(h:sv l i=ab k):l[k]?=ab i:=by
 suffices a:∀n (l:List Nat),l.length=n->sv l i=ab k->l[k]?=ab i from a _ l aa h;intro n;induction n with
 |zero=>grind[sv]
 |succ n c=>
  intro l b h;have hne:l≠[]:=λe=>by grind
  rw[<-List.dropLast_concat_getLast hne]at h⊢;grind[adP]
def EX(x:Int):Value:=J R x
def jZ(b:Nat)(l:List Nat):bu:=⟨λi=>i=b,λw=>∃a:List (Int×aO),ee w b EX cN a/\a.length<=l.length/\∀i:Nat,en a (i:Int)=(sv l i).map (λk=>J R (k:Int)),λw w' h f d=>by obtain⟨a,⟨es,e,hb,r⟩,c⟩:=d;exact⟨a,⟨es,_,Du h aa hb,r⟩,c⟩⟩
def my(L:List Re):List Value:=L.flatMap (λx=>[J R (x.sec:Int),ae x.A x.bs.length x.c])
theorem anq L x:my (L++[x])=my L++[J R (x.sec:Int),ae x.A x.bs.length x.c]:=by simp[my]
def RC{L k x}(h:L[k]?=ab x):(my L)[k*2]?=ab (J R (x.sec:Int))/\(my L)[k*2+1]?=ab (ae x.A x.bs.length x.c):=by
 induction L generalizing k with
 |nil=>grind
 |cons y l a=>
  cases k with
  |zero=>
   obtain rfl:y=x:=aG;exact⟨aa,aa⟩
  |succ k=>grind[my]
def mi(L:List Re):bu:=⟨λb=>∃x∈L,ej x.A b,λw=>∀x∈L,eU 0 w x.A x.c x.bs,λw w' h a d x hx=>(cz x.A x.c x.bs).nG w w' (λb hb=>h b ⟨x,hx,hb⟩) (λb hb=>a b ⟨x,hx,hb⟩) (d x hx)⟩
abbrev oL:Nat:=258
def aN(B:Nat)(m:nX)(d:dF):bu:=k6 (d.cache=m.plain) (both (aj B (qf m d) 120) (both (aj m.cG (aM a6 d.bytes []) 5) (both (jZ m.fc (d.cache.map (·.1))) (both (bg m.A m.L.length m.c oL 2 (my m.L)) (mi m.L)))))
def ak.JI{aq w FX l q t}(h:ak aq FX w (k6 q t::l)):q/\ak aq FX w (t::l):=
 ⟨(h.holds _ (s' ..)).1,h.as 0 aa t (λh=>h.2) (λ_ h=>h)⟩
def ak.k6{aq w FX l q t}(h:ak aq FX w (t::l))(a:q):ak aq FX w (Go.Proofs.YtcmhplknoglbkaaGreat.k6 q t::l):=
 h.as 0 aa (Go.Proofs.YtcmhplknoglbkaaGreat.k6 q t) (λh=>⟨a,h⟩) (λ_ h=>h)
def ak.Uy{aq w FX l t}(h:ak aq FX w (t::l)):ak aq FX w (l++[t]):=h.perm (vw (l₁:=[t]) (l₂:=l))
def ak.AD{aq w FX l B m d}(h:ak aq FX w (aN B m d::l)):
 d.cache=m.plain/\ak aq FX w (aj B (qf m d) 120::aj m.cG (aM a6 d.bytes []) 5::jZ m.fc (d.cache.map (·.1))::bg m.A m.L.length m.c oL 2 (my m.L)::mi m.L::l):=by
 obtain⟨g,h1⟩:=h.JI;have a:=h1.fw;have b:ak aq FX w (both _ _::(l++[aj B _ _])):=a.Uy;have e:ak aq FX w (both _ _::((l++[aj B _ _])++[aj _ _ 5])):=b.fw.Uy;have f:ak aq FX w (both _ _::(((l++[aj B _ _])++[aj _ _ 5])++[jZ _ _])):=e.fw.Uy;refine⟨g,f.fw.perm ?_⟩;simp;refine(vw (l₁:=[bg _ _ _ _ 2 _,mi _]) (l₂:=l++[aj B _ _,aj _ _ 5,jZ _ _])).trans ?_;simp;exact vw (l₁:=l) (l₂:=_)
def ak.vH{aq w FX l B m d}(f:d.cache=m.plain)(h:ak aq FX w (aj B (qf m d) 120::aj m.cG (aM a6 d.bytes []) 5::jZ m.fc (d.cache.map (·.1))::bg m.A m.L.length m.c oL 2 (my m.L)::mi m.L::l)):
 ak aq FX w (aN B m d::l):=by
 have h1:ak aq FX w (bg m.A m.L.length m.c oL 2 (my m.L)::mi m.L::(l++[aj B (qf m d) 120,aj m.cG (aM a6 d.bytes []) 5,jZ m.fc (d.cache.map (·.1))])):=h.perm (by grind[vw,bg,mi])
 have r:∀(a b c s),ak aq FX w (s::(l++[a,b,c]))->ak aq FX w (c::s::(l++[a,b])):=λa b c s h=>h.perm (by have e:s::(l++[a,b,c])=(s::(l++[a,b]))++[c]:=bc;rw[e];exact vw)
 have g:∀(a b s),ak aq FX w (s::(l++[a,b]))->ak aq FX w (b::s::(l++[a])):=λa b s h=>h.perm (by have e:s::(l++[a,b])=(s::(l++[a]))++[b]:=bc;rw[e];exact vw);have i:∀(a s),ak aq FX w (s::(l++[a]))->ak aq FX w (a::s::l):=λa s h=>h.perm (by grind[vw]);exact((i _ _ (g _ _ _ (r _ _ _ _ h1.star).star).star).star).k6 f
structure dt (d:dF):Prop where
 kt:1<=d.size
 um:1<=d.cnt
 len:d.bytes.length=d.cnt*d.size
 small:d.cnt*d.size<=1048576
 cache:∀x∈d.cache,x.1<d.cnt/\x.2.length=d.size
 dL:d.cache.length<=1073741824
 wr:cN d.writes
def dt.CA{d}(h:dt d):d.cnt<=1048576/\d.size<=1048576:=by have h1:=h.small;have a:=yK d.cnt h.kt;have b:=Nat.le_mul_of_pos_left d.size h.um;omega
def Has.dev{w B m d}(h:Has w (aN B m d)):aX w B (qf m d) 120:=h.1.2.1
abbrev dc(B:Nat):Value:=ay (ab ⟨B,0,af⟩)
def RW B m d w(hb:aX w B (qf m d) 120)(b:dt d):
 aC ax 203 #[ay (ab ⟨B,0,af⟩)] w λe w'=>e=aB (J R (d.cnt:Int))/\au w w':=by
 have c:d.bytes.length/d.size=d.cnt:=by rw[b.len];exact Nat.mul_div_cancel _ b.kt
 have f:=b.CA;go_enter func203,ntmps203;have a:=a8 w;go_step;refine ah ?_;refine hI ?_;refine bN a [] (λ_ _=>a1) (λ_ _=>emp) (λ_=>[]) (λ_=>[]) (λ_=>[]) [] (λg=>?_);refine c5 ?_;refine aK (ae _ _ _) (λ_ _ a=>fM aa aa (aX.aH hb a.only) aa aw) ?_;refine hG ?_;refine aK (J _ _) (λ_ _ a=>fM aa aa (aX.aH hb a.only) aa aw) ?_;refine aK _ (λ_ _ _=>te 3 _ _ 3 aa _ _ _ aa aa b.kt c ad) ?_;refine aJ ?_;refine bQ λw1 a=>?_;go_wp2_with fail;go_ret;exact⟨aa,a.only⟩
def w8 B m d w(hb:aX w B (qf m d) 120)(b:dt d):
 aC ax 51 #[ay (ab ⟨B,0,af⟩)] w λe w'=>e=aB (J R (d.size:Int))/\au w w':=by
 go_enter func51,ntmps51;have a:=a8 w;go_step;refine ah ?_;refine cA ?_;refine pk (ai ao) ?_;refine o8 ?_;refine jf hb a.only ?_;refine bU ?_;go_wp2_with fail;go_ret;exact⟨aa,a.only⟩
def Ma B m d w(hb:aX w B (qf m d) 120)(b:dt d):
 aC ax 124 #[ay (ab ⟨B,0,af⟩)] w λe w'=>e=aB (J R (d.cnt:Int))/\au w w':=by
 go_enter func124,ntmps124;have a:=a8 w;go_step;refine ah ?_;refine cA ?_;refine pk (ai ao) ?_;refine jk ?_;refine bH (RW B m d _ (aX.aH hb a.only) b) a (λw1 a=>?_);refine bU ?_;go_wp2_with fail;go_ret;exact⟨aa,a.only⟩
def Z3 B m d(i:Nat)(hi:i<d.cnt)w(hb:aX w B (qf m d) 120)(b:dt d):
 aC ax 146 #[ay (ab ⟨B,0,af⟩),J R (i:Int)] w λe w'=>e=aB (ae (fm (ab ⟨m.cG,0,af⟩) d.bytes.length (i*d.size) 1) d.size (d.bytes.length -i*d.size))/\au w w':=by
 have c:i*d.size+d.size=(i+1)*d.size:=aG;have hle:(i+1)*d.size<=d.bytes.length:=by rw[b.len];exact oK _ hi
 have hsm:d.bytes.length<=1048576:=by rw[b.len];exact b.small
 have f:=b.CA;go_enter func146,ntmps146;have a:=a8 w;go_step;refine ah ?_;refine hI ?_;refine bN a [] (λ_ _=>a1) (λ_ _=>emp) (λ_=>[]) (λ_=>[]) (λ_=>[]) [] (λg=>?_);refine c5 ?_;refine aK (ae _ _ _) (λ_ _ a=>fM aa aa (aX.aH hb a.only) aa aw) ?_;refine hG ?_;refine aK (J _ _) (λ_ _ a=>fM aa aa (aX.aH hb a.only) aa aw) ?_;refine aK _ (λ_ _ _=>ln 3 _ _ 3 aa _ _ ((i*d.size:Nat):Int) aa aa ba ad ad) ?_;refine aJ ?_;refine aK _ (λ_ _ _=>mw 3 _ _ 3 aa _ _ ((i+1:Nat):Int) aa aa ad ad ad) ?_;refine c5 ?_;refine aK (J _ _) (λ_ _ a=>fM aa aa (aX.aH hb a.only) aa aw) ?_;refine aK _ (λ_ _ _=>ln 3 _ _ 3 aa _ _ (((i+1)*d.size:Nat):Int) aa aa ba ad ad) ?_;refine aK _ (λ_ _ _=>Bl 22 5 1 _ _ _ aa dK aw _ _ _ _ _ _ aa aa aa c hle) ?_;refine aJ ?_;refine bQ λw1 a=>?_;go_wp2_with fail;go_ret;exact⟨aa,a.only⟩
def j9(d:dF)(i:Int):Int:=if d.down=az then 18 else if i<0\/(d.cnt:Int)<=i then 2 else 0
def L'{w B m d b}(h:aX w B (qf m d) 120)(e:d.down=b):aX w B #[J R (d.size:Int),ae (ab ⟨m.cG,0,af⟩) d.bytes.length d.bytes.length,J R d.writes,J aF d.keep,J R d.eD,J R d.hD,J R d.iv,J R d.hi,J R d.mo,ae m.A m.L.length m.c,dP (ab m.fc),ai b] 120:=by subst e;exact h
def RU B m d i w(hb:aX w B (qf m d) 120)(h:dt d):
 aC ax 281 #[dc B,J R i] w λe w'=>e=aB (J R (j9 d i))/\au w w':=by
 have f:=hid hb;clear hb;rcases cp:d.down with _|_
 .by_cases j:i<0
  .have b:j9 d i=2:=by grind[j9]
   rw[b];clear b;have c:=hid cp;clear cp;go_enter Pm,Ps;have a:=a8 w;go_step;refine ah ?_;refine ag ?_;refine an ?_;go_step;refine ah ?_;refine ag ?_;refine pk (ai ao) ?_;refine ag ?_;refine an ?_;go_step;refine ah ?_;refine v3 ?_;refine jf (L' f c) a.only ?_;refine ag ?_;refine an ?_;go_step;refine ah ?_;refine ag ?_;refine a7 (ai az) ?_;refine ag ?_;iterate 6 refine ps ?_
   refine pk (ai az) ?_;refine ag ?_;refine an ?_;go_step;refine ah ?_;refine ag ?_;refine an ?_;go_wp2_with fail;go_ret;exact⟨aa,a.only⟩
  .by_cases h1:(d.cnt:Int)<=i
   .have b:j9 d i=2:=by grind[j9]
    rw[b];clear b;have c:=hid cp;clear cp;go_enter Pm,Ps;have a:=a8 w;go_step;refine ah ?_;refine ag ?_;refine an ?_;go_step;refine ah ?_;refine ag ?_;refine pk (ai ao) ?_;refine ag ?_;refine an ?_;go_step;refine ah ?_;refine v3 ?_;refine jf (L' f c) a.only ?_;refine ag ?_;refine an ?_;go_step;refine ah ?_;refine ag ?_;refine a7 (ai ao) ?_;refine v5 ?_;refine aR (RW B m d _ (aX.aH f a.only) h) ?_;rintro e w1 ⟨rfl,g⟩;replace a:=a.aH g;refine aT ?_;refine a7 (ai az) ?_;refine pk (ai az) ?_;refine ag ?_;refine an ?_;go_step;refine ah ?_;refine ag ?_;refine an ?_;go_wp2_with fail;go_ret;exact⟨aa,a.only⟩
   .have b:j9 d i=0:=by grind[j9]
    rw[b];clear b;have c:=hid cp;clear cp;go_enter Pm,Ps;have a:=a8 w;go_step;refine ah ?_;refine ag ?_;refine an ?_;go_step;refine ah ?_;refine ag ?_;refine pk (ai ao) ?_;refine ag ?_;refine an ?_;go_step;refine ah ?_;refine v3 ?_;refine jf (L' f c) a.only ?_;refine ag ?_;refine an ?_;go_step;refine ah ?_;refine ag ?_;refine a7 (ai ao) ?_;refine v5 ?_;refine aR (RW B m d _ (aX.aH f a.only) h) ?_;rintro e k ⟨rfl,g⟩;replace a:=a.aH g;refine aT ?_;refine a7 (ai ao) ?_;refine pk (ai ao) ?_;refine ag ?_;refine an ?_;go_step;refine ah ?_;refine ag ?_;refine an ?_;go_wp2_with fail;go_ret;exact⟨aa,a.only⟩
 .have b:j9 d i=18:=by grind[j9]
  rw[b];clear b;have c:=hid cp;clear cp;go_enter Pm,Ps;have a:=a8 w;go_step;refine ah ?_;refine ag ?_;refine an ?_;go_step;refine ah ?_;refine ag ?_;refine pk (ai ao) ?_;refine ag ?_;refine an ?_;go_step;refine ah ?_;refine v3 ?_;refine jf (L' f c) a.only ?_;refine ag ?_;refine an ?_;go_step;refine ah ?_;refine ag ?_;refine an ?_;go_wp2_with fail;go_ret;exact⟨aa,a.only⟩
section
open Go.RowKit Go.MapKept Go.WideMaps
def adM:sT ax 3 EX cN:=
 ⟨Maps.int_keyed jH,λh=>⟨_,Maps.keyOf_int_mk jH (WalkArith.wf_i64 h)⟩,λh=>by grind[EX]⟩
def LV{w}{B t:Nat}{bs}(h:aX w B (aM a6 bs []) t):bX w (ab ⟨B,0,af⟩) bs:=λ_=>⟨B,0,rfl,λj a=>by rw[js];exact h.cell j (LJ a)⟩
def Has.Z0{w B m d}(h:Has w (aN B m d)):aX w m.cG (aM a6 d.bytes []) 5:=h.1.2.2.1.1
def Has.last{w B m d}(h:Has w (aN B m d)):(jZ m.fc (d.cache.map (·.1))).p w:=h.1.2.2.1.2.1.1
def Has.row{w B m d}(h:Has w (aN B m d)):Row 0 w m.A m.L.length m.c oL 2 (my m.L):=h.1.2.2.1.2.1.2.1.1
def Has.auY{w B m d}(h:Has w (aN B m d)):∀x∈m.L,eU 0 w x.A x.c x.bs:=h.1.2.2.1.2.1.2.1.2.1
def Has.plain{w B m d}(h:Has w (aN B m d)):d.cache=m.plain:=h.1.1
section
variable {o:cT} {a:b3} {w:aP}
def Vk:∀w:aP,(zeroValue 3).run ax w=bf (J R 0) w:=λw=>UC aw w
def aeJ{m x}{b i:Nat}{l}(ho:o.op=.lookup 118 m x az)(g:a.eval m=dP (ab b))(hx:a.eval x=J R (i:Int))(h:(jZ b l).p w)(hi:i<=1073741824):
 (bz a.eval o).run ax w=bf (da (bo #[((sv l i).map (λk=>J R (k:Int))).getD (J R 0),ai (sv l i).isSome])) w:=by
 obtain⟨j,f,_,d⟩:=h;have c:=(f.lookup adM vb Vk (x:=(i:Int)) ⟨ad,ad⟩).2;rw[d i]at c;unfold bz;simp only[ho,g,hx];have e:(EX (i:Int))=J R (i:Int):=rfl;rw[e]at c;simp only[gC,c,jI,kg];cases sv l i<;>rfl
end
def RX B m d w(h:Has w (aN B m d))(f:dt d):
 aC ax 15 #[dc B] w λe w'=>∃b c,e=aB (ae b d.bytes.length c)/\cj w w' (cz b c d.bytes):=by
 have hb:=h.dev;have j:aE (∀W,au w W->bX W (ab ⟨m.cG,0,af⟩) d.bytes):=hid (λW g=>(LV h.Z0).aH g);have hsm:d.bytes.length<=1048576:=by rw[f.len];exact f.small
 go_enter func15,ntmps15;have a:=a8 w;go_step;refine ah ?_;refine ag ?_;refine an ?_;go_step;refine ah ?_;refine ag ?_;refine aI (ai ao) (by(show _=_;kernel_rfl)) ?_;refine an ?_;go_step;refine ah ?_;iterate 4 refine ag ?_
 refine aI (ae (ab ⟨m.cG,0,af⟩) d.bytes.length d.bytes.length) (fM aa aa (aX.aH hb a.only) aa aw) ?_;refine aR (w6 (ab ⟨m.cG,0,af⟩) d.bytes.length d.bytes _ (j _ a.only) ad) ?_;rintro e w1 ⟨i,k,rfl,hrow,g⟩;replace a:=a.lS g (Row.nj hrow);refine aT ?_;refine ag ?_;refine an ?_;go_wp2_with fail;go_ret;exact⟨i,k,aa,a.fresh 0⟩
def Mb B m d w(b:Has w (aN B m d)):
 aC ax 21 #[dc B] w λe w'=>e=aB (ar #[J R d.eD,J R d.hD,J R d.iv,J R d.hi,J R d.mo])/\au w w':=by
 have hb:=b.dev;go_enter func21,ntmps21;have a:=a8 w;go_step;refine ah ?_;refine bn a #[J R 0,J R 0,J R 0,J R 0,J R 0] (λc w1 a=>?_);refine b5 ?_;refine pk (ai ao) ?_;refine jk ?_;refine aI (ar #[J R d.eD,J R d.hD,J R d.iv,J R d.hi,J R d.mo]) (mG (cs':=#[J R d.eD,J R d.hD,J R d.iv,J R d.hi,J R d.mo]) aa aa (aX.aH hb a.only) aw (of_decide_eq_true aw) aw aw) ?_;refine bb a 0 (ar #[J R d.eD,J R d.hD,J R d.iv,J R d.hi,J R d.mo]) (λf a=>?_);refine an ?_;go_wp2_with fail;refine c8 (v:=_) (gH aa _ _ _ _ _ _ _ aa (a.aV 0) underlying68 aa aw) aa (⟨aa,a.only⟩)
def lV(d:dF)(i:Nat):List Int:=match sv (d.cache.map (·.1)) i with|some k=>((d.cache[k]?).map (·.2)).getD []|none=>(d.bytes.drop (i*d.size)).take d.size
theorem F7{d}(h:dt d){i}(hi:i<d.cnt):(lV d i).length=d.size:=by
 unfold lV;cases hq:sv (d.cache.map (·.1)) i with
 |some k=>
  have h1:=TD hq;rw[jU]at h1;cases hk:d.cache[k]? with
  |none=>grind
  |some x=>simpa [hk]using(h.cache x (cW hk)).2
 |none=>
  have h1:(i+1)*d.size<=d.cnt*d.size:=oK _ hi;rw[Nat.add_mul,Nat.one_mul]at h1;have:=h.len;simp;omega
def ZY{w B m d A}(h:aX w B (qf m d) 120)(e:m.A=A):aX w B #[J R (d.size:Int),ae (ab ⟨m.cG,0,af⟩) d.bytes.length d.bytes.length,J R d.writes,J aF d.keep,J R d.eD,J R d.hD,J R d.iv,J R d.hi,J R d.mo,ae A m.L.length m.c,dP (ab m.fc),ai d.down] 120:=by subst e;exact h
def RV{d i}(h:j9 d i=0):∃n:Nat,i=n/\n<d.cnt:=by
 unfold j9 at h;split at h;·omega
 .split at h;·omega
  .exact⟨i.toNat,ad,ad⟩
def Z1 B m d i w(f:Has w (aN B m d))(j:dt d):
 aC ax 209 #[dc B,J R i] w λe w'=>(j9 d i≠0/\e=aB (bo #[ae af 0 0,J R (j9 d i)])/\au w w')\/(j9 d i=0/\∃n:Nat,i=n/\n<d.cnt/\∃r u,e=aB (bo #[ae r d.size u,J R 0])/\cj w w' (cz r u (lV d n))):=by
 have hb:=f.dev;have E:=hid hb;clear hb;have z:aE (∀W,au w W->aC ax 281 #[dc B,J R i] W λe w'=>e=aB (J R (j9 d i))/\au W w'):=hid (λW g=>RU B m d i W (f.aH g).dev j);obtain⟨bt,o⟩:=ex (j9 d i);rw[o]at z;by_cases I:bt=0
 .subst I;obtain⟨n,rfl,hn⟩:=RV o;have s:=hid o;clear o;have gp:=j.CA;have hsm:d.bytes.length<=1048576:=by rw[j.len];exact j.small
  have H:aE (∀W,au w W->(jZ m.fc (d.cache.map (·.1))).p W):=hid (λW g=>(jZ _ _).only f.last (λb hb=>by have X:b=m.fc:=hb;rw[X];obtain⟨bq,Z,_⟩:=f.last;exact Z.lt) g (λ_ _ h=>h));rcases hq:sv (d.cache.map (·.1)) n with _|k
  .have hr:lV d n=(d.bytes.drop (n*d.size)).take d.size:=by rw[lV,hq]
   have C:=hid hr;clear hr;have F:=hid hq;clear hq;have hle:n*d.size+d.size<=d.bytes.length:=by have h1:=oK d.size hn;rw[Ap]at h1;rw[j.len];exact h1
   have T:aE (∀W,au w W->bX W (fm (ab ⟨m.cG,0,af⟩) d.bytes.length (n*d.size) 1) (lV d n)):=hid (λW g=>by have h:=bX.win ((LV f.Z0).aH g) (b7 _) (i:=n*d.size) (q:=n*d.size+d.size) hle;rw[uc]at h;rw[C];exact h);have t:=hid (F7 j hn);go_enter V1,Wu;have a:=a8 w;go_step;refine ah ?_;refine v2 ?_;refine gW ?_;refine bH (z.out _ a.only) a (λw1 a=>?_);refine cA ?_;refine pk (ai ao) ?_;refine jk ?_;refine jf E.out a.only ?_;refine ag ?_;refine aI (bo #[J R 0,ai ao]) (by(refine(aeJ (x:=bj 20) (m:=bj 19) aa aa aa (H _ a.only) (i:=n) ad).trans ?_;rw[F];rfl)) ?_;refine v5 ?_;refine ah ?_;refine zP ?_;refine bH (Z3 B m d n hn _ (f.aH a.only).dev j) a (λaU a=>?_);refine aR ((by have q:=w6 (fm (ab ⟨m.cG,0,af⟩) d.bytes.length (n*d.size) 1) (d.bytes.length -n*d.size) (lV d n) _ (T.out _ a.only) (by rw[t];omega);rw[t.out]at q;exact q)) ?_;rintro e bI ⟨P,V,rfl,hrow,g⟩;replace a:=a.lS g (Row.nj (by rw[t.out];exact hrow));refine aT ?_;refine eg ?_;go_wp2_with fail;go_ret2;exact cc ⟨s,n,aa,hn,P,V,aa,a.fresh 0⟩
  .have v:=TD hq;rw[jU]at v;obtain⟨y,l⟩:∃y,m.L[k]?=ab y:=by rw[f.plain,nX.plain,jU]at v;cases l:m.L[k]? with|none=>(rw[l]at v;cases v)|some y=>exact⟨y,aa⟩
   have hr:lV d n=y.bs:=by unfold lV;rw[hq,f.plain];simp[nX.plain,l]
   have C:=hid hr;clear hr;have F:=hid hq;have ny:=hid l;have Y:k<m.L.length:=(eM.1 l).1;have N:=f.auY y (cW l);have hlen:y.bs.length=d.size:=by rw[<-C];exact F7 j hn
   have fp:m.L.length<=1073741824:=by have h:=j.dL;rw[f.plain,nX.plain,hM]at h;exact h
   obtain⟨D,K,hc1⟩:=f.row.cell (RC l).2;have Q:aE (∀W,au w W->W.cell? ⟨D,k*2+1,af⟩=ab (ae y.A d.size y.c)):=hid (λW g=>by rw[<-hlen];exact g.cell hc1 (λh=>h));have S:aE (∀W,au w W->aC ax 65 #[ae y.A d.size y.c] W λe w'=>∃r u,e=aB (ae r d.size u)/\w'.ownsRow W.heap.size 5 1 (ae r d.size u) d.size ((lV d n).map a6)/\au W w'):=hid (λW g=>by have q:=w6 y.A y.c y.bs W (N.1.aH g) ad;rw[hlen]at q;rw[C];exact q);have t:=hid (F7 j hn);have G:=hid K;clear hq l v N hc1 hlen K;go_enter V1,Wu;have a:=a8 w;go_step;refine ah ?_;refine v2 ?_;refine gW ?_;refine bH (z.out _ a.only) a (λb9 a=>?_);refine cA ?_;refine pk (ai ao) ?_;refine jk ?_;refine jf (ZY E.out G.out) a.only ?_;refine ag ?_;refine aI (bo #[J R (k:Int),ai az]) (by(refine(aeJ (x:=bj 20) (m:=bj 19) aa aa aa (H _ a.only) (i:=n) ad).trans ?_;rw[F];rfl)) ?_;refine v5 ?_;refine ah ?_;refine Kj ?_;refine jf (ZY E.out G.out) a.only ?_;refine ag ?_;refine aI (ay (ab ⟨D,(k*2),af⟩)) (b4 117 258 2 (bj 28) (bj 29) aa Tryz.underlying117 aw D 0 (m.L.length) (m.c) k ((k*2)) aa aa Y ad) ?_;refine aI (ay (ab ⟨D,(k*2+1),af⟩)) (by(go_simp;try simp[Addr.add])) ?_;refine aI (ae y.A d.size y.c) (by(have h:=Q _ a.only;go_simp)) ?_;refine aR (S _ a.only) ?_;rintro e cE ⟨O,U,rfl,hrow,g⟩;replace a:=a.lS g (Row.nj (by rw[t.out];exact hrow));refine aT ?_;refine eg ?_;go_wp2_with fail;go_ret2;exact cc ⟨s,n,aa,hn,O,U,aa,a.fresh 0⟩
 .have M:¬bt=0:=I;have s:=hid o;clear o;go_enter V1,Wu;have a:=a8 w;go_step;refine ah ?_;refine v2 ?_;refine gW ?_;refine bH (z.out _ a.only) a (λcV a=>?_);refine cA ?_;refine aI (ai az) (by(go_simp;try simp[M])) ?_;refine ah ?_;refine v3 ?_;refine an ?_;go_wp2_with fail;go_ret2;exact bZ ⟨by rw[s];exact M,by rw[s];rfl,a.only⟩
end
section
open Go.RowKit Go.MapKept Go.WideMaps
open Go.ChangeMaps (setBlock heap_setBlock_same heap_setBlock_other)
def xL(size:Nat)(bs:List Int)(i:Nat)(b:List Int):List Int:=bs.take (i*size)++b++bs.drop (i*size+b.length)
def avk{size i bs b}(hb:b.length=size)(h:(i+1)*size<=bs.length):(xL size bs i b).length=bs.length:=by grind[xL]
def o5(d:dF)(a:Nat->Bool):Nat->List Int
 |0=>d.bytes
 |q+1=>match d.cache[q]? with
  |some x=>if a q=az then xL d.size (o5 d a q) x.1 x.2 else o5 d a q
  |none=>o5 d a q
def sB(d:dF)(a:Nat->Bool):dF:={d with bytes:=o5 d a d.cache.length,cache:=[]}
theorem Jk{d}(b:dt d)c:∀q,(o5 d c q).length=d.bytes.length
 |0=>aa
 |q+1=>by
  have a:=Jk b c q;unfold o5;split
  .rename_i x hx;split;·have h:=b.cache x (cW hx);rw[avk h.2 (by rw[a,b.len];exact oK _ h.1),a]
   .exact a
  .exact a
def Ui{d}(a:dt d)b:dt (sB d b):=
 ⟨a.kt,a.um,(Jk a b _).trans a.len,a.small,λx hx=>absurd hx fS,cB _,a.wr⟩
theorem ag2{B c i}(h:i<c):fm (ab ⟨B,0,af⟩) c i 1=ab ⟨B,i,af⟩:=by grind[fm,mW]
def Row.range{w}{N g n c e sz k:Nat}{A xs cs}(h:Row N w A n c e sz xs)(a:A=ab ⟨g,0,af⟩)(hk:∀j v,cs[j]?=ab v->xs[k+j]?=ab v):w.rangeAt g k cs:=λj v hv=>by obtain⟨g2,e,hc⟩:=h.cell (hk j v hv);rw[a]at e;cases e;exact hc
theorem aml{bs b size i}:((aM a6 bs []).toList.take (i*size)++b.map a6++(aM a6 bs []).toList.drop (i*size+b.length)).toArray=aM a6 (xL size bs i b) []:=by simp[aM,xL]
section
variable {P:ew} {o:cT} {a:b3} {w:aP}
def awz {d g} {b f c B off n cap c2 t:Nat} {aL old new cs} (ho:o.op=nY {callee:=pb .copy,args:=#[d,g],argTypes:=#[b,f]}) (i:a.eval d=ae (ab ⟨B,off,af⟩) n cap) (k:a.eval g=ae aL n c2) (e:aX w B old t) (hr:Cells w 1 aL n cs) (hn:0<n)
 (nc:off+n<=old.size) (h1:∀v∈cs,v.oneCell'=az) (k1:(old.toList.take off++cs++old.toList.drop (off+cs.length)).toArray=new) (hu:P.underlying b=ab (iE c)) (hs:(P.info? c).map (·.size)=ab 1):
 ∃w',(bz a.eval o).run P w=bf (da (J R (n:Int))) w'/\Turned w w' (aj B old t) (aj B new t):=by
 obtain⟨h,rfl,j⟩:=hr.2 hn;have hcs:cs.length=n:=by simpa using hr.1
 have hr:=K2 (P:=P) w b f o.type c B off n cap h n c2 old t cs hu hs e aG j ad h1;refine⟨w.setRow B (old.toList.take off++cs++old.toList.drop (off+n)).toArray,?_,vE (av.setRow w B _) ?_⟩;·unfold bz;simp only[ho,n2,n1,qR,gC,kg,jI,pj,kj,lJ,i,k,hr,hcs];rfl
 .rw[<-k1,hcs];exact e.setRow _
def awy{x}{t k e b:Nat}{l}(ho:o.op=nY {callee:=pb .clear,args:=#[x],argTypes:=#[t]})(hx:a.eval x=dP (ab b))(d:P.underlying t=ab (.map k e))(h:(jZ b l).p w):
 ∃w',(bz a.eval o).run P w=bf (da (bo #[])) w'/\Turned w w' (jZ b l) (jZ b []):=by
 obtain⟨g,⟨es,c,hb,_⟩,_⟩:=h
 refine⟨la w b _,?_,⟨aa,aa,aa,by simp[la],λi _ hi=>heap_setBlock_other hb _ (λe=>hi (by rw[e];rfl))⟩,⟨[],⟨_,_,heap_setBlock_same hb _,stamped_empty c,bc,bc,bc⟩,b7 _,λi=>rfl⟩,λi hi=>⟨by have f:i=b:=hi;grind[la],bZ hi⟩⟩;unfold bz;simp[ho,n2,n1,qR,hx,Builtin.clear_,gO d,MapKept.run_getObj_map hb,MapKept.run_setObj_map _ hb,Result.andThen,la]
end
def RZ B m d (g:Nat) lb f w (p:Has w (aN B m d)) (k:dt d) (F:∀args w,(callFunc g args).run ax w=bf (.enter g args) w)
 (hk:∀q W,q<m.L.length->av (aN B m d).cU w W->aX W B (qf m d) 120->aC ax g (#[J R (q:Int)]++lb) W λe w'=>e=aB (ai (f q))/\au W w'):
 aC ax 63 #[dc B,dS (eu g) #[] lb] w λe w'=>e=aB (bo #[])/\∃T,Turned w w' (aN B m d) (aN B T (sB d f)):=by
 obtain⟨cG,fc,A,c,L⟩:=m;have X:L.length<=1073741824:=by have h:=k.dL;rw[p.plain,nX.plain,hM]at h;exact h
 have hpl:d.cache=L.map (λx=>(x.sec,x.bs)):=p.plain;have C:=hid hpl;have y:aE (∀q W,q<L.length->av (aN B ⟨cG,fc,A,c,L⟩ d).cU w W->aX W B #[J R (d.size:Int),ae (ab ⟨cG,0,af⟩) d.bytes.length d.bytes.length,J R d.writes,J aF d.keep,J R d.eD,J R d.hD,J R d.iv,J R d.hi,J R d.mo,ae A L.length c,dP (ab fc),ai d.down] 120->aC ax g (#[J R (q:Int)]++lb) W λe w'=>e=aB (ai (f q))/\au W w'):=hid hk;have t:=hid F;clear hk F hpl;go_enter func63,ntmps63;have a:ak w (aN B ⟨cG,fc,A,c,L⟩ d).cU w [aj B #[J R (d.size:Int),ae (ab ⟨cG,0,af⟩) d.bytes.length d.bytes.length,J R d.writes,J aF d.keep,J R d.eD,J R d.hD,J R d.iv,J R d.hi,J R d.mo,ae A L.length c,dP (ab fc),ai d.down] 120,aj cG (aM a6 (d.bytes) []) 5,jZ fc (d.cache.map (·.1)),bg A L.length c 258 2 (my L),mi L]:=(ak.AD (ak.start p)).2;go_upto_region 0 with fail;refine cy ?_;refine v3 ?_;refine pl a 0 9 ?_;refine eg ?_;go_wp2_with fail;go_loopw [11] (λr wr=>∃q:Nat,q<=L.length/\r=J R q/\ak w (aN B ⟨cG,fc,A,c,L⟩ d).cU wr [aj B #[J R (d.size:Int),ae (ab ⟨cG,0,af⟩) d.bytes.length d.bytes.length,J R d.writes,J aF d.keep,J R d.eD,J R d.hD,J R d.iv,J R d.hi,J R d.mo,ae A L.length c,dP (ab fc),ai d.down] 120,aj cG (aM a6 (o5 d f q) []) 5,jZ fc (d.cache.map (·.1)),bg A L.length c 258 2 (my L),mi L]) (λr wr=>L.length -(bR r).toNat);case atStart=>exact⟨0,ad,aa,a⟩
 case round=>
  clear a;obtain⟨q,Z,rfl,a⟩:=hrel;by_cases hlt:q<L.length
  .have P:(q:Int)<(L.length:Int):=ad;obtain⟨x,hx⟩:∃x,L[q]?=ab x:=⟨_,cF hlt⟩;obtain⟨O,G,_⟩:=(a.atR 3).cell (RC hx).1;have H:d.cache[q]?=ab (x.sec,x.bs):=by rw[C,jU,hx];rfl
   have Q:=k.cache _ (cW H);obtain⟨o,n⟩:=Q;have o:x.sec<d.cnt:=o;have n:x.bs.length=d.size:=n;have S:=cW hx;have z:aE (o5 d f (q+1)=if f q=az then xL d.size (o5 d f q) x.sec x.bs else o5 d f q):=hid (by grind[o5]);have D:=hid (RC hx);have E:=hid n;have s:=hid G;have Y:x.sec*d.size+d.size<=d.bytes.length:=by have h1:=oK d.size o;rw[Ap]at h1;rw[k.len];exact h1
   have hs1:=k.kt;have N:aE (∀W,aX W B #[J R (d.size:Int),ae (ab ⟨cG,0,af⟩) d.bytes.length d.bytes.length,J R d.writes,J aF d.keep,J R d.eD,J R d.hD,J R d.iv,J R d.hi,J R d.mo,ae A L.length c,dP (ab fc),ai d.down] 120->aC ax 146 #[dc B,J R (x.sec:Int)] W λe w'=>e=aB (ae (ab ⟨cG,x.sec*d.size,af⟩) d.size (d.bytes.length -x.sec*d.size))/\au W w'):=hid (λW h=>by have q:=Z3 B ⟨cG,fc,A,c,L⟩ d x.sec o W h k;grind[ag2]);clear H hx n G;go_upto_region 2 with fail;refine cy ?_;refine ag ?_;refine aI _ (b4 _ 258 2 _ _ aa Tryz.underlying117 aw _ _ _ c q ((q*2)) (by show ae A _ _=_;rw[s]) aa hlt ad) ?_;refine aI (ar #[J R (x.sec:Int),ae x.A d.size x.c]) (by(refine e5 258 (bj 14) aa O (q*2) aa [J R (x.sec:Int),ae x.A d.size x.c] (Row.range (a.atR 3) s (λj v I=>?_)) underlying258 aa aw;obtain rfl|rfl|V:j=0\/j=1\/2<=j:=ad;(cases I;exact D.1);(cases I;rw[<-E];exact D.2);grind)) ?_;refine bn a #[J R 0,ae af 0 0] (λU w1 a=>?_);refine ag ?_;refine bb a 0 (ar #[J R (x.sec:Int),ae x.A d.size x.c]) (λaU a=>?_);refine an ?_;rcases ze:f q with _|_
   .have l:=hid ze;clear ze;refine gW ?_;refine bH ((by have h:=y.out q _ hlt a.only (a.aV 1);rw[l.out]at h;exact h)) a (λbI a=>?_) (hr:=by(go_simp;exact t _ _));refine ah ?_;refine pad (q:Int) 1 ((q+1:Nat):Int) ?_;refine bU ?_;go_wp2_with fail;go_roundw;case rel=>exact⟨q+1,ad,aa,by rw[z,l];exact a.pick [1,2,3,4,5]⟩
    case measure=>grind[bR]
   .have l:=hid ze;clear ze;refine gW ?_;refine bH ((by have h:=y.out q _ hlt a.only (a.aV 1);rw[l.out]at h;exact h)) a (λb9 a=>?_) (hr:=by(go_simp;exact t _ _));refine cx ?_;refine bN a [5,8] (λi _=>match i with|5=>ae (ab ⟨cG,x.sec*d.size,af⟩) d.size (d.bytes.length -x.sec*d.size)|8=>J R (d.size:Int)|_=>a1) (λ_=>λ|8=>aj cG (aM a6 (xL d.size (o5 d f q) x.sec x.bs) []) 5|_=>emp) (λ|8=>[2]|_=>[]) (λ|4=>[0]|5=>[1]|7=>[0]|8=>[5]|_=>[]) (λ_=>[]) [0,1,3,4,5,11,14] (λus=>?_);refine hG ?_;refine dl 0 0 ?_;refine dA (λ_ _ a=>N _ (a.aV 0)) ?_;refine aJ ?_;refine dl 0 1 ?_;refine HL (J R (d.size:Int)) (λ_ _ a=>awz aa aa aa (a.aV 0) (by have h:=((a.at 1:∀x∈L,eU 0 _ x.A x.c x.bs) x S).1.cells;rw[E.out]at h;exact h) k.kt (by grind[i',Jk]) (xH _) (show _=aM a6 (xL d.size (o5 d f q) x.sec x.bs) []from by grind[aml]) dK aw) ?_;refine bQ λcE a=>?_;replace a:=a.drop 5;refine ah ?_;refine pad (q:Int) 1 ((q+1:Nat):Int) ?_;refine bU ?_;go_wp2_with fail;go_roundw;case rel=>exact⟨q+1,ad,aa,by rw[z,l];exact a.pick [1,5,2,3,4]⟩
    case measure=>grind[bR]
  .have P:¬(q:Int)<(L.length:Int):=ad;obtain rfl:q=L.length:=ad;go_upto_region 6 with fail;refine cy ?_;refine v3 ?_;refine bb a 0 (ae af 0 0) (λcV a=>?_);refine jk ?_;refine pl a 0 10 ?_;refine Dy a 2 (awy aa aa vb (a.at 2)) (λdJ a=>?_);refine an ?_;replace a:=(((a.drop 4).drop 3).new (mi []) ⟨av.refl _ _,λx hx=>absurd hx fS,λb ⟨x,hx,_⟩=>absurd hx fS⟩).new (bg af 0 0 oL 2 []) ⟨av.refl _ _,Row.nil _ _ _ _,λb ⟨_,_,e⟩=>aG⟩;have M:=hid (show sB d f={d with bytes:=o5 d f L.length,cache:=[]}from by rw[sB,C,hM]);have u:=a.pk [2,3,4,0,1];have hbl:=Jk k f L.length;rw[<-hbl]at u;have K:=ak.vH (B:=B) (m:=⟨cG,fc,af,0,[]⟩) (d:={d with bytes:=o5 d f L.length,cache:=[]}) aa u;go_wp2_with fail;first|go_end0|refine bodyPost_ret (results_none rfl _ _ _) rfl ?_
   exact⟨aa,_,by rw[M.out];exact K.gu 0⟩
end
open Go.RowKit Go.MapKept Go.WideMaps
open Go.ChangeMaps (setBlock heap_setBlock_same heap_setBlock_other)
def asN q w:
 aC ax 327 #[J R q] w λe w'=>e=aB (ai az)/\au w w':=by
 go_enter Tryz.func327,ntmps327;have a:=a8 w;go_step;refine ah ?_;refine ag ?_;refine ah ?_;refine ag ?_;refine an ?_;go_wp2_with fail;go_ret;exact⟨aa,a.only⟩
def asP q w:
 aC ax 64 #[J R q] w λe w'=>e=aB (ai ao)/\au w w':=by
 go_enter Tryz.func64,ntmps64;have a:=a8 w;go_step;refine ah ?_;refine ag ?_;refine ah ?_;refine ag ?_;refine an ?_;go_wp2_with fail;go_ret;exact⟨aa,a.only⟩
def lN(d:dF):Int×dF:=if j9 d 0≠0 then(j9 d 0,d)else(0,{sB d (λ_=>az)with hD:=R.wrap ((sB d (λ_=>az)).hD+1)})
def ZZ B m d w(p:Has w (aN B m d))(o:dt d):
 aC ax 292 #[dc B] w λe w'=>e=aB (J R (lN d).1)/\∃k,Turned w w' (aN B m d) (aN B k (lN d).2):=by
 obtain⟨bt,i⟩:=ex (j9 d 0);have l:aE (∀W,aX W B (qf m d) 120->aC ax 281 #[dc B,J R 0] W λe w'=>e=aB (J R bt)/\au W w'):=hid (λW h=>by have q:=RU B m d 0 W h o;rw[i]at q;exact q);by_cases n:bt=0;·subst n;have g:aE (lN d=(0,{sB d (λ_=>az)with hD:=R.wrap ((sB d (λ_=>az)).hD+1)})):=hid (by grind[lN]);clear i;go_enter Tryz.func292,Tryz.ntmps292;have f:=ak.start p;go_step;refine ah ?_;refine cA ?_;refine bH (l.out _ (f.has 0).dev) f (λw1 f=>?_);refine cA ?_;refine pk (ai ao) ?_;refine an ?_;obtain⟨a,j⟩:=ex (sB d (λ_=>az));rw[j]at g;have r:aE (∀W,Has W (aN B m d)->aC ax 63 #[dc B,dS (eu 327) #[] #[]] W λe w'=>e=aB (bo #[])/\∃k,Turned W w' (aN B m d) (aN B k a)):=hid (λW h=>by have q:=RZ B m d _ #[] (λ_=>az) W h o (enters_of Tryz.func327 aw aa) (λq W _ _ _=>asN q W);rw[j]at q;exact q);clear j;refine b5 ?_;refine aR (r.out _ (f.has 0)) ?_;rintro e u ⟨rfl,b,s⟩;replace f:=f.eQ 0 s;refine x4 ?_;replace f:=f.AD;obtain⟨hpl,f⟩:=f;replace f:ak _ _ _ [aj B #[J R (a.size:Int),ae (ab ⟨b.cG,0,af⟩) a.bytes.length a.bytes.length,J R a.writes,J aF a.keep,J R a.eD,J R a.hD,J R a.iv,J R a.hi,J R a.mo,ae b.A b.L.length b.c,dP (ab b.fc),ai a.down] 120,aj b.cG (aM a6 a.bytes []) 5,jZ b.fc (a.cache.map (·.1)),bg b.A b.L.length b.c oL 2 (my b.L),mi b.L]:=f;refine o8 ?_;refine pl f 0 5 ?_;refine pk (J R (R.wrap (a.hD+1))) ?_;refine v3 ?_;refine bb f 0 (J R (R.wrap (a.hD+1))) (λv f=>?_);refine ah ?_;refine ag ?_;refine an ?_;replace f:ak _ _ _ (aN B b ({a with hD:=R.wrap (a.hD+1)})::[]):=ak.vH hpl (f.pick (l':=[aj B #[J R (a.size:Int),ae (ab ⟨b.cG,0,af⟩) a.bytes.length a.bytes.length,J R a.writes,J aF a.keep,J R a.eD,J R (R.wrap (a.hD+1)),J R a.iv,J R a.hi,J R a.mo,ae b.A b.L.length b.c,dP (ab b.fc),ai a.down] 120,aj b.cG (aM a6 a.bytes []) 5,jZ b.fc (a.cache.map (·.1)),bg b.A b.L.length b.c oL 2 (my b.L),mi b.L]) [0,1,2,3,4]);go_wp2_with fail;go_ret;exact⟨by rw[g];rfl,b,by rw[g];exact f.gu 0⟩
 .have t:¬bt=0:=n;have g:aE (lN d=(bt,d)):=hid (by grind[lN]);clear i;go_enter Tryz.func292,Tryz.ntmps292;have f:=ak.start p;go_step;refine ah ?_;refine cA ?_;refine bH (l.out _ (f.has 0).dev) f (λx f=>?_);refine cA ?_;refine aI (ai az) (by(go_simp;try simp[t])) ?_;refine ah ?_;refine eg ?_;go_wp2_with fail;go_ret;exact⟨by rw[g];rfl,m,by rw[g];exact f.gu 0⟩
def pq(d:dF)(n a:Int):dF:={d with writes:=max n (-1),keep:=a}
def aoJ B m d(n b)w(f:Has w (aN B m d)):
 aC ax 11 #[dc B,J R n,J aF b] w λe w'=>e=aB (bo #[])/\Turned w w' (aN B m d) (aN B m (pq d n b)):=by
 go_enter func11,ntmps11;have a:=ak.start f;go_step;refine ah ?_;refine ag ?_;refine pk (ai az) ?_;refine an ?_;replace a:=a.AD;obtain⟨hpl,a⟩:=a;replace a:ak _ _ _ [aj B #[J R (d.size:Int),ae (ab ⟨m.cG,0,af⟩) d.bytes.length d.bytes.length,J R d.writes,J aF d.keep,J R d.eD,J R d.hD,J R d.iv,J R d.hi,J R d.mo,ae m.A m.L.length m.c,dP (ab m.fc),ai d.down] 120,aj m.cG (aM a6 d.bytes []) 5,jZ m.fc (d.cache.map (·.1)),bg m.A m.L.length m.c oL 2 (my m.L),mi m.L]:=a;refine gW ?_;refine aI (J R (max n (-1))) (by(go_simp;try with_reducible rfl)) ?_;refine v4 ?_;refine bb a 0 (ar #[J R (max n (-1)),J aF b]) (λw1 a=>?_);refine an ?_;replace a:ak _ _ _ (aN B m (pq d n b)::[]):=ak.vH hpl (a.pick (l':=[aj B #[J R (d.size:Int),ae (ab ⟨m.cG,0,af⟩) d.bytes.length d.bytes.length,J R (max n (-1)),J aF b,J R d.eD,J R d.hD,J R d.iv,J R d.hi,J R d.mo,ae m.A m.L.length m.c,dP (ab m.fc),ai d.down] 120,aj m.cG (aM a6 d.bytes []) 5,jZ m.fc (d.cache.map (·.1)),bg m.A m.L.length m.c oL 2 (my m.L),mi m.L]) [0,1,2,3,4]);go_wp2_with fail;first|go_end0|refine bodyPost_ret (results_none rfl _ _ _) rfl ?_
 exact⟨aa,a.gu 0⟩
def sE(d:dF):dF:={sB d (λ_=>ao)with down:=ao,writes:=-1}
def aoZ B m d w(o:Has w (aN B m d))(n:dt d):
 aC ax 14 #[dc B] w λe w'=>e=aB (bo #[])/\∃g,Turned w w' (aN B m d) (aN B g (sE d)):=by
 obtain⟨a,i⟩:=ex (sB d (λ_=>ao));have j:aE (sE d={a with down:=ao,writes:=-1}):=hid (by grind[sE]);have k:aE (∀W,Has W (aN B m d)->aC ax 63 #[dc B,dS (eu 64) #[] #[]] W λe w'=>e=aB (bo #[])/\∃g,Turned W w' (aN B m d) (aN B g a)):=hid (λW h=>by have q:=RZ B m d _ #[] (λ_=>ao) W h n (enters_of Tryz.func64 aw aa) (λq W _ _ _=>asP q W);rw[i]at q;exact q);clear i;go_enter func14,ntmps14;have f:=ak.start o;go_step;refine ah ?_;refine ag ?_;refine pk (ai az) ?_;refine b5 ?_;refine aR (k.out _ (f.has 0)) ?_;rintro e w1 ⟨rfl,b,l⟩;replace f:=f.eQ 0 l;refine x4 ?_;replace f:=f.AD;obtain⟨hpl,f⟩:=f;replace f:ak _ _ _ [aj B #[J R (a.size:Int),ae (ab ⟨b.cG,0,af⟩) a.bytes.length a.bytes.length,J R a.writes,J aF a.keep,J R a.eD,J R a.hD,J R a.iv,J R a.hi,J R a.mo,ae b.A b.L.length b.c,dP (ab b.fc),ai a.down] 120,aj b.cG (aM a6 a.bytes []) 5,jZ b.fc (a.cache.map (·.1)),bg b.A b.L.length b.c oL 2 (my b.L),mi b.L]:=f;refine jk ?_;refine bb f 0 (ai ao) (λp f=>?_);refine o8 ?_;refine bb f 0 (J R (-1)) (λr f=>?_);refine an ?_;replace f:ak _ _ _ (aN B b ({a with down:=ao,writes:=-1})::[]):=ak.vH hpl (f.pick (l':=[aj B #[J R (a.size:Int),ae (ab ⟨b.cG,0,af⟩) a.bytes.length a.bytes.length,J R (-1),J aF a.keep,J R a.eD,J R a.hD,J R a.iv,J R a.hi,J R a.mo,ae b.A b.L.length b.c,dP (ab b.fc),ai ao] 120,aj b.cG (aM a6 a.bytes []) 5,jZ b.fc (a.cache.map (·.1)),bg b.A b.L.length b.c oL 2 (my b.L),mi b.L]) [0,1,2,3,4]);go_wp2_with fail;first|go_end0|refine bodyPost_ret (results_none rfl _ _ _) rfl ?_
 exact⟨aa,b,by rw[j];exact f.gu 0⟩
def Di(keep:Int)(q:Nat):Bool:=(aF.wrap ((mM 64 (keep.fdiv (2^(q%64)))&&& mM 64 1).toNat:Int)==1)
def asO(f B)m d(q:Nat)w(k:q<=1073741824)(hx:aX w f #[ay (ab ⟨B,0,af⟩)] 32)(hb:aX w B (qf m d) 120):
 aC ax 359 #[J R (q:Int),ay (ab ⟨f,0,af⟩)] w λe w'=>e=aB (ai (Di d.keep q))/\au w w':=by
 have g:q%64<=64:=ad;obtain⟨z,hz⟩:=ex (q%64);have c:Di d.keep q=(aF.wrap ((mM 64 (d.keep.fdiv (2^z))&&& mM 64 1).toNat:Int)==1):=by rw[Di,hz]
 obtain⟨j,b⟩:=ex ((aF.wrap ((mM 64 (d.keep.fdiv (2^z))&&& mM 64 1).toNat:Int)==1));rw[b]at c;rw[c];rw[hz]at g;have i:=hid hz;have h:=hid b;clear hz c b;go_enter func359,ntmps359;have a:=a8 w;go_step;refine ah ?_;refine ed ?_;refine jf hx a.only ?_;refine v3 ?_;refine jf hb a.only ?_;refine ag ?_;refine aI _ (Ay 3 _ _ 3 aa q 64 z aa aa ad i ad) ?_;refine aI _ (yR 42 _ _ 3 aa aF _ _ z aa aa g) ?_;refine pk (J aF (aF.wrap ((mM 64 (d.keep.fdiv (2^z))&&& mM 64 1).toNat:Int))) ?_;refine aI (ai j) (by(rw[<-h];show _=_;kernel_rfl)) ?_;refine bU ?_;go_wp2_with fail;go_ret;exact⟨aa,a.only⟩
def bX.Zg{w A xs}(h:bX w A xs):Lib.BytesIn w A xs.length xs:=λa=>by obtain⟨b,o,e,hc⟩:=h a;grind
def preB(xs bV:List Int):Bool:=Lib.hasPrefix (GD xs) (GD bV)
def aqQ b c1 xs aL c2 bV w(h1:bX w b xs)(d:bX w aL bV)(hc:xs.length<=c1):
 aC ax 282 #[ae b xs.length c1,ae aL bV.length c2] w λe w'=>e=aB (ai (preB xs bV))/\w'=w:=by
 rcases l1 bV.length with a|a;·have h:=Any.bytes_HasPrefix_e2 Tryz.TH b aL xs.length c1 c2 w;rw[a];obtain rfl:bV=[]:=j8 a;exact h
 .rcases l1 xs.length with c|c
  .have h:=Any.bytes_HasPrefix_e1 Tryz.TH b aL c1 bV.length c2 a w;rw[c];obtain rfl:xs=[]:=j8 c;refine h.mono (λe w' ⟨f,g⟩=>⟨f.trans ?_,g⟩);cases bV with
   |nil=>omega
   |cons y bV=>rfl
  .obtain⟨dX,gr,rfl,i⟩:=h1.Zg.at c;obtain⟨dY,k,rfl,j⟩:=d.Zg.at a;exact Any.bytes_HasPrefix Tryz.TH dX gr _ c1 dY k _ c2 xs bV w aa aa hc i j
def sj(r:Rd)(m:List Int)(a:Int):Bool×Rd:=
 if r.bt=0 then
  if preB m ((r.bs.drop r.p).take (min m.length (r.bs.length -r.p)))=az then
   if r.p+m.length<=r.bs.length then(az,{r with p:=r.p+m.length})else(ao,qb r m.length)
  else(ao,na r a r.p)
 else(ao,r)
def apL{r}(h:q7 r)m a:q7 (sj r m a).2:=by grind[sj,q7,LU,HQ]
def avR B A c r o u m f w(C:Has w (eF B A c r))(y:q7 r)(M:bX w o m)(hcm:m.length<=u)(hne:∀b,ej o b->¬(eF B A c r).cU b)(S:m.length<=1048576):
 aC ax 210 #[ay (ab ⟨B,0,af⟩),ae o m.length u,J R f] w λe w'=>e=aB (ai (sj r m f).1)/\Turned w w' (eF B A c r) (eF B A c (sj r m f).2):=by
 obtain⟨bs,p,bt,dn⟩:=r;replace y:p<=bs.length/\bs.length<=140737488355328:=y;obtain⟨N,cd⟩:=y;by_cases F:bt=0
 .subst F;obtain⟨k,H⟩:=ex (min m.length (bs.length -p));have Q:k<=bs.length -p:=ad;have G:min (m.length:Int) ((bs.length -p:Nat):Int)=(k:Int):=ad;have D:=hid G;have hc:bs.length<=c:=C.1.2.1.2.2;obtain⟨jf,I⟩:=ex (preB m ((bs.drop p).take k));have v:=hid H;have x:=hid I;have K:aE (∀W,av (eF B A c (⟨bs,p,0,dn⟩:Rd)).cU w W->bX W o m):=hid (λW g=>M.only g (λb off e=>hne b ⟨off,af,e⟩))
  have E:aE (∀W,av (eF B A c (⟨bs,p,0,dn⟩:Rd)).cU w W->∀l j,ak w (eF B A c (⟨bs,p,0,dn⟩:Rd)).cU W l->l[j]?=ab (cz A c bs)->aC ax 282 #[ae o m.length u,ae (fm A c p 1) k (c -p)] W λe w'=>e=aB (ai jf)/\w'=W):=hid (λW g l j h L=>by have h1:=bX.win (ak.at h j L).1 hc (i:=p) (q:=p+k) ad;rw[uc]at h1;have P:=aqQ o u m _ (c -p) _ W (K W g) h1 hcm;grind);clear G H I;go_enter Tryz.func210,Tryz.ntmps210;have a:ak w (eF B A c ⟨bs,p,0,dn⟩).cU w [aj B #[ae A bs.length c,J R (p:Int),J R 0,J R dn] 333,cz A c bs]:=(ak.start C).fw;go_step;refine ah ?_;refine cA ?_;refine pk (ai ao) ?_;refine v6 ?_;refine pl a 0 2 ?_;refine pk (ai ao) ?_;refine pk (ai ao) ?_;refine cx ?_;refine bN a [] (λ_ _=>a1) (λ_ _=>emp) (λ_=>[]) (λ|4=>[0]|9=>[0]|_=>[]) (λ_=>[]) [0,1] (λO=>?_);refine hG ?_;refine dl 0 0 ?_;refine hG ?_;refine dl 0 1 ?_;refine aK _ (λ_ _ _=>xS 22 5 1 _ _ aa dK aw A _ c p (bs.length -p) aa aa ad ad) ?_;refine aJ ?_;refine bQ λw1 a=>?_;cases jf with
  |false=>
   refine ah ?_;refine v6 ?_;refine aI (J R (k:Int)) (by(have h:=D.out;go_simp;try rw[h])) ?_;refine aI _ (rF 22 5 1 _ _ aa dK aw _ _ _ k aa aa ad) ?_;refine aR (E _ a.only _ 1 a aa) ?_;rintro e T ⟨rfl,rfl⟩;refine aT ?_;refine pk (ai az) ?_;refine an ?_;have d:sj (⟨bs,p,0,dn⟩:Rd) m f=(ao,na (⟨bs,p,0,dn⟩:Rd) f p):=by unfold sj;rw[if_pos aa];show(if preB m ((bs.drop p).take (min m.length (bs.length -p)))=az then _ else _)=_;rw[v,x];rfl
   have n:=hid d;clear d;refine cx ?_;refine bN a [9] (λi _=>match i with|9=>bo #[]|_=>a1) (λ_=>λ|9=>aj B (lU A c (na (⟨bs,p,0,dn⟩:Rd) f p)) 333|_=>emp) (λ|9=>[0]|_=>[]) (λ|8=>[0]|_=>[]) (λ_=>[]) [1,11] (λO=>?_);refine BB ?_;refine dl 0 1 ?_;refine dh (λZ Fr a=>(N3 B 333 A c (⟨bs,p,0,dn⟩:Rd) f p _ (a.has 0)).mono ?_) ?_;·rintro e dr ⟨rfl,t⟩;exact⟨{},aa,a.xV t⟩
   refine bQ λU a=>?_;refine ah ?_;refine ag ?_;refine an ?_;go_wp2_with fail;go_ret;exact by rw[n];refine⟨aa,?_⟩;have h:=(a.pick (l':=[aj B (lU A c (na (⟨bs,p,0,dn⟩:Rd) f p)) 333,cz A c bs]) [1,0]).star;unfold eF;rw[(HQ _ _ _).1];exact ak.gu (s:=_) h 0
  |true=>
   refine ah ?_;refine v6 ?_;refine aI (J R (k:Int)) (by(have h:=D.out;go_simp;try rw[h])) ?_;refine aI _ (rF 22 5 1 _ _ aa dK aw _ _ _ k aa aa ad) ?_;refine aR (E _ a.only _ 1 a aa) ?_;rintro e V ⟨rfl,rfl⟩;refine aT ?_;refine pk (ai ao) ?_;refine an ?_;by_cases z:p+m.length<=bs.length
   .have d:sj (⟨bs,p,0,dn⟩:Rd) m f=(az,⟨bs,p+m.length,0,dn⟩):=by unfold sj;rw[if_pos aa];show(if preB m ((bs.drop p).take (min m.length (bs.length -p)))=az then _ else _)=_;rw[v,x,if_pos aa,if_pos z]
    have n:=hid d;clear d;refine ah ?_;refine v5 ?_;refine aR (afP B 333 A c (⟨bs,p,0,dn⟩:Rd) _ _ (a.has 0) aa z hc cd) ?_;rintro e X ⟨rfl,t⟩;replace a:=a.eQ 0 t;refine aT ?_;refine v5 ?_;refine ah ?_;refine eg ?_;go_wp2_with fail;go_ret;exact by rw[n];refine⟨aa,?_⟩;have h:=(a.pick (l':=[aj B (lU A c ⟨bs,p+m.length,0,dn⟩) 333,cz A c bs]) [0,1]).star;exact ak.gu (s:=_) h 0
   .have d:sj (⟨bs,p,0,dn⟩:Rd) m f=(ao,qb (⟨bs,p,0,dn⟩:Rd) m.length):=by unfold sj;rw[if_pos aa];show(if preB m ((bs.drop p).take (min m.length (bs.length -p)))=az then _ else _)=_;rw[v,x,if_pos aa,if_neg z]
    have n:=hid d;clear d;refine ah ?_;refine v5 ?_;refine aR (afO B 333 A c (⟨bs,p,0,dn⟩:Rd) m.length _ (a.has 0) N cd ad (cc (cc aG))) ?_;rintro e Y ⟨rfl,t⟩;replace a:=a.eQ 0 t;refine aT ?_;refine v5 ?_;refine ah ?_;refine eg ?_;go_wp2_with fail;go_ret;exact by rw[n];refine⟨aa,?_⟩;have h:=(a.pick (l':=[aj B (lU A c (qb (⟨bs,p,0,dn⟩:Rd) m.length)) 333,cz A c bs]) [0,1]).star;unfold eF;rw[(LU _ _).1];exact ak.gu (s:=_) h 0
 .have d:sj ⟨bs,p,bt,dn⟩ m f=(ao,⟨bs,p,bt,dn⟩):=by grind[sj]
  have n:=hid d;clear d;go_enter Tryz.func210,Tryz.ntmps210;have a:ak w (eF B A c ⟨bs,p,bt,dn⟩).cU w [aj B #[ae A bs.length c,J R (p:Int),J R bt,J R dn] 333,cz A c bs]:=(ak.start C).fw;go_step;refine ah ?_;refine cA ?_;refine pk (ai ao) ?_;refine v6 ?_;refine pl a 0 2 ?_;refine aI (ai az) (by(go_simp;try simp[F])) ?_;refine pk (ai az) ?_;refine ah ?_;refine ag ?_;refine an ?_;go_wp2_with fail;go_ret;exact by rw[n];exact⟨aa,ak.gu (s:=_) a.star 0⟩
section
def YR:∀(xs bV:List Int),xs.length=bV.length->((dU xs.length).all λi=>xs.getD i 0==bV.getD i 0)=(xs==bV)
 |[],[],_=>aa
 |x::xs,y::bV,h=>by have a:=YR xs bV aG;rw[List.length_cons,List.range_succ_eq_map,QT,List.all_map];grind
 |[],_::_,h=>by grind
 |_::_,[],h=>by grind
section
variable {P:ew}
def awD w d (t e) n (c:P.underlying t=ab (vd n e)) (a:P.underlying e=ab (.int dR)) (hsz:∀w,(mQ e).run P w=bf 1 w)
 (xs bV) (hx:xs.length=n) (hy:bV.length=n):(Pf (d+2) t (ar (aM a6 xs [])) (ar (aM a6 bV []))).run P w=bf (xs==bV) w:=by
 rw[<-YR xs bV (hx.trans hy.symm),hx,List.range_eq_range',Pf];simp only[gC,gO c,jI,hsz,az9,aAa,Nat.sub_zero,Nat.add_sub_cancel,Nat.div_one];have b:∀i∈al2 0 n 1,i<n:=λi hi=>by grind
 generalize al2 0 n 1=l at b⊢;induction l with
 |nil=>simp
 |cons i l h=>
  have hi:i<n:=b i bc
  have f:(part e (aM a6 xs []) (i*1)).run P w=bf (a6 (xs.getD i 0)) w:=by simp[aM,part,tR,gO a,cF (show i<xs.length by omega)]
  have g:(part e (aM a6 bV []) (i*1)).run P w=bf (a6 (bV.getD i 0)) w:=by simp[aM,part,tR,gO a,cF (show i<bV.length by omega)]
  have aI:(Pf (d+1) e (a6 (xs.getD i 0)) (a6 (bV.getD i 0))).run P w=bf (xs.getD i 0==bV.getD i 0) w:=by show(Pf (d+1) e (J dR _) (J dR _)).run P w=_;rw[run_equalIn_int w d e _ _ _ _ a]
  simp only[List.forIn_cons,gC,f,g,aI,jI,QT];cases hb:(xs.getD i 0==bV.getD i 0);·simp
  .grind[kg,jI]
def yQ {o} {a:b3} {w} (t e) n (x y) f (ho:o.op=.binOp .neq t x y f) (d:P.underlying t=ab (vd n e)) (b:P.underlying e=ab (.int dR)) (g:(P.info? e).map (·.size)=ab 1) (c:P.eqGuardType P.depth t=ao)
 (xs bV) (hx:a.eval x=ar (aM a6 xs [])) (hy:a.eval y=ar (aM a6 bV [])) (fq:xs.length=n) (uL:bV.length=n):
 (bz a.eval o).run P w=bf (da (ai (!(xs==bV)))) w:=by
 have hsz:∀w,(mQ e).run P w=bf 1 w:=λw=>by
  cases hi:P.info? e with
  |none=>grind
  |some i=>grind[run_sizeOf,Program.cellsOf]
 have h:=awD (P:=P) w 9998 t e n d b hsz xs bV fq uL;unfold bz;simp[ho,hx,hy,run_eqGuard_agg w _ _ _ _ _ _ c,run_neq_struct w,h]
def aeI{o}{a:b3}{w cs v}{ft k:Nat}ty x f(ho:o.op=.field ty x f)(hx:a.eval x=ar cs)(b:(match P.underlying ty with|some (.struct fs)=>(fs[f]?).map (λf=>(f.type,f.offset))|_=>af)=ab (ft,k))(hn:(P.underlying ft).map (λd=>d.isRow)=ab ao)(hv:cs[k]?=ab v):
 (bz a.eval o).run P w=bf (da v) w:=by
 cases hu:P.underlying ty with
 |none=>grind
 |some d=>
  cases d with
  |struct fs=>
   rw[hu]at b;cases hf:fs[f]? with
   |none=>grind
   |some c=>
    simp only[hf,q6,wZ,pn]at b;obtain⟨rfl,rfl⟩:=b;cases hd:P.underlying c.type with
    |none=>grind
    |some e=>
     have hagg:(tR c.type).run P w=bf ao w:=by unfold tR;rw[gC,gO hd w];cases e<;>simp_all
     unfold bz;simp[ho,hx,Instr.field,gO hu,hf,part,hagg,hv,asAgg]
  |_=>simp[hu]at b
end
def aoD{o n g h S}:(a' o n g h S).extract 2 (2+(aM a6 g.l []).size)=aM a6 g.l []:=by
 have h1:(aM a6 g.l []).size=32:=by simp[aM,g.len]
 have a:(g.l.map a6).length=32:=by simp[g.len]
 rw[h1];apply ahD;rw[ahG];simp only[a',aM,alV,kR,uc,Yo,List.drop_zero];rw[al4 a]
def aoE{o n g h S}:(a' o n g h S).extract 34 (34+(aM a6 h.l []).size)=aM a6 h.l []:=by
 have h1:(aM a6 h.l []).size=32:=by simp[aM,h.len]
 have a:(h.l.map a6).length=32:=by simp[h.len]
 have b:(g.l.map a6).length=32:=by simp[g.len]
 rw[h1];apply ahD;rw[ahG];simp only[a',aM,alV,kR,uc];rw[show(34:Nat)=32+1+1 from aa,Yo,Yo,List.drop_left' b,al4 a]
def p7(w:aP)(A:Option bT):Prop:=∀b,ej A b->b<w.heap.size
def p7.aH{w w' A}(h:p7 w A)(g:au w w'):p7 w' A:=λb hb=>Nat.lt_of_lt_of_le (h b hb) g.size
def T3 a aL c2 bs w ty(d:bs.length<=35184372088832)(hcell:aX w a #[ae aL bs.length c2] ty)(hb:bX w aL bs)(c:p7 w aL):
 aC ax 76 #[ae (ab ⟨a,0,af⟩) 1 1] w λe w'=>e=aB (ar (aM a6 (im bs) []))/\au w w':=
 aga a 0 1 aL c2 bs w d (hcell.cell 0 aa) hb (λb off e=>c b ⟨off,af,e⟩)
end
end Go.Proofs.YtcmhplknoglbkaaGreat
