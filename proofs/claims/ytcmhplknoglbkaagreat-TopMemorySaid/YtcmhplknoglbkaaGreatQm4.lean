/- Part 4 of the proof of TopMemorySaid. -/
import Derived.Deep.AppendSrc
import Derived.Lib.JoinLaws
import Derived.DeepKeys4
import Derived.Maps.OwnOps
import Derived.Shelf.Bytes.SlSmallAll
import Derived.Test.YtcmhplknoglbkaaGreatQm0
import Derived.Test.YtcmhplknoglbkaaGreatQm2
import Derived.Test.YtcmhplknoglbkaaGreatQm3
set_option linter.all false
set_option maxRecDepth 100000
set_option maxHeartbeats 4000000
open Go.Proofs.Tryz
open Array renaming ext'->ahx,toList_extract->ahA
open BitVec renaming ofInt->mN
open Bool renaming false->ao,true->az
open Go renaming Act->b3,Addr->bT,Calls->aD,Oper->cS,Program->ew,Value->aP,World->aQ,bodyPost_ret->c',builtin->qV,cell_of_row->fE,execOp->bA,grownCap_ge->zK,grownCap_le_maxLen->zL,growslice_fits->KM,heap_alloc_new->fL,invoke->nW,isAgg->tI,loadCellsFrom->PA,maxLen->eB,resolve->nX,results_cell_row->gG,run_append_grow_src->W7,run_copy_row->KQ,run_firstCells_some->KR,run_underlying->gN,sizeOf->mR,typeInfo->ny,undef->a7,wpList->cN,wpList_nil->an,wp_region_lit->cw
open Go.Addr renaming add->u7
open Go.Builtin renaming append_->pa,firstCells->rT,lenOf->wz,zeroCells->nt
open Go.Callee renaming builtin->pb
open Go.ChangeMaps renaming setBlock->la
open Go.Ending renaming returned->aB
open Go.Fn renaming func->ed
open Go.IntKind renaming bits->DV,i64->R,signed->Kt,u32->wC,u64->aF,u8->dO,wrap->DW
open Go.Lib renaming bytesOf->Gx
open Go.Next renaming value->dc
open Go.Obj renaming cells->bo
open Go.Op renaming call->nU,equalIn->O3,indexAddr->DX
open Go.Operand renaming const->p1,tmp->bj
open Go.Proofs.Tryz renaming func209->VK,func218->VL,func281->O9,func283->VU,ntmps209->Wd,ntmps218->We,ntmps281->Pf,ntmps283->Wi,prog->ax,underlying118->u',underlying22->dW,underlying23->sK,underlying3->jD,underlying354->Wy,underlying435->WE
open Go.Region renaming wanted->c9
open Go.Result renaming andThen_ok->jE,ok->bf
open Go.RowKit renaming Hid->aE,intOf->bQ
open Go.Sem renaming run_bind->gx,run_pure->kh
open Go.Src renaming ofSlice->WY
open Go.TypeDesc renaming array->vb,slice->iJ
open Go.Value renaming agg->ar,bool->ai,func->dI,int->J,map->dL,pointer->ay,slice->ae,tuple->bn
open List renaming all_cons->QE,append_assoc->kD,append_nil->kE,drop_succ_cons->X5,eq_nil_of_length_eq_zero->j3,extract->alO,foldl_cons->Aa,getElem?_eq_getElem->cE,getElem?_eq_some_iff->eJ,getElem?_map->j4,length_append->c7,length_drop->tS,length_map->hB,length_replicate->lI,length_set->tT,map_append->fP,map_cons->j5,map_nil->ln,map_toArray->oI,mem_cons_self->sU,mem_map->gP,mem_of_getElem?->cX,mem_singleton->vs,not_mem_nil->fQ,perm_append_comm->vt,range->dQ,range'->alU,range_succ->sV,replicate->dZ,take_add_one->gq,take_left'->alW,take_of_length_le->tU
open Nat renaming add_sub_cancel_left->tV,eq_zero_or_pos->lX,le_mul_of_pos_right->yw,le_refl->b9,mul_le_mul_right->tW,succ_mul->Ae,zero_add->iY,zero_le->cC
open Option renaming getD_some->vw,isSome_iff_exists->QX,map_some->q6,none->af,some->ab
open Option.some renaming injEq->w2
open Or renaming inl->b1,inr->cm
open Prod.mk renaming injEq->pq
open Std.Legacy.Range renaming forIn_eq_forIn_range'->az1,size->az2
namespace Go.Proofs.YtcmhplknoglbkaaGreat
section
open Go.RowKit Go.MapKept
def agT(bs:List Int)(i:Nat):Int:=pF (pF (pF (mE (gr (bs[4*i]?.getD 0)) 24) (mE (gr (bs[4*i+1]?.getD 0)) 16)) (mE (gr (bs[4*i+2]?.getD 0)) 8)) (gr (bs[4*i+3]?.getD 0))
def uH(bs:List Int):Nat->List Int
 |0=>dZ 16 0
 |i+1=>(uH bs i).set i (agT bs i)
def M5(bs:List Int):∀q,(uH bs q).length=16
 |0=>aa
 |q+1=>by rw[uH,tT];exact M5 bs q
def Be(t:Nat)(w:List Int):List Int:=if 16<=t then w.set (t%16) (a32 (w[t%16]?.getD 0) (a32 (a32 (hV (hV (k8 (w[(t+1)%16]?.getD 0) 25) (k8 (w[(t+1)%16]?.getD 0) 14)) (jg (w[(t+1)%16]?.getD 0) 3)) (w[(t+9)%16]?.getD 0)) (hV (hV (k8 (w[(t+14)%16]?.getD 0) 15) (k8 (w[(t+14)%16]?.getD 0) 13)) (jg (w[(t+14)%16]?.getD 0) 10))))else w
def awM{t:Nat}{w:List Int}{n:Nat}(h:w.length=n):(Be t w).length=n:=by
 unfold Be;split;·rw[tT];exact h
 .exact h
def Bg(v:List Int):List Int:=v.take 1++v.take 7
def Dx{v:List Int}(h:v.length=8):(Bg v).length=8:=by simp[Bg,h]
def agj(k a:Int)(v:List Int):Int:=a32 (a32 (a32 (a32 (v[7]?.getD 0) (hV (hV (k8 (v[4]?.getD 0) 26) (k8 (v[4]?.getD 0) 21)) (k8 (v[4]?.getD 0) 7))) (hV (v[6]?.getD 0) (n32 (v[4]?.getD 0) (hV (v[5]?.getD 0) (v[6]?.getD 0))))) k) a
def axB(v:List Int):Int:=a32 (hV (hV (k8 (v[0]?.getD 0) 30) (k8 (v[0]?.getD 0) 19)) (k8 (v[0]?.getD 0) 10)) (pF (n32 (v[0]?.getD 0) (v[1]?.getD 0)) (n32 (v[2]?.getD 0) (pF (v[0]?.getD 0) (v[1]?.getD 0))))
def Uj(k a:Int)(v:List Int):List Int:=((Bg v).set 4 (a32 ((Bg v)[4]?.getD 0) (agj k a v))).set 0 (a32 (agj k a v) (axB v))
def avY{k a:Int}{v:List Int}(h:v.length=8):(Uj k a v).length=8:=by simp only[Uj,tT];exact Dx h
def Ji(t:Nat)(p:List Int×List Int):List Int×List Int:=(Be t p.1,Uj (za[t]?.getD 0) ((Be t p.1)[t%16]?.getD 0) p.2)
def awh{t:Nat}{p:List Int×List Int}(h:p.1.length=16/\p.2.length=8):(Ji t p).1.length=16/\(Ji t p).2.length=8:=⟨awM h.1,avY h.2⟩
def wj(bs ws:List Int):Nat->List Int×List Int
 |0=>(bs,ws)
 |t+1=>Ji t (wj bs ws t)
def Ue{bs ws:List Int}(hb:bs.length=16)(h:ws.length=8):∀t,(wj bs ws t).1.length=16/\(wj bs ws t).2.length=8
 |0=>⟨hb,h⟩
 |t+1=>by rw[wj];exact awh (Ue hb h t)
def Bn(v:List Int)(ws:List Int):Nat->List Int
 |0=>ws
 |i+1=>(Bn v ws i).set i (a32 ((Bn v ws i)[i]?.getD 0) (v[i]?.getD 0))
def N4{v ws:List Int}(h:ws.length=8):∀i,(Bn v ws i).length=8
 |0=>h
 |i+1=>by rw[Bn,tT];exact N4 h i
def Ew(ws bs:List Int):List Int:=Bn (wj (uH bs 16) ws 64).2 ws 8
theorem Ex{ws bs:List Int}(h:ws.length=8):(Ew ws bs).length=8:=N4 h 8
def afS{v:List Int}(h:v.length=8):((aM bw v []).toList.take 1++(v.take 7).map bw++(aM bw v []).toList.drop (1+7)).toArray=aM bw (Bg v) []:=by
 have h1:(aM bw v []).toList=v.map bw:=by simp[aM]
 rw[h1];have a:(v.map bw).drop (1+7)=[]:=List.drop_eq_nil_of_le (by simp[h]);rw[a];simp[aM,Bg,List.map_take]
def Zg{w:aQ}{B t j:Nat}{v:aP}{b:List Int}(hb:aX w B (aM bw b []) t)(c:b.length=8)(a:((b.take 7).map bw)[j]?=ab v):w.cell? ((⟨B,0,af⟩:bT).add j)=ab v:=by
 rw[mW,iY];refine aX.cell hb j ?_;rw[j4,List.getElem?_take]at a;simp only[aM,kE,List.getElem?_toArray,j4];split at a;·exact a
 .cases a
section
variable {P:ew} {o:cS} {a:b3} {w:aQ}
def Zf{d m:Operand}{e l f B off c h g k t n:Nat}{b:bT}{old new:Array aP}(cs:List aP)(ho:o.op=nU {callee:=pb .copy,args:=#[d,m],argTypes:=#[e,l]})(q:a.eval d=ae (ab ⟨B,off,af⟩) c h)(y:a.eval m=ae (ab b) g k)(i:aX w B old t)(x:∀j v,cs[j]?=ab v->w.cell? (b.add j)=ab v)(p:cs.length=n)(s:(old.toList.take off++cs++old.toList.drop (off+n)).toArray=new)(hcs:n=Nat.min g c)(r:off+n<=old.size)(h1:∀v∈cs,v.oneCell'=az)(z:P.underlying e=ab (iJ f))(u:(P.info? f).map (·.size)=ab 1):
 ∃w',(bA a.eval o).run P w=bf (dc (J R (n:Int))) w'/\Turned w w' (aj B old t) (aj B new t):=by
 subst p;have hr:=KQ (P:=P) w e l o.type f B off c h b g k old t cs z u i hcs x r h1;refine⟨w.setRow B (old.toList.take off++cs++old.toList.drop (off+cs.length)).toArray,?_,vz (av.setRow w B _) (s▸i.setRow _)⟩;unfold bA;simp only[ho,nX,nW,qV,gx,kh,jE,oI,j5,ln,q,y,hr];rfl
end
set_option maxHeartbeats 8000000 in
def am7(B t:Nat)(ws:List Int)(s:aP)(n:Int)(A:Option bT)(du:Nat)(bs:List Int)(w:aQ)(ht:t≠5)(rz:ws.length=8)(hl:bs.length=64)(hb:b2 w A bs)(hne:∀off sp,A≠ab ⟨B,off,sp⟩)(U:aX w B (aM bw ws [s,J R n]) t):
 aD ax 299 #[ay (ab ⟨B,0,af⟩),ae A 64 du] w λe w'=>e=aB (bn #[])/\av (λb=>b=B) w w'/\aX w' B (aM bw (Ew ws bs) [s,J R n]) t:=by
 obtain⟨l,g,rfl,P⟩:=hb ad;have E:=hid P;have u:=hid rz;have aBt:l≠B:=λe=>hne g af (by rw[e]);clear hb P hne;go_enter func299,ntmps299;have a:=ak.start (t:=aj B (aM bw ws [s,J R n]) t) ⟨U,λb e=>(show b=B from e)▸aX.lt U⟩;go_upto_region 0 with fail;refine cw ?_;refine bl a (aM bw (uH bs 0) []) (λD w1 a=>?_);refine an ?_;go_upto_region 1 with fail;refine cw ?_;refine ag ?_;refine L' ?_;go_loopw [21] (λh wr=>∃q:Nat,q<=16/\h=J R q/\ak w (λb=>b=B) wr [aj D (aM bw (uH bs q) []) 434,aj B (aM bw (ws) [s,J R n]) t]) (λh wr=>16 -(bQ h).toNat);case atStart=>exact⟨0,cC _,aa,a⟩
 case round=>
  clear a;obtain⟨q,T,rfl,a⟩:=hrel;by_cases hlt:q<16
  .have S:(q:Int)<16:=ad;obtain⟨kl,hb0⟩:=ex (bs[4*q]?.getD 0);have X:=E (4*q) ad;rw[hb0]at X;obtain⟨eF,hb1⟩:=ex (bs[4*q+1]?.getD 0);have Y:=E (4*q+1) ad;rw[hb1]at Y;obtain⟨eK,hb2⟩:=ex (bs[4*q+2]?.getD 0);have Z:=E (4*q+2) ad;rw[hb2]at Z;obtain⟨pt,hb3⟩:=ex (bs[4*q+3]?.getD 0);have z3:=E (4*q+3) ad;rw[hb3]at z3;have F:=hid (And.intro hb0 (And.intro hb1 (And.intro hb2 hb3)));clear hb0 hb1 hb2 hb3;go_upto_region 3 with fail;refine cw ?_;refine v2 ?_;refine an ?_;go_upto_region 4 with fail;refine bR a [35] (λ_ _=>a7) (λ_=>λ|35=>aj D (aM bw ((uH bs q).set q (pF (pF (pF (mE (gr kl) 24) (mE (gr eF) 16)) (mE (gr eK) 8)) (gr pt))) []) 434|_=>emp) (λ|35=>[0]|_=>[]) (λ_=>[]) (λ_=>[]) [1,37] (λo=>?_);refine da ?_;refine Ax 4 (q:Int) ((4*q:Nat):Int) ?_;refine aL (ay (ab ⟨l,(g+(4*q)),af⟩)) (λ_ _ _=>b4 22 5 1 (bj 25) (bj 27) aa dW aw l g 64 du ((4*q)) ((g+(4*q))) aa aa ad ad) ?_;refine j6 X ?_;refine fT (bw (gr kl)) ?_;refine fT (bw (mE (gr kl) 24)) ?_;refine bG ?_;refine Ax 4 (q:Int) ((4*q:Nat):Int) ?_;refine qh ((4*q:Nat):Int) 1 ((4*q+1:Nat):Int) ?_;refine aL (ay (ab ⟨l,(g+(4*q+1)),af⟩)) (λ_ _ _=>b4 22 5 1 (bj 32) (bj 35) aa dW aw l g 64 du ((4*q+1)) ((g+(4*q+1))) aa aa ad ad) ?_;refine j6 Y ?_;refine fT (bw (gr eF)) ?_;refine fT (bw (mE (gr eF) 16)) ?_;refine ik ?_;refine bG ?_;refine Ax 4 (q:Int) ((4*q:Nat):Int) ?_;refine qh ((4*q:Nat):Int) 2 ((4*q+2:Nat):Int) ?_;refine aL (ay (ab ⟨l,(g+(4*q+2)),af⟩)) (λ_ _ _=>b4 22 5 1 (bj 41) (bj 44) aa dW aw l g 64 du ((4*q+2)) ((g+(4*q+2))) aa aa ad ad) ?_;refine j6 Z ?_;refine fT (bw (gr eK)) ?_;refine fT (bw (mE (gr eK) 8)) ?_;refine ik ?_;refine bG ?_;refine Ax 4 (q:Int) ((4*q:Nat):Int) ?_;refine qh ((4*q:Nat):Int) 3 ((4*q+3:Nat):Int) ?_;refine aL (ay (ab ⟨l,(g+(4*q+3)),af⟩)) (λ_ _ _=>b4 22 5 1 (bj 50) (bj 53) aa dW aw l g 64 du ((4*q+3)) ((g+(4*q+3))) aa aa ad ad) ?_;refine j6 z3 ?_;refine fT (bw (gr pt)) ?_;refine ik ?_;refine kZ ?_;refine RE (M5 ..) ?_;refine bW λaT a=>?_;go_wp2_with fail;go_roundw;case rel=>exact⟨q+1,ad,by go_num,by rw[uH,agT,F.1,F.2.1,F.2.2.1,F.2.2.2];exact a.pick [1,0]⟩
   case measure=>simp[bQ];omega
  .obtain rfl:q=16:=ad;go_upto_region 6 with fail;refine cw ?_;refine v3 ?_;refine zj a 1 u ?_;refine bl a (aM bw (dZ 8 0) []) (λL bF a=>?_);refine pI a 0 (lI ..) u (λb8 a=>?_);refine an ?_;go_upto_region 7 with fail;refine cw ?_;refine bC (Tn _) a (λcA a=>?_);refine ag ?_;refine L' ?_;go_loopw [65] (λh wr=>∃q:Nat,q<=64/\h=J R q/\ak w (λb=>b=B) wr [aj L (aM bw ((wj (uH bs 16) ws q).2) []) 352,aj D (aM bw ((wj (uH bs 16) ws q).1) []) 434,aj B (aM bw (ws) [s,J R n]) t]) (λh wr=>64 -(bQ h).toNat);case atStart=>exact⟨0,cC _,aa,a⟩
   case round=>
    clear a;obtain⟨q,T,rfl,a⟩:=hrel;obtain⟨d,I⟩:=ex (wj (uH bs 16) ws q).1;obtain⟨f,H⟩:=ex (wj (uH bs 16) ws q).2;have hl4:d.length=16:=by rw[<-I];exact(Ue (M5 bs 16) u q).1
    have Q:f.length=8:=by rw[<-H];exact(Ue (M5 bs 16) u q).2
    rw[I,H]at a;have y:=hid (And.intro I H);have r:=hid hl4;have c:=hid Q;clear I H hl4 Q;by_cases hlt:q<64
    .have S:(q:Int)<64:=ad;obtain⟨k,hx0⟩:=ex (q%16);obtain⟨cW,hx1⟩:=ex ((q+1)%16);obtain⟨K,W⟩:=ex ((q+9)%16);obtain⟨p,V⟩:=ex ((q+14)%16);by_cases G:16<=q
     .have aqh:(16:Int)<=(q:Int):=ad;go_upto_region 9 with fail;refine cw ?_;refine ag ?_;refine aG (bw (za[q]?.getD 0)) (Tk 435 315 64 (bj 64) (bj 65) aa WE aw aw bw za q aa aa hlt Tm) ?_;refine v2 ?_;refine an ?_;go_upto_region 10 with fail;refine cw ?_;refine v2 ?_;refine an ?_;go_upto_region 11 with fail;refine bR a [] (λ_ _=>a7) (λ_ _=>emp) (λ_=>[]) (λ|4=>[1]|9=>[1]|_=>[]) (λ_=>[]) [0,1,2] (λo=>?_);refine aJ ?_;refine qh (q:Int) 1 ((q+1:Nat):Int) ?_;refine aL (J R (cW:Int)) (λ_ _ _=>Ev 3 (bj 72) (p1 (J R 15)) 3 aa ((q+1)) aa aa ad cW ad) ?_;refine kZ ?_;refine l0 0 r ?_;refine aJ ?_;refine qh (q:Int) 14 ((q+14:Nat):Int) ?_;refine aL (J R (p:Int)) (λ_ _ _=>Ev 3 (bj 77) (p1 (J R 15)) 3 aa ((q+14)) aa aa ad p ad) ?_;refine kZ ?_;refine l0 0 r ?_;refine bG ?_;refine bW λcR a=>?_;go_upto_region 12 with fail;refine cw ?_;refine ag ?_;refine bC (qD _ (-7) 25 _ aS) a (λdz a=>?_);refine ag ?_;refine bC (qD _ (-18) 14 _ aS) a (λdv a=>?_);refine pu ?_;refine ag ?_;refine pk (bw (jg (d[cW]?.getD 0) 3)) ?_;refine pu ?_;refine ag ?_;refine an ?_;go_upto_region 13 with fail;refine cw ?_;refine ag ?_;refine bC (qD _ (-17) 15 _ aS) a (λeU a=>?_);refine ag ?_;refine bC (qD _ (-19) 13 _ aS) a (λgF a=>?_);refine pu ?_;refine ag ?_;refine pk (bw (jg (d[p]?.getD 0) 10)) ?_;refine pu ?_;refine ag ?_;refine an ?_;go_upto_region 14 with fail;refine bR a [15] (λ_ _=>a7) (λ_=>λ|15=>aj D (aM bw (d.set k (a32 (d[k]?.getD 0) (a32 (a32 (hV (hV (k8 (d[cW]?.getD 0) 25) (k8 (d[cW]?.getD 0) 14)) (jg (d[cW]?.getD 0) 3)) (d[K]?.getD 0)) (hV (hV (k8 (d[p]?.getD 0) 15) (k8 (d[p]?.getD 0) 13)) (jg (d[p]?.getD 0) 10))))) []) 434|_=>emp) (λ|15=>[1]|_=>[]) (λ|3=>[1]|9=>[1]|_=>[]) (λ_=>[]) [0,2,18] (λo=>?_);refine aJ ?_;refine aL (J R (k:Int)) (λ_ _ _=>Ev 3 (bj 97) (p1 (J R 15)) 3 aa q aa aa ad k ad) ?_;refine kZ ?_;refine l0 0 r ?_;refine bG ?_;refine qh (q:Int) 9 ((q+9:Nat):Int) ?_;refine aL (J R (K:Int)) (λ_ _ _=>Ev 3 (bj 103) (p1 (J R 15)) 3 aa ((q+9)) aa aa ad K ad) ?_;refine kZ ?_;refine l0 0 r ?_;refine ik ?_;refine aJ ?_;iterate 2 refine ik ?_
      refine kZ ?_;refine RE r ?_;refine bW λhI a=>?_;obtain⟨z,m⟩:=ex (d.set k (a32 (d[k]?.getD 0) (a32 (a32 (hV (hV (k8 (d[cW]?.getD 0) 25) (k8 (d[cW]?.getD 0) 14)) (jg (d[cW]?.getD 0) 3)) (d[K]?.getD 0)) (hV (hV (k8 (d[p]?.getD 0) 15) (k8 (d[p]?.getD 0) 13)) (jg (d[p]?.getD 0) 10)))));rw[m]at a;have C:z.length=16:=by rw[<-m];exact(tT.trans r)
      have N:aE (Be q d=z):=hid (by rw[<-m];unfold Be;first|rw[if_pos G,hx0,hx1,W,V]|rw[if_neg G]);have M:=hid C;clear m C;go_upto_region 15 with fail;refine bR a [] (λ_ _=>a7) (λ_ _=>emp) (λ_=>[]) (λ|1=>[0]|3=>[0]|_=>[]) (λ_=>[]) [0,1,2] (λo=>?_);refine kZ ?_;refine l0 0 c ?_;refine kZ ?_;refine l0 0 c ?_;refine bG ?_;refine bW λjK a=>?_;go_upto_region 16 with fail;refine cw ?_;refine kK ?_;refine ou a 0 c ?_;refine ag ?_;refine kK ?_;refine ou a 0 c ?_;refine kK ?_;refine ou a 0 c ?_;iterate 3 refine pu ?_
      refine ag ?_;refine an ?_;go_upto_region 17 with fail;refine cw ?_;refine ag ?_;refine kK ?_;refine ou a 0 c ?_;refine pu ?_;refine kK ?_;refine ou a 0 c ?_;refine ag ?_;refine kK ?_;refine ou a 0 c ?_;iterate 3 refine pu ?_
      refine ag ?_;refine an ?_;go_upto_region 18 with fail;refine bR a [3,5,8] (λi _=>match i with|3=>bw (k8 (f[4]?.getD 0) 26)|5=>bw (k8 (f[4]?.getD 0) 21)|8=>bw (k8 (f[4]?.getD 0) 7)|_=>a7) (λ_ _=>emp) (λ_=>[]) (λ|1=>[0]|18=>[2]|_=>[]) (λ_=>[]) [0,1,2,6,8,11] (λo=>?_);refine kZ ?_;refine l0 0 c ?_;refine aJ ?_;refine dK (λ_ _ _=>qD _ (-6) 26 _ aS) ?_;refine aJ ?_;refine dK (λ_ _ _=>qD _ (-11) 21 _ aS) ?_;refine ik ?_;refine aJ ?_;refine dK (λ_ _ _=>qD _ (-25) 7 _ aS) ?_;iterate 2 refine ik ?_
      refine aJ ?_;refine ik ?_;refine aJ ?_;refine ik ?_;refine aJ ?_;refine aL (J R (k:Int)) (λ_ _ _=>Ev 3 (bj 153) (p1 (J R 15)) 3 aa q aa aa ad k ad) ?_;refine kZ ?_;refine l0 0 M ?_;refine ik ?_;refine aJ ?_;refine bW λke a=>?_;replace a:=a.drop 3;replace a:=a.drop 3;replace a:=a.drop 3;go_upto_region 19 with fail;refine cw ?_;refine ag ?_;refine bC (qD _ (-2) 30 _ aS) a (λk9 a=>?_);refine ag ?_;refine bC (qD _ (-13) 19 _ aS) a (λmj a=>?_);refine pu ?_;refine ag ?_;refine bC (qD _ (-22) 10 _ aS) a (λnp a=>?_);refine pu ?_;refine ag ?_;refine pu ?_;refine ag ?_;refine an ?_;go_upto_region 20 with fail;refine bR a [2] (λi _=>match i with|2=>J R 7|_=>a7) (λ_=>λ|2=>aj L (aM bw (Bg f) []) 352|_=>emp) (λ|2=>[0]|_=>[]) (λ_=>[]) (λ_=>[]) [1,2,5] (λo=>?_);refine bG ?_;refine HD (J R 7) (λ_ _ a=>Zf ((f.take 7).map bw) aa aa aa (a.aW 0) (λj v O=>Zg (a.aW 0) c O) (n:=7) (by simp[c.out]) (afS c) aa (by rw[i',c];decide) (λv hv=>by obtain⟨x,_,rfl⟩:=gP.1 hv;rfl) aa aw) ?_;refine bW λqH a=>?_;go_upto_region 21 with fail;refine cw ?_;refine kK ?_;refine ou a 2 (Dx c) ?_;refine ag ?_;refine pu ?_;refine kK ?_;refine xC a 2 (Dx c) (λrJ a=>?_);refine an ?_;go_upto_region 22 with fail;refine cw ?_;refine v2 ?_;refine pu ?_;refine kK ?_;refine xC a 2 (tT.trans (Dx c)) (λu3 a=>?_);refine an ?_;go_wp2_with fail;go_roundw;case rel=>exact⟨q+1,ad,by go_num,by rw[wj,Ji,y.1,y.2,N,hx0];exact a.pick [2,1,0]⟩
      case measure=>simp[bQ];omega
     .have aqh:¬(16:Int)<=(q:Int):=ad;go_upto_region 9 with fail;refine cw ?_;refine ag ?_;refine aG (bw (za[q]?.getD 0)) (Tk 435 315 64 (bj 64) (bj 65) aa WE aw aw bw za q aa aa hlt Tm) ?_;refine v2 ?_;refine an ?_;go_upto_region 10 with fail;refine cw ?_;refine v2 ?_;refine an ?_;obtain⟨z,m⟩:=ex d;rw[m]at a;have C:z.length=16:=by rw[<-m];exact r
      have N:aE (Be q d=z):=hid (by rw[<-m];unfold Be;first|rw[if_pos G,hx0,hx1,W,V]|rw[if_neg G]);have M:=hid C;clear m C;go_upto_region 15 with fail;refine bR a [] (λ_ _=>a7) (λ_ _=>emp) (λ_=>[]) (λ|1=>[0]|3=>[0]|_=>[]) (λ_=>[]) [0,1,2] (λo=>?_);refine kZ ?_;refine l0 0 c ?_;refine kZ ?_;refine l0 0 c ?_;refine bG ?_;refine bW λxO a=>?_;go_upto_region 16 with fail;refine cw ?_;refine kK ?_;refine ou a 0 c ?_;refine ag ?_;refine kK ?_;refine ou a 0 c ?_;refine kK ?_;refine ou a 0 c ?_;iterate 3 refine pu ?_
      refine ag ?_;refine an ?_;go_upto_region 17 with fail;refine cw ?_;refine ag ?_;refine kK ?_;refine ou a 0 c ?_;refine pu ?_;refine kK ?_;refine ou a 0 c ?_;refine ag ?_;refine kK ?_;refine ou a 0 c ?_;iterate 3 refine pu ?_
      refine ag ?_;refine an ?_;go_upto_region 18 with fail;refine bR a [3,5,8] (λi _=>match i with|3=>bw (k8 (f[4]?.getD 0) 26)|5=>bw (k8 (f[4]?.getD 0) 21)|8=>bw (k8 (f[4]?.getD 0) 7)|_=>a7) (λ_ _=>emp) (λ_=>[]) (λ|1=>[0]|18=>[1]|_=>[]) (λ_=>[]) [0,1,2,6,8,11] (λo=>?_);refine kZ ?_;refine l0 0 c ?_;refine aJ ?_;refine dK (λ_ _ _=>qD _ (-6) 26 _ aS) ?_;refine aJ ?_;refine dK (λ_ _ _=>qD _ (-11) 21 _ aS) ?_;refine ik ?_;refine aJ ?_;refine dK (λ_ _ _=>qD _ (-25) 7 _ aS) ?_;iterate 2 refine ik ?_
      refine aJ ?_;refine ik ?_;refine aJ ?_;refine ik ?_;refine aJ ?_;refine aL (J R (k:Int)) (λ_ _ _=>Ev 3 (bj 153) (p1 (J R 15)) 3 aa q aa aa ad k ad) ?_;refine kZ ?_;refine l0 0 M ?_;refine ik ?_;refine aJ ?_;refine bW λBt a=>?_;replace a:=a.drop 3;replace a:=a.drop 3;replace a:=a.drop 3;go_upto_region 19 with fail;refine cw ?_;refine ag ?_;refine bC (qD _ (-2) 30 _ aS) a (λBu a=>?_);refine ag ?_;refine bC (qD _ (-13) 19 _ aS) a (λDD a=>?_);refine pu ?_;refine ag ?_;refine bC (qD _ (-22) 10 _ aS) a (λJA a=>?_);refine pu ?_;refine ag ?_;refine pu ?_;refine ag ?_;refine an ?_;go_upto_region 20 with fail;refine bR a [2] (λi _=>match i with|2=>J R 7|_=>a7) (λ_=>λ|2=>aj L (aM bw (Bg f) []) 352|_=>emp) (λ|2=>[0]|_=>[]) (λ_=>[]) (λ_=>[]) [1,2,5] (λo=>?_);refine bG ?_;refine HD (J R 7) (λ_ _ a=>Zf ((f.take 7).map bw) aa aa aa (a.aW 0) (λj v O=>Zg (a.aW 0) c O) (n:=7) (by simp[c.out]) (afS c) aa (by rw[i',c];decide) (λv hv=>by obtain⟨x,_,rfl⟩:=gP.1 hv;rfl) aa aw) ?_;refine bW λUK a=>?_;go_upto_region 21 with fail;refine cw ?_;refine kK ?_;refine ou a 2 (Dx c) ?_;refine ag ?_;refine pu ?_;refine kK ?_;refine xC a 2 (Dx c) (λUL a=>?_);refine an ?_;go_upto_region 22 with fail;refine cw ?_;refine v2 ?_;refine pu ?_;refine kK ?_;refine xC a 2 (tT.trans (Dx c)) (λUM a=>?_);refine an ?_;go_wp2_with fail;go_roundw;case rel=>exact⟨q+1,ad,by go_num,by rw[wj,Ji,y.1,y.2,N,hx0];exact a.pick [2,0,1]⟩
      case measure=>simp[bQ];omega
    .obtain rfl:q=64:=ad;replace a:=a.drop 1;go_upto_region 24 with fail;refine cw ?_;refine zj a 0 c ?_;refine ag ?_;refine L' ?_;go_loopw [182] (λh wr=>∃q:Nat,q<=8/\h=J R q/\ak w (λb=>b=B) wr [aj B (aM bw (Bn f ws q) [s,J R n]) t]) (λh wr=>8 -(bQ h).toNat);case atStart=>exact⟨0,cC _,aa,a.drop 0⟩
     case round=>
      clear a;obtain⟨q,T,rfl,a⟩:=hrel;by_cases hlt:q<8
      .have S:(q:Int)<8:=ad;go_upto_region 26 with fail;refine cw ?_;refine ag ?_;refine aG (bw (f[q]?.getD 0)) (Tk 352 315 8 (bj 181) (bj 182) aa underlying352 aw aw bw f q aa aa hlt c) ?_;refine v2 ?_;refine an ?_;go_upto_region 27 with fail;refine bR a [11] (λ_ _=>a7) (λ_=>λ|11=>aj B (aM bw ((Bn f ws q).set q (a32 ((Bn f ws q)[q]?.getD 0) (f[q]?.getD 0))) [s,J R n]) t|_=>emp) (λ|11=>[0]|_=>[]) (λ|5=>[0]|_=>[]) (λ_=>[]) [12] (λo=>?_);refine hW ?_;refine kZ ?_;refine l0 0 (N4 u q) ?_;refine aJ ?_;refine ik ?_;refine bG ?_;refine kZ ?_;refine RE (N4 u q) ?_;refine bW λUN a=>?_;go_wp2_with fail;go_roundw;case rel=>exact⟨q+1,ad,by go_num,a⟩
       case measure=>simp[bQ];omega
      .obtain rfl:q=8:=ad;refine dE ?_;refine⟨aa,a.only,?_⟩;rw[Ew,y.2];exact a.aW 0
end
section
open Go.RowKit Go.MapKept
def afO{t fr}g:∀(b) o (w:aQ) cur,w.heap[g]?=ab (bo cur t fr)->
 ∃a,(w.setCells g o b).heap[g]?=ab (bo a t fr)/\a.size=cur.size/\∀j,a[j]?=if o<=j/\j<o+b.length/\j<cur.size then b[j -o]? else cur[j]?
 |[],o,w,cur,h=>⟨cur,h,rfl,λj=>aH⟩
 |v::r,o,w,cur,h=>by
  have h1:(w.setCell ⟨g,o,af⟩ v).heap[g]?=ab (bo (cur.setIfInBounds o v) t fr):=by grind[World.setCell]
  obtain⟨a,c,d,e⟩:=afO g r (o+1) _ _ h1;refine⟨a,c,aH,λj=>?_⟩;grind
def av.awV w(g o)a:av (λk=>k=g) w (w.setCells g o a):=by
 induction a generalizing o w with
 |nil=>exact av.refl _ _
 |cons v r b=>exact(av.setCell (F:=λk=>k=g) w (p:=_) aa v).trans (b _ _) (λ_ _ h=>h)
def e9(N:Nat)(w:aQ)(A:Option bT)(n c:Nat)(e:TypeId)(xs:List aP):Prop:=xs.length=n/\((A=af/\n=0/\c=0)\/
 ∃g off cur,A=ab ⟨g,off,af⟩/\N<=g/\aX w g cur e/\n<=c/\c<=eB/\off+c<=cur.size/\∀j,j<n->cur[off+j]?=xs[j]?)
section
variable {F:Nat->Prop} {w w':aQ} {N n c e cc B m:Nat} {A:Option bT} {xs:List aP}
theorem e9.nil N w e:e9 N w af 0 0 e []:=⟨aa,b1 ⟨aa,aa,aa⟩⟩
def e9.only(h:e9 N w A n c e xs)(k:av F w w')(hn:∀b,eh A b->¬F b):e9 N w' A n c e xs:=by
 refine⟨h.1,?_⟩;rcases h.2 with h2|⟨g,off,cur,rfl,hb,hg,r⟩;·grind
 .exact cm ⟨g,_,_,aa,hb,k.heap hg (hn g ⟨_,_,aa⟩),r⟩
def e9.mem(h:e9 N w A n c e xs):Mem N w A e:=λb off f a=>by
 rcases h.2 with⟨rfl,_⟩|⟨g,o,cur,rfl,hb,d,_⟩;·grind
 grind
def e9.lt(h:e9 N w A n c e xs){b}(hb:eh A b):N<=b/\b<w.heap.size:=by obtain⟨off,d,e⟩:=hb;obtain⟨h1,cs,a⟩:=h.mem b off d e;exact⟨h1,aX.lt a⟩
def e9.cap(h:e9 N w A n c e xs):n<=c:=by
 rcases h.2 with⟨_,a,b⟩|⟨_,_,_,_,_,_,d,_⟩;·omega
 .omega
def e9.atU{cs}(h:e9 N w A n c e xs)(hb:aX w B cs cc)(g:cc≠e):¬eh A B:=λ⟨off,b,a⟩=>by obtain⟨_,d,f⟩:=h.mem B off b a;grind
def e9.ofRow(h:Row N w A n c e 1 xs):e9 N w A n c e xs:=by
 refine⟨by simpa using h.1,?_⟩;rcases h.2 with⟨hv,d⟩|⟨g,cap,cur,hv,hb,a,hn,b,i,k⟩;·grind
 .injection hv with h1 h2 h3;subst h3;refine cm ⟨g,0,_,h1,hb,a,hn,b,ad,λj f=>?_⟩;grind
def e9.drop(h:e9 N w A n c e xs){i}(hi:i<=n):e9 N w (fK A c i 1) (n -i) (c -i) e (xs.drop i):=by
 refine⟨by rw[tS,h.1],?_⟩;rcases h.2 with⟨rfl,a,b⟩|⟨g,off,cur,rfl,h1,a,b,f,k,l⟩;·grind[fK]
 .right;by_cases hc:c=i;·exact⟨g,off,cur,by grind[fK],h1,a,ad,ad,ad,λj d=>ad⟩
  .refine⟨g,off+i,cur,by grind[fK,mW],h1,a,ad,ad,ad,λj d=>?_⟩;grind
def e9.nk{bs}(h:e9 N w A bs.length c 5 (bs.map a6)):fe N w A c bs:=by
 refine⟨λi=>?_,h.mem,h.cap⟩;rcases h.2 with⟨_,a,_⟩|⟨g,off,cur,rfl,h1,a,b,d,e,f⟩;·omega
 grind[aX.cell]
end
section
variable {P:ew} (w:aQ)
def awo N (t ty e) i z (d:P.underlying t=ab (iJ e)) (hi:P.info? e=ab i) (hz:i.zero=ab z) (hsize:i.size=1) (hzs:z.cells.size=1)
 A (n c) xs (dg:e9 N w A n c e xs) aK (m c2) news (hr:Cells w 1 aK m news) (h1:∀u∈news,u.oneCell'=az)
 (h63:n+m<=eB) (hbytes:(n+m)*i.bytes<=140737488355328) (fp:N<=w.heap.size):
 ∃a f w',(pa #[t,t] ty #[ae A n c,ae aK m c2]).run P w=bf (ae a (n+m) f) w'/\e9 N w' a (n+m) f e (xs++news)/\vo (eh A) w w'/\(∀b,eh a b->eh A b\/w.heap.size<=b):=by
 have hlen:(xs++news).length=n+m:=by rw[c7,dg.1,hr.1];omega
 rcases lX m with p|p
 .subst p;have hn:=j3 (by simpa using hr.1);subst hn;refine⟨A,c,w,?_,aH,au.keep (av.refl _ w),λb hb=>b1 hb⟩;have hc:=dg.cap;rcases aK with _|o
  .rcases dg.2 with⟨rfl,rfl,rfl⟩|⟨g,off,cur,rfl,_⟩;·simp[pa,gN d,mR,ny,hi,wz,rT]
   .simp[pa,gN d,mR,ny,hi,wz,rT,hc,storeCells]
  .rcases dg.2 with⟨rfl,rfl,rfl⟩|⟨g,off,cur,rfl,_⟩;·simp[pa,gN d,mR,ny,hi,wz,rT,loadCells,PA]
   .simp[pa,gN d,mR,ny,hi,wz,rT,loadCells,PA,hc,storeCells]
 .obtain⟨o,rfl,hnews⟩:=hr.2 p;have r:Src P i.size t _ m _ w:=WY w d o m c2 _ (by rw[hr.1,hsize]) hnews h1
  have grow:c<n+m->(rT i.size n (ae A n c)).run P w.drew=bf xs.toArray w.drew->
   ∃a f w',(pa #[t,t] ty #[ae A n c,ae (ab o) m c2]).run P w=bf (ae a (n+m) f) w'/\e9 N w' a (n+m) f e (xs++news)/\vo (eh A) w w'/\(∀b,eh a b->eh A b\/w.heap.size<=b):=by
   intro hc hold;have hrun:=W7 (P:=P) w t t ty e i z d hi hz A n c xs hold _ m news r hc (by grind[eB]) (KM hc hbytes);have B:=zK w (n+m) c e;have C:=zL w _ c e h63;have y:∀D,au w (w.drew.alloc D):=λ_=>au.trans (av.drew _) (av.alloc _ _);refine⟨_,_,_,hrun,⟨hlen,cm ⟨w.heap.size,0,_,aa,fp,fL w.drew _,B,C,?_,λj q=>?_⟩⟩,(y _).keep.ael,λb ⟨_,_,F⟩=>aH⟩;·grind[nt]
   .grind
  rcases dg.2 with⟨rfl,rfl,rfl⟩|⟨g,off,cur,rfl,s,h,G,v,H,x⟩;·obtain rfl:=j3 dg.1;grind[run_firstCells_none]
  .have hcell:∀(j) u,xs[j]?=ab u->w.cell? _=ab u:=λj u l=>by rw[fE w g _ _ _ _ h,x j (by rw[<-dg.1];exact(eJ.1 l).1),l]
   by_cases hroom:n+m<=c
   .have hrun:=run_append_room_src (P:=P) w t t ty e i d hi g off n c _ m _ r hroom (λj q=>by rw[fE w g _ _ _ _ h,hsize];have:=hr.1;simp;omega) (λj _=>by grind[World.frozen?]);rw[hsize,Nat.mul_one]at hrun;obtain⟨E,eF,eK,pt⟩:=afO g news (off+n) w cur h;refine⟨_,_,_,hrun,⟨hlen,cm ⟨g,_,_,rfl,s,eF,hroom,v,ad,λj q=>?_⟩⟩,?_,λb hb=>b1 hb⟩;·have hx:=dg.1;grind
    .have k:=vo.aek (av.awV w g _ _) h eF eK;exact⟨k.only.mono (λb _ e=>⟨off,af,by rw[e]⟩),k.shape⟩
   .refine grow ad ?_;rw[hsize];exact KR _ 1 n _ n c xs (by have:=dg.1;omega) (λj u l=>by rw[mW];exact hcell j u l)
end
def ww(A:Option bT)(n c:Nat)(e:TypeId)(xs:List aP):bq:=⟨eh A,λw=>e9 0 w A n c e xs,λw w' h _ d=>
 ⟨d.1,d.2.elim b1 (λ⟨g,off,cur,a,f,b,r⟩=>cm ⟨g,off,cur,a,f,(h g (a▸⟨off,af,aa⟩) (aX.lt b)).trans b,r⟩)⟩⟩
def ayk {P o} {a:b3} {w s x} {t e n c m c2:Nat} {A aK xs news} bytes (ho:o.op=nU {callee:=pb .append,args:=#[s,x],argTypes:=#[t,t]}) (l:a.eval s=ae A n c) (hx:a.eval x=ae aK m c2) (hown:(ww A n c e xs).p w) (hr:Cells w 1 aK m news) (h1:∀u∈news,u.oneCell'=az) (hbytes:(n+m)*bytes<=140737488355328) (hb0:0<bytes) (q:P.underlying t=ab (iJ e))
 (lr:(P.info? e).map (λi=>(i.zero.isSome,(i.zero.map (·.cells.size)).getD 0,i.size,i.bytes))=ab (az,1,1,bytes)):
 ∃d f w',(bA a.eval o).run P w=bf (dc (ae d (n+m) f)) w'/\Turned w w' (ww A n c e xs) (ww d (n+m) f e (xs++news)):=by
 cases hq:P.info? e with
 |none=>grind
 |some i=>
  rw[hq]at lr;simp only[q6,w2,pq]at lr;obtain⟨bE,cr,g,h⟩:=lr;obtain⟨z,hz⟩:=QX.1 bE;rw[hz]at cr;simp only[q6,vw]at cr;subst h;have hle:(n+m)<=(n+m)*i.bytes:=yw _ hb0;obtain⟨d,f,w',hrun,h1,j,k⟩:=awo (P:=P) w 0 t o.type e i z q hq hz g cr A n c xs hown aK m c2 news hr h1 (by grind[eB]) hbytes (cC _);refine⟨d,f,w',?_,j.only,h1,λb hb=>⟨(h1.lt hb).2,k b hb⟩⟩;unfold bA;simp only[ho,nX,nW,qV,gx,kh,jE,oI,j5,ln,l,hx,hrun]
def LK{bs:List Int}:∀u∈bs.map a6,u.oneCell'=true:=λu a=>by obtain⟨x,_,rfl⟩:=gP.1 a;rfl
end
open Go.RowKit Go.MapKept
def qc(ws:List Int)(l:List Int):List Int×List Int:=if 64<=l.length then qc (Ew ws (l.take 64)) (l.drop 64)else(ws,l)
termination_by l.length
decreasing_by grind
theorem LC{ws l}(h:64<=l.length):qc ws l=qc (Ew ws (l.take 64)) (l.drop 64):=by grind[qc]
def LD{ws l}(h:¬64<=l.length):qc ws l=(ws,l):=by grind[qc]
def Yt(ws l)(h:ws.length=8):(qc ws l).1.length=8/\(qc ws l).2.length<64/\(qc ws l).2.length<=l.length:=by
 by_cases h1:64<=l.length;·rw[LC h1];have:=Yt (Ew ws (l.take 64)) (l.drop 64) (Ex h);rw[tS]at this;omega
 .rw[LD h1];exact⟨h,by show l.length<64;omega,b9 _⟩
termination_by l.length
decreasing_by grind
def Ys(ws l x):qc ws (l++x)=qc (qc ws l).1 ((qc ws l).2++x):=by
 by_cases h1:64<=l.length;·rw[LC h1,LC (by rw[c7];omega),List.take_append_of_le_length h1,List.drop_append_of_le_length h1];exact Ys _ _ _
 .rw[LD h1]
termination_by l.length
decreasing_by grind
def y':List Int:=[1779033703,3144134277,1013904242,2773480762,1359893119,2600822924,528734635,1541459225]
def jh(msg:List Int):List Int×List Int:=qc y' msg
def Dw msg:(jh msg).1.length=8/\(jh msg).2.length<64/\(jh msg).2.length<=msg.length:=Yt _ _ aa
def iT(t B:Nat)(A:Option bT)(msg:List Int):bq:=⟨λb=>b=B\/eh A b,λw=>t≠5/\∃c,aX w B (aM bw (jh msg).1 [ae A (jh msg).2.length c,J R (msg.length:Int)]) t/\e9 0 w A (jh msg).2.length c 5 ((jh msg).2.map a6),λw w' h a ⟨e,c,h1,d⟩=>
 ⟨e,c,(h B (b1 aa) (a B (b1 aa))).trans h1,(ww A _ c 5 _).nG w w' (λb hb=>h b (cm hb)) (λb hb=>a b (cm hb)) d⟩⟩
abbrev iE(B:Nat)(A:Option bT)(msg:List Int):bq:=iT 357 B A msg
def iT.split{aq w FX l t B A msg}(h:ak aq FX w (iT t B A msg::l)):∃c,ak aq FX w (aj B (aM bw (jh msg).1 [ae A (jh msg).2.length c,J R (msg.length:Int)]) t::ww A (jh msg).2.length c 5 ((jh msg).2.map a6)::l):=by obtain⟨d,c,h1,a⟩:=h.at 0;exact⟨c,(h.as 0 aa (both (aj B _ t) (ww A _ c 5 _)) (λ_=>⟨h1,a,λb hb hb2=>e9.atU a h1 d ((show b=B from hb)▸hb2)⟩) (λ_ hb=>hb)).fx⟩
def iT.close{aq w FX l}{t B c:Nat}{A msg}(a:t≠5)(h:ak aq FX w (aj B (aM bw (jh msg).1 [ae A (jh msg).2.length c,J R (msg.length:Int)]) t::ww A (jh msg).2.length c 5 ((jh msg).2.map a6)::l)):ak aq FX w (iT t B A msg::l):=
 h.star.as 0 aa (iT t B A msg) (λh=>⟨a,c,h.1,h.2.1⟩) (λ_ hb=>hb)
def Ui(w:aQ)(B:Nat):Nat:=match w.cell? ⟨B,8,af⟩with
 |some (ae _ n _)=>n
 |_=>0
def afh{w B n c A}(h:w.cell? ⟨B,8,af⟩=ab (ae A n c)):Ui w B=n:=by grind[Ui]
def Tf{A c i sz b}(h:eh (fK A c i sz) b):eh A b:=by
 obtain⟨off,d,e⟩:=h;unfold fK at e;split at e;·exact⟨_,d,e⟩
 .cases A with
  |none=>grind
  |some a=>
   simp at e;obtain⟨kl,f,g⟩:=a;have:kl=b:=by grind[u7]
   subst this;exact⟨_,_,aa⟩
def take_at(B t)(A aK)c2(msg bs)w(I:msg.length+bs.length<=70368744177664)(hst:Has w (iT t B A msg))(hb:b2 w aK bs)(hne:∀b off,aK=ab ⟨b,off,af⟩->¬(iT t B A msg).cT b):
 aD ax 241 #[ay (ab ⟨B,0,af⟩),ae aK bs.length c2] w λe w'=>e=aB (bn #[])/\∃D,Turned w w' (iT t B A msg) (iT t B D (msg++bs)):=by
 have C:=hst.1.1;obtain⟨b0,o⟩:=iT.split (ak.start hst);have hlen:=Dw msg;obtain⟨ws,s⟩:=ex (jh msg).1;obtain⟨rs,r⟩:=ex (jh msg).2;rw[s,r]at o hlen;have v:=hid (And.intro s r);have m:=hid hlen;have E:=hid hb;have N:=hid I;obtain⟨u,z⟩:=ex (msg++bs).length;have S:msg.length+bs.length=u:=aH;have F:=hid z;clear z hb s r hst;go_enter func241,ntmps241;have a:=o;clear o;go_step;refine ah ?_;refine v3 ?_;refine pl a 0 9 ?_ (hv:=sY (k:=1) m.1 aa);refine v2 ?_;refine pad _ _ (u:Int) ?_;refine v2 ?_;refine a' a 0 (J _ _) (λw1 a=>?_) (hk:=Ly m.1 (of_decide_eq_true aa)) (hc:=LB (k:=1) m.1);refine an ?_;go_step;refine ah ?_;refine v4 ?_;refine pl a 0 8 ?_ (hv:=sY (k:=0) m.1 aa);refine ag ?_;refine aeI a 1 (ayk 1 aa aa aa (a.at 1) (b2.cells (E.out.only a.only hne)) LK ad aS dW bc) (λM P T a=>?_);refine v2 ?_;refine a' a 0 (ae _ _ _) (λU a=>?_) (hk:=Ly m.1 (of_decide_eq_true aa)) (hc:=LB (k:=0) m.1);refine an ?_;rw[<-c7,<-fP]at a;have y:qc ws (rs++bs)=jh (msg++bs):=by rw[<-v.1,<-v.2];exact(Ys _ _ bs).symm
 have O:=hid y;clear y;go_wp2_with fail;go_loopw [] (λwr=>∃(n l:List Int) (f:Option bT) (d:Nat),aE (n.length=8/\qc n l=jh (msg++bs))/\ak w (iT t B A msg).cT wr [aj B (aM bw (n) [ae f l.length d,J R (u:Int)]) t,ww f l.length d 5 (l.map a6)]) (λwr=>Ui wr B);case atStart=>grind
 case round=>
  clear a;obtain⟨n,l,f,d,x,a⟩:=hrel;have g:=hid x.1;have Q:=e9.cap (a.at (t:=_) 1);by_cases p:64<=l.length
  .have G:(64:Int)<=(l.length:Int):=ad;have K:=afh (aX.cell (a.aW 0) 8 (sY (k:=0) g aa));go_step;refine ah ?_;refine v3 ?_;refine pl a 0 8 ?_ (hv:=sY (k:=0) g aa);refine ag ?_;refine a1 (ai az) ?_;refine an ?_;go_step;refine ah ?_;refine v4 ?_;refine pl a 0 8 ?_ (hv:=sY (k:=0) g aa);refine aG (ae f 64 d) (rF 22 5 1 (bj 32) (p1 (J R 64)) aa dW bc f _ d 64 aa aa ad) ?_;refine aR (am7 B t n _ _ f d (l.take 64) _ C g aH (b2.Ge (e9.nk (a.at (t:=_) 1)).1 p) (λoff L e=>a.ne (i:=0) (j:=1) aa aa aS B aa ⟨_,L,e⟩) (a.aW 0)) ?_;rintro e V ⟨rfl,H,hb⟩;replace a:=a.eP 0 (vz H hb);refine aU ?_;refine an ?_;go_step;refine ah ?_;refine v4 ?_;refine pl a 0 8 ?_ (hv:=sY (k:=0) (Ex g) aa);refine aG (ae (fK f d 64 1) (l.length -64) (d -64)) (Uw 22 5 1 (bj 39) (p1 (J R 64)) aa dW bc f _ d 64 aa aa ad ad) ?_;refine v2 ?_;refine a' a 0 (ae _ _ _) (λW a=>?_) (hk:=Ly (Ex g) (of_decide_eq_true aa)) (hc:=LB (k:=0) (Ex g));refine an ?_;go_wp2_with fail;go_roundw
   case rel=>
    replace a:=a.as 1 aa (ww _ _ _ 5 _) (λh=>by have q:=e9.drop h p;rwa [<-tS,<-List.map_drop]at q) (λb hb=>Tf hb);grind[hid,Ex,LC]
   case measure=>rw[afh (aX.cell (a.aW 0) 8 (sY (k:=0) (Ex g) aa)),K];omega
  .have G:¬(64:Int)<=(l.length:Int):=ad;go_step;refine ah ?_;refine v3 ?_;refine pl a 0 8 ?_ (hv:=sY (k:=0) g aa);refine ag ?_;refine a1 (ai ao) ?_;refine an ?_;go_wp2_with fail;first|go_end0|refine bodyPost_ret (results_none rfl _ _ _) rfl ?_
   have hz:=x.2;rw[LD p]at hz;refine⟨aa,f,ak.gl (iT.close (l:=[]) C (msg:=_) (c:=d) ?_) 0⟩;rw[<-hz,F];exact a
def asy:y'.length=8:=rfl
def awW:jh []=(y',[]):=by rw[jh,LD aS]
def asq w:
 aD ax 240 #[] w λe w'=>e=aB (ar (aM bw y' [ae af 0 0,J R 0]))/\au w w':=by
 go_enter func240,ntmps240;have a:=a8 w;go_step;refine ah ?_;refine bl a (aM bw (dZ 8 0) _) (λb w1 a=>?_);refine ah ?_;refine pk (ar (aM bw y' [])) ?_;refine pk (ar (aM bw y' [ae af 0 0,J R 0])) ?_;refine NI a 0 (lI ..) asy (λc a=>?_);refine an ?_;go_wp2_with fail;refine c' (v:=ar (aM bw y' [ae af 0 0,J R 0])) (gG aa _ _ _ _ _ _ _ aa (a.aW 0) Wy aa bc) aa (⟨aa,a.only⟩)
def A2 w:
 aD ax 162 #[] w λe w'=>∃B,e=aB (ay (ab ⟨B,0,af⟩))/\cf w w' (iE B af []):=by
 go_enter func162,ntmps162;have a:=a8 w;go_step;refine ah ?_;refine dV ?_;refine bC (asq _) a (λw1 a=>?_);refine pk (ar (aM bw y' [ae af 0 0,J R 0])) ?_;refine bL a (ar _) (λd f a=>?_);refine J8 ?_;exact⟨d,aa,(iT.close (t:=357) (msg:=[]) (A:=af) (c:=0) (l:=[]) aS (by rw[awW];exact((a.as 0 aa (both (aj d (aM bw y' [ae af 0 0,J R 0]) 357) (ww af 0 0 5 [])) (λh=>⟨h,e9.nil _ _ _,λ_ _ ⟨_,_,h⟩=>aH⟩) (λb hb=>hb.elim id (λ⟨_,_,h⟩=>aH))).fx))).fresh 0⟩
def an8(B t)A msg w(x:msg.length<=70368744177664)(hst:(iT t B A msg).p w):
 aD ax 242 #[ay (ab ⟨B,0,af⟩)] w λe w'=>∃m o,e=aB (ar (aM bw (jh msg).1 [ae m (jh msg).2.length o,J R (msg.length:Int)]))/\cf w w' (ww m (jh msg).2.length o 5 ((jh msg).2.map a6)):=by
 obtain⟨y,b0,j,l⟩:=hst;have hlen:=Dw msg;obtain⟨ws,i⟩:=ex (jh msg).1;obtain⟨rs,c⟩:=ex (jh msg).2;rw[i,c]at j hlen;rw[c]at l;have u:=hid (And.intro i c);have b:=hid hlen;have q:=hid (e9.nk l).1;have n:=hid j;rw[i,c];clear i c hlen l j;go_enter func242,ntmps242;have a:=a8 w;go_step;refine ah ?_;refine bl a (aM bw (dZ 8 0) _) (λr w1 a=>?_);refine gV ?_;refine aG (ar (aM bw ws [ae A rs.length b0,J R (msg.length:Int)])) (ata 354 (bj 5) aa B aa (av.heap a.only n.out (λh=>h)) Wy aa (by rw[i',b.1];rfl)) ?_;refine bl a (aM bw (dZ 8 0) _) (λs z a=>?_);refine NI a 0 (lI ..) b.1 (λC a=>?_);refine jk ?_;refine aG (ae A rs.length b0) (fH aa aa (av.heap a.only n.out (λh=>h)) (sY (k:=0) b.out.1 aa) aw) ?_;refine aR (w6 A b0 rs _ (q.out.aI a.only) (by have:=b.out;omega)) ?_;rintro e D ⟨d,f,rfl,hrow,g⟩;replace a:=a.lA g hrow;refine aU ?_;refine ag ?_;refine a' a 1 (ae d _ f) (λE a=>?_) (hk:=Ly b.1 (of_decide_eq_true aa)) (hc:=LB (k:=0) b.1);refine ah ?_;refine bh a 1 (aM bw ws [ae d rs.length f,J R (msg.length:Int)]) ?_ (hv:=(e6 _)) (hk:=by omega) (hz:=(by rw[i',b.1];rfl));refine NI a 2 (lI ..) b.1 (λF a=>?_);refine an ?_;go_wp2_with fail;refine c' (v:=_) (gG aa _ _ _ _ _ _ _ aa (a.aW 2) Wy aa (by rw[i',b.1];rfl)) aa (⟨d,f,aa,(a.as 0 aa (ww d _ f 5 _) e9.ofRow (λ_ h=>h)).fresh 0⟩)
def xt(n i:Nat):Int:=dO.wrap ((n:Int).fdiv (2^(8*i)))
def T0(a:Nat):Nat:=(119 -a)%64
def vH(n:Nat)(r:Nat):List Int:=(dQ (8 -r)).map (λj=>xt n (7 -j))
def aps{n i}(h:i<8):vH n i=vH n (i+1)++[xt n i]:=by unfold vH;rw[show 8 -i=(8 -(i+1))+1 by omega,sV,fP,j5,ln,show 7 -(8 -(i+1))=i by omega]
def sd(msg:List Int):List Int:=128::(dZ (T0 (jh msg).2.length) 0++vH (msg.length*8) 0)
def apr msg:(sd msg).length=1+T0 (jh msg).2.length+8:=by grind[sd,vH]
def uP(W:List Int)(i:Nat):Int:=dO.wrap ((W[i/4]?.getD 0).fdiv (2^(24 -i%4*8)))
def zh(W:List Int):Nat->List Int
 |0=>dZ 32 0
 |i+1=>(zh W i).set i (uP W i)
def FT W:∀q,(zh W q).length=32
 |0=>lI ..
 |q+1=>by rw[zh,tT];exact FT W q
def ij(msg:List Int):List Int:=zh (jh (msg++sd msg)).1 32
theorem s8 msg:(ij msg).length=32:=FT _ _
def finish_at(B t)A msg w(hm:msg.length<=35184372088832)(hst:Has w (iT t B A msg)):
 aD ax 243 #[ay (ab ⟨B,0,af⟩)] w λe w'=>e=aB (ar (aM a6 (ij msg) []))/\Turned w w' (iT t B A msg) emp:=by
 have ht:=hst.1.1;obtain⟨b0,E⟩:=iT.split (ak.start hst);have hlen:=Dw msg;obtain⟨ws,M⟩:=ex (jh msg).1;obtain⟨rs,s⟩:=ex (jh msg).2;rw[M,s]at E hlen;obtain⟨f,G⟩:=ex (T0 rs.length);have arf:(119 -rs.length)%64=f:=G;have aBg:f<64:=ad;obtain⟨d,H⟩:=ex msg.length;have uy:d<=35184372088832:=ad;have L:=apr msg;rw[s,G]at L;have Q:sd msg=128::(dZ f 0++vH (d*8) 0):=by rw[sd,s,G,H]
 have D:=hid (And.intro M (And.intro s H));have N:=hid hlen;have aBC:=hlen.2.1;have C:=hid (And.intro L Q);rw[H]at E;clear M s hlen H L Q G hst;go_enter func243,ntmps243;have a:=E;clear E;go_upto_region 0 with fail;refine cw ?_;refine bl a (aM a6 (dZ 32 0) []) (λI w1 a=>?_);refine an ?_;have ar7:aF.wrap (d:Int)=(d:Int):=by simp[DW,Kt,DV];omega
 have ar5:aF.wrap ((d:Int)*8)=((d*8:Nat):Int):=by simp[DW,Kt,DV];omega
 go_upto_region 1 with fail;refine cw ?_;refine v3 ?_;refine pl a 1 9 ?_ (hv:=sY (k:=1) N.1 aa);refine aG (J aF (d:Int)) (by(show _=_;go_simp;try rw[ar7])) ?_;refine aG (J aF ((d*8:Nat):Int)) (by(show _=_;go_simp;try rw[ar5])) ?_;refine pk (J aF ((d*8:Nat):Int)) ?_;refine an ?_;go_upto_region 2 with fail;refine cw ?_;refine e7 a #[J dO 128] 5 (λe2 aT a=>?_);refine v3 ?_;refine pl a 2 8 ?_ (hv:=sY (k:=0) N.1 aa);refine ag ?_;refine jW 119 (rs.length:Int) ((119 -rs.length:Nat):Int) ?_;refine aG (J R ((f:Nat):Int)) (An 3 (bj 20) (p1 (J R 64)) 3 aa (119 -rs.length) 64 f aa aa aS arf ad) ?_;replace a:=a.uZ 0 1 1 1 [a6 128] aa (b9 _) aS aa;refine aeI a 0 (amP 1 R (a6 0) aa aa aa (a.atR 0) ad aS dW jD aw aa) (λX yF bF a=>?_);have dE:[a6 128]++dZ f (a6 0)=(128::(dZ f 0++vH (d*8) 8)).map a6:=by simp[vH]
 rw[dE]at a;clear dE;refine ag ?_;refine an ?_;go_upto_region 3 with fail;refine cw ?_;refine ag ?_;refine an ?_;go_wp2_with fail;go_loopw [4,5] (λev n wr=>∃(r z:Nat) (x:Int) (h:Option bT) (p:Nat),(r<=8/\z+r=8/\x+1=(r:Int))/\n=J R x/\ev=ae h (1+f+z) p/\ak w (iT t B A msg).cT wr [ba h (1+f+z) p 5 1 ((128::(dZ f 0++vH (d*8) r)).map a6),aj I (aM a6 (dZ 32 0) []) 23,aj B (aM bw (ws) [ae A rs.length b0,J R (d:Int)]) t,ww A rs.length b0 5 (rs.map a6)]) (λ_ n _=>(bQ n+1).toNat);case atStart=>exact⟨8,0,7,X,yF,ad,aa,aa,a⟩
 case round=>
  clear a;obtain⟨r,z,x,h,p,⟨arR,ac7,aq3⟩,rfl,rfl,a⟩:=hrel;obtain rfl|⟨i,rfl⟩:r=0\/∃i,r=i+1:=by cases r;exact b1 aa;exact cm ⟨_,aa⟩
  .obtain rfl:x=-1:=ad;obtain rfl:z=8:=ad;replace a:=iT.close (msg:=msg) (c:=b0) ht (l:=[ba h (sd msg).length p 5 1 ((sd msg).map a6),aj I (aM a6 (dZ 32 0) []) 23]) (by rw[D.out.1,D.out.2.1,D.out.2.2,C.out.1,C.out.2];exact a.pick [2,3,0,1]);have eb:aE (∀W,Has W (iT t B A msg)->b2 W h (sd msg)->(∀b off,h=ab ⟨b,off,af⟩->¬(iT t B A msg).cT b)->aD ax 241 #[ay (ab ⟨B,0,af⟩),ae h (1+f+8) p] W λe w'=>e=aB (bn #[])/\∃U,Turned W w' (iT t B A msg) (iT t B U (msg++sd msg))):=hid (λW h1 h2 h3=>by rw[<-C.1];exact take_at B t A h p msg (sd msg) W (by have:=C.1;have:=D.2.2;omega) h1 h2 h3);go_upto_region 7 with fail;refine cw ?_;refine v2 ?_;refine aR (eb _ (a.has 0) (Row.nk (a.atR 1)).1 (λb off e=>a.ne (i:=1) (j:=0) aa aa aS b ⟨off,af,e⟩)) ?_;rintro e b8 ⟨rfl,Y,bM⟩;replace a:=a.eP 0 bM;refine aU ?_;refine an ?_;obtain⟨mv,K⟩:=iT.split a;obtain⟨g,F⟩:=ex (jh (msg++sd msg)).1;have P:g.length=8:=by rw[<-F];exact(Dw _).1
   rw[F]at K;replace a:=K.pk [0,3];have alm:=hid P;have aln:=hid F;clear P F K;obtain⟨al8,O⟩:=ex (ae Y (jh (msg++sd msg)).2.length mv);obtain⟨n9,S⟩:=ex (J R ((msg++sd msg).length:Int));rw[O,S]at a;clear O S;go_upto_region 8 with fail;refine cw ?_;refine bl a (aM a6 (zh g 0) []) (λZ cA a=>?_);refine an ?_;go_upto_region 9 with fail;refine cw ?_;refine ag ?_;refine an ?_;go_wp2_with fail;go_loopw [38] (λn wr=>∃q:Nat,q<=32/\n=J R q/\ak w (iT t B A msg).cT wr [aj Z (aM a6 (zh g q) []) 23,aj B (aM bw (g) [al8,n9]) t,aj I (aM a6 (dZ 32 0) []) 23]) (λn wr=>32 -(bQ n).toNat);case atStart=>exact⟨0,ad,aa,a⟩
   case round=>
    clear a;obtain⟨q,hq,rfl,a⟩:=hrel;by_cases hlt:q<32
    .have cb:(q:Int)<32:=ad;obtain⟨hJ,T⟩:=ex (q/4);have aBP:hJ<8:=ad;obtain⟨o,hr4⟩:=ex (q%4);have aBB:o<4:=ad;obtain⟨y,ID⟩:=ex (24 -o*8);have arT:y<=32:=ad;go_upto_region 11 with fail;refine cw ?_;refine v2 ?_;refine an ?_;go_upto_region 12 with fail;refine cw ?_;refine v3 ?_;refine aG (J R (hJ:Int)) (s0 3 (bj 43) (p1 (J R 4)) 3 aa q 4 hJ aa aa aS T ad) ?_;refine v2 ?_;refine kK ?_;refine ou a 1 alm ?_;refine ag ?_;refine aG (J R (o:Int)) (An 3 (bj 49) (p1 (J R 4)) 3 aa q 4 o aa aa aS hr4 ad) ?_;refine A9 (o:Int) 8 ((o*8:Nat):Int) ?_;refine jW 24 ((o*8:Nat):Int) (y:Int) ?_;refine aG (bw ((g[hJ]?.getD 0).fdiv (2^y))) (yD 315 (bj 48) (bj 52) 3 aa wC R _ y aa aa arT) ?_;refine pk (a6 (dO.wrap ((g[hJ]?.getD 0).fdiv (2^y)))) ?_;refine kK ?_;refine xC a 0 (FT ..) (λcR a=>?_);refine an ?_;go_wp2_with fail;go_roundw;case rel=>exact⟨q+1,ad,by go_num,by rw[zh,uP,T,hr4,ID];exact a.pick [0,1,2]⟩
     case measure=>simp[bQ];omega
    .have aqS:ij msg=zh g q:=by rw[ij,aln,show q=32 by omega]
     have cb:¬((q:Int)<32):=ad;go_upto_region 14 with fail;refine cw ?_;refine zj a 0 (FT ..) ?_;refine pI a 2 (lI ..) (FT ..) (λdz a=>?_);refine an ?_;go_wp2_with fail;refine c' (v:=ar (aM a6 (zh g q) [])) (gG aa _ _ _ _ _ _ _ aa (a.aW 2) sK aa (by rw[i',(FT ..)];rfl)) aa (⟨by first|rfl|rw[aqS],a.dE.gl 0⟩)
  .obtain rfl:x=(i:Int):=ad;have Sw:8*i<=64:=ad;go_upto_region 6 with fail;refine cw ?_;refine v3 ?_;refine A9 8 (i:Int) ((8*i:Nat):Int) ?_;refine aG (J aF (((d*8:Nat):Int).fdiv (2^(8*i)))) (yD 42 (bj 28) (bj 30) 3 aa aF R _ (8*i) aa aa Sw) ?_;refine pk (a6 (xt (d*8) i)) ?_;refine e7 a #[a6 (xt (d*8) i)] 5 (λg' dv a=>?_);refine jV (m:=1) a 1 1 (aX.cellsOf (m:=1) (a.aW 0) aa) (by intro u hu;rw[vs.1 hu];rfl) (λV Cu eU a=>?_);refine ag ?_;refine an ?_;go_upto_region 5 with fail;refine cw ?_;refine ag ?_;refine jW (i:Int) 1 ((i:Int) -1) ?_;refine ag ?_;refine an ?_;go_wp2_with fail;go_roundw;case rel=>exact⟨i,z+1,(i:Int) -1,V,Cu,ad,by go_num,aa,by rw[aps ad,show(128::(dZ f 0++(vH (d*8) (i+1)++[xt (d*8) i]))).map a6=((128::(dZ f 0++vH (d*8) (i+1))).map a6++([a6 (xt (d*8) i)])) by simp];exact a.pick [1,2,3,4]⟩
   case measure=>simp[bQ]<;>omega
attribute [irreducible] ij sd
theorem axy(B t)A msg w(l:msg.length<=35184372088832)(hst:(iT t B A msg).p w)(c:∀b,(iT t B A msg).cT b->b<w.heap.size):
 aD ax 164 #[ay (ab ⟨B,0,af⟩)] w λe w'=>e=aB (ar (aM a6 (ij msg) []))/\au w w':=by
 have i:=hid (λW (g:au w W)=>bq.only _ hst c g (λ_ _ h=>h));clear hst c;go_enter func164,ntmps164;have a:=a8 w;go_step;refine ah ?_;refine bl a (aM a6 (dZ 32 0) []) (λm w1 a=>?_);refine ah ?_;refine v2 ?_;refine jk ?_;refine aR (an8 B t A msg _ ad (i.out _ a.only)) ?_;rintro e o ⟨d,n,rfl,k⟩;replace a:=a.new _ k;refine aU ?_;refine bl a (aM bw (dZ 8 0) _) (λf q a=>?_);refine NI a 0 (lI ..) (Dw _).1 (λr a=>?_);refine an ?_;replace a:=iT.close (t:=_) aS a;refine ah ?_;refine aR (finish_at f 354 d msg _ l (a.has 0)) ?_;rintro e s ⟨rfl,j⟩;replace a:=a.eP 0 j;refine aU ?_;refine pI a 1 (lI ..) (s8 _) (λu a=>?_);refine an ?_;go_wp2_with fail;refine c' (v:=_) (gG aa _ _ _ _ _ _ _ aa (a.aW 1) sK aa (by rw[i',(s8 _)];rfl)) aa (⟨aa,a.only⟩)
theorem iT.low{w t B A msg}(h:(iT t B A msg).p w):∀b,(iT t B A msg).cT b->b<w.heap.size:=λb hb=>by
 obtain⟨_,c,h1,a⟩:=h;rcases hb with rfl|hb;·grind
 .exact(e9.lt a hb).2
def zq B A msg w(a:msg.length<=35184372088832)(h:(iE B A msg).p w):
 aD ax 164 #[ay (ab ⟨B,0,af⟩)] w λe w'=>e=aB (ar (aM a6 (ij msg) []))/\au w w':=by grind[axy,iT.low]
def ag4(B o l D)(A aK)c2(msg bs)w(F:msg.length+bs.length<=70368744177664)(hst:Has w (iE B A msg))(hcell:w.cell? ⟨o,l,af⟩=ab (ae aK bs.length c2))(hb:b2 w aK bs)(hne:∀b off,aK=ab ⟨b,off,af⟩->¬(iE B A msg).cT b):
 aD ax 163 #[ay (ab ⟨B,0,af⟩),ae (ab ⟨o,l,af⟩) 1 D] w λe w'=>∃d,e=aB (J R (bs.length:Int))/\Turned w w' (iE B A msg) (iE B d (msg++bs)):=by
 have v:=hid hcell;have s:=hid hb;have z:=hid hne;obtain⟨f,p⟩:=ex ((msg.length:Int));have L:0<=f/\f<=70368744177664:=ad;obtain⟨I,r⟩:=ex (((msg++bs).length:Int));have cv:I -f=(bs.length:Int):=aH;have C:=hid r;have y:=hid p;clear hcell hb hne r p;go_enter func163,ntmps163;have a:=ak.start hst;go_upto_region 0 with fail;refine cw ?_;refine ag ?_;refine ah ?_;refine dU ?_;obtain⟨_,b0,c,_⟩:=a.at (t:=iT 357 B _ _) 0;rw[y]at c;refine o9 ?_;refine aG (J R f) (fH aa aa c (sY (k:=1) (Dw msg).1 aa) aw) ?_;refine bX ?_;clear c;refine ah ?_;refine v3 ?_;refine an ?_;go_wp2_with fail;go_loopw [17] (λi wr=>∃(q:Nat) (d:Option bT) (j:List Int),q<=1/\i=J R q/\aE (q=0/\d=A/\j=msg/\wr=w\/q=1/\j=msg++bs)/\ak w (iE B A msg).cT wr [iE B d j]) (λi _=>1 -(bQ i).toNat);case atStart=>grind[hid]
 case round=>
  clear a;obtain⟨q,m,H,M,rfl,n,a⟩:=hrel;by_cases hlt:q<1
  .have G:(q:Int)<1:=ad;obtain⟨rfl,rfl,rfl,g⟩:=n.out.resolve_right (λh=>ad);have x:=hid (g.symm▸v.out);have u:=hid (g.symm▸s.out);clear g;go_upto_region 6 with fail;refine cw ?_;refine aG _ (b4 193 22 1 _ _ aa Tryz.underlying193 aw _ _ _ _ _ l aa aa aS ad) ?_;refine aG _ (mG aa aa x aw) ?_;refine By ?_;refine aR (take_at B 357 m aK c2 H bs _ F (a.has 0) u.out z.out) ?_;rintro e w1 ⟨rfl,K,E⟩;replace a:=a.eP 0 E;refine xT ?_;go_wp2_with fail;go_roundw;case rel=>grind[hid]
   case measure=>grind[bQ]
  .have G:¬(q:Int)<1:=ad;obtain⟨rfl,rfl⟩:=n.out.resolve_left (λh=>ad);obtain⟨_,b0,c,_⟩:=a.at (t:=iT 357 B _ _) 0;rw[C]at c;go_upto_region 9 with fail;refine cw ?_;refine v4 ?_;refine aG _ (fH aa aa c (sY (k:=1) (Dw _).1 aa) aw) ?_;refine ag ?_;refine aG _ (ra 3 _ _ 3 aa _ _ _ aa aa cv ad ad) ?_;refine bX ?_;go_wp2_with fail;go_ret;exact⟨aa,m,a.gl 0⟩
def UX(B a c d)(A aK)c2(msg bs)w(g:msg.length+bs.length<=70368744177664)(hst:Has w (iE B A msg))(hcell:w.cell? ⟨a,c,af⟩=ab (ae aK bs.length c2))(hb:b2 w aK bs)(hne:∀b,eh aK b->¬(iE B A msg).cT b):
 aD ax 163 #[ay (ab ⟨B,0,af⟩),ae (ab ⟨a,c,af⟩) 1 d] w λe w'=>∃f,e=aB (J R (bs.length:Int))/\Turned w w' (iE B A msg) (iE B f (msg++bs)):=ag4 B a c d A aK c2 msg bs w g hst hcell hb λb off e=>hne b ⟨off,af,e⟩
def afR(c d g)aK c2 bs w(p:bs.length<=35184372088832)(hcell:w.cell? ⟨c,d,af⟩=ab (ae aK bs.length c2))(hb:b2 w aK bs)(i:∀b off,aK=ab ⟨b,off,af⟩->b<w.heap.size):
 aD ax 76 #[ae (ab ⟨c,d,af⟩) 1 g] w λe w'=>e=aB (ar (aM a6 (ij bs) []))/\au w w':=by
 have l:=hid hb;have m:=hid hcell;have k:=hid i;have hl2:=p;clear hcell hb i;go_enter func76,ntmps76;have a:=a8 w;go_step;refine ah ?_;refine bl a (aM a6 (dZ 32 0) []) (λq w1 a=>?_);refine ah ?_;refine aR (A2 _) ?_;rintro e s ⟨f,rfl,o⟩;replace a:=a.new _ o;refine aU ?_;refine kg ?_;refine aR (ag4 f c d g af aK c2 [] bs _ aH (a.has 0) (a.only.cell m.out (λh=>h)) (l.out.aI a.only) (λb off e h=>(a.low _ (sU ..) _ h).2.elim (λr=>absurd (k.out b off e) ad) id)) ?_;rintro e t ⟨j,rfl,n⟩;replace a:=a.eP 0 n;refine aU ?_;refine b5 ?_;refine bC (zq f j bs _ ad (a.at 0)) a (λu a=>?_);refine pI a 1 (lI ..) (s8 bs) (λx a=>?_);refine an ?_;go_wp2_with fail;refine c' (v:=_) (gG aa _ _ _ _ _ _ _ aa (a.aW 1) sK aa (by rw[i',(s8 bs)];rfl)) aa (⟨aa,a.only⟩)
section
section
variable {P:ew} {o:cS} {a:b3} {w:aQ}
def af0 (t e sz:Nat) (x hi b) (ho:o.op=.slice t x af (ab hi) (ab b)) (d:P.underlying t=ab (iJ e)) (f:(P.info? e).map (·.size)=ab sz) A (n c q m:Nat)
 (hx:a.eval x=ae A n c) (y0:a.eval hi=J R (q:Int)) (hmx:a.eval b=J R (m:Int)) (h1:q<=m) (h2:m<=c):
 (bA a.eval o).run P w=bf (dc (ae A q m)) w:=by
 cases hq:P.info? e with
 |none=>grind
 |some g=>
  unfold bA;simp[ho,hx,y0,hmx,Instr.sliceAt,Instr.slice,Instr.sliceBounds,Instr.sliceBound,asIntOf,gx,gN d,mR,ny,hq,h1,h2];intro _;cases A<;>simp[u7]
def awm w N (t ty e) i z (d:P.underlying t=ab (iJ e)) (hi:P.info? e=ab i) (hz:i.zero=ab z) (hsize:i.size=1) (hzs:z.cells.size=1)
 A n xs (hx:Cells w 1 A n xs) aK (m c2) news (hr:Cells w 1 aK m news) (h1:∀u∈news,u.oneCell'=az) (hm:0<m)
 (h63:n+m<=eB) (hbytes:(n+m)*i.bytes<=140737488355328) (fp:N<=w.heap.size):
 ∃B c w',(pa #[t,t] ty #[ae A n n,ae aK m c2]).run P w=bf (ae (ab ⟨B,0,af⟩) (n+m) c) w'/\Row N w' (ab ⟨B,0,af⟩) (n+m) c e 1 (xs++news)/\au w w'/\w.heap.size<=B:=by
 have hlx:=by simpa using hx.1
 have j:=by simpa using hr.1
 obtain⟨a,rfl,hnews⟩:=hr.2 hm;have h:Src P i.size t (ae (ab a) m c2) m news w:=WY w d a m c2 news aH hnews h1
 have hold:(rT i.size n (ae A n n)).run P w.drew=bf xs.toArray w.drew:=by
  rw[hsize];rcases lX n with b|b
  .subst b;obtain rfl:=j3 hlx;cases A with
   |none=>rfl
   |some a=>rfl
  .obtain⟨a,rfl,hc⟩:=hx.2 b;exact KR _ 1 n a n n xs ad hc
 have hrun:=W7 (P:=P) w t t ty e i z d hi hz A n n xs hold _ m news h ad (by grind[eB]) (KM ad hbytes);have f:=zK w (n+m) n e;have g:=zL w _ n e h63;refine⟨_,_,_,hrun,⟨aH,cm ⟨_,_,_,aa,fp,fL _ _,f,g,?_,?_⟩⟩,au.trans (av.drew _) (av.alloc _ _),b9 _⟩;·grind[nt]
 .grind
def amx {s x} {t e n m c2:Nat} {A aK xs news} bytes (ho:o.op=nU {callee:=pb .append,args:=#[s,x],argTypes:=#[t,t]}) (j:a.eval s=ae A n n) (hx:a.eval x=ae aK m c2) (hown:Cells w 1 A n xs) (hr:Cells w 1 aK m news) (h1:∀u∈news,u.oneCell'=az) (h:0<m) (hbytes:(n+m)*bytes<=140737488355328) (hb0:0<bytes) (k:P.underlying t=ab (iJ e))
 (lr:(P.info? e).map (λi=>(i.zero.isSome,(i.zero.map (·.cells.size)).getD 0,i.size,i.bytes))=ab (az,1,1,bytes)):
 ∃c b w',(bA a.eval o).run P w=bf (dc (ae c (n+m) b)) w'/\cf w w' (ba c (n+m) b e 1 (xs++news)):=by
 cases hq:P.info? e with
 |none=>grind
 |some i=>
  rw[hq]at lr;simp only[q6,w2,pq]at lr;obtain⟨bE,cr,d,f⟩:=lr;obtain⟨z,hz⟩:=QX.1 bE;rw[hz]at cr;simp only[q6,vw]at cr;subst f;have hle:(n+m)<=(n+m)*i.bytes:=yw _ hb0;obtain⟨B,b,w',hrun,h1,g,l⟩:=awm (P:=P) w w.heap.size t o.type e i z k hq hz d cr A n xs hown aK m c2 news hr h1 h (by grind[eB]) hbytes (b9 _);refine⟨_,b,w',?_,cf.aej g h1⟩;unfold bA;simp only[ho,nX,nW,qV,gx,kh,jE,oI,j5,ln,j,hx,hrun]
def auN {ops:Array cS} {rest:List cS} {Q:Exit->b3->aQ->Prop} {aq:aQ} {FX:Nat->Prop} {l:List bq} {d:Option bT->Nat->b3} {b:Option bT->Nat->aP} {t:Option bT->Nat->bq} (e:ak aq FX w l) (hr:∃A c w',(bA a.eval o).run P w=bf (dc (b A c)) w'/\cf w w' (t A c)) (h:∀A c w',ak aq FX w' (t A c::l)->cN P ops Q rest (d A c) w')
 (hw:c9 o (yielded ops a.tmps)=true:=by kernel_rfl) (ha:∀A c,a.put o.dst (b A c)=d A c:=by(intro _ _;(try simp only[Act.put,List.setIfInBounds_toArray,List.set_cons_zero,List.set_cons_succ]);rfl)):cN P ops Q (o::rest) a w:=by
 obtain⟨A,c,w',h1,f⟩:=hr;refine wpList_step λK g=>?_;rw[if_pos hw];unfold Oper.wp;rw[h1];show K _ _;rw[ha];exact g _ _ (h A c w' (e.new _ f))
def asB(t e sz m:Nat)(x c)g(ho:o.op=DX t x c)(f:P.underlying t=ab (vb m e))(n:(P.info? e).map (·.size)=ab sz)(b off i k:Nat)(hx:a.eval x=ay (ab ⟨b,off,af⟩))(hi:a.eval c=J g (i:Int))(h:i<m)(hk:off+i*sz=k):
 (bA a.eval o).run P w=bf (dc (ay (ab ⟨b,k,af⟩))) w:=by
 cases hq:P.info? e with
 |none=>grind
 |some j=>
  have hsz:j.size=sz:=aH;subst hk;have d:(⟨b,off,_⟩:bT).add (i*sz)=⟨b,_,_⟩:=Addr.add_mid _ _ _;unfold bA;simp[ho,hx,hi,Instr.indexAt,Instr.sureAddr,asIntOf,gx,gN f,mR,ny,hq,hsz,d];intro l;omega
def aeG {ops:Array cS} {rest:List cS} {Q:Exit->b3->aQ->Prop} {d:b3} (h:cN P ops Q rest d w) {f:IntKind} {t e m b i:Nat} {x c:Operand} (ho:o.op=DX t x c:=by rfl) (k:P.underlying t=ab (vb m e):=by rfl) (j:(P.info? e).map (·.size)=ab 1:=by kernel_rfl) (hx:a.eval x=ay (ab ⟨b,0,af⟩):=by rfl) (hi:a.eval c=J f (i:Int):=by rfl) (g:i<m:=by omega) (l:c9 o (yielded ops a.tmps)=true:=by kernel_rfl)
 (ha:a.put o.dst (ay (ab ⟨b,i,af⟩))=d:=by((try simp only[Act.put,List.setIfInBounds_toArray,List.set_cons_zero,List.set_cons_succ]);rfl)):cN P ops Q (o::rest) a w:=ag h l (asB t e 1 m x c f ho k j b 0 i i hx hi g ad) ha
end
end
def ad4(x:Int):Int:=wC.wrap (0 -x)
def A3(x:Int):Int:=hV 4294967295 x
def Dj(x:Int):Nat:=(mN 32 x&&& mN 32 15).toNat
theorem TK x:Dj x<16:=by grind[Dj,Nat.and_le_right]
def ad3 x:n32 x 15=((Dj x:Nat):Int):=by grind[TK,n32,Dj,DW,DV]
def aoc(x:Int):Int:=hV (jg x 1) (n32 3988292384 (ad4 (n32 x 1)))
def Cy(x:Int):Nat->Int
 |0=>x
 |i+1=>aoc (Cy x i)
def zt:Nat->List Int
 |0=>dZ 16 0
 |i+1=>(zt i).set i (Cy (gr (i:Int)) 4)
def UC:∀q,(zt q).length=16
 |0=>lI ..
 |q+1=>by rw[zt,tT];exact UC q
def Ar:List Int:=zt 16
def ED:Ar.length=16:=UC 16
def aod{q}(h:q=16):zt q=Ar:=by rw[h];rfl
attribute [irreducible] Ar
def axC w:
 aD ax 357 #[] w λe w'=>e=aB (ar (aM bw Ar []))/\au w w':=by
 go_enter func357,ntmps357;have a:=a8 w;go_upto_region 0 with fail;refine cw ?_;refine bl a (aM bw (dZ 16 0) []) (λd w1 a=>?_);refine ah ?_;refine bl a (aM bw (zt 0) []) (λf r a=>?_);refine ah ?_;refine ag ?_;refine an ?_;go_wp2_with fail;go_loopw [4] (λb wr=>∃q:Nat,q<=16/\b=J R q/\ak w (λ_=>False) wr [aj f (aM bw (zt q) []) 434,aj d (aM bw (dZ 16 0) []) 434]) (λb wr=>16 -(bQ b).toNat);case atStart=>grind
 case round=>
  clear a;obtain⟨q,o,rfl,a⟩:=hrel;by_cases hlt:q<16
  .have l:(q:Int)<16:=ad;go_upto_region 4 with fail;refine cw ?_;refine DG ?_;refine pk (bw (gr (q:Int))) ?_;refine ag ?_;refine ah ?_;refine ag ?_;refine an ?_;go_wp2_with fail;go_loopw [3,9] (λh c wr=>∃j:Nat,j<=4/\c=J R j/\aE (h=bw (Cy (gr (q:Int)) j))/\ak w (λ_=>False) wr [aj f (aM bw (zt q) []) 434,aj d (aM bw (dZ 16 0) []) 434]) (λh c wr=>4 -(bQ c).toNat);case atStart=>exact⟨0,ad,aa,hid aa,a⟩
   case round=>
    clear a;obtain⟨j,m,rfl,i,a⟩:=hrel;obtain rfl:=i.out;by_cases n:j<4
    .have k:(j:Int)<4:=ad;go_upto_region 8 with fail;refine cw ?_;refine ag ?_;refine pk (bw (jg (Cy (gr (q:Int)) j) 1)) ?_;refine ag ?_;refine pu ?_;refine pk (bw (ad4 (n32 (Cy (gr (q:Int)) j) 1))) ?_;iterate 2 refine pu ?_
     refine dV ?_;refine pad (j:Int) 1 ((j+1:Nat):Int) ?_;refine bX ?_;go_wp2_with fail;go_roundw;case rel=>exact⟨j+1,ad,aa,hid aa,a⟩
     case measure=>simp[bQ]<;>omega
    .have k:¬(j:Int)<4:=ad;obtain⟨hJ,g⟩:=ex (Cy (gr (q:Int)) j);have p:Cy (gr (q:Int)) 4=hJ:=by rw[<-g,show j=4 by omega]
     rw[g];go_upto_region 10 with fail;refine cw ?_;refine v2 ?_;refine kK ?_;refine xC a 0 (UC ..) (λs a=>?_);refine an ?_;go_wp2_with fail;go_roundw;case rel=>exact⟨q+1,ad,by go_num,by grind[zt]⟩
     case measure=>grind[bQ]
  .have l:¬(q:Int)<16:=ad;rw[aod (show q=16 by omega)]at a;go_upto_region 12 with fail;refine cw ?_;refine zj a 0 ED ?_;refine pI a 1 (lI ..) ED (λt a=>?_);refine an ?_;go_wp2_with fail;refine c' (v:=_) (gG aa _ _ _ _ _ _ _ aa (a.aW 1) underlying434 aa (by rw[i',ED];rfl)) aa (⟨aa,a.only⟩)
def LZ(r:Int):Int:=hV (jg r 4) (Ar[Dj r]?.getD 0)
def Zm(r c:Int):Int:=LZ (LZ (hV r (gr c)))
def L0(r:Int)(bs:List Int):Nat->Int
 |0=>r
 |i+1=>Zm (L0 r bs i) (bs[i]?.getD 0)
def RB(s:Int)(bs:List Int):Int:=A3 (L0 (A3 s) bs bs.length)
def Hz(bs:List Int):Int:=RB 0 bs
def apL s(o i C)aK c2 bs w(O:bs.length<=35184372088832)(hcell:w.cell? ⟨o,i,af⟩=ab (ae aK bs.length c2))(hb:b2 w aK bs):
 aD ax 323 #[bw s,ae (ab ⟨o,i,af⟩) 1 C] w λe w'=>e=aB (bw (RB s bs))/\au w w':=by
 have z:=hid hb;have l:=hid hcell;obtain⟨hD,hbl⟩:=ex bs.length;have I:hD<=35184372088832:=ad;rw[hbl]at l;have d:=hid hbl;clear hcell hb hbl;go_enter func323,ntmps323;have a:=a8 w;go_upto_region 0 with fail;refine cw ?_;refine dV ?_;refine bC (axC _) a (λw1 a=>?_);refine bl a (aM bw (dZ 16 0) []) (λk Q a=>?_);refine pI a 0 (lI ..) ED (λS a=>?_);refine b5 ?_;refine pk (bw (A3 s)) ?_;refine ag ?_;refine ah ?_;refine v3 ?_;refine an ?_;go_wp2_with fail;go_loopw [6,16] (λv f wr=>∃q:Nat,q<=1/\f=J R q/\∃r,v=bw r/\aE (q=0/\r=A3 s\/q=1/\A3 r=RB s bs)/\ak w (λ_=>False) wr [aj k (aM bw (Ar) []) 434]) (λv f wr=>1 -(bQ f).toNat);case atStart=>grind[hid]
 case round=>
  clear a;obtain⟨q,P,rfl,r,rfl,m,a⟩:=hrel;by_cases hlt:q<1
  .have F:(q:Int)<1:=ad;obtain⟨rfl,t⟩:=m.out.resolve_right (λh=>ad);have B:=hid t;clear t;go_upto_region 5 with fail;refine cw ?_;refine aG _ (b4 _ 22 1 _ _ aa Tryz.underlying193 aw _ _ _ _ _ i aa aa aS ad) ?_;refine NM l a.only ?_;refine ag ?_;refine ah ?_;refine v3 ?_;refine an ?_;go_wp2_with fail;go_loopw [6,22] (λx g wr=>∃j:Nat,j<=hD/\g=J R j/\∃b,x=bw b/\aE (b=L0 r bs j)/\ak w (λ_=>False) wr [aj k (aM bw (Ar) []) 434]) (λx g wr=>hD -(bQ g).toNat);case atStart=>exact⟨0,ad,aa,_,aa,hid aa,a⟩
   case round=>
    clear a;obtain⟨j,N,rfl,b,rfl,n,a⟩:=hrel;by_cases p:j<hD
    .have E:(j:Int)<(hD:Int):=ad;obtain⟨H,G,rfl,D⟩:=z (by rw[d];omega);obtain⟨c,hc⟩:=ex (bs[j]?.getD 0);have y:=D j (by rw[d];exact p);rw[hc]at y;have A:=hid hc;clear hc;go_upto_region 8 with fail;refine cw ?_;refine aG _ (b4 22 5 1 _ _ aa dW aw _ _ _ _ _ ((G+j)) aa aa p ad) ?_;refine NM y a.only ?_;refine kg ?_;refine pk (bw (gr c)) ?_;refine pu ?_;refine bX ?_;obtain⟨cW,hx1⟩:=ex (Dj (hV b (gr c)));have K:cW<16:=by rw[<-hx1];exact TK _
     refine b5 ?_;refine pk (bw (jg (hV b (gr c)) 4)) ?_;refine ag ?_;refine aG (J wC (cW:Int)) (by(rw[<-hx1,<-ad3];show _=_;kernel_rfl)) ?_;refine aeG ?_;refine ou a 0 ED ?_;refine pu ?_;refine bX ?_;obtain⟨u,hr2⟩:=ex (hV (jg (hV b (gr c)) 4) (Ar[cW]?.getD 0));rw[hr2];obtain⟨bk,hx2⟩:=ex (Dj u);have L:bk<16:=by rw[<-hx2];exact TK _
     refine b5 ?_;refine pk (bw (jg u 4)) ?_;refine ag ?_;refine aG (J wC (bk:Int)) (by(rw[<-hx2,<-ad3];show _=_;kernel_rfl)) ?_;refine aeG ?_;refine ou a 0 ED ?_;refine pu ?_;refine dV ?_;refine pad (j:Int) 1 ((j+1:Nat):Int) ?_;refine bX ?_;go_wp2_with fail;go_roundw;case rel=>exact⟨j+1,ad,aa,_,aa,hid (by rw[L0,Zm,A,<-n,LZ,LZ,hx1,hr2,hx2]),a⟩
     case measure=>simp[bQ]<;>omega
    .have E:¬(j:Int)<(hD:Int):=ad;go_upto_region 13 with fail;refine cw ?_;refine pad 0 1 ((1:Nat):Int) ?_;refine bX ?_;go_wp2_with fail;go_roundw;case rel=>exact⟨1,ad,aa,_,aa,hid (cm ⟨aa,by rw[n,show j=bs.length by rw[d];omega,B];rfl⟩),a⟩
     case measure=>simp[bQ]<;>omega
  .have F:¬(q:Int)<1:=ad;have M:=(m.out.resolve_left (λh=>ad)).2;go_upto_region 14 with fail;refine cw ?_;refine ag ?_;refine pk (bw (A3 r)) ?_;refine bX ?_;go_wp2_with fail;go_ret;exact⟨bc,a.only⟩
def Zn(b c d)aK c2 bs w(f:bs.length<=35184372088832)(hcell:w.cell? ⟨b,c,af⟩=ab (ae aK bs.length c2))(hb:b2 w aK bs):
 aD ax 284 #[ae (ab ⟨b,c,af⟩) 1 d] w λe w'=>e=aB (bw (Hz bs))/\au w w':=by
 go_enter func284,ntmps284;have a:=a8 w;go_step;refine ah ?_;refine cB ?_;refine bC (apL 0 b c d aK c2 bs _ f hcell hb) a (λw1 a=>?_);refine bX ?_;go_wp2_with fail;go_ret;exact⟨aa,a.only⟩
def yG(s:Int)(i:Nat):Int:=dO.wrap (s.fdiv (2^(8*i)))
def anj s:yG s 0=dO.wrap s:=by simp[yG]
def L1(s:Int):List Int:=[yG s 0,yG s 1,yG s 2,yG s 3]
def Bf(bs:List Int):List Int:=bs++L1 (Hz bs)
def afI bs:(Bf bs).length=bs.length+4:=by simp[Bf,L1]
def awO A c bs w(o:bs.length<=17592186044416)(hc:bs.length<=c)(hb:b2 w A bs):
 aD ax 325 #[ae A bs.length c] w λe w'=>∃d g,e=aB (ae d (Bf bs).length g)/\fe w.heap.size w' d g (Bf bs)/\au w w':=by
 have f:=hid hb;obtain⟨s,b⟩:=ex (Hz bs);have i:=hid b;have uo:=hid (Zn (bs:=bs));rw[b]at uo;clear b hb;go_enter func325,ntmps325;have a:=a8 w;go_step;refine ah ?_;refine cB ?_;refine e7 a #[ae A bs.length c] 22 (λl w1 a=>?_);refine bC (uo _ 0 1 A c _ ad ((a.aW 0).cell 0 aa) (f.out.aI a.only)) a (λp a=>?_);refine ag ?_;refine ah ?_;refine v5 ?_;refine aG _ (af0 22 5 1 _ _ _ aa dW aw A _ c _ _ aa aa aa (b9 _) hc) ?_;refine ag ?_;refine pk (a6 (dO.wrap s)) ?_;refine ag ?_;refine pk (bw (jg s 8)) ?_;refine pk (a6 (dO.wrap (jg s 8))) ?_;refine ag ?_;refine pk (bw (jg s 16)) ?_;refine pk (a6 (dO.wrap (jg s 16))) ?_;refine ag ?_;refine pk (bw (jg s 24)) ?_;refine pk (a6 (dO.wrap (jg s 24))) ?_;refine e7 a #[a6 (dO.wrap s),a6 (dO.wrap (jg s 8)),a6 (dO.wrap (jg s 16)),a6 (dO.wrap (jg s 24))] 5 (λix q a=>?_);refine auN a (amx 1 aa aa aa (b2.cells (f.out.aI a.only)) (aX.cellsOf (m:=4) (a.aW 0) aa) (by intro u h;simp at h;rcases h with rfl|rfl|rfl|rfl<;>rfl) aS ad aS dW aw) (λk n r a=>?_);refine bX ?_;go_wp2_with fail;go_ret;have j:bs.map a6++[a6 (dO.wrap s),a6 (dO.wrap (jg s 8)),a6 (dO.wrap (jg s 16)),a6 (dO.wrap (jg s 24))]=(Bf bs).map a6:=by rw[Bf,i,L1,anj,fP];rfl
 rw[j,<-afI]at a;exact⟨_,_,by rw[afI];rfl,Row.nk (a.fresh 0).row,a.only⟩
def tk(bs:List Int):Option (List Int):=if 4<=bs.length/\∀i,i<4->bs[bs.length -4+i]?.getD 0=yG (Hz (bs.take (bs.length -4))) i then ab (bs.take (bs.length -4))else af
def aug A c bs w(U:bs.length<=17592186044416)(hc:bs.length<=c)(hb:b2 w A bs):
 aD ax 213 #[ae A bs.length c] w λe w'=>(∃d t B,tk bs=ab d/\e=aB (bn #[ae t d.length B,ai az])/\fe w.heap.size w' t B d/\au w w')\/(tk bs=af/\e=aB (bn #[ae af 0 0,ai ao])/\au w w'):=by
 have I:=hid hb;by_cases N:4<=bs.length
 .obtain⟨n,hn⟩:∃n,bs.length=n+4:=⟨bs.length -4,ad⟩;obtain⟨g,f,rfl,D⟩:=hb ad;have K:=hid D;have x:=hid hn;have T:n+4<=c:=ad;have Y:fK (ab ⟨g,f,af⟩) c n 1=ab ⟨g,f+n,af⟩:=by grind[fK,mW]
  have F:(bs.take n).length=n:=aH;have y:=hid (b2.Ge I (show n<=bs.length by omega));have l:=hid F;obtain⟨s,p⟩:=ex (Hz (bs.take n));have z:=hid p;have uo:aE (∀o W,W.cell? ⟨o,0,af⟩=ab (ae (ab ⟨g,f,af⟩) n c)->b2 W (ab ⟨g,f,af⟩) (bs.take n)->aD ax 284 _ W λe w'=>e=aB (bw s)/\au W w'):=hid (λo W h1 k=>by rw[<-p];exact Zn o 0 1 _ c _ W ad aH k);rw[hn];clear D p hb F;go_enter Tryz.func213,Tryz.ntmps213;have a:=a8 w;go_upto_region 0 with fail;refine cw ?_;refine v2 ?_;refine gV ?_;refine jW ((n+4:Nat):Int) 4 ((n:Nat):Int) ?_;refine ag ?_;refine ah ?_;refine v2 ?_;refine gV ?_;refine aG (ae (ab ⟨g,f,af⟩) n c) (rF 22 5 1 (bj 13) (bj 14) aa dW aw (ab ⟨g,f,af⟩) (n+4) c n aa aa ad) ?_;refine e7 a #[ae (ab ⟨g,f,af⟩) n c] 22 (λQ w1 a=>?_);refine bC (uo.out _ _ ((a.aW 0).cell 0 aa) (y.out.aI a.only)) a (λZ a=>?_);refine bX ?_;have P:ae (ab ⟨g,(f+n),af⟩) 4 (c -n)=ae (fK (ab ⟨g,f,af⟩) c n 1) ((n+4) -n) (c -n):=aH;refine gV ?_;refine aG (ae (ab ⟨g,(f+n),af⟩) 4 (c -n)) (by(rw[P];exact Uw 22 5 1 _ _ aa dW aw _ _ c n aa aa ad ad)) ?_;refine dU ?_;have L:=a.only;go_wp2_with fail;go_loopw [22] (λr wr=>∃q:Nat,q<=4/\r=J R q/\aE (∀i,i<q->bs[n+i]?.getD 0=yG s i)/\ak w (λ_=>False) wr []) (λr wr=>4 -(bQ r).toNat);case atStart=>exact⟨0,ad,aa,hid (λi hi=>absurd hi ad),a.drop 0⟩
  case round=>
   clear a L;obtain⟨q,X,rfl,u,a⟩:=hrel;by_cases hlt:q<4
   .have V:(q:Int)<4:=ad;have G:=K (n+q) ad;obtain⟨b,hb⟩:=ex (bs[n+q]?.getD 0);rw[hb,<-Nat.add_assoc]at G;have v:=hid hb;clear hb;obtain⟨d,E⟩:=ex (yG s q);have j:=hid E;have C:8*q<=32:=ad;clear E;go_upto_region 7 with fail;refine cw ?_;refine ag ?_;refine aG _ (b4 22 5 1 _ _ aa dW aw _ _ 4 _ _ ((f+n+q)) aa aa hlt ad) ?_;refine NM G a.only ?_;refine dU ?_;by_cases iO:b=d
    .subst iO;refine jk ?_;refine A9 8 (q:Int) ((8*q:Nat):Int) ?_;refine aG (bw _) (yD _ _ _ 3 aa _ _ _ _ aa aa C) ?_;refine aG (a6 b) (by(rw[<-j];show _=_;kernel_rfl)) ?_;refine dV ?_;refine pad (q:Int) 1 ((q+1:Nat):Int) ?_;refine bX ?_;go_wp2_with fail;go_roundw;case rel=>exact⟨q+1,ad,aa,hid (λi hi=>by rcases Nat.lt_succ_iff_lt_or_eq.1 hi with h|rfl;exact u i h;rw[v];exact j.out.symm),a⟩
     case measure=>grind[bQ]
    .have O:=iO;refine jk ?_;refine A9 8 (q:Int) ((8*q:Nat):Int) ?_;refine aG (bw _) (yD _ _ _ 3 aa _ _ _ _ aa aa C) ?_;refine aG (a6 d) (by(rw[<-j];show _=_;kernel_rfl)) ?_;refine ag ?_;refine ah ?_;refine dU ?_;go_wp2_with fail;go_ret2;refine cm ⟨?_,aa,a.only⟩;refine if_neg (λh=>O ?_);have k:=h.2 q hlt;rw[x,show n+4 -4=n by omega,z,v]at k;rw[k,j]
   .obtain rfl:q=4:=ad;go_upto_region 11 with fail;refine cw ?_;refine v2 ?_;refine aG _ (rF 22 5 1 _ _ aa dW aw _ _ c n aa aa ad) ?_;replace a:=a.new (ba _ 0 0 5 1 []) (cf.aej (av.refl _ _) (Row.nil _ _ _ _));refine jV (m:=n) a 0 1 (by have q:=b2.cells (y.out.aI a.only);rw[l.out]at q;exact q) LK (λH M bF a=>?_) (hby:=by omega);refine dU ?_;go_wp2_with fail;go_ret2;refine b1 ⟨_,H,M,?_,by rw[l];simp,Row.nk (by rw[l];have q:=(a.fresh 0).row;simpa using q),a.only⟩;unfold tk;rw[x,show n+4 -4=n by omega,z];exact if_pos ⟨ad,u⟩
 .have S:((bs.length:Nat):Int) -4<0:=ad;go_enter Tryz.func213,Tryz.ntmps213;have a:=a8 w;go_upto_region 0 with fail;refine cw ?_;refine v2 ?_;refine gV ?_;refine jW (bs.length:Int) 4 ((bs.length:Int) -4) ?_;refine ag ?_;refine ah ?_;refine v2 ?_;refine ah ?_;refine dU ?_;go_wp2_with fail;go_ret2;exact cm ⟨if_neg (λh=>N h.1),aa,a.only⟩
def awY{v s:Nat}(h:v<2^s)(b:1<=s):((v:Int).fdiv (2^(s -1))).fdiv (2^1)=0:=by
 have bE:(v:Int).fdiv (2^(s -1))=((v/2^(s -1):Nat):Int):=aH;rw[bE,show((2:Int)^1)=((2:Nat):Int) by rfl];have cr:((v/2^(s -1):Nat):Int).fdiv ((2:Nat):Int)=((v/2^(s -1)/2:Nat):Int):=aH;rw[cr,Nat.div_div_eq_div_mul];have a:2^(s -1)*2=2^s:=by rw[<-Nat.pow_succ];congr 1;omega
 rw[a,Nat.div_eq_of_lt h];rfl
def yR(f:Nat×Nat):Prop:=(f.2=1\/f.2=4\/f.2=8)/\f.1<2^(8*f.2)
def ap0 f(h:yR f)w:
 aD ax 205 #[ar #[J aF (f.1:Int),J R (f.2:Int)]] w λe w'=>e=aB (ai az)/\au w w':=by
 obtain⟨v,s⟩:=f;obtain⟨rfl|rfl|rfl,hv⟩:=h
 all_goals
  dsimp only at hv⊢;have hz:=awY hv aS;clear hv;go_enter func205,ntmps205;have a:=a8 w;go_step;refine ah ?_;refine bL a _ (λcM w1 a=>?_);refine cB ?_;refine pl a 0 1 ?_;refine v3 ?_;refine pl a 0 1 ?_;refine v4 ?_;refine pl a 0 0 ?_;refine ag ?_;refine pl a 0 1 ?_;refine v2 ?_;refine aG _ (yD _ _ _ _ aa aF R _ _ aa aa aS) ?_;refine aG (J aF 0) (by(rw[<-hz];show _=_;kernel_rfl)) ?_;refine v3 ?_;refine an ?_;go_wp2_with fail;go_ret;exact⟨aa,a.only⟩
def r7(v s r:Nat):List Int:=(dQ (s -r)).map (λj=>xt v (s -1 -j))
def amT{v s i}(h:i<s):r7 v s i=r7 v s (i+1)++[xt v i]:=by unfold r7;rw[show s -i=(s -(i+1))+1 by omega,sV,fP,j5,ln,show s -1 -(s -(i+1))=i by omega]
theorem YN(v s r):(r7 v s r).length=s -r:=by simp[r7]
def ja(fs:List (Nat×Nat)):List Int:=fs.flatMap (λf=>r7 f.1 f.2 0)
def amA fs f:ja (fs++[f])=ja fs++r7 f.1 f.2 0:=by simp[ja]
def amy{fs}(h:∀f∈fs,yR f):(ja fs).length<=fs.length*8:=by
 induction fs with
 |nil=>simp[ja]
 |cons f l b=>
  have h1:=b (λg a=>h g (List.mem_cons_of_mem _ a));have c:=(h f (sU ..)).1;grind[ja,YN]
def agU A c bs(p C jc)fs w(W:bs.length<=8796093022208/\fs.length<=1048576)(hb:b2 w A bs)(Z:∀f∈fs,yR f)(I:∀i f,fs[i]?=ab f->w.cell? ⟨p,C+i*2,af⟩=ab (J aF (f.1:Int))/\w.cell? ⟨p,C+i*2+1,af⟩=ab (J R (f.2:Int))):
 aD ax 126 #[ae A bs.length c,ae (ab ⟨p,C,af⟩) fs.length jc] w λe w'=>∃D H,e=aB (bn #[ae D (bs++ja fs).length H,ai az])/\Row w.heap.size w' D (bs++ja fs).length H 5 1 ((bs++ja fs).map a6)/\au w w':=by
 have O:=hid hb;have P:=hid I;have F:=hid Z;have cK:=hid W;clear hb I;go_enter func126,ntmps126;have a:=a8 w;go_upto_region 0 with fail;refine cw ?_;refine DG ?_;refine aR (w6 A c bs _ (O.out.aI a.only) ad) ?_;rintro e w1 ⟨aht,ane,rfl,hrow,g⟩;replace a:=a.lA g hrow;refine aU ?_;refine ag ?_;refine ah ?_;refine v3 ?_;refine an ?_;go_wp2_with fail;go_loopw [6,14] (λev y wr=>∃(q L:Nat) (b:Option bT) (d:Nat),q<=fs.length/\y=J R q/\ev=ae b L d/\aE (L=(bs++ja (fs.take q)).length)/\ak w (λ_=>False) wr [ba b L d 5 1 ((bs++ja (fs.take q)).map a6)]) (λev y wr=>fs.length -(bQ y).toNat);case atStart=>exact⟨0,_,_,_,ad,aa,aa,hid (by simp[ja]),by grind[ja]⟩
 case round=>
  clear a;obtain⟨q,L,b,d,hq,rfl,rfl,o,a⟩:=hrel;have aAK:L<=8796093022208+8388608:=by have U:=amy (fs:=fs.take q) (λf j=>F f (List.mem_of_mem_take j));rw[List.length_take]at U;rw[o,c7];omega
  by_cases hlt:q<fs.length
  .have X:(q:Int)<(fs.length:Int):=ad;obtain⟨⟨v,s⟩,j⟩:∃f,fs[q]?=ab f:=⟨_,cE hlt⟩;obtain⟨M,N⟩:=P q (v,s) j;have n:=F _ (cX j);have Q:=hid (ap0 _ n);have vZ:s<=8:=by have:=n.1;simp only at this;omega
   have hs1:1<=s:=by have:=n.1;simp only at this;omega
   have T:=hid j;have G:=hid (And.intro M N);clear j n M N;go_upto_region 4 with fail;refine cw ?_;refine aG _ (b4 _ _ 2 _ _ aa underlying229 aw _ _ _ _ q _ aa aa hlt aa) ?_;refine aG _ (adG _ aa aa (a.only.cell G.1 (λh=>h)) (a.only.cell G.2 (λh=>h)) underlying227 aa aw) ?_;refine bl a #[J _ 0,J _ 0] (λE aT a=>?_);refine a' a 0 (ar _) (λbF a=>?_);refine ah ?_;refine bh a 0 #[J aF (v:Int),J R (s:Int)] ?_;refine bC (Q _) a (λb8 a=>?_);refine cB ?_;refine pl a 0 1 ?_;refine jW _ 1 ((s:Int) -1) ?_;refine bX ?_;replace a:=a.pk [1,0];replace a:ak w (λ_=>False) b8 [ba b (L+0) d 5 1 (((bs++ja (fs.take q))++r7 v s s).map a6),aj E #[J aF (v:Int),J R (s:Int)] 227]:=by simpa [r7]using a
   go_wp2_with fail;go_loopw [6,9] (λev B wr=>∃(r z:Nat) (k:Int) (Y:Option bT) (l:Nat),(r<=s/\z+r=s/\k+1=(r:Int))/\B=J R k/\ev=ae Y (L+z) l/\ak w (λ_=>False) wr [ba Y (L+z) l 5 1 (((bs++ja (fs.take q))++r7 v s r).map a6),aj E #[J aF (v:Int),J R (s:Int)] 227]) (λev B wr=>(bQ B+1).toNat);case atStart=>exact⟨s,0,_,b,d,ad,aa,aa,a⟩
   case round=>
    clear a;obtain⟨r,z,k,Y,l,⟨arR,ac7,aq3⟩,rfl,rfl,a⟩:=hrel;obtain rfl|⟨i,rfl⟩:r=0\/∃i,r=i+1:=by cases r;exact b1 aa;exact cm ⟨_,aa⟩
    .obtain rfl:k=-1:=ad;obtain rfl:z=s:=ad;go_upto_region 11 with fail;refine cw ?_;refine pad _ 1 ((q+1:Nat):Int) ?_;refine bX ?_;go_wp2_with fail;have uF:fs.take (q+1)=fs.take q++[(v,z)]:=by rw[gq,T];rfl
     have hap:bs++ja (fs.take (q+1))=bs++ja (fs.take q)++r7 v z 0:=by rw[uF,amA,kD]
     go_roundw;case rel=>exact⟨q+1,_,Y,l,ad,aa,aa,hid (by rw[hap,c7,YN,<-o];omega),by rw[hap];exact a.drop 1⟩
     case measure=>simp[bQ]<;>omega
    .obtain rfl:k=(i:Int):=ad;have V:8*i<=64:=ad;go_upto_region 10 with fail;refine cw ?_;refine v2 ?_;refine pl a 1 0 ?_;refine ag ?_;refine A9 8 _ ((8*i:Nat):Int) ?_;refine aG _ (yD 42 _ _ 3 aa _ _ _ _ aa aa V) ?_;refine pk (a6 (xt v i)) ?_;refine e7 a #[a6 (xt v i)] 5 (λg' cA a=>?_);refine jV (m:=1) a 1 1 (aX.cellsOf (m:=1) (a.aW 0) aa) (by intro u hu;rw[vs.1 hu];rfl) (λU' YX cR a=>?_);refine cB ?_;refine jW (i:Int) 1 ((i:Int) -1) ?_;refine bX ?_;go_wp2_with fail;go_roundw;case rel=>exact⟨i,z+1,_,_,_,ad,aa,aa,by rw[amT ad,<-kD,fP];exact a.pick [1,2]⟩
     case measure=>simp[bQ]<;>omega
  .have X:¬(q:Int)<(fs.length:Int):=ad;have K:fs.take q=fs:=tU ad;have x:=o.out;rw[K]at x;have S:=hid x;rw[K]at a;clear x;go_upto_region 12 with fail;refine cw ?_;refine v3 ?_;refine an ?_;go_wp2_with fail;go_ret2;have t:=S.out;rw[c7]at t;exact⟨b,d,by rw[<-t];rfl,by rw[<-t,<-fP];exact(a.fresh 0).row,a.only⟩
structure Rd where
 bs:List Int
 p:Nat
 bt:Int
 dn:Int
def lT(A:Option bT)(c:Nat)(r:Rd):Array Value:=#[ae A r.bs.length c,J R (r.p:Int),J R r.bt,J R r.dn]
def xA(x c:Int):Int:=aF.wrap ((mN 64 (aF.wrap (x*2^8))|||BitVec.ofInt 64 (aF.wrap c)).toNat:Int)
def mZ(r:Rd)(k a:Int):Rd:=if r.bt=0/\¬k=0 then{r with bt:=k,dn:=a}else r
def atI A c bs w(l:bs.length<=140737488355328)(hb:b2 w A bs):
 aD ax 134 #[ae A bs.length c] w λe w'=>∃B b d,e=aB (ay (ab ⟨B,0,af⟩))/\w.heap.size<=B/\aX w' B (lT b d ⟨bs,0,0,0⟩) 333/\fe w.heap.size w' b d bs/\¬eh b B/\au w w':=by
 go_enter func134,ntmps134;have a:=a8 w;go_step;refine ah ?_;refine cB ?_;refine aR (w6 A c bs _ (hb.aI a.only) l) ?_;rintro e w1 ⟨f,k,rfl,hrow,g⟩;replace a:=a.lA g hrow;refine aU ?_;refine v2 ?_;refine bL a (ar _) (λm n a=>?_);refine bX ?_;go_wp2_with fail;go_ret;exact⟨_,f,k,aa,(a.fresh 0).2.2 _ aa|>.1,a.aW 0,Row.nk (a.fresh 1).row,λh=>a.ne (i:=1) (j:=0) aa aa aS _ h aa,a.only⟩
def at0 w:
 aD ax 219 #[] w λe w'=>∃B,e=aB (dI (ed 286) #[] #[ay (ab ⟨B,0,af⟩)])/\w.heap.size<=B/\aX w' B #[J aF 0] 42/\au w w':=by
 go_enter func219,ntmps219;have a:=a8 w;go_step;refine ah ?_;refine dV ?_;refine bl a #[J aF 0] (λb w1 a=>?_);refine a' a 0 (J _ 0) (λc a=>?_);refine ah ?_;refine dU ?_;go_wp2_with fail;go_ret;exact⟨_,aa,(a.fresh 0).2.2 _ aa|>.1,a.aW 0,a.only⟩
def atZ B(x c)w(hx:aX w B #[J aF x] 42):
 aD ax 286 #[J dO c,ay (ab ⟨B,0,af⟩)] w λe w'=>e=aB (J aF (xA x c))/\av (λb=>b=B) w w'/\aX w' B #[J aF (xA x c)] 42:=by
 go_enter func286,ntmps286;have a:=ak.start (t:=aj B _ 42) ⟨hx,λb e=>(show b=B from e)▸aX.lt hx⟩;go_step;refine ah ?_;refine dV ?_;refine pl a 0 0 ?_;refine pk (J aF (aF.wrap (x*2^8))) ?_;refine ag ?_;refine pk (J aF (aF.wrap c)) ?_;refine pk (J aF (xA x c)) ?_;refine a' a 0 (J _ _) (λw1 a=>?_);refine ah ?_;refine pl a 0 0 ?_;refine bX ?_;go_wp2_with fail;go_ret;exact⟨aa,a.only,a.aW 0⟩
def avO(B t:Nat)A c r(g a)w(f:aX w B (lT A c r) t):
 aD ax 283 #[ay (ab ⟨B,0,af⟩),J R g,J R a] w λe w'=>e=aB (bn #[])/\av (λb=>b=B) w w'/\aX w' B (lT A c (mZ r g a)) t:=by
 obtain⟨bs,p,bt,dn⟩:=r;have d:=ak.start (t:=aj B #[ae A bs.length c,J _ (p:Int),J _ bt,J _ dn] t) ⟨f,λb e=>(show b=B from e)▸aX.lt f⟩;clear f;by_cases i:bt=0
 .subst i;by_cases k:g=0
  .subst k;go_enter VU,Wi;go_step;refine ah ?_;refine v4 ?_;refine pl d 0 2 ?_;refine pk (ai az) ?_;refine v2 ?_;refine pk (ai ao) ?_;refine bX ?_;go_wp2_with fail;first|go_end0|refine bodyPost_ret (results_none rfl _ _ _) rfl ?_
   exact⟨aa,d.only,by rw[mZ,if_neg bg];exact d.aW 0⟩
  .have l:=k;go_enter VU,Wi;go_step;refine ah ?_;refine v4 ?_;refine pl d 0 2 ?_;refine pk (ai az) ?_;refine v2 ?_;refine aG (ai az) (by(go_simp;try simp[l])) ?_;refine ag ?_;refine ah ?_;refine v6 ?_;refine a' d 0 (ar _) (λw1 d=>?_);refine an ?_;go_wp2_with fail;first|go_end0|refine bodyPost_ret (results_none rfl _ _ _) rfl ?_
   exact⟨aa,d.only,by rw[mZ,if_pos ⟨aa,l⟩];exact d.aW 0⟩
 .have j:=i;go_enter VU,Wi;go_step;refine ah ?_;refine v4 ?_;refine pl d 0 2 ?_;refine aG (ai ao) (by(go_simp;try simp[j])) ?_;refine ag ?_;iterate 2 refine ps ?_
  refine bX ?_;go_wp2_with fail;first|go_end0|refine bodyPost_ret (results_none rfl _ _ _) rfl ?_
  exact⟨aa,d.only,by rw[mZ,if_neg (λh=>j h.1)];exact d.aW 0⟩
def afw(B t:Nat)A c r n w(b:Has w (aj B (lT A c r) t))(d:r.bt=0)(hn:r.p+n<=r.bs.length)(hc:r.bs.length<=c)(cv:r.bs.length<=140737488355328):
 aD ax 218 #[ay (ab ⟨B,0,af⟩),J R (n:Int)] w λe w'=>e=aB (bn #[ae (fK A c r.p 1) n (c -r.p),ai az])/\Turned w w' (aj B (lT A c r) t) (aj B (lT A c {r with p:=r.p+n}) t):=by
 obtain⟨bs,p,bt,dn⟩:=r;obtain rfl:=d;replace b:Has w (aj B #[ae A bs.length c,J _ (p:Int),J _ 0,J _ dn] t):=b;replace hn:p+n<=bs.length:=hn;replace hc:bs.length<=c:=hc;replace cv:bs.length<=140737488355328:=cv;have g:p+n<=140737488355328:=ad;go_enter VL,We;have a:=ak.start b;go_step;refine ah ?_;refine v2 ?_;refine o9 ?_;refine pl a 0 2 ?_;refine pk (ai ao) ?_;refine cB ?_;refine a1 (ai ao) ?_;refine hX ?_;refine bR a [] (λ_ _=>a7) (λ_ _=>emp) (λ_=>[]) (λ|4=>[0]|9=>[0]|_=>[]) (λ_=>[]) [0] (λf=>?_);refine hW ?_;refine dl 0 0 ?_;refine hW ?_;refine dl 0 1 ?_;refine aL _ (λ_ _ _=>ra 3 _ _ 3 aa _ _ ((bs.length:Int) -(p:Int)) aa aa ad ad ad) ?_;refine aL (ai ao) (λ_ _ _=>by(go_simp;try omega)) ?_;refine aJ ?_;refine bW λw1 a=>?_;refine jk ?_;refine pl a 0 1 ?_;refine ag ?_;refine pad _ _ ((p+n:Nat):Int) ?_;refine v2 ?_;refine a' a 0 (J _ _) (λh a=>?_);refine cy ?_;refine bR a [] (λ_ _=>a7) (λ_ _=>emp) (λ_=>[]) (λ|3=>[0]|7=>[0]|13=>[0]|_=>[]) (λ_=>[]) [0] (λf=>?_);refine da ?_;refine dl 0 0 ?_;refine da ?_;refine dl 0 1 ?_;refine aJ ?_;refine aL _ (λ_ _ _=>ra 3 _ _ 3 aa _ _ ((p:Nat):Int) aa aa ad ad ad) ?_;refine da ?_;refine dl 0 1 ?_;refine aL _ (λ_ _ _=>F7 22 5 1 _ _ _ aa dW aw A _ c p _ n aa aa aa ad ad) ?_;refine bG ?_;refine bW λi a=>?_;go_wp2_with fail;go_ret2;exact⟨aa,a.gl 0⟩
def qe(r:Rd)(n:Int):Rd:=if n<0 then mZ r 2 r.p else mZ r 8 r.bs.length
def NQ(B t:Nat)A c r(b a)w(g:Has w (aj B (lT A c r) t)):
 aD ax 283 #[ay (ab ⟨B,0,af⟩),J R b,J R a] w λe w'=>e=aB (bn #[])/\Turned w w' (aj B (lT A c r) t) (aj B (lT A c (mZ r b a)) t):=
 (avO B t A c r b a w g.1).mono (λ_ _ ⟨h1,d,f⟩=>⟨h1,vz d f⟩)
def afv(B t:Nat)A c r n w(b:Has w (aj B (lT A c r) t))(i:r.p<=r.bs.length)(cv:r.bs.length<=140737488355328)(j:-1<=n/\n<=4611686018427387904)(f:r.bt≠0\/n<0\/(r.bs.length:Int)<r.p+n):
 aD ax 218 #[ay (ab ⟨B,0,af⟩),J R n] w λe w'=>e=aB (bn #[ae af 0 0,ai ao])/\Turned w w' (aj B (lT A c r) t) (aj B (lT A c (qe r n)) t):=by
 obtain⟨bs,p,bt,dn⟩:=r;replace b:Has w (aj B #[ae A bs.length c,J _ (p:Int),J _ bt,J _ dn] t):=b;replace i:p<=bs.length:=i;replace cv:bs.length<=140737488355328:=cv;by_cases g:bt=0
 .subst g;replace f:n<0\/(bs.length:Int)<p+n:=f.resolve_left (λh=>h aa);go_enter VL,We;have a:=ak.start b;go_step;refine ah ?_;refine v2 ?_;refine o9 ?_;refine pl a 0 2 ?_;refine pk (ai ao) ?_;refine bX ?_;by_cases hn:n<0
  .have hb:qe (⟨bs,p,0,dn⟩:Rd) n=mZ (⟨bs,p,0,dn⟩:Rd) 2 p:=by grind[qe]
   refine b5 ?_;refine a1 (ai az) ?_;refine By ?_;refine pl a 0 1 ?_;refine aR (NQ B t A c (⟨bs,p,0,dn⟩:Rd) 2 p _ (a.has 0)) ?_;rintro e w1 ⟨rfl,d⟩;replace a:=a.eP 0 d;refine aU ?_;refine ah ?_;refine dU ?_;go_wp2_with fail;go_ret2;exact⟨aa,aH⟩
  .have hb:qe (⟨bs,p,0,dn⟩:Rd) n=mZ (⟨bs,p,0,dn⟩:Rd) 8 bs.length:=by grind[qe]
   refine b5 ?_;refine a1 (ai ao) ?_;refine hX ?_;refine bR a [] (λ_ _=>a7) (λ_ _=>emp) (λ_=>[]) (λ|4=>[0]|9=>[0]|_=>[]) (λ_=>[]) [0] (λk=>?_);refine hW ?_;refine dl 0 0 ?_;refine hW ?_;refine dl 0 1 ?_;refine aL _ (λ_ _ _=>ra 3 _ _ 3 aa _ _ ((bs.length:Int) -(p:Int)) aa aa ad ad ad) ?_;refine aL (ai az) (λ_ _ _=>by(go_simp;try omega)) ?_;refine aJ ?_;refine bW λl a=>?_;refine o9 ?_;refine pl a 0 0 ?_;refine ag ?_;refine aR (NQ B t A c (⟨bs,p,0,dn⟩:Rd) 8 _ _ (a.has 0)) ?_;rintro e m ⟨rfl,d⟩;replace a:=a.eP 0 d;refine aU ?_;refine ah ?_;refine dU ?_;go_wp2_with fail;go_ret2;exact⟨aa,by first|exact a.gl 0|(rw[hb];exact a.gl 0)⟩
 .have hb:qe (⟨bs,p,bt,dn⟩:Rd) n=(⟨bs,p,bt,dn⟩:Rd):=by grind[qe,mZ]
  go_enter VL,We;have a:=ak.start b;go_step;refine ah ?_;refine v2 ?_;refine o9 ?_;refine pl a 0 2 ?_;refine aG (ai az) (by(go_simp;try simp[g])) ?_;refine ag ?_;refine ah ?_;refine dU ?_;go_wp2_with fail;go_ret2;exact⟨aa,by first|exact a.gl 0|(rw[hb];exact a.gl 0)⟩
def eA(B:Nat)(A:Option bT)(c:Nat)(r:Rd):bq:=both (aj B (lT A c r) 333) (cx A c r.bs)
def uO(l:List Int):Int:=l.foldl xA 0
theorem atY l x:uO (l++[x])=xA (uO l) x:=by simp[uO]
def wrap_u64 z:0<=aF.wrap z/\aF.wrap z<18446744073709551616:=by grind[DW,DV,Kt]
theorem atX(x c):0<=xA x c/\xA x c<18446744073709551616:=wrap_u64 _
theorem TN l:0<=uO l/\uO l<18446744073709551616:=by
 have h:∀(l:List Int) (a:Int),0<=a/\a<18446744073709551616->0<=l.foldl xA a/\l.foldl xA a<18446744073709551616:=by
  intro l;induction l with
  |nil=>simp
  |cons x l b=>grind[atX]
 exact h l 0 ad
def tq(r:Rd)(n:Nat):List Int:=(r.bs.drop r.p).take n
def awj B A c r s w(u:Has w (eA B A c r))(D:r.bt=0)(hn:r.p+s<=r.bs.length)(hs1:1<=s/\s<=8)(cv:r.bs.length<=140737488355328):
 aD ax 135 #[ay (ab ⟨B,0,af⟩),J R (s:Int)] w λe w'=>e=aB (J aF (uO (tq r s)))/\Turned w w' (eA B A c r) (eA B A c {r with p:=r.p+s}):=by
 obtain⟨bs,p,bt,dn⟩:=r;obtain rfl:bt=0:=D;replace hn:p+s<=bs.length:=hn;replace cv:bs.length<=140737488355328:=cv;have hb0:=u.1.2.1;have hc:bs.length<=c:=hb0.2.2;have d:=b2.win hb0.1 hc (i:=p) (q:=p+s) hn;rw[tV]at d;obtain⟨kl,v,t,_⟩:=d aH;have n:=hid t;clear t d hb0
 have z:aE (∀l W,ak w (eA B A c ⟨bs,p,0,dn⟩).cT W l->∀j,l[j]?=ab (cx A c bs)->∀q,q<s->W.cell? ⟨kl,v+q,af⟩=ab (J dO ((tq ⟨bs,p,0,dn⟩ s)[q]?.getD 0))):=hid (λl W h j E q G=>by have h1:=b2.win (ak.at h j E).1 hc (i:=p) (q:=p+s) hn;rw[tV]at h1;obtain⟨eF,gC,e,C⟩:=h1 aH;rw[n]at e;cases e;exact C q aH);go_enter Tryz.func135,Tryz.ntmps135;have a:ak w (eA B A c ⟨bs,p,0,dn⟩).cT w [aj B #[ae A bs.length c,J R (p:Int),J R 0,J R dn] 333,cx A c bs]:=(ak.start u).fx;go_upto_region 0 with fail;refine cw ?_;refine cB ?_;refine pk (ai ao) ?_;refine b5 ?_;refine a1 (ai ao) ?_;refine v2 ?_;refine a1 (ai ao) ?_;refine By ?_;refine aR ((by have h:=afw B 333 A c (⟨bs,p,0,dn⟩:Rd) s _ (a.has 0) aa hn hc cv;rw[n.out]at h;exact h)) ?_;rintro e w1 ⟨rfl,b⟩;replace b:Turned _ _ _ (aj B #[ae A bs.length c,J R ((p+s:Nat):Int),J R 0,J R dn] 333):=b;replace a:=a.eP 0 b;refine U7 ?_;refine pk (ai ao) ?_;refine On ?_;refine aR (at0 _) ?_;rintro e I ⟨m,rfl,lo,hx,g⟩;replace a:=a.new _ (yE g hx lo);refine aU ?_;refine ag ?_;refine ah ?_;refine v3 ?_;refine an ?_;go_wp2_with fail;go_loopw [7,32] (λy k wr=>∃q:Nat,q<=s/\y=J aF (uO ((tq ⟨bs,p,0,dn⟩ s).take q))/\k=J R q/\ak w (eA B A c ⟨bs,p,0,dn⟩).cT wr [aj m #[J aF (uO ((tq ⟨bs,p,0,dn⟩ s).take q))] 42,aj B #[ae A bs.length c,J R ((p+s:Nat):Int),J R 0,J R dn] 333,cx A c bs]) (λy k wr=>s -(bQ k).toNat);case atStart=>exact⟨0,ad,aa,aa,a.pick [0,1,2]⟩
 case round=>
  clear a;obtain⟨q,G,rfl,rfl,a⟩:=hrel;by_cases hlt:q<s
  .have F:(q:Int)<(s:Int):=ad;obtain⟨x,hx⟩:∃x,(tq ⟨bs,p,0,dn⟩ s)[q]?=ab x:=⟨_,cE (by grind[tq])⟩;have hcell:=z _ _ a 2 aa q hlt;rw[hx,vw]at hcell;have o:aE (uO ((tq ⟨bs,p,0,dn⟩ s).take (q+1))=xA (uO ((tq ⟨bs,p,0,dn⟩ s).take q)) x):=hid (by grind[gq,atY]);clear hx;go_upto_region 12 with fail;refine cw ?_;refine aG _ (b4 22 5 1 _ _ aa dW aw _ _ _ _ _ ((v+q)) aa aa hlt ad) ?_;refine v2 ?_;refine gV ?_;refine aR (atZ m (uO ((tq ⟨bs,p,0,dn⟩ s).take q)) x _ (a.aW 0)) ?_;rintro e K ⟨rfl,H,h1⟩;replace a:=a.eP 0 (vz H h1);refine aU ?_;refine dV ?_;refine pad (q:Int) 1 ((q+1:Nat):Int) ?_;refine bX ?_;go_wp2_with fail;go_roundw;case rel=>exact⟨q+1,ad,by rw[o],aa,by rw[o];exact a⟩
   case measure=>grind[bQ]
  .have F:¬(q:Int)<(s:Int):=ad;obtain rfl:q=s:=ad;have f:(tq ⟨bs,p,0,dn⟩ q).take q=(tq ⟨bs,p,0,dn⟩ q):=tU (by grind[tq]);rw[f]at a;simp only[f];clear f;go_upto_region 15 with fail;refine cw ?_;refine dU ?_;go_wp2_with fail;go_ret;exact⟨aa,(a.pick (l':=[aj B _ _,cx A c bs]) [1,2]).star.gl 0⟩
def q7(r:Rd):Prop:=r.p<=r.bs.length/\r.bs.length<=140737488355328
def lD(r:Rd)(s:Nat):Int×Rd:=if r.bt=0/\r.p+s<=r.bs.length then(uO (tq r s),{r with p:=r.p+s})else(0,qe r s)
theorem HH r(k a):(mZ r k a).bs=r.bs/\(mZ r k a).p=r.p:=by grind[mZ]
theorem LL r n:(qe r n).bs=r.bs/\(qe r n).p=r.p:=by grind[qe,HH]
theorem N'{r}(h:q7 r)s:q7 (lD r s).2:=by grind[lD,q7,LL]
def Jv r s:0<=(lD r s).1/\(lD r s).1<18446744073709551616:=by
 unfold lD;split;·exact TN _
 .simp
def qy(r:Rd):Int×Rd:=if(lD r 8).1>4611686018427387903 then(0,mZ (lD r 8).2 2 r.p)else lD r 8
def adK{r}(h:q7 r):q7 (qy r).2:=by grind[qy,q7,HH,N']
def adL r:0<=(qy r).1/\(qy r).1<=4611686018427387903:=by
 unfold qy;have:=Jv r 8;split;·simp
 .omega
def Jk B A c r(s:Nat)w(g:Has w (eA B A c r))(b:q7 r)(hs1:1<=s/\s<=8):
 aD ax 135 #[ay (ab ⟨B,0,af⟩),J R (s:Int)] w λe w'=>e=aB (J aF (lD r s).1)/\Turned w w' (eA B A c r) (eA B A c (lD r s).2):=by
 by_cases d:r.bt=0/\r.p+s<=r.bs.length;·refine(awj B A c r s w g d.1 d.2 hs1 b.2).mono (λe w' h=>?_);grind[lD]
 have cr:lD r s=(0,qe r s):=by grind[lD]
 rw[cr];clear cr;have f:r.bt≠0\/(s:Int)<0\/(r.bs.length:Int)<r.p+(s:Int):=ad;clear d;have j:=hid (λW (h:Has W (aj B (lT A c r) 333))=>afv B 333 A c r s W h b.1 b.2 ad f);have i:=hid (LL r s).1;clear f b;go_enter Tryz.func135,Tryz.ntmps135;have a:ak w (eA B A c r).cT w [aj B (lT A c r) 333,cx A c r.bs]:=(ak.start g).fx;go_step;refine ah ?_;refine cB ?_;refine pk (ai ao) ?_;refine b5 ?_;refine a1 (ai ao) ?_;refine v2 ?_;refine a1 (ai ao) ?_;refine By ?_;refine aR (j.out _ (a.has 0)) ?_;rintro e w1 ⟨rfl,k⟩;replace a:=a.eP 0 k;refine U7 ?_;refine pk (ai az) ?_;refine ah ?_;refine ag ?_;refine an ?_;go_wp2_with fail;go_ret;exact⟨aa,(by have h:=(a.pick (l':=[aj B (lT A c (qe r s)) 333,cx A c r.bs]) [0,1]).star;unfold eA;rw[i];exact ak.gl (s:=_) h 0)⟩
def ak.rd{aq w:aQ}{FX:Nat->Prop}{l:List bq}{B c:Nat}{A:Option bT}{r:Rd}(h:ak aq FX w l)(i:Nat)(hi:l[i]?=ab (eA B A c r):=by rfl):aX w B (lT A c r) 333:=(h.at i hi).1
def avP B A c r(b a)w(i:Has w (eA B A c r)):
 aD ax 283 #[ay (ab ⟨B,0,af⟩),J R b,J R a] w λe w'=>e=aB (bn #[])/\Turned w w' (eA B A c r) (eA B A c (mZ r b a)):=by
 have d:ak w (eA B A c r).cT w [aj B (lT A c r) 333,cx A c r.bs]:=(ak.start i).fx;refine(NQ B 333 A c r b a w (d.has 0)).mono (λe w' ⟨h1,f⟩=>⟨h1,?_⟩);have h:=(d.xK f).star;have e:=(HH r b a).1;have g:ak w (eA B A c r).cT w' [eA B A c (mZ r b a)]:=by grind[eA]
 exact g.gl 0
def afp B A c r w(u:Has w (eA B A c r))(m:q7 r):
 aD ax 211 #[ay (ab ⟨B,0,af⟩)] w λe w'=>e=aB (J R (qy r).1)/\Turned w w' (eA B A c r) (eA B A c (qy r).2):=by
 have j:=hid (λW (h:Has W (eA B A c r))=>Jk B A c r 8 W h m ad);have d:=hid (Jv r 8);have C:r.p<=140737488355328:=by grind[q7]
 obtain⟨v,b,i⟩:∃v b,lD r 8=(v,b):=⟨_,_,aa⟩;rw[i]at d;obtain⟨x,f,hx,bE,cr⟩:∃x f,qy r=(x,f)/\(v>4611686018427387903->x=0/\f=mZ b 2 r.p)/\(¬v>4611686018427387903->v=x/\b=f):=by grind[qy]
 rw[hx];have o:=hid bE;have q:=hid cr;have s:aE (∀W,Has W (eA B A c r)->aD ax 135 #[ay (ab ⟨B,0,af⟩),J R 8] W λe w'=>e=aB (J aF v)/\Turned W w' (eA B A c r) (eA B A c b)):=hid (λW h=>by have l:=j W h;rw[i]at l;exact l);clear j bE cr i hx m;have hv0:=d.1;have y:=d.2;clear d;simp only at hv0 y;go_enter func211,ntmps211;have a:ak w (eA B A c r).cT w [eA B A c r]:=ak.start u;go_step;refine ah ?_;refine cB ?_;refine pk (ai ao) ?_;refine o9 ?_;refine aG (J R (r.p:Int)) (fH (B:=B) (k:=1) (t:=333) (cs:=lT A c r) aa aa (ak.rd a 0) aa aw) ?_;refine cB ?_;refine aR (s.out _ (a.has 0)) ?_;rintro e w1 ⟨rfl,g⟩;replace a:=a.eP 0 g;refine Gl ?_;by_cases n:v>4611686018427387903;·obtain⟨rfl,rfl⟩:=o n;refine b5 ?_;refine a1 (ai az) ?_;refine o9 ?_;refine aR (avP B A c b 2 r.p _ (a.has 0)) ?_;rintro e D ⟨rfl,g⟩;replace a:=a.eP 0 g;refine aU ?_;refine ah ?_;refine ag ?_;refine an ?_;go_wp2_with fail;go_ret;exact⟨aa,a.gl 0⟩
 .obtain⟨rfl,rfl⟩:=q n;refine b5 ?_;refine a1 (ai ao) ?_;refine b5 ?_;refine aG (J R v) (by(have z:R.wrap v=v:=IntWalk.i64_in _ ⟨ad,ad⟩;go_simp;try rw[z])) ?_;refine bX ?_;go_wp2_with fail;go_ret;exact⟨aa,a.gl 0⟩
def avQ B A c r w(b:Has w (eA B A c r)):
 aD ax 212 #[ay (ab ⟨B,0,af⟩)] w λe w'=>e=aB (ar #[J R r.bt,J R r.dn])/\au w w':=by
 go_enter func212,ntmps212;have a:=a8 w;have hr:aX w B (lT A c r) 333:=b.1.1;go_step;refine ah ?_;refine bl a #[J R 0,J R 0] (λd w1 a=>?_);refine b5 ?_;refine pk (ai ao) ?_;refine o9 ?_;refine aG (ar #[J R r.bt,J R r.dn]) (mH (cs':=#[J R r.bt,J R r.dn]) aa aa (aX.aI hr a.only) aw (of_decide_eq_true aw) aw aw) ?_;refine a' a 0 (ar #[J R r.bt,J R r.dn]) (λf a=>?_);refine an ?_;go_wp2_with fail;refine c' (v:=_) (gG aa _ _ _ _ _ _ _ aa (a.aW 0) Tryz.underlying49 aa aw) aa (⟨aa,a.only⟩)
structure dR where
 size:Nat
 cnt:Nat
 bytes:List Int
 writes:Int
 keep:Int
 eE:Int
 hG:Int
 iD:Int
 hi:Int
 mo:Int
 cache:List (Nat×List Int)
 down:Bool
def nT.plain(m:nT):List (Nat×List Int):=m.L.map (λx=>(x.sec,x.bs))
def qi(m:nT)(d:dR):Array Value:=#[J R (d.size:Int),ae (ab ⟨m.b',0,af⟩) d.bytes.length d.bytes.length,J R d.writes,J aF d.keep,J R d.eE,J R d.hG,J R d.iD,J R d.hi,J R d.mo,ae m.A m.L.length m.c,dL (ab m.fb),ai d.down]
def tg(l:List Nat)(i:Nat):Option Nat:=(l.foldl (λ(p:Nat×Option Nat) j=>(p.1+1,if j=i then ab p.1 else p.2)) (0,af)).2
def adt i:∀(l:List Nat) p,(l.foldl (λ(p) j=>(p.1+1,if j=i then ab p.1 else p.2)) p).1=p.1+l.length
 |[],p=>by simp
 |j::l,p=>by rw[Aa,adt i l];simp;omega
theorem adu l(j i):tg (l++[j]) i=if j=i then ab l.length else tg l i:=by unfold tg;rw[List.foldl_append,Aa,List.foldl_nil];have h:=adt i l (0,af);rw[h];simp
def adv{l i k}(h:tg l i=ab k):l[k]?=ab i:=by
 suffices a:∀n (l:List Nat),l.length=n->tg l i=ab k->l[k]?=ab i from a _ l aa h;intro n;induction n with
 |zero=>grind[tg]
 |succ n c=>
  intro l b h;have hne:l≠[]:=λe=>by grind
  rw[<-List.dropLast_concat_getLast hne]at h⊢;grind[adu]
def EJ(x:Int):Value:=J R x
def jU(b:Nat)(l:List Nat):bq:=⟨λi=>i=b,λw=>∃a:List (Int×aP),d' w b EJ cO a/\a.length<=l.length/\∀i:Nat,ej a (i:Int)=(tg l i).map (λk=>J R (k:Int)),λw w' h f d=>by obtain⟨a,⟨es,e,hb,r⟩,c⟩:=d;exact⟨a,⟨es,_,Dl h aa hb,r⟩,c⟩⟩
def mw(L:List QY):List Value:=L.flatMap (λx=>[J R (x.sec:Int),ae x.A x.bs.length x.c])
theorem ank L x:mw (L++[x])=mw L++[J R (x.sec:Int),ae x.A x.bs.length x.c]:=by simp[mw]
def Ro{L k x}(h:L[k]?=ab x):(mw L)[k*2]?=ab (J R (x.sec:Int))/\(mw L)[k*2+1]?=ab (ae x.A x.bs.length x.c):=by
 induction L generalizing k with
 |nil=>grind
 |cons y l a=>
  cases k with
  |zero=>
   obtain rfl:y=x:=aH;exact⟨aa,aa⟩
  |succ k=>grind[mw]
def mf(L:List QY):bq:=⟨λb=>∃x∈L,eh x.A b,λw=>∀x∈L,fe 0 w x.A x.c x.bs,λw w' h a d x hx=>(cx x.A x.c x.bs).nG w w' (λb hb=>h b ⟨x,hx,hb⟩) (λb hb=>a b ⟨x,hx,hb⟩) (d x hx)⟩
abbrev oJ:Nat:=258
def aN(B:Nat)(m:nT)(d:dR):bq:=kc (d.cache=m.plain) (both (aj B (qi m d) 120) (both (aj m.b' (aM a6 d.bytes []) 5) (both (jU m.fb (d.cache.map (·.1))) (both (ba m.A m.L.length m.c oJ 2 (mw m.L)) (mf m.L)))))
def ak.Jw{aq w FX l q t}(h:ak aq FX w (kc q t::l)):q/\ak aq FX w (t::l):=
 ⟨(h.holds _ (sU ..)).1,h.as 0 aa t (λh=>h.2) (λ_ h=>h)⟩
def ak.kc{aq w FX l q t}(h:ak aq FX w (t::l))(a:q):ak aq FX w (Go.Proofs.YtcmhplknoglbkaaGreat.kc q t::l):=
 h.as 0 aa (Go.Proofs.YtcmhplknoglbkaaGreat.kc q t) (λh=>⟨a,h⟩) (λ_ h=>h)
def ak.Uk{aq w FX l t}(h:ak aq FX w (t::l)):ak aq FX w (l++[t]):=h.perm (vt (l₁:=[t]) (l₂:=l))
def ak.Av{aq w FX l B m d}(h:ak aq FX w (aN B m d::l)):
 d.cache=m.plain/\ak aq FX w (aj B (qi m d) 120::aj m.b' (aM a6 d.bytes []) 5::jU m.fb (d.cache.map (·.1))::ba m.A m.L.length m.c oJ 2 (mw m.L)::mf m.L::l):=by
 obtain⟨g,h1⟩:=h.Jw;have a:=h1.fx;have b:ak aq FX w (both _ _::(l++[aj B _ _])):=a.Uk;have e:ak aq FX w (both _ _::((l++[aj B _ _])++[aj _ _ 5])):=b.fx.Uk;have f:ak aq FX w (both _ _::(((l++[aj B _ _])++[aj _ _ 5])++[jU _ _])):=e.fx.Uk;refine⟨g,f.fx.perm ?_⟩;simp;refine(vt (l₁:=[ba _ _ _ _ 2 _,mf _]) (l₂:=l++[aj B _ _,aj _ _ 5,jU _ _])).trans ?_;simp;exact vt (l₁:=l) (l₂:=_)
def ak.vD{aq w FX l B m d}(f:d.cache=m.plain)(h:ak aq FX w (aj B (qi m d) 120::aj m.b' (aM a6 d.bytes []) 5::jU m.fb (d.cache.map (·.1))::ba m.A m.L.length m.c oJ 2 (mw m.L)::mf m.L::l)):
 ak aq FX w (aN B m d::l):=by
 have h1:ak aq FX w (ba m.A m.L.length m.c oJ 2 (mw m.L)::mf m.L::(l++[aj B (qi m d) 120,aj m.b' (aM a6 d.bytes []) 5,jU m.fb (d.cache.map (·.1))])):=h.perm (by grind[vt,ba,mf])
 have r:∀(a b c s),ak aq FX w (s::(l++[a,b,c]))->ak aq FX w (c::s::(l++[a,b])):=λa b c s h=>h.perm (by have e:s::(l++[a,b,c])=(s::(l++[a,b]))++[c]:=bg;rw[e];exact vt)
 have g:∀(a b s),ak aq FX w (s::(l++[a,b]))->ak aq FX w (b::s::(l++[a])):=λa b s h=>h.perm (by have e:s::(l++[a,b])=(s::(l++[a]))++[b]:=bg;rw[e];exact vt);have i:∀(a s),ak aq FX w (s::(l++[a]))->ak aq FX w (a::s::l):=λa s h=>h.perm (by grind[vt]);exact((i _ _ (g _ _ _ (r _ _ _ _ h1.star).star).star).star).kc f
structure dY (d:dR):Prop where
 mL:1<=d.size
 vA:1<=d.cnt
 len:d.bytes.length=d.cnt*d.size
 small:d.cnt*d.size<=1048576
 cache:∀x∈d.cache,x.1<d.cnt/\x.2.length=d.size
 dM:d.cache.length<=1073741824
 wr:cO d.writes
def dY.Cw{d}(h:dY d):d.cnt<=1048576/\d.size<=1048576:=by have h1:=h.small;have a:=yw d.cnt h.mL;have b:=Nat.le_mul_of_pos_left d.size h.vA;omega
def Has.dev{w B m d}(h:Has w (aN B m d)):aX w B (qi m d) 120:=h.1.2.1
abbrev de(B:Nat):Value:=ay (ab ⟨B,0,af⟩)
def RH B m d w(hb:aX w B (qi m d) 120)(b:dY d):
 aD ax 203 #[ay (ab ⟨B,0,af⟩)] w λe w'=>e=aB (J R (d.cnt:Int))/\au w w':=by
 have c:d.bytes.length/d.size=d.cnt:=by rw[b.len];exact Nat.mul_div_cancel _ b.mL
 have f:=b.Cw;go_enter func203,ntmps203;have a:=a8 w;go_step;refine ah ?_;refine hX ?_;refine bR a [] (λ_ _=>a7) (λ_ _=>emp) (λ_=>[]) (λ_=>[]) (λ_=>[]) [] (λg=>?_);refine da ?_;refine aL (ae _ _ _) (λ_ _ a=>fH aa aa (aX.aI hb a.only) aa aw) ?_;refine hW ?_;refine aL (J _ _) (λ_ _ a=>fH aa aa (aX.aI hb a.only) aa aw) ?_;refine aL _ (λ_ _ _=>s0 3 _ _ 3 aa _ _ _ aa aa b.mL c ad) ?_;refine aJ ?_;refine bW λw1 a=>?_;go_wp2_with fail;go_ret;exact⟨aa,a.only⟩
def w7 B m d w(hb:aX w B (qi m d) 120)(b:dY d):
 aD ax 51 #[ay (ab ⟨B,0,af⟩)] w λe w'=>e=aB (J R (d.size:Int))/\au w w':=by
 go_enter func51,ntmps51;have a:=a8 w;go_step;refine ah ?_;refine cB ?_;refine pk (ai ao) ?_;refine o9 ?_;refine jf hb a.only ?_;refine bX ?_;go_wp2_with fail;go_ret;exact⟨aa,a.only⟩
def L5 B m d w(hb:aX w B (qi m d) 120)(b:dY d):
 aD ax 124 #[ay (ab ⟨B,0,af⟩)] w λe w'=>e=aB (J R (d.cnt:Int))/\au w w':=by
 go_enter func124,ntmps124;have a:=a8 w;go_step;refine ah ?_;refine cB ?_;refine pk (ai ao) ?_;refine jk ?_;refine bC (RH B m d _ (aX.aI hb a.only) b) a (λw1 a=>?_);refine bX ?_;go_wp2_with fail;go_ret;exact⟨aa,a.only⟩
def ZH B m d(i:Nat)(hi:i<d.cnt)w(hb:aX w B (qi m d) 120)(b:dY d):
 aD ax 146 #[ay (ab ⟨B,0,af⟩),J R (i:Int)] w λe w'=>e=aB (ae (fK (ab ⟨m.b',0,af⟩) d.bytes.length (i*d.size) 1) d.size (d.bytes.length -i*d.size))/\au w w':=by
 have c:i*d.size+d.size=(i+1)*d.size:=aH;have hle:(i+1)*d.size<=d.bytes.length:=by rw[b.len];exact tW _ hi
 have hsm:d.bytes.length<=1048576:=by rw[b.len];exact b.small
 have f:=b.Cw;go_enter func146,ntmps146;have a:=a8 w;go_step;refine ah ?_;refine hX ?_;refine bR a [] (λ_ _=>a7) (λ_ _=>emp) (λ_=>[]) (λ_=>[]) (λ_=>[]) [] (λg=>?_);refine da ?_;refine aL (ae _ _ _) (λ_ _ a=>fH aa aa (aX.aI hb a.only) aa aw) ?_;refine hW ?_;refine aL (J _ _) (λ_ _ a=>fH aa aa (aX.aI hb a.only) aa aw) ?_;refine aL _ (λ_ _ _=>lY 3 _ _ 3 aa _ _ ((i*d.size:Nat):Int) aa aa bc ad ad) ?_;refine aJ ?_;refine aL _ (λ_ _ _=>mu 3 _ _ 3 aa _ _ ((i+1:Nat):Int) aa aa ad ad ad) ?_;refine da ?_;refine aL (J _ _) (λ_ _ a=>fH aa aa (aX.aI hb a.only) aa aw) ?_;refine aL _ (λ_ _ _=>lY 3 _ _ 3 aa _ _ (((i+1)*d.size:Nat):Int) aa aa bc ad ad) ?_;refine aL _ (λ_ _ _=>F7 22 5 1 _ _ _ aa dW aw _ _ _ _ _ _ aa aa aa c hle) ?_;refine aJ ?_;refine bW λw1 a=>?_;go_wp2_with fail;go_ret;exact⟨aa,a.only⟩
def kn(d:dR)(i:Int):Int:=if d.down=az then 18 else if i<0\/(d.cnt:Int)<=i then 2 else 0
def L4{w B m d b}(h:aX w B (qi m d) 120)(e:d.down=b):aX w B #[J R (d.size:Int),ae (ab ⟨m.b',0,af⟩) d.bytes.length d.bytes.length,J R d.writes,J aF d.keep,J R d.eE,J R d.hG,J R d.iD,J R d.hi,J R d.mo,ae m.A m.L.length m.c,dL (ab m.fb),ai b] 120:=by subst e;exact h
def RF B m d i w(hb:aX w B (qi m d) 120)(h:dY d):
 aD ax 281 #[de B,J R i] w λe w'=>e=aB (J R (kn d i))/\au w w':=by
 have f:=hid hb;clear hb;rcases cV:d.down with _|_
 .by_cases j:i<0
  .have b:kn d i=2:=by grind[kn]
   rw[b];clear b;have c:=hid cV;clear cV;go_enter O9,Pf;have a:=a8 w;go_step;refine ah ?_;refine ag ?_;refine an ?_;go_step;refine ah ?_;refine ag ?_;refine pk (ai ao) ?_;refine ag ?_;refine an ?_;go_step;refine ah ?_;refine v3 ?_;refine jf (L4 f c) a.only ?_;refine ag ?_;refine an ?_;go_step;refine ah ?_;refine ag ?_;refine a1 (ai az) ?_;refine ag ?_;iterate 6 refine ps ?_
   refine pk (ai az) ?_;refine ag ?_;refine an ?_;go_step;refine ah ?_;refine ag ?_;refine an ?_;go_wp2_with fail;go_ret;exact⟨aa,a.only⟩
  .by_cases h1:(d.cnt:Int)<=i
   .have b:kn d i=2:=by grind[kn]
    rw[b];clear b;have c:=hid cV;clear cV;go_enter O9,Pf;have a:=a8 w;go_step;refine ah ?_;refine ag ?_;refine an ?_;go_step;refine ah ?_;refine ag ?_;refine pk (ai ao) ?_;refine ag ?_;refine an ?_;go_step;refine ah ?_;refine v3 ?_;refine jf (L4 f c) a.only ?_;refine ag ?_;refine an ?_;go_step;refine ah ?_;refine ag ?_;refine a1 (ai ao) ?_;refine v5 ?_;refine aR (RH B m d _ (aX.aI f a.only) h) ?_;rintro e w1 ⟨rfl,g⟩;replace a:=a.aI g;refine aU ?_;refine a1 (ai az) ?_;refine pk (ai az) ?_;refine ag ?_;refine an ?_;go_step;refine ah ?_;refine ag ?_;refine an ?_;go_wp2_with fail;go_ret;exact⟨aa,a.only⟩
   .have b:kn d i=0:=by grind[kn]
    rw[b];clear b;have c:=hid cV;clear cV;go_enter O9,Pf;have a:=a8 w;go_step;refine ah ?_;refine ag ?_;refine an ?_;go_step;refine ah ?_;refine ag ?_;refine pk (ai ao) ?_;refine ag ?_;refine an ?_;go_step;refine ah ?_;refine v3 ?_;refine jf (L4 f c) a.only ?_;refine ag ?_;refine an ?_;go_step;refine ah ?_;refine ag ?_;refine a1 (ai ao) ?_;refine v5 ?_;refine aR (RH B m d _ (aX.aI f a.only) h) ?_;rintro e k ⟨rfl,g⟩;replace a:=a.aI g;refine aU ?_;refine a1 (ai ao) ?_;refine pk (ai ao) ?_;refine ag ?_;refine an ?_;go_step;refine ah ?_;refine ag ?_;refine an ?_;go_wp2_with fail;go_ret;exact⟨aa,a.only⟩
 .have b:kn d i=18:=by grind[kn]
  rw[b];clear b;have c:=hid cV;clear cV;go_enter O9,Pf;have a:=a8 w;go_step;refine ah ?_;refine ag ?_;refine an ?_;go_step;refine ah ?_;refine ag ?_;refine pk (ai ao) ?_;refine ag ?_;refine an ?_;go_step;refine ah ?_;refine v3 ?_;refine jf (L4 f c) a.only ?_;refine ag ?_;refine an ?_;go_step;refine ah ?_;refine ag ?_;refine an ?_;go_wp2_with fail;go_ret;exact⟨aa,a.only⟩
section
open Go.RowKit Go.MapKept Go.WideMaps
def adq:sH ax 3 EJ cO:=
 ⟨Maps.int_keyed jD,λh=>⟨_,Maps.keyOf_int_mk jD (WalkArith.wf_i64 h)⟩,λh=>by grind[EJ]⟩
def LM{w}{B t:Nat}{bs}(h:aX w B (aM a6 bs []) t):b2 w (ab ⟨B,0,af⟩) bs:=λ_=>⟨B,0,rfl,λj a=>by rw[iY];exact h.cell j (LA a)⟩
def Has.ZD{w B m d}(h:Has w (aN B m d)):aX w m.b' (aM a6 d.bytes []) 5:=h.1.2.2.1.1
def Has.last{w B m d}(h:Has w (aN B m d)):(jU m.fb (d.cache.map (·.1))).p w:=h.1.2.2.1.2.1.1
def Has.row{w B m d}(h:Has w (aN B m d)):Row 0 w m.A m.L.length m.c oJ 2 (mw m.L):=h.1.2.2.1.2.1.2.1.1
def Has.auT{w B m d}(h:Has w (aN B m d)):∀x∈m.L,fe 0 w x.A x.c x.bs:=h.1.2.2.1.2.1.2.1.2.1
def Has.plain{w B m d}(h:Has w (aN B m d)):d.cache=m.plain:=h.1.1
section
variable {o:cS} {a:b3} {w:aQ}
def U5:∀w:aQ,(zeroValue 3).run ax w=bf (J R 0) w:=λw=>Uo aw w
def aes{m x}{b i:Nat}{l}(ho:o.op=.lookup 118 m x az)(g:a.eval m=dL (ab b))(hx:a.eval x=J R (i:Int))(h:(jU b l).p w)(hi:i<=1073741824):
 (bA a.eval o).run ax w=bf (dc (bn #[((tg l i).map (λk=>J R (k:Int))).getD (J R 0),ai (tg l i).isSome])) w:=by
 obtain⟨j,f,_,d⟩:=h;have c:=(f.lookup adq u' U5 (x:=(i:Int)) ⟨ad,ad⟩).2;rw[d i]at c;unfold bA;simp only[ho,g,hx];have e:(EJ (i:Int))=J R (i:Int):=rfl;rw[e]at c;simp only[gx,c,jE,kh];cases tg l i<;>rfl
end
def aoH B m d w(h:Has w (aN B m d))(f:dY d):
 aD ax 15 #[de B] w λe w'=>∃b c,e=aB (ae b d.bytes.length c)/\cf w w' (cx b c d.bytes):=by
 have hb:=h.dev;have j:aE (∀W,au w W->b2 W (ab ⟨m.b',0,af⟩) d.bytes):=hid (λW g=>(LM h.ZD).aI g);have hsm:d.bytes.length<=1048576:=by rw[f.len];exact f.small
 go_enter func15,ntmps15;have a:=a8 w;go_step;refine ah ?_;refine ag ?_;refine an ?_;go_step;refine ah ?_;refine ag ?_;refine aG (ai ao) (by(show _=_;kernel_rfl)) ?_;refine an ?_;go_step;refine ah ?_;iterate 4 refine ag ?_
 refine aG (ae (ab ⟨m.b',0,af⟩) d.bytes.length d.bytes.length) (fH aa aa (aX.aI hb a.only) aa aw) ?_;refine aR (w6 (ab ⟨m.b',0,af⟩) d.bytes.length d.bytes _ (j _ a.only) ad) ?_;rintro e w1 ⟨i,k,rfl,hrow,g⟩;replace a:=a.lR g (Row.nk hrow);refine aU ?_;refine ag ?_;refine an ?_;go_wp2_with fail;go_ret;exact⟨i,k,aa,a.fresh 0⟩
def RL B m d w(b:Has w (aN B m d)):
 aD ax 21 #[de B] w λe w'=>e=aB (ar #[J R d.eE,J R d.hG,J R d.iD,J R d.hi,J R d.mo])/\au w w':=by
 have hb:=b.dev;go_enter func21,ntmps21;have a:=a8 w;go_step;refine ah ?_;refine bl a #[J R 0,J R 0,J R 0,J R 0,J R 0] (λc w1 a=>?_);refine b5 ?_;refine pk (ai ao) ?_;refine jk ?_;refine aG (ar #[J R d.eE,J R d.hG,J R d.iD,J R d.hi,J R d.mo]) (mH (cs':=#[J R d.eE,J R d.hG,J R d.iD,J R d.hi,J R d.mo]) aa aa (aX.aI hb a.only) aw (of_decide_eq_true aw) aw aw) ?_;refine a' a 0 (ar #[J R d.eE,J R d.hG,J R d.iD,J R d.hi,J R d.mo]) (λf a=>?_);refine an ?_;go_wp2_with fail;refine c' (v:=_) (gG aa _ _ _ _ _ _ _ aa (a.aW 0) underlying68 aa aw) aa (⟨aa,a.only⟩)
def nj(d:dR)(i:Nat):List Int:=match tg (d.cache.map (·.1)) i with|some k=>((d.cache[k]?).map (·.2)).getD []|none=>(d.bytes.drop (i*d.size)).take d.size
theorem Jb{d}(h:dY d){i}(hi:i<d.cnt):(nj d i).length=d.size:=by
 unfold nj;cases hq:tg (d.cache.map (·.1)) i with
 |some k=>
  have h1:=adv hq;rw[j4]at h1;cases hk:d.cache[k]? with
  |none=>grind
  |some x=>simpa [hk]using(h.cache x (cX hk)).2
 |none=>
  have h1:(i+1)*d.size<=d.cnt*d.size:=tW _ hi;rw[Nat.add_mul,Nat.one_mul]at h1;have:=h.len;simp;omega
def ZB{w B m d A}(h:aX w B (qi m d) 120)(e:m.A=A):aX w B #[J R (d.size:Int),ae (ab ⟨m.b',0,af⟩) d.bytes.length d.bytes.length,J R d.writes,J aF d.keep,J R d.eE,J R d.hG,J R d.iD,J R d.hi,J R d.mo,ae A m.L.length m.c,dL (ab m.fb),ai d.down] 120:=by subst e;exact h
def RG{d i}(h:kn d i=0):∃n:Nat,i=n/\n<d.cnt:=by
 unfold kn at h;split at h;·omega
 .split at h;·omega
  .exact⟨i.toNat,ad,ad⟩
def ZF B m d i w(f:Has w (aN B m d))(j:dY d):
 aD ax 209 #[de B,J R i] w λe w'=>(kn d i≠0/\e=aB (bn #[ae af 0 0,J R (kn d i)])/\au w w')\/(kn d i=0/\∃n:Nat,i=n/\n<d.cnt/\∃r u,e=aB (bn #[ae r d.size u,J R 0])/\cf w w' (cx r u (nj d n))):=by
 have hb:=f.dev;have E:=hid hb;clear hb;have z:aE (∀W,au w W->aD ax 281 #[de B,J R i] W λe w'=>e=aB (J R (kn d i))/\au W w'):=hid (λW g=>RF B m d i W (f.aI g).dev j);obtain⟨bt,o⟩:=ex (kn d i);rw[o]at z;by_cases I:bt=0
 .subst I;obtain⟨n,rfl,hn⟩:=RG o;have s:=hid o;clear o;have gj:=j.Cw;have hsm:d.bytes.length<=1048576:=by rw[j.len];exact j.small
  have H:aE (∀W,au w W->(jU m.fb (d.cache.map (·.1))).p W):=hid (λW g=>(jU _ _).only f.last (λb hb=>by have X:b=m.fb:=hb;rw[X];obtain⟨bp,Z,_⟩:=f.last;exact Z.lt) g (λ_ _ h=>h));rcases hq:tg (d.cache.map (·.1)) n with _|k
  .have hr:nj d n=(d.bytes.drop (n*d.size)).take d.size:=by rw[nj,hq]
   have C:=hid hr;clear hr;have F:=hid hq;clear hq;have hle:n*d.size+d.size<=d.bytes.length:=by have h1:=tW d.size hn;rw[Ae]at h1;rw[j.len];exact h1
   have T:aE (∀W,au w W->b2 W (fK (ab ⟨m.b',0,af⟩) d.bytes.length (n*d.size) 1) (nj d n)):=hid (λW g=>by have h:=b2.win ((LM f.ZD).aI g) (b9 _) (i:=n*d.size) (q:=n*d.size+d.size) hle;rw[tV]at h;rw[C];exact h);have t:=hid (Jb j hn);go_enter VK,Wd;have a:=a8 w;go_step;refine ah ?_;refine v2 ?_;refine gV ?_;refine bC (z.out _ a.only) a (λw1 a=>?_);refine cB ?_;refine pk (ai ao) ?_;refine jk ?_;refine jf E.out a.only ?_;refine ag ?_;refine aG (bn #[J R 0,ai ao]) (by(refine(aes (x:=bj 20) (m:=bj 19) aa aa aa (H _ a.only) (i:=n) ad).trans ?_;rw[F];rfl)) ?_;refine v5 ?_;refine ah ?_;refine By ?_;refine bC (ZH B m d n hn _ (f.aI a.only).dev j) a (λaT a=>?_);refine aR ((by have q:=w6 (fK (ab ⟨m.b',0,af⟩) d.bytes.length (n*d.size) 1) (d.bytes.length -n*d.size) (nj d n) _ (T.out _ a.only) (by rw[t];omega);rw[t.out]at q;exact q)) ?_;rintro e bF ⟨P,V,rfl,hrow,g⟩;replace a:=a.lR g (Row.nk (by rw[t.out];exact hrow));refine aU ?_;refine dU ?_;go_wp2_with fail;go_ret2;exact cm ⟨s,n,aa,hn,P,V,aa,a.fresh 0⟩
  .have v:=adv hq;rw[j4]at v;obtain⟨y,l⟩:∃y,m.L[k]?=ab y:=by rw[f.plain,nT.plain,j4]at v;cases l:m.L[k]? with|none=>(rw[l]at v;cases v)|some y=>exact⟨y,aa⟩
   have hr:nj d n=y.bs:=by unfold nj;rw[hq,f.plain];simp[nT.plain,l]
   have C:=hid hr;clear hr;have F:=hid hq;have oD:=hid l;have Y:k<m.L.length:=(eJ.1 l).1;have N:=f.auT y (cX l);have hlen:y.bs.length=d.size:=by rw[<-C];exact Jb j hn
   have fN:m.L.length<=1073741824:=by have h:=j.dM;rw[f.plain,nT.plain,hB]at h;exact h
   obtain⟨D,K,hc1⟩:=f.row.cell (Ro l).2;have Q:aE (∀W,au w W->W.cell? ⟨D,k*2+1,af⟩=ab (ae y.A d.size y.c)):=hid (λW g=>by rw[<-hlen];exact g.cell hc1 (λh=>h));have S:aE (∀W,au w W->aD ax 65 #[ae y.A d.size y.c] W λe w'=>∃r u,e=aB (ae r d.size u)/\w'.ownsRow W.heap.size 5 1 (ae r d.size u) d.size ((nj d n).map a6)/\au W w'):=hid (λW g=>by have q:=w6 y.A y.c y.bs W (N.1.aI g) ad;rw[hlen]at q;rw[C];exact q);have t:=hid (Jb j hn);have G:=hid K;clear hq l v N hc1 hlen K;go_enter VK,Wd;have a:=a8 w;go_step;refine ah ?_;refine v2 ?_;refine gV ?_;refine bC (z.out _ a.only) a (λb8 a=>?_);refine cB ?_;refine pk (ai ao) ?_;refine jk ?_;refine jf (ZB E.out G.out) a.only ?_;refine ag ?_;refine aG (bn #[J R (k:Int),ai az]) (by(refine(aes (x:=bj 20) (m:=bj 19) aa aa aa (H _ a.only) (i:=n) ad).trans ?_;rw[F];rfl)) ?_;refine v5 ?_;refine ah ?_;refine J7 ?_;refine jf (ZB E.out G.out) a.only ?_;refine ag ?_;refine aG (ay (ab ⟨D,(k*2),af⟩)) (b4 117 258 2 (bj 28) (bj 29) aa Tryz.underlying117 aw D 0 (m.L.length) (m.c) k ((k*2)) aa aa Y ad) ?_;refine aG (ay (ab ⟨D,(k*2+1),af⟩)) (by(go_simp;try simp[Addr.add])) ?_;refine aG (ae y.A d.size y.c) (by(have h:=Q _ a.only;go_simp)) ?_;refine aR (S _ a.only) ?_;rintro e cA ⟨O,U,rfl,hrow,g⟩;replace a:=a.lR g (Row.nk (by rw[t.out];exact hrow));refine aU ?_;refine dU ?_;go_wp2_with fail;go_ret2;exact cm ⟨s,n,aa,hn,O,U,aa,a.fresh 0⟩
 .have M:¬bt=0:=I;have s:=hid o;clear o;go_enter VK,Wd;have a:=a8 w;go_step;refine ah ?_;refine v2 ?_;refine gV ?_;refine bC (z.out _ a.only) a (λcR a=>?_);refine cB ?_;refine aG (ai az) (by(go_simp;try simp[M])) ?_;refine ah ?_;refine v3 ?_;refine an ?_;go_wp2_with fail;go_ret2;exact b1 ⟨by rw[s];exact M,by rw[s];rfl,a.only⟩
end
section
open Go.RowKit Go.MapKept Go.WideMaps
open Go.ChangeMaps (setBlock heap_setBlock_same heap_setBlock_other)
def Ba(size:Nat)(bs:List Int)(i:Nat)(b:List Int):List Int:=bs.take (i*size)++b++bs.drop (i*size+b.length)
def avg{size i bs b}(hb:b.length=size)(h:(i+1)*size<=bs.length):(Ba size bs i b).length=bs.length:=by grind[Ba]
def rC(d:dR)(a:Nat->Bool):Nat->List Int
 |0=>d.bytes
 |q+1=>match d.cache[q]? with
  |some x=>if a q=az then Ba d.size (rC d a q) x.1 x.2 else rC d a q
  |none=>rC d a q
def tm(d:dR)(a:Nat->Bool):dR:={d with bytes:=rC d a d.cache.length,cache:=[]}
theorem NK{d}(b:dY d)c:∀q,(rC d c q).length=d.bytes.length
 |0=>aa
 |q+1=>by
  have a:=NK b c q;unfold rC;split
  .rename_i x hx;split;·have h:=b.cache x (cX hx);rw[avg h.2 (by rw[a,b.len];exact tW _ h.1),a]
   .exact a
  .exact a
def T6{d}(a:dY d)b:dY (tm d b):=
 ⟨a.mL,a.vA,(NK a b _).trans a.len,a.small,λx hx=>absurd hx fQ,cC _,a.wr⟩
theorem agW{B c i}(h:i<c):fK (ab ⟨B,0,af⟩) c i 1=ab ⟨B,i,af⟩:=by grind[fK,mW]
def Row.range{w}{N g n c e sz k:Nat}{A xs cs}(h:Row N w A n c e sz xs)(a:A=ab ⟨g,0,af⟩)(hk:∀j v,cs[j]?=ab v->xs[k+j]?=ab v):w.rangeAt g k cs:=λj v hv=>by obtain⟨g2,e,hc⟩:=h.cell (hk j v hv);rw[a]at e;cases e;exact hc
theorem ame{bs b size i}:((aM a6 bs []).toList.take (i*size)++b.map a6++(aM a6 bs []).toList.drop (i*size+b.length)).toArray=aM a6 (Ba size bs i b) []:=by simp[aM,Ba]
section
variable {P:ew} {o:cS} {a:b3} {w:aQ}
def awv {d g} {b f c B off n cap c2 t:Nat} {aK old new cs} (ho:o.op=nU {callee:=pb .copy,args:=#[d,g],argTypes:=#[b,f]}) (i:a.eval d=ae (ab ⟨B,off,af⟩) n cap) (k:a.eval g=ae aK n c2) (e:aX w B old t) (hr:Cells w 1 aK n cs) (hn:0<n)
 (na:off+n<=old.size) (h1:∀v∈cs,v.oneCell'=az) (k3:(old.toList.take off++cs++old.toList.drop (off+cs.length)).toArray=new) (hu:P.underlying b=ab (iJ c)) (hs:(P.info? c).map (·.size)=ab 1):
 ∃w',(bA a.eval o).run P w=bf (dc (J R (n:Int))) w'/\Turned w w' (aj B old t) (aj B new t):=by
 obtain⟨h,rfl,j⟩:=hr.2 hn;have hcs:cs.length=n:=by simpa using hr.1
 have hr:=KQ (P:=P) w b f o.type c B off n cap h n c2 old t cs hu hs e aH j ad h1;refine⟨w.setRow B (old.toList.take off++cs++old.toList.drop (off+n)).toArray,?_,vz (av.setRow w B _) ?_⟩;·unfold bA;simp only[ho,nX,nW,qV,gx,kh,jE,oI,j5,ln,i,k,hr,hcs];rfl
 .rw[<-k3,hcs];exact e.setRow _
def awu{x}{t k e b:Nat}{l}(ho:o.op=nU {callee:=pb .clear,args:=#[x],argTypes:=#[t]})(hx:a.eval x=dL (ab b))(d:P.underlying t=ab (.map k e))(h:(jU b l).p w):
 ∃w',(bA a.eval o).run P w=bf (dc (bn #[])) w'/\Turned w w' (jU b l) (jU b []):=by
 obtain⟨g,⟨es,c,hb,_⟩,_⟩:=h
 refine⟨la w b _,?_,⟨aa,aa,aa,by simp[la],λi _ hi=>heap_setBlock_other hb _ (λe=>hi (by rw[e];rfl))⟩,⟨[],⟨_,_,heap_setBlock_same hb _,stamped_empty c,bg,bg,bg⟩,b9 _,λi=>rfl⟩,λi hi=>⟨by have f:i=b:=hi;grind[la],b1 hi⟩⟩;unfold bA;simp[ho,nX,nW,qV,hx,Builtin.clear_,gN d,MapKept.run_getObj_map hb,MapKept.run_setObj_map _ hb,Result.andThen,la]
end
def RI B m d (g:Nat) lb f w (p:Has w (aN B m d)) (k:dY d) (F:∀args w,(callFunc g args).run ax w=bf (.enter g args) w)
 (hk:∀q W,q<m.L.length->av (aN B m d).cT w W->aX W B (qi m d) 120->aD ax g (#[J R (q:Int)]++lb) W λe w'=>e=aB (ai (f q))/\au W w'):
 aD ax 63 #[de B,dI (ed g) #[] lb] w λe w'=>e=aB (bn #[])/\∃T,Turned w w' (aN B m d) (aN B T (tm d f)):=by
 obtain⟨b',fb,A,c,L⟩:=m;have X:L.length<=1073741824:=by have h:=k.dM;rw[p.plain,nT.plain,hB]at h;exact h
 have hpl:d.cache=L.map (λx=>(x.sec,x.bs)):=p.plain;have C:=hid hpl;have y:aE (∀q W,q<L.length->av (aN B ⟨b',fb,A,c,L⟩ d).cT w W->aX W B #[J R (d.size:Int),ae (ab ⟨b',0,af⟩) d.bytes.length d.bytes.length,J R d.writes,J aF d.keep,J R d.eE,J R d.hG,J R d.iD,J R d.hi,J R d.mo,ae A L.length c,dL (ab fb),ai d.down] 120->aD ax g (#[J R (q:Int)]++lb) W λe w'=>e=aB (ai (f q))/\au W w'):=hid hk;have t:=hid F;clear hk F hpl;go_enter func63,ntmps63;have a:ak w (aN B ⟨b',fb,A,c,L⟩ d).cT w [aj B #[J R (d.size:Int),ae (ab ⟨b',0,af⟩) d.bytes.length d.bytes.length,J R d.writes,J aF d.keep,J R d.eE,J R d.hG,J R d.iD,J R d.hi,J R d.mo,ae A L.length c,dL (ab fb),ai d.down] 120,aj b' (aM a6 (d.bytes) []) 5,jU fb (d.cache.map (·.1)),ba A L.length c 258 2 (mw L),mf L]:=(ak.Av (ak.start p)).2;go_upto_region 0 with fail;refine cw ?_;refine v3 ?_;refine pl a 0 9 ?_;refine dU ?_;go_wp2_with fail;go_loopw [11] (λr wr=>∃q:Nat,q<=L.length/\r=J R q/\ak w (aN B ⟨b',fb,A,c,L⟩ d).cT wr [aj B #[J R (d.size:Int),ae (ab ⟨b',0,af⟩) d.bytes.length d.bytes.length,J R d.writes,J aF d.keep,J R d.eE,J R d.hG,J R d.iD,J R d.hi,J R d.mo,ae A L.length c,dL (ab fb),ai d.down] 120,aj b' (aM a6 (rC d f q) []) 5,jU fb (d.cache.map (·.1)),ba A L.length c 258 2 (mw L),mf L]) (λr wr=>L.length -(bQ r).toNat);case atStart=>exact⟨0,ad,aa,a⟩
 case round=>
  clear a;obtain⟨q,Z,rfl,a⟩:=hrel;by_cases hlt:q<L.length
  .have P:(q:Int)<(L.length:Int):=ad;obtain⟨x,hx⟩:∃x,L[q]?=ab x:=⟨_,cE hlt⟩;obtain⟨O,G,_⟩:=(a.atR 3).cell (Ro hx).1;have H:d.cache[q]?=ab (x.sec,x.bs):=by rw[C,j4,hx];rfl
   have Q:=k.cache _ (cX H);obtain⟨o,n⟩:=Q;have o:x.sec<d.cnt:=o;have n:x.bs.length=d.size:=n;have S:=cX hx;have z:aE (rC d f (q+1)=if f q=az then Ba d.size (rC d f q) x.sec x.bs else rC d f q):=hid (by grind[rC]);have D:=hid (Ro hx);have E:=hid n;have s:=hid G;have Y:x.sec*d.size+d.size<=d.bytes.length:=by have h1:=tW d.size o;rw[Ae]at h1;rw[k.len];exact h1
   have hs1:=k.mL;have N:aE (∀W,aX W B #[J R (d.size:Int),ae (ab ⟨b',0,af⟩) d.bytes.length d.bytes.length,J R d.writes,J aF d.keep,J R d.eE,J R d.hG,J R d.iD,J R d.hi,J R d.mo,ae A L.length c,dL (ab fb),ai d.down] 120->aD ax 146 #[de B,J R (x.sec:Int)] W λe w'=>e=aB (ae (ab ⟨b',x.sec*d.size,af⟩) d.size (d.bytes.length -x.sec*d.size))/\au W w'):=hid (λW h=>by have q:=ZH B ⟨b',fb,A,c,L⟩ d x.sec o W h k;grind[agW]);clear H hx n G;go_upto_region 2 with fail;refine cw ?_;refine ag ?_;refine aG _ (b4 _ 258 2 _ _ aa Tryz.underlying117 aw _ _ _ c q ((q*2)) (by show ae A _ _=_;rw[s]) aa hlt ad) ?_;refine aG (ar #[J R (x.sec:Int),ae x.A d.size x.c]) (by(refine eW 258 (bj 14) aa O (q*2) aa [J R (x.sec:Int),ae x.A d.size x.c] (Row.range (a.atR 3) s (λj v I=>?_)) underlying258 aa aw;obtain rfl|rfl|V:j=0\/j=1\/2<=j:=ad;(cases I;exact D.1);(cases I;rw[<-E];exact D.2);grind)) ?_;refine bl a #[J R 0,ae af 0 0] (λU w1 a=>?_);refine ag ?_;refine a' a 0 (ar #[J R (x.sec:Int),ae x.A d.size x.c]) (λaT a=>?_);refine an ?_;rcases AP:f q with _|_
   .have l:=hid AP;clear AP;refine gV ?_;refine bC ((by have h:=y.out q _ hlt a.only (a.aW 1);rw[l.out]at h;exact h)) a (λbF a=>?_) (hr:=by(go_simp;exact t _ _));refine ah ?_;refine pad (q:Int) 1 ((q+1:Nat):Int) ?_;refine bX ?_;go_wp2_with fail;go_roundw;case rel=>exact⟨q+1,ad,aa,by rw[z,l];exact a.pick [1,2,3,4,5]⟩
    case measure=>grind[bQ]
   .have l:=hid AP;clear AP;refine gV ?_;refine bC ((by have h:=y.out q _ hlt a.only (a.aW 1);rw[l.out]at h;exact h)) a (λb8 a=>?_) (hr:=by(go_simp;exact t _ _));refine cy ?_;refine bR a [5,8] (λi _=>match i with|5=>ae (ab ⟨b',x.sec*d.size,af⟩) d.size (d.bytes.length -x.sec*d.size)|8=>J R (d.size:Int)|_=>a7) (λ_=>λ|8=>aj b' (aM a6 (Ba d.size (rC d f q) x.sec x.bs) []) 5|_=>emp) (λ|8=>[2]|_=>[]) (λ|4=>[0]|5=>[1]|7=>[0]|8=>[5]|_=>[]) (λ_=>[]) [0,1,3,4,5,11,14] (λus=>?_);refine hW ?_;refine dl 0 0 ?_;refine dK (λ_ _ a=>N _ (a.aW 0)) ?_;refine aJ ?_;refine dl 0 1 ?_;refine HD (J R (d.size:Int)) (λ_ _ a=>awv aa aa aa (a.aW 0) (by have h:=((a.at 1:∀x∈L,fe 0 _ x.A x.c x.bs) x S).1.cells;rw[E.out]at h;exact h) k.mL (by grind[i',NK]) (xB _) (show _=aM a6 (Ba d.size (rC d f q) x.sec x.bs) []from by grind[ame]) dW aw) ?_;refine bW λcA a=>?_;replace a:=a.drop 5;refine ah ?_;refine pad (q:Int) 1 ((q+1:Nat):Int) ?_;refine bX ?_;go_wp2_with fail;go_roundw;case rel=>exact⟨q+1,ad,aa,by rw[z,l];exact a.pick [1,5,2,3,4]⟩
    case measure=>grind[bQ]
  .have P:¬(q:Int)<(L.length:Int):=ad;obtain rfl:q=L.length:=ad;go_upto_region 6 with fail;refine cw ?_;refine v3 ?_;refine a' a 0 (ae af 0 0) (λcR a=>?_);refine jk ?_;refine pl a 0 10 ?_;refine Dr a 2 (awu aa aa u' (a.at 2)) (λdz a=>?_);refine an ?_;replace a:=(((a.drop 4).drop 3).new (mf []) ⟨av.refl _ _,λx hx=>absurd hx fQ,λb ⟨x,hx,_⟩=>absurd hx fQ⟩).new (ba af 0 0 oJ 2 []) ⟨av.refl _ _,Row.nil _ _ _ _,λb ⟨_,_,e⟩=>aH⟩;have M:=hid (show tm d f={d with bytes:=rC d f L.length,cache:=[]}from by rw[tm,C,hB]);have u:=a.pk [2,3,4,0,1];have hbl:=NK k f L.length;rw[<-hbl]at u;have K:=ak.vD (B:=B) (m:=⟨b',fb,af,0,[]⟩) (d:={d with bytes:=rC d f L.length,cache:=[]}) aa u;go_wp2_with fail;first|go_end0|refine bodyPost_ret (results_none rfl _ _ _) rfl ?_
   exact⟨aa,_,by rw[M.out];exact K.gl 0⟩
end
open Go.RowKit Go.MapKept Go.WideMaps
open Go.ChangeMaps (setBlock heap_setBlock_same heap_setBlock_other)
def asO q w:
 aD ax 327 #[J R q] w λe w'=>e=aB (ai az)/\au w w':=by
 go_enter Tryz.func327,ntmps327;have a:=a8 w;go_step;refine ah ?_;refine ag ?_;refine ah ?_;refine ag ?_;refine an ?_;go_wp2_with fail;go_ret;exact⟨aa,a.only⟩
def asQ q w:
 aD ax 64 #[J R q] w λe w'=>e=aB (ai ao)/\au w w':=by
 go_enter Tryz.func64,ntmps64;have a:=a8 w;go_step;refine ah ?_;refine ag ?_;refine ah ?_;refine ag ?_;refine an ?_;go_wp2_with fail;go_ret;exact⟨aa,a.only⟩
def mz(d:dR):Int×dR:=if kn d 0≠0 then(kn d 0,d)else(0,{tm d (λ_=>az)with hG:=R.wrap ((tm d (λ_=>az)).hG+1)})
def ZC B m d w(p:Has w (aN B m d))(o:dY d):
 aD ax 292 #[de B] w λe w'=>e=aB (J R (mz d).1)/\∃k,Turned w w' (aN B m d) (aN B k (mz d).2):=by
 obtain⟨bt,i⟩:=ex (kn d 0);have l:aE (∀W,aX W B (qi m d) 120->aD ax 281 #[de B,J R 0] W λe w'=>e=aB (J R bt)/\au W w'):=hid (λW h=>by have q:=RF B m d 0 W h o;rw[i]at q;exact q);by_cases n:bt=0;·subst n;have g:aE (mz d=(0,{tm d (λ_=>az)with hG:=R.wrap ((tm d (λ_=>az)).hG+1)})):=hid (by grind[mz]);clear i;go_enter Tryz.func292,Tryz.ntmps292;have f:=ak.start p;go_step;refine ah ?_;refine cB ?_;refine bC (l.out _ (f.has 0).dev) f (λw1 f=>?_);refine cB ?_;refine pk (ai ao) ?_;refine an ?_;obtain⟨a,j⟩:=ex (tm d (λ_=>az));rw[j]at g;have r:aE (∀W,Has W (aN B m d)->aD ax 63 #[de B,dI (ed 327) #[] #[]] W λe w'=>e=aB (bn #[])/\∃k,Turned W w' (aN B m d) (aN B k a)):=hid (λW h=>by have q:=RI B m d _ #[] (λ_=>az) W h o (enters_of Tryz.func327 aw aa) (λq W _ _ _=>asO q W);rw[j]at q;exact q);clear j;refine b5 ?_;refine aR (r.out _ (f.has 0)) ?_;rintro e u ⟨rfl,b,s⟩;replace f:=f.eP 0 s;refine xT ?_;replace f:=f.Av;obtain⟨hpl,f⟩:=f;replace f:ak _ _ _ [aj B #[J R (a.size:Int),ae (ab ⟨b.b',0,af⟩) a.bytes.length a.bytes.length,J R a.writes,J aF a.keep,J R a.eE,J R a.hG,J R a.iD,J R a.hi,J R a.mo,ae b.A b.L.length b.c,dL (ab b.fb),ai a.down] 120,aj b.b' (aM a6 a.bytes []) 5,jU b.fb (a.cache.map (·.1)),ba b.A b.L.length b.c oJ 2 (mw b.L),mf b.L]:=f;refine o9 ?_;refine pl f 0 5 ?_;refine pk (J R (R.wrap (a.hG+1))) ?_;refine v3 ?_;refine a' f 0 (J R (R.wrap (a.hG+1))) (λv f=>?_);refine ah ?_;refine ag ?_;refine an ?_;replace f:ak _ _ _ (aN B b ({a with hG:=R.wrap (a.hG+1)})::[]):=ak.vD hpl (f.pick (l':=[aj B #[J R (a.size:Int),ae (ab ⟨b.b',0,af⟩) a.bytes.length a.bytes.length,J R a.writes,J aF a.keep,J R a.eE,J R (R.wrap (a.hG+1)),J R a.iD,J R a.hi,J R a.mo,ae b.A b.L.length b.c,dL (ab b.fb),ai a.down] 120,aj b.b' (aM a6 a.bytes []) 5,jU b.fb (a.cache.map (·.1)),ba b.A b.L.length b.c oJ 2 (mw b.L),mf b.L]) [0,1,2,3,4]);go_wp2_with fail;go_ret;exact⟨by rw[g];rfl,b,by rw[g];exact f.gl 0⟩
 .have t:¬bt=0:=n;have g:aE (mz d=(bt,d)):=hid (by grind[mz]);clear i;go_enter Tryz.func292,Tryz.ntmps292;have f:=ak.start p;go_step;refine ah ?_;refine cB ?_;refine bC (l.out _ (f.has 0).dev) f (λx f=>?_);refine cB ?_;refine aG (ai az) (by(go_simp;try simp[t])) ?_;refine ah ?_;refine dU ?_;go_wp2_with fail;go_ret;exact⟨by rw[g];rfl,m,by rw[g];exact f.gl 0⟩
def sZ(d:dR)(n a:Int):dR:={d with writes:=max n (-1),keep:=a}
def aoF B m d(n b)w(f:Has w (aN B m d)):
 aD ax 11 #[de B,J R n,J aF b] w λe w'=>e=aB (bn #[])/\Turned w w' (aN B m d) (aN B m (sZ d n b)):=by
 go_enter func11,ntmps11;have a:=ak.start f;go_step;refine ah ?_;refine ag ?_;refine pk (ai az) ?_;refine an ?_;replace a:=a.Av;obtain⟨hpl,a⟩:=a;replace a:ak _ _ _ [aj B #[J R (d.size:Int),ae (ab ⟨m.b',0,af⟩) d.bytes.length d.bytes.length,J R d.writes,J aF d.keep,J R d.eE,J R d.hG,J R d.iD,J R d.hi,J R d.mo,ae m.A m.L.length m.c,dL (ab m.fb),ai d.down] 120,aj m.b' (aM a6 d.bytes []) 5,jU m.fb (d.cache.map (·.1)),ba m.A m.L.length m.c oJ 2 (mw m.L),mf m.L]:=a;refine gV ?_;refine aG (J R (max n (-1))) (by(go_simp;try with_reducible rfl)) ?_;refine v4 ?_;refine a' a 0 (ar #[J R (max n (-1)),J aF b]) (λw1 a=>?_);refine an ?_;replace a:ak _ _ _ (aN B m (sZ d n b)::[]):=ak.vD hpl (a.pick (l':=[aj B #[J R (d.size:Int),ae (ab ⟨m.b',0,af⟩) d.bytes.length d.bytes.length,J R (max n (-1)),J aF b,J R d.eE,J R d.hG,J R d.iD,J R d.hi,J R d.mo,ae m.A m.L.length m.c,dL (ab m.fb),ai d.down] 120,aj m.b' (aM a6 d.bytes []) 5,jU m.fb (d.cache.map (·.1)),ba m.A m.L.length m.c oJ 2 (mw m.L),mf m.L]) [0,1,2,3,4]);go_wp2_with fail;first|go_end0|refine bodyPost_ret (results_none rfl _ _ _) rfl ?_
 exact⟨aa,a.gl 0⟩
def uW(d:dR):dR:={tm d (λ_=>ao)with down:=ao,writes:=-1}
def aoV B m d w(o:Has w (aN B m d))(n:dY d):
 aD ax 14 #[de B] w λe w'=>e=aB (bn #[])/\∃g,Turned w w' (aN B m d) (aN B g (uW d)):=by
 obtain⟨a,i⟩:=ex (tm d (λ_=>ao));have j:aE (uW d={a with down:=ao,writes:=-1}):=hid (by grind[uW]);have k:aE (∀W,Has W (aN B m d)->aD ax 63 #[de B,dI (ed 64) #[] #[]] W λe w'=>e=aB (bn #[])/\∃g,Turned W w' (aN B m d) (aN B g a)):=hid (λW h=>by have q:=RI B m d _ #[] (λ_=>ao) W h n (enters_of Tryz.func64 aw aa) (λq W _ _ _=>asQ q W);rw[i]at q;exact q);clear i;go_enter func14,ntmps14;have f:=ak.start o;go_step;refine ah ?_;refine ag ?_;refine pk (ai az) ?_;refine b5 ?_;refine aR (k.out _ (f.has 0)) ?_;rintro e w1 ⟨rfl,b,l⟩;replace f:=f.eP 0 l;refine xT ?_;replace f:=f.Av;obtain⟨hpl,f⟩:=f;replace f:ak _ _ _ [aj B #[J R (a.size:Int),ae (ab ⟨b.b',0,af⟩) a.bytes.length a.bytes.length,J R a.writes,J aF a.keep,J R a.eE,J R a.hG,J R a.iD,J R a.hi,J R a.mo,ae b.A b.L.length b.c,dL (ab b.fb),ai a.down] 120,aj b.b' (aM a6 a.bytes []) 5,jU b.fb (a.cache.map (·.1)),ba b.A b.L.length b.c oJ 2 (mw b.L),mf b.L]:=f;refine jk ?_;refine a' f 0 (ai ao) (λp f=>?_);refine o9 ?_;refine a' f 0 (J R (-1)) (λr f=>?_);refine an ?_;replace f:ak _ _ _ (aN B b ({a with down:=ao,writes:=-1})::[]):=ak.vD hpl (f.pick (l':=[aj B #[J R (a.size:Int),ae (ab ⟨b.b',0,af⟩) a.bytes.length a.bytes.length,J R (-1),J aF a.keep,J R a.eE,J R a.hG,J R a.iD,J R a.hi,J R a.mo,ae b.A b.L.length b.c,dL (ab b.fb),ai ao] 120,aj b.b' (aM a6 a.bytes []) 5,jU b.fb (a.cache.map (·.1)),ba b.A b.L.length b.c oJ 2 (mw b.L),mf b.L]) [0,1,2,3,4]);go_wp2_with fail;first|go_end0|refine bodyPost_ret (results_none rfl _ _ _) rfl ?_
 exact⟨aa,b,by rw[j];exact f.gl 0⟩
def Fw(keep:Int)(q:Nat):Bool:=(aF.wrap ((mN 64 (keep.fdiv (2^(q%64)))&&& mN 64 1).toNat:Int)==1)
def asP(f B)m d(q:Nat)w(k:q<=1073741824)(hx:aX w f #[ay (ab ⟨B,0,af⟩)] 32)(hb:aX w B (qi m d) 120):
 aD ax 359 #[J R (q:Int),ay (ab ⟨f,0,af⟩)] w λe w'=>e=aB (ai (Fw d.keep q))/\au w w':=by
 have g:q%64<=64:=ad;obtain⟨z,hz⟩:=ex (q%64);have c:Fw d.keep q=(aF.wrap ((mN 64 (d.keep.fdiv (2^z))&&& mN 64 1).toNat:Int)==1):=by rw[Fw,hz]
 obtain⟨j,b⟩:=ex ((aF.wrap ((mN 64 (d.keep.fdiv (2^z))&&& mN 64 1).toNat:Int)==1));rw[b]at c;rw[c];rw[hz]at g;have i:=hid hz;have h:=hid b;clear hz c b;go_enter func359,ntmps359;have a:=a8 w;go_step;refine ah ?_;refine dV ?_;refine jf hx a.only ?_;refine v3 ?_;refine jf hb a.only ?_;refine ag ?_;refine aG _ (An 3 _ _ 3 aa q 64 z aa aa ad i ad) ?_;refine aG _ (yD 42 _ _ 3 aa aF _ _ z aa aa g) ?_;refine pk (J aF (aF.wrap ((mN 64 (d.keep.fdiv (2^z))&&& mN 64 1).toNat:Int))) ?_;refine aG (ai j) (by(rw[<-h];show _=_;kernel_rfl)) ?_;refine bX ?_;go_wp2_with fail;go_ret;exact⟨aa,a.only⟩
def b2.YV{w A xs}(h:b2 w A xs):Lib.BytesIn w A xs.length xs:=λa=>by obtain⟨b,o,e,hc⟩:=h a;grind
def preB(xs bY:List Int):Bool:=Lib.hasPrefix (Gx xs) (Gx bY)
def aqP b c1 xs aK c2 bY w(h1:b2 w b xs)(d:b2 w aK bY)(hc:xs.length<=c1):
 aD ax 282 #[ae b xs.length c1,ae aK bY.length c2] w λe w'=>e=aB (ai (preB xs bY))/\w'=w:=by
 rcases lX bY.length with a|a;·have h:=Any.bytes_HasPrefix_e2 Tryz.Tr b aK xs.length c1 c2 w;rw[a];obtain rfl:bY=[]:=j3 a;exact h
 .rcases lX xs.length with c|c
  .have h:=Any.bytes_HasPrefix_e1 Tryz.Tr b aK c1 bY.length c2 a w;rw[c];obtain rfl:xs=[]:=j3 c;refine h.mono (λe w' ⟨f,g⟩=>⟨f.trans ?_,g⟩);cases bY with
   |nil=>omega
   |cons y bY=>rfl
  .obtain⟨eF,gC,rfl,i⟩:=h1.YV.at c;obtain⟨eK,k,rfl,j⟩:=d.YV.at a;exact Any.bytes_HasPrefix Tryz.Tr eF gC _ c1 eK k _ c2 xs bY w aa aa hc i j
def sf(r:Rd)(m:List Int)(a:Int):Bool×Rd:=
 if r.bt=0 then
  if preB m ((r.bs.drop r.p).take (min m.length (r.bs.length -r.p)))=az then
   if r.p+m.length<=r.bs.length then(az,{r with p:=r.p+m.length})else(ao,qe r m.length)
  else(ao,mZ r a r.p)
 else(ao,r)
def apH{r}(h:q7 r)m a:q7 (sf r m a).2:=by grind[sf,q7,LL,HH]
def avN B A c r o u m f w(C:Has w (eA B A c r))(y:q7 r)(M:b2 w o m)(hcm:m.length<=u)(hne:∀b,eh o b->¬(eA B A c r).cT b)(S:m.length<=1048576):
 aD ax 210 #[ay (ab ⟨B,0,af⟩),ae o m.length u,J R f] w λe w'=>e=aB (ai (sf r m f).1)/\Turned w w' (eA B A c r) (eA B A c (sf r m f).2):=by
 obtain⟨bs,p,bt,dn⟩:=r;replace y:p<=bs.length/\bs.length<=140737488355328:=y;obtain⟨N,cv⟩:=y;by_cases F:bt=0
 .subst F;obtain⟨k,H⟩:=ex (min m.length (bs.length -p));have Q:k<=bs.length -p:=ad;have G:min (m.length:Int) ((bs.length -p:Nat):Int)=(k:Int):=ad;have D:=hid G;have hc:bs.length<=c:=C.1.2.1.2.2;obtain⟨jf,I⟩:=ex (preB m ((bs.drop p).take k));have v:=hid H;have x:=hid I;have K:aE (∀W,av (eA B A c (⟨bs,p,0,dn⟩:Rd)).cT w W->b2 W o m):=hid (λW g=>M.only g (λb off e=>hne b ⟨off,af,e⟩))
  have E:aE (∀W,av (eA B A c (⟨bs,p,0,dn⟩:Rd)).cT w W->∀l j,ak w (eA B A c (⟨bs,p,0,dn⟩:Rd)).cT W l->l[j]?=ab (cx A c bs)->aD ax 282 #[ae o m.length u,ae (fK A c p 1) k (c -p)] W λe w'=>e=aB (ai jf)/\w'=W):=hid (λW g l j h L=>by have h1:=b2.win (ak.at h j L).1 hc (i:=p) (q:=p+k) ad;rw[tV]at h1;have P:=aqP o u m _ (c -p) _ W (K W g) h1 hcm;grind);clear G H I;go_enter Tryz.func210,Tryz.ntmps210;have a:ak w (eA B A c ⟨bs,p,0,dn⟩).cT w [aj B #[ae A bs.length c,J R (p:Int),J R 0,J R dn] 333,cx A c bs]:=(ak.start C).fx;go_step;refine ah ?_;refine cB ?_;refine pk (ai ao) ?_;refine v6 ?_;refine pl a 0 2 ?_;refine pk (ai ao) ?_;refine pk (ai ao) ?_;refine cy ?_;refine bR a [] (λ_ _=>a7) (λ_ _=>emp) (λ_=>[]) (λ|4=>[0]|9=>[0]|_=>[]) (λ_=>[]) [0,1] (λO=>?_);refine hW ?_;refine dl 0 0 ?_;refine hW ?_;refine dl 0 1 ?_;refine aL _ (λ_ _ _=>Bi 22 5 1 _ _ aa dW aw A _ c p (bs.length -p) aa aa ad ad) ?_;refine aJ ?_;refine bW λw1 a=>?_;cases jf with
  |false=>
   refine ah ?_;refine v6 ?_;refine aG (J R (k:Int)) (by(have h:=D.out;go_simp;try rw[h])) ?_;refine aG _ (rF 22 5 1 _ _ aa dW aw _ _ _ k aa aa ad) ?_;refine aR (E _ a.only _ 1 a aa) ?_;rintro e T ⟨rfl,rfl⟩;refine aU ?_;refine pk (ai az) ?_;refine an ?_;have d:sf (⟨bs,p,0,dn⟩:Rd) m f=(ao,mZ (⟨bs,p,0,dn⟩:Rd) f p):=by unfold sf;rw[if_pos aa];show(if preB m ((bs.drop p).take (min m.length (bs.length -p)))=az then _ else _)=_;rw[v,x];rfl
   have n:=hid d;clear d;refine cy ?_;refine bR a [9] (λi _=>match i with|9=>bn #[]|_=>a7) (λ_=>λ|9=>aj B (lT A c (mZ (⟨bs,p,0,dn⟩:Rd) f p)) 333|_=>emp) (λ|9=>[0]|_=>[]) (λ|8=>[0]|_=>[]) (λ_=>[]) [1,11] (λO=>?_);refine Bx ?_;refine dl 0 1 ?_;refine di (λZ Fr a=>(NQ B 333 A c (⟨bs,p,0,dn⟩:Rd) f p _ (a.has 0)).mono ?_) ?_;·rintro e dr ⟨rfl,t⟩;exact⟨{},aa,a.xK t⟩
   refine bW λU a=>?_;refine ah ?_;refine ag ?_;refine an ?_;go_wp2_with fail;go_ret;exact by rw[n];refine⟨aa,?_⟩;have h:=(a.pick (l':=[aj B (lT A c (mZ (⟨bs,p,0,dn⟩:Rd) f p)) 333,cx A c bs]) [1,0]).star;unfold eA;rw[(HH _ _ _).1];exact ak.gl (s:=_) h 0
  |true=>
   refine ah ?_;refine v6 ?_;refine aG (J R (k:Int)) (by(have h:=D.out;go_simp;try rw[h])) ?_;refine aG _ (rF 22 5 1 _ _ aa dW aw _ _ _ k aa aa ad) ?_;refine aR (E _ a.only _ 1 a aa) ?_;rintro e V ⟨rfl,rfl⟩;refine aU ?_;refine pk (ai ao) ?_;refine an ?_;by_cases z:p+m.length<=bs.length
   .have d:sf (⟨bs,p,0,dn⟩:Rd) m f=(az,⟨bs,p+m.length,0,dn⟩):=by unfold sf;rw[if_pos aa];show(if preB m ((bs.drop p).take (min m.length (bs.length -p)))=az then _ else _)=_;rw[v,x,if_pos aa,if_pos z]
    have n:=hid d;clear d;refine ah ?_;refine v5 ?_;refine aR (afw B 333 A c (⟨bs,p,0,dn⟩:Rd) _ _ (a.has 0) aa z hc cv) ?_;rintro e X ⟨rfl,t⟩;replace a:=a.eP 0 t;refine aU ?_;refine v5 ?_;refine ah ?_;refine dU ?_;go_wp2_with fail;go_ret;exact by rw[n];refine⟨aa,?_⟩;have h:=(a.pick (l':=[aj B (lT A c ⟨bs,p+m.length,0,dn⟩) 333,cx A c bs]) [0,1]).star;exact ak.gl (s:=_) h 0
   .have d:sf (⟨bs,p,0,dn⟩:Rd) m f=(ao,qe (⟨bs,p,0,dn⟩:Rd) m.length):=by unfold sf;rw[if_pos aa];show(if preB m ((bs.drop p).take (min m.length (bs.length -p)))=az then _ else _)=_;rw[v,x,if_pos aa,if_neg z]
    have n:=hid d;clear d;refine ah ?_;refine v5 ?_;refine aR (afv B 333 A c (⟨bs,p,0,dn⟩:Rd) m.length _ (a.has 0) N cv ad (cm (cm aH))) ?_;rintro e Y ⟨rfl,t⟩;replace a:=a.eP 0 t;refine aU ?_;refine v5 ?_;refine ah ?_;refine dU ?_;go_wp2_with fail;go_ret;exact by rw[n];refine⟨aa,?_⟩;have h:=(a.pick (l':=[aj B (lT A c (qe (⟨bs,p,0,dn⟩:Rd) m.length)) 333,cx A c bs]) [0,1]).star;unfold eA;rw[(LL _ _).1];exact ak.gl (s:=_) h 0
 .have d:sf ⟨bs,p,bt,dn⟩ m f=(ao,⟨bs,p,bt,dn⟩):=by grind[sf]
  have n:=hid d;clear d;go_enter Tryz.func210,Tryz.ntmps210;have a:ak w (eA B A c ⟨bs,p,bt,dn⟩).cT w [aj B #[ae A bs.length c,J R (p:Int),J R bt,J R dn] 333,cx A c bs]:=(ak.start C).fx;go_step;refine ah ?_;refine cB ?_;refine pk (ai ao) ?_;refine v6 ?_;refine pl a 0 2 ?_;refine aG (ai az) (by(go_simp;try simp[F])) ?_;refine pk (ai az) ?_;refine ah ?_;refine ag ?_;refine an ?_;go_wp2_with fail;go_ret;exact by rw[n];exact⟨aa,ak.gl (s:=_) a.star 0⟩
section
def Yy:∀(xs bY:List Int),xs.length=bY.length->((dQ xs.length).all λi=>xs.getD i 0==bY.getD i 0)=(xs==bY)
 |[],[],_=>aa
 |x::xs,y::bY,h=>by have a:=Yy xs bY aH;rw[List.length_cons,List.range_succ_eq_map,QE,List.all_map];grind
 |[],_::_,h=>by grind
 |_::_,[],h=>by grind
section
variable {P:ew}
def awz w d (t e) n (c:P.underlying t=ab (vb n e)) (a:P.underlying e=ab (.int dO)) (hsz:∀w,(mR e).run P w=bf 1 w)
 (xs bY) (hx:xs.length=n) (hy:bY.length=n):(O3 (d+2) t (ar (aM a6 xs [])) (ar (aM a6 bY []))).run P w=bf (xs==bY) w:=by
 rw[<-Yy xs bY (hx.trans hy.symm),hx,List.range_eq_range',O3];simp only[gx,gN c,jE,hsz,az1,az2,Nat.sub_zero,Nat.add_sub_cancel,Nat.div_one];have b:∀i∈alU 0 n 1,i<n:=λi hi=>by grind
 generalize alU 0 n 1=l at b⊢;induction l with
 |nil=>simp
 |cons i l h=>
  have hi:i<n:=b i bg
  have f:(part e (aM a6 xs []) (i*1)).run P w=bf (a6 (xs.getD i 0)) w:=by simp[aM,part,tI,gN a,cE (show i<xs.length by omega)]
  have g:(part e (aM a6 bY []) (i*1)).run P w=bf (a6 (bY.getD i 0)) w:=by simp[aM,part,tI,gN a,cE (show i<bY.length by omega)]
  have aG:(O3 (d+1) e (a6 (xs.getD i 0)) (a6 (bY.getD i 0))).run P w=bf (xs.getD i 0==bY.getD i 0) w:=by show(O3 (d+1) e (J dO _) (J dO _)).run P w=_;rw[run_equalIn_int w d e _ _ _ _ a]
  simp only[List.forIn_cons,gx,f,g,aG,jE,QE];cases hb:(xs.getD i 0==bY.getD i 0);·simp
  .grind[kh,jE]
def yC {o} {a:b3} {w} (t e) n (x y) f (ho:o.op=.binOp .neq t x y f) (d:P.underlying t=ab (vb n e)) (b:P.underlying e=ab (.int dO)) (g:(P.info? e).map (·.size)=ab 1) (c:P.eqGuardType P.depth t=ao)
 (xs bY) (hx:a.eval x=ar (aM a6 xs [])) (hy:a.eval y=ar (aM a6 bY [])) (fj:xs.length=n) (uG:bY.length=n):
 (bA a.eval o).run P w=bf (dc (ai (!(xs==bY)))) w:=by
 have hsz:∀w,(mR e).run P w=bf 1 w:=λw=>by
  cases hi:P.info? e with
  |none=>grind
  |some i=>grind[run_sizeOf,Program.cellsOf]
 have h:=awz (P:=P) w 9998 t e n d b hsz xs bY fj uG;unfold bA;simp[ho,hx,hy,run_eqGuard_agg w _ _ _ _ _ _ c,run_neq_struct w,h]
def aer{o}{a:b3}{w cs v}{ft k:Nat}ty x f(ho:o.op=.field ty x f)(hx:a.eval x=ar cs)(b:(match P.underlying ty with|some (.struct fs)=>(fs[f]?).map (λf=>(f.type,f.offset))|_=>af)=ab (ft,k))(hn:(P.underlying ft).map (λd=>d.isRow)=ab ao)(hv:cs[k]?=ab v):
 (bA a.eval o).run P w=bf (dc v) w:=by
 cases hu:P.underlying ty with
 |none=>grind
 |some d=>
  cases d with
  |struct fs=>
   rw[hu]at b;cases hf:fs[f]? with
   |none=>grind
   |some c=>
    simp only[hf,q6,w2,pq]at b;obtain⟨rfl,rfl⟩:=b;cases hd:P.underlying c.type with
    |none=>grind
    |some e=>
     have hagg:(tI c.type).run P w=bf ao w:=by unfold tI;rw[gx,gN hd w];cases e<;>simp_all
     unfold bA;simp[ho,hx,Instr.field,gN hu,hf,part,hagg,hv,asAgg]
  |_=>simp[hu]at b
end
def aoz{o n g h S}:(bb o n g h S).extract 2 (2+(aM a6 g.l []).size)=aM a6 g.l []:=by
 have h1:(aM a6 g.l []).size=32:=by simp[aM,g.len]
 have a:(g.l.map a6).length=32:=by simp[g.len]
 rw[h1];apply ahx;rw[ahA];simp only[bb,aM,alO,kE,tV,X5,List.drop_zero];rw[alW a]
def aoA{o n g h S}:(bb o n g h S).extract 34 (34+(aM a6 h.l []).size)=aM a6 h.l []:=by
 have h1:(aM a6 h.l []).size=32:=by simp[aM,h.len]
 have a:(h.l.map a6).length=32:=by simp[h.len]
 have b:(g.l.map a6).length=32:=by simp[g.len]
 rw[h1];apply ahx;rw[ahA];simp only[bb,aM,alO,kE,tV];rw[show(34:Nat)=32+1+1 from aa,X5,X5,List.drop_left' b,alW a]
def qb(w:aQ)(A:Option bT):Prop:=∀b,eh A b->b<w.heap.size
def qb.aI{w w' A}(h:qb w A)(g:au w w'):qb w' A:=λb hb=>Nat.lt_of_lt_of_le (h b hb) g.size
def TP a aK c2 bs w ty(d:bs.length<=35184372088832)(hcell:aX w a #[ae aK bs.length c2] ty)(hb:b2 w aK bs)(c:qb w aK):
 aD ax 76 #[ae (ab ⟨a,0,af⟩) 1 1] w λe w'=>e=aB (ar (aM a6 (ij bs) []))/\au w w':=
 afR a 0 1 aK c2 bs w d (hcell.cell 0 aa) hb (λb off e=>c b ⟨off,af,e⟩)
end
end Go.Proofs.YtcmhplknoglbkaaGreat
